/- Part 4 of what stands behind these statements: laws and walks of the functions that are reached. Conditions: those that each theorem names. -/
import Derived.Test.YtcegdjpdnlaleaaDoorSQ3
set_option linter.unusedVariables false
namespace Go.Proofs.YtcegdjpdnlaleaaDoor
open Go.RowKit
set_option maxRecDepth 100000
open Go.WideMaps (KeyLaw)
theorem idKey : KeyLaw Tryd.prog 38 := deep_law_laid (by kernel_rfl) (m := 3) (by decide) (of_decide_eq_true (by kernel_rfl)) (by kernel_rfl) (by kernel_rfl)
theorem idLaw : KL Tryd.prog 38 (fun v => ∃ l, keyOf Tryd.prog 38 v = some l) := KL.ofDeep idKey
theorem id_ok : ∀ id : List UInt8, id.length = 32 → ∃ l, keyOf Tryd.prog 38 (rk id) = some l := fun _ h =>
 keyOf_row (n := 32) (e := 5) Tryd.underlying38 Tryd.underlying5 (by kernel_rfl) (by kernel_rfl) (by kernel_rfl) (of_decide_eq_true (by kernel_rfl)) h
theorem zeroInt : ∀ u : World, (zeroValue 3).run Tryd.prog u = .ok (NI 0) u := fun _ => by kernel_rfl
theorem sum_one (w : World) (hG : Laid w) (v : Value) (l : Bs) (h : RBs w v [l]) (hl : l.length ≤ 1099511627776) :
  Calls Tryd.prog 17 #[v] w fun e w' => e = .returned (AB (Sha.sum l)) ∧ Ext w w' := by
 have := sum_any w hG v [l] h (by simp; omega) (by simp)
 simpa using this
theorem putTextL (w : World) (v : Value) (l : Bs) (hr : RB w v l) (s : Bs) (hl : l.length + s.length + 16 ≤ 140737488355328) :
  Calls Tryd.prog 24 #[v, St s] w fun e w' => ∃ v', e = .returned v' ∧ NewB 5 w w' v' (l ++ textB s) := by
 have := putText_any w v l hr ⟨s.toArray⟩ (by simpa [ByteArray.size] using hl)
 simpa [textB, ByteArray.size, List.append_assoc] using this
theorem buildP_err {ps : List Pt} {i e : Nat} (hi : i < ps.length) (h : bgo ps (i + 1) = .error e) : buildP ps = ([], e) := by
 have := bgo_err h (ps.length - (i + 1))
 rw [show i + 1 + (ps.length - (i + 1)) = ps.length by omega] at this
 unfold buildP
 rw [this]
theorem buildP_ok {ps : List Pt} {s : BS} (h : bgo ps ps.length = .ok s) : buildP ps = (s.b ++ behindB s s.b.length ++ Sha.sum (s.b ++ behindB s s.b.length), 0) := by
 unfold buildP
 rw [h]
theorem take_snocD {α : Type} (l : List α) (i : Nat) (d : α) (h : i < l.length) : l.take (i + 1) = l.take i ++ [l.getD i d] := by rw [List.take_succ_eq_append_getElem h, List.getD_eq_getElem?_getD, List.getElem?_eq_getElem h]; rfl
theorem pk8_isz55 : (Tryd.prog.info? 55).map (·.size) = some 2 := by kernel_rfl
theorem pk8_ty28 : Tryd.prog.underlying 28 = some (.slice 55) := by kernel_rfl
theorem pk8_pl23 : Plain Tryd.prog 23 := fun _ _ => by kernel_rfl
theorem pk8_in3 : (Tryd.prog.info? 3).map (fun i => (i.zero, i.size, i.bytes)) = some (some (.int .i64 0), 1, 8) := by kernel_rfl
theorem pk8_ty54 : Tryd.prog.underlying 54 = some (.slice 3) := by kernel_rfl
theorem pk8_szg55 : ∀ w' : World, (sizeOf 55).run Tryd.prog w' = .ok 2 w' := fun _ => by kernel_rfl
theorem pk8_ty55 : ∃ fs, Tryd.prog.underlying 55 = some (.struct fs) := struct_of (by kernel_rfl)
theorem pk8_al55 {d : Option Tmp} {ty : TypeId} {pos : String} {af : Array Edge} {gd : Option (Nat × Bool)} (σ : Operand → Value) (w : World) : (execOp σ ⟨d, .alloc 55, ty, pos, af, gd⟩).run Tryd.prog w = .ok (.value (PQ w.heap.size 0)) (w.alloc (.cells ([(Value.slice none 0 0), NI 0]).toArray 55)) := by kernel_rfl
theorem pk8_fo55_0 : FieldOff Tryd.prog 55 0 0 := fun b o w => by simp [go_sem]
theorem pk8_ty24 : Tryd.prog.underlying 24 = some (.slice 5) := by kernel_rfl
theorem pk8_fo55_1 : FieldOff Tryd.prog 55 1 1 := fun b o w => by simp [go_sem]
theorem pk8_ty3 : Tryd.prog.underlying 3 = some (.int .i64) := by kernel_rfl
theorem pk8_rows1_75 (ao : Option Addr) (n c : Nat) (w : World) : (Instr.buildSlice 75 1 #[(0, .slice ao n c)]).run Tryd.prog w = .ok (.slice (some ⟨w.heap.size, 0, none⟩) 1 1) (w.alloc (.cells #[.slice ao n c] 24)) := by kernel_rfl
theorem pk8_pl17 : Plain Tryd.prog 17 := fun _ _ => by kernel_rfl
theorem pk8_al38 {d : Option Tmp} {ty : TypeId} {pos : String} {af : Array Edge} {gd : Option (Nat × Bool)} (σ : Operand → Value) (w : World) : (execOp σ ⟨d, .alloc 38, ty, pos, af, gd⟩).run Tryd.prog w = .ok (.value (PQ w.heap.size 0)) (w.alloc (.cells (Lib.byteCells (List.replicate 32 0)).toArray 38)) := by kernel_rfl
theorem pk8_ty38 : Tryd.prog.underlying 38 = some (.array 32 5) := by kernel_rfl
theorem pk8_ty53 : Tryd.prog.underlying 53 = some (.map 38 3) := by kernel_rfl
theorem pk8_sz3 : ∀ w' : World, (sizeOf 3).run Tryd.prog w' = .ok 1 w' := fun _ => by kernel_rfl
theorem pk8_lh47 (c0 c1 c2 c3 c4 c5 c6 c7 c8 c9 c10 c11 c12 c13 c14 c15 c16 c17 c18 c19 c20 c21 c22 c23 c24 c25 c26 c27 c28 c29 c30 c31 : Value) (w : World) : (Instr.buildSlice 47 1 #[(0, .agg #[c0, c1, c2, c3, c4, c5, c6, c7, c8, c9, c10, c11, c12, c13, c14, c15, c16, c17, c18, c19, c20, c21, c22, c23, c24, c25, c26, c27, c28, c29, c30, c31])]).run Tryd.prog w = .ok (.slice (some ⟨w.heap.size, 0, none⟩) 1 1) (w.alloc (.cells #[c0, c1, c2, c3, c4, c5, c6, c7, c8, c9, c10, c11, c12, c13, c14, c15, c16, c17, c18, c19, c20, c21, c22, c23, c24, c25, c26, c27, c28, c29, c30, c31] 38)) := by kernel_rfl
theorem pk8_lg47 : ∀ (cs : Array Value), cs.size = 32 → ∀ w : World, (Instr.buildSlice 47 1 #[(0, .agg cs)]).run Tryd.prog w = .ok (.slice (some ⟨w.heap.size, 0, none⟩) 1 1) (w.alloc (.cells cs 38))
 | ⟨[c0, c1, c2, c3, c4, c5, c6, c7, c8, c9, c10, c11, c12, c13, c14, c15, c16, c17, c18, c19, c20, c21, c22, c23, c24, c25, c26, c27, c28, c29, c30, c31]⟩, _, w => pk8_lh47 c0 c1 c2 c3 c4 c5 c6 c7 c8 c9 c10 c11 c12 c13 c14 c15 c16 c17 c18 c19 c20 c21 c22 c23 c24 c25 c26 c27 c28 c29 c30 c31 w
theorem pk8_ig38 : ∃ z, (Tryd.prog.info? 38).map (fun i => (i.zero, i.size, i.bytes)) = some (some z, 32, 32) ∧ z.cells.size = 32 := info_ex (by kernel_rfl)
theorem pk8_ty47 : Tryd.prog.underlying 47 = some (.slice 38) := by kernel_rfl
theorem pk8_inf5 : (Tryd.prog.info? 5).map (fun i => (i.zero, i.size, i.bytes)) = some (some (.int .u8 0), 1, 1) := by kernel_rfl
theorem pk8_ty5 : Tryd.prog.underlying 5 = some (.int .u8) := by kernel_rfl
theorem pk8_ty9 : Tryd.prog.underlying 9 = some (.string) := by kernel_rfl
theorem pk8_pl24 : Plain Tryd.prog 24 := fun _ _ => by kernel_rfl
theorem pk8_isz3 : (Tryd.prog.info? 3).map (·.size) = some 1 := by kernel_rfl
theorem pk8_szg38 : ∀ w' : World, (sizeOf 38).run Tryd.prog w' = .ok 32 w' := fun _ => by kernel_rfl
theorem pk8_isz38 : (Tryd.prog.info? 38).map (·.size) = some 32 := by kernel_rfl
theorem pk8_sz5 : ∀ w' : World, (sizeOf 5).run Tryd.prog w' = .ok 1 w' := fun _ => by kernel_rfl
theorem pk8_pl25 : Plain Tryd.prog 25 := fun _ _ => by kernel_rfl
theorem pk8_pl26 : Plain Tryd.prog 26 := fun _ _ => by kernel_rfl
theorem pk8_ty59 : Tryd.prog.underlying 59 = some (.array 256 3) := by kernel_rfl
theorem pk8_pl27 : Plain Tryd.prog 27 := fun _ _ => by kernel_rfl
theorem pk8_pl28 : Plain Tryd.prog 28 := fun _ _ => by kernel_rfl
set_option maxHeartbeats 1600000
theorem build_any (w : World) (hG : Laid w) (v : Value) (ps : List Pt) (hr : RG 2 partC w v ps) (hps : PartsOk w ps) (hL : LightP ps) :
  Calls Tryd.prog 11 #[v] w fun e w' => ∃ v', e = .returned (.tuple #[v', NI (buildP ps).2]) ∧ RB w' v' (buildP ps).1 ∧ Ext w w' := by
 have hw2 := hG.two
 have hL1 := hL.1
 refine calls_of_wpF (args := [v]) Tryd.func11 rfl 165 rfl (Nat.le_of_ble_eq_true rfl) ?_
 intro ρ0 hb
 have T0 : ρ0 0 = (v : Value) := hb.get 0
 clear hb
 have hE := Ext.refl w
 refine sk fun K1 hK1 => (wt (oA rfl (oA rfl (oZ (tN (hK1 _ _ (sk fun K2 hK2 => (wt (oM rfl (oS rfl (Yk.lenRG pk8_ty28 (RG.of hr T0) (oS rfl (Yk.callA1 pk8_pl23 (vr (NI ps.length) rfl) ((begin_any _ (ps.length) (by omega)).mono ?_))))))))))))))
 rintro e w6 ⟨v3, rfl, ho4, hx5⟩
 refine ⟨_, rfl, ?_⟩
 have hE := hE.trans hx5
 refine oA rfl (oZ (tN (hK2 _ _ (sk fun K7 hK7 => (wt (oS rfl (Yk.mkMap rk NI (fun id : List UInt8 => id.length = 32) fun n8 w9 hn10 hb11 hx12 hs13 => ?_)))))))
 have hA14 := Ext.refl w6
 have hea15 := hE
 have hz16 := hE.size
 have hap17 : OB v3 n8 := own_newer ho4 (by omega)
 have hE := hE.trans hx12
 have ho4 := Stab.own _ _ _ _ _ _ _ _ ho4 hx12
 have hA14 := hA14.trans hx12
 have hl18 : n8 < w9.heap.size := by omega
 refine oA rfl (oZ (tN (hK7 _ _ (sk fun K19 hK19 => (wt (oA rfl (oZ ?_)))))))
 have hids0 : OG w.heap.size 38 32 Lib.byteCells w9 (Value.slice none 0 0) ([] : List Bs) := OG.nil _ _ _ _ _
 have hap20 : Value.ownBlock (Value.slice none 0 0) ≠ some n8 := fun h => by cases h
 have hap21 : ApartV (Value.slice none 0 0) v3 := fun k h => by cases h
 have hap22 : ApartV v3 (Value.slice none 0 0) := fun k _ h => by cases h
 refine tN (hK19 _ _ (sk fun K23 hK23 => (wt (oM rfl (oS rfl (Yk.lenRG pk8_ty28 (RG.of (hr.keep hE) T0) (oS rfl (Yk.makeN 8 pk8_ty54 pk8_in3 (vr (NI ps.length) rfl) (vr (NI ps.length) rfl) (by omega) (by omega) fun n24 w25 hn26 hb27 hx28 hs29 => ?_))))))))
 have hA30 := Ext.refl w9
 have hea31 := hE
 have hea32 := hA14
 have hz33 := hE.size
 have hz34 := hA14.size
 have hlt35 := lte hb11.lt hn26
 have hap36 : OB v3 n24 := own_newer ho4 (by omega)
 have hap37 : Value.ownBlock (Value.slice none 0 0) ≠ some n24 := own_newer hids0.2 (by omega)
 have hE := hE.trans hx28
 have ho4 := Stab.own _ _ _ _ _ _ _ _ ho4 hx28
 have hA14 := hA14.trans hx28
 have hb11 := hb11.keep hx28
 have hids0 := hids0.keep hx28
 have hA30 := hA30.trans hx28
 have hb38 := hb27; clear hb27
 have hl39 : n24 < w25.heap.size := by omega
 refine oA rfl (oZ (tN (hK23 _ _ (sk fun K40 hK40 => (wt (oA rfl (oZ (tN (hK40 _ _ (sk fun K41 hK41 => (sk fun K42 hK42 => (wt (oM rfl (oS rfl (Yk.lenRG pk8_ty28 (RG.of (hr.keep hE) T0) (oM rfl (oL_ [(0, v), (2, (Value.slice none 0 0)), (3, NI 0), (4, v3), (5, .map (some n8)), (6, (Value.slice none 0 0)), (7, .slice (some ⟨n24, 0, none⟩) ps.length ps.length), (8, NI 0), (28, v), (29, NI ps.length), (30, NI 0)] ⟨T0, rfl, rfl, rfl, rfl, rfl, rfl, rfl, T0, rfl, rfl, trivial⟩ fun ρ43 ⟨T0, T2, T3, T4, T5, T6, T7, T8, T28, T29, T30, _⟩ => (tN (hK42 _ _ ?_)))))))))))))))))))
 refine wpF_block (wpF_loop (fun (ρ : Slots) (wz : World) => ∃ i : Nat, ∃ s : BS, ∃ vb : Value, ∃ vi : Value, ρ 0 = (v : Value) ∧ ρ 5 = (.map (some n8) : Value) ∧ ρ 7 = (.slice (some ⟨n24, 0, none⟩) ps.length ps.length : Value) ∧ ρ 28 = (v : Value) ∧ ρ 29 = (NI ps.length : Value) ∧ ρ 30 = (NI i : Value) ∧ ρ 8 = (NI s.total : Value) ∧ ρ 4 = (vb : Value) ∧ ρ 6 = (vi : Value) ∧ Ext w wz ∧ wz.ownsRow w.heap.size 5 1 vb (s.b : List UInt8).length (Lib.byteCells (s.b)) ∧ OG w.heap.size 38 32 (Lib.byteCells) wz vi (s.ids) ∧ MapF rk NI (fun id : List UInt8 => id.length = 32) wz n8 (placesG s) ∧ wz.heap[n24]? = some (.cells ((s.depths ++ List.replicate (ps.length - i) 0).map fun x => NI x).toArray 3 (0, 0)) ∧ (bgo ps i = .ok s) ∧ (i ≤ ps.length) ∧ (OB vb n8) ∧ (ApartV vb vi) ∧ (OB vb n24) ∧ (OB vi n8) ∧ (ApartV vi vb) ∧ (OB vi n24) ∧ True) (fun ρ _ => ps.length - (intOf (ρ 30)).toNat) ⟨0, ⟨80 :: Lib.uvarint ps.length, [], [], [], 0⟩, v3, (Value.slice none 0 0), T0, T5, T7, T28, T29, T30, T8, T4, T6, hE, own_eq ho4 (rfl), og_eq hids0 (rfl), map_eq hb11 (rfl), blk_eq hb38 (rfl), rfl, Nat.zero_le _, hap17, hap22, hap36, hap20, hap21, hap37, trivial⟩ ?_)
 clear ho4
 clear hA14
 clear hb11
 clear hids0
 clear hA30
 clear hb38
 clear hE
 rintro ρ44 w45 ⟨i, s, vb, vi, T0, T5, T7, T28, T29, T30, T8, T4, T6, hE, hr_vb, hr_vi, hb11l, hb38l, hs, hi, hap_vb_n8, hap_vb_vi, hap_vb_n24, hap_vi_n8, hap_vi_vb, hap_vi_n24, -⟩
 have q30 := T30
 have hB := bgo_ok hL i s hi hs
 have hBi := hB.ids
 have hBp := hB.places
 have hBd := hB.depths
 have hBb := hB.b
 have hBt := hB.total
 obtain ⟨dl, hdl⟩ : ∃ dl, dl = s.depths ++ List.replicate (ps.length - i) 0 := ⟨_, rfl⟩
 have hb38l : w45.heap[n24]? = some (.cells (dl.map fun x => NI x).toArray 3 (0, 0)) := blk_eq hb38l (by rw [hdl])
 have hdll : dl.length = ps.length := by rw [hdl, List.length_append, List.length_replicate]; omega
 have hdg : ∀ m, m < i → dl.getD m 0 = s.depths.getD m 0 := fun m hm => by rw [hdl, List.getD_eq_getElem?_getD, List.getElem?_append_left (by omega), ← List.getD_eq_getElem?_getD]
 refine sk fun K46 hK46 => (wt (oS rfl (Yk.eqI (a := (i : Nat)) (b := (ps.length : Nat)) T30 T29 (k_lss _ _ _ _) (oZ (tN (hK46 _ _ (sk fun K47 hK47 => ?_)))))))
 refine wpF_cond ((i) < (ps.length)) (vr (.bool (decide ((i) < (ps.length)))) rfl) (fun hc0 => ?_) (fun hc0 => ?_)
 ·have hil : i < ps.length := hc0
  obtain ⟨p, hp⟩ : ∃ p, p = ps.getD i dPt := ⟨_, rfl⟩
  have hpm : p ∈ ps := by rw [hp]; exact getD_mem dPt hil
  have hpl := hL.2 p hpm
  have hpb := (hps p hpm).2
  have hpr := (hps p hpm).1
  have hst := bgo_step hs
  unfold pstep at hst
  rw [← hp] at hst
  refine wpF_skip (tN (hK47 _ _ (sk fun K48 hK48 => (wpF_block (sk fun K49 hK49 => (wt (oM rfl ?_)))))))
  have hl52 : (partC (ps.getD (i) dPt)).length = 2 := (RG.elem (hr.keep hE) dPt (by omega))
  refine oS rfl (Yk.atRG pk8_ty28 pk8_szg55 (by decide) dPt (RG.of (hr.keep hE) T28) T30 (by omega) fun v50 hp51 => (oS rfl (Yk.loadPR (PR.of hp51 (vr v50 rfl)) (pk8_ty55).choose_spec rfl (by rw [hl52]; exact pk8_isz55) (oS rfl (Yk.alloc (cs := ([(Value.slice none 0 0), NI 0]).toArray) pk8_al55 fun n53 w54 hn55 hb56 hx57 hs58 => ?_)))))
  have hA59 := Ext.refl w45
  have hea60 := hE
  have hz61 := hE.size
  have hlt62 := lte hb11l.lt hn55
  have hlt63 := lte (bl hb38l) hn55
  have hap64 : OB vb n53 := own_newer hr_vb (by omega)
  have hap65 : OB vi n53 := own_newer hr_vi.2 (by omega)
  have hE := hE.trans hx57
  have hr_vb := Stab.own _ _ _ _ _ _ _ _ hr_vb hx57
  have hr_vi := hr_vi.keep hx57
  have hb11l := hb11l.keep hx57
  have hb38l := eb hx57 hb38l
  have hA59 := hA59.trans hx57
  have hb66 := hb56; clear hb56
  have hl67 : n53 < w54.heap.size := by omega
  refine oA rfl (oS rfl (Yk.storeAll (vr (PQ n53 0) rfl) (vr (.agg (partC (ps.getD (i) dPt)).toArray) rfl) hb66 (by rfl) (by exact pk8_isz55) ((partC_one (RB.one (hps _ (getD_mem dPt hc0)).1))) fun w68 hb69 hg70 hs71 => ?_))
  have hE := row_fresh hE hg70 (Nat.le_trans hz61 (by omega))
  have hr_vb := own_kept hr_vb hg70 hap64
  have hr_vi := OG.kept hr_vi hg70 hap65
  have hb11l := MapF.other hb11l hg70 (some_ne (by omega))
  have hb38l := kb hg70 hb38l (by omega)
  have hA59 := row_fresh hA59 hg70 (Nat.le_trans (Nat.le_refl _) (by omega))
  clear hb66
  have hb66 := hb69; clear hb69
  have hl72 := bl hb66
  refine oZ ?_
  clear hp51
  have hb66 : w68.heap[n53]? = some (.cells ([p.v, .int .i64 (p.base : Int)]).toArray 55 (0, 0)) := blk_eq hb66 (show partC (ps.getD i dPt) = [p.v, .int .i64 (p.base : Int)] by rw [← hp]; rfl)
  by_cases hA : p.base < -1
  ·refine tN (hK49 _ _ (sk fun K73 hK73 => (sk fun K74 hK74 => (wt (oS rfl (Yk.fieldAt pk8_fo55_0 (vr (PQ n53 0) rfl) (oS rfl (Yk.cell1 pk8_ty24 rfl (vr (PQ n53 0) rfl) (cellAt hb66 (show _ = some (p.v : Value) from rfl)) (oS rfl (Yk.lenRB pk8_ty24 (RB.of (hpr.keep hE) (vr p.v rfl)) (oS rfl (Yk.eqI (a := ((p.bytes : List UInt8).length : Nat)) (b := (262144 : Nat)) rfl rfl (k_gtr _ _ _ _) (oZ (tN (hK74 _ _ ?_)))))))))))))))
   refine wpF_cond ((262144) < ((p.bytes : List UInt8).length)) (vr (.bool (decide ((262144) < ((p.bytes : List UInt8).length)))) rfl) (fun hc1 => ?_) (fun hc1 => ?_)
   ·exact absurd hc1 (by omega)
   refine wpF_skip (tN (hK73 _ _ (sk fun K75 hK75 => (sk fun K76 hK76 => (wt (oS rfl (Yk.fieldAt pk8_fo55_1 (vr (PQ n53 0) rfl) (oS rfl (Yk.cell1 pk8_ty3 rfl (vr (PQ n53 1) rfl) (cellAt hb66 (show _ = some (.int .i64 (p.base : Int) : Value) from rfl)) (oS rfl (Yk.eqI (vr (.int .i64 (p.base : Int)) rfl) (vr (.int .i64 (-1 : Int)) rfl) (z_lss _ .i64 (p.base : Int) (-1 : Int)) (oM rfl (oN (d := 42) rfl rfl rfl (vr (.bool (true)) (congrArg Value.bool (decide_eq_true (by omega)))) rfl (oN (d := 42) rfl rfl rfl (vr (.bool (true)) (congrArg Value.bool (decide_eq_true (by omega)))) rfl (oN (d := 42) rfl rfl rfl (vr (.bool (true)) (congrArg Value.bool (decide_eq_true (by omega)))) rfl (oN (d := 42) rfl rfl rfl (vr (.bool (true)) (congrArg Value.bool (decide_eq_true (by omega)))) rfl (oS rfl (Yk.pickT (vr (.bool (true)) (congrArg Value.bool (decide_eq_true (by omega)))) (vr (.bool (true)) rfl) (oZ (tN (hK76 _ _ ?_)))))))))))))))))))))
   refine wpF_true (vr (.bool (true)) rfl) (sk fun K77 hK77 => (wt (oA rfl (oA rfl (oZ (tN (hK77 _ _ (wpF_ret (thenF_ret (inBlockF_ret (thenF_ret (thenF_ret (inBlockF_ret (thenF_ret (postF_ret (fn := Tryd.f11) _ rfl [(Value.slice none 0 0), NI 1] (.tuple #[(Value.slice none 0 0), NI 1]) rfl ⟨rfl, rfl, trivial⟩ ?_)))))))))))))))
   rw [if_pos (by omega)] at hst
   rw [buildP_err (by omega) hst]
   exact ⟨_, rfl, RB.nil _, hE⟩
  by_cases hBq : (i : Int) ≤ p.base
  ·refine tN (hK49 _ _ (sk fun K78 hK78 => (sk fun K79 hK79 => (wt (oS rfl (Yk.fieldAt pk8_fo55_0 (vr (PQ n53 0) rfl) (oS rfl (Yk.cell1 pk8_ty24 rfl (vr (PQ n53 0) rfl) (cellAt hb66 (show _ = some (p.v : Value) from rfl)) (oS rfl (Yk.lenRB pk8_ty24 (RB.of (hpr.keep hE) (vr p.v rfl)) (oS rfl (Yk.eqI (a := ((p.bytes : List UInt8).length : Nat)) (b := (262144 : Nat)) rfl rfl (k_gtr _ _ _ _) (oZ (tN (hK79 _ _ ?_)))))))))))))))
   refine wpF_cond ((262144) < ((p.bytes : List UInt8).length)) (vr (.bool (decide ((262144) < ((p.bytes : List UInt8).length)))) rfl) (fun hc1 => ?_) (fun hc1 => ?_)
   ·exact absurd hc1 (by omega)
   refine wpF_skip (tN (hK78 _ _ (sk fun K80 hK80 => (sk fun K81 hK81 => (wt (oS rfl (Yk.fieldAt pk8_fo55_1 (vr (PQ n53 0) rfl) (oS rfl (Yk.cell1 pk8_ty3 rfl (vr (PQ n53 1) rfl) (cellAt hb66 (show _ = some (.int .i64 (p.base : Int) : Value) from rfl)) (oS rfl (Yk.eqI (vr (.int .i64 (p.base : Int)) rfl) (vr (.int .i64 (-1 : Int)) rfl) (z_lss _ .i64 (p.base : Int) (-1 : Int)) (oM rfl (oY (d := 42) rfl rfl (vr (.bool (false)) (congrArg Value.bool (decide_eq_false (by omega)))) (Yk.fieldAt pk8_fo55_1 (vr (PQ n53 0) rfl) (oY (d := 42) rfl rfl (vr (.bool (false)) (congrArg Value.bool (decide_eq_false (by omega)))) (Yk.cell1 pk8_ty3 rfl (vr (PQ n53 1) rfl) (cellAt hb66 (show _ = some (.int .i64 (p.base : Int) : Value) from rfl)) (oY (d := 42) rfl rfl (vr (.bool (false)) (congrArg Value.bool (decide_eq_false (by omega)))) (Yk.move T30 (oY (d := 42) rfl rfl (vr (.bool (false)) (congrArg Value.bool (decide_eq_false (by omega)))) (Yk.eqI (vr (.int .i64 (p.base : Int)) rfl) (vr (NI i) rfl) (z_geq _ .i64 (p.base : Int) ((i : Nat) : Int)) (oS rfl (Yk.pickF (vr (.bool (false)) (congrArg Value.bool (decide_eq_false (by omega)))) (vr (.bool (true)) (congrArg Value.bool (decide_eq_true (by omega)))) (oZ (tN (hK81 _ _ ?_)))))))))))))))))))))))))
   refine wpF_true (vr (.bool (true)) rfl) (sk fun K82 hK82 => (wt (oA rfl (oA rfl (oZ (tN (hK82 _ _ (wpF_ret (thenF_ret (inBlockF_ret (thenF_ret (thenF_ret (inBlockF_ret (thenF_ret (postF_ret (fn := Tryd.f11) _ rfl [(Value.slice none 0 0), NI 1] (.tuple #[(Value.slice none 0 0), NI 1]) rfl ⟨rfl, rfl, trivial⟩ ?_)))))))))))))))
   rw [if_pos (by omega)] at hst
   rw [buildP_err (by omega) hst]
   exact ⟨_, rfl, RB.nil _, hE⟩
  by_cases hC0 : p.base < 0
  ·refine tN (hK49 _ _ (sk fun K83 hK83 => (sk fun K84 hK84 => (wt (oS rfl (Yk.fieldAt pk8_fo55_0 (vr (PQ n53 0) rfl) (oS rfl (Yk.cell1 pk8_ty24 rfl (vr (PQ n53 0) rfl) (cellAt hb66 (show _ = some (p.v : Value) from rfl)) (oS rfl (Yk.lenRB pk8_ty24 (RB.of (hpr.keep hE) (vr p.v rfl)) (oS rfl (Yk.eqI (a := ((p.bytes : List UInt8).length : Nat)) (b := (262144 : Nat)) rfl rfl (k_gtr _ _ _ _) (oZ (tN (hK84 _ _ ?_)))))))))))))))
   refine wpF_cond ((262144) < ((p.bytes : List UInt8).length)) (vr (.bool (decide ((262144) < ((p.bytes : List UInt8).length)))) rfl) (fun hc1 => ?_) (fun hc1 => ?_)
   ·exact absurd hc1 (by omega)
   refine wpF_skip (tN (hK83 _ _ (sk fun K85 hK85 => (sk fun K86 hK86 => (wt (oS rfl (Yk.fieldAt pk8_fo55_1 (vr (PQ n53 0) rfl) (oS rfl (Yk.cell1 pk8_ty3 rfl (vr (PQ n53 1) rfl) (cellAt hb66 (show _ = some (.int .i64 (p.base : Int) : Value) from rfl)) (oS rfl (Yk.eqI (vr (.int .i64 (p.base : Int)) rfl) (vr (.int .i64 (-1 : Int)) rfl) (z_lss _ .i64 (p.base : Int) (-1 : Int)) (oM rfl (oY (d := 42) rfl rfl (vr (.bool (false)) (congrArg Value.bool (decide_eq_false (by omega)))) (Yk.fieldAt pk8_fo55_1 (vr (PQ n53 0) rfl) (oY (d := 42) rfl rfl (vr (.bool (false)) (congrArg Value.bool (decide_eq_false (by omega)))) (Yk.cell1 pk8_ty3 rfl (vr (PQ n53 1) rfl) (cellAt hb66 (show _ = some (.int .i64 (p.base : Int) : Value) from rfl)) (oY (d := 42) rfl rfl (vr (.bool (false)) (congrArg Value.bool (decide_eq_false (by omega)))) (Yk.move T30 (oY (d := 42) rfl rfl (vr (.bool (false)) (congrArg Value.bool (decide_eq_false (by omega)))) (Yk.eqI (vr (.int .i64 (p.base : Int)) rfl) (vr (NI i) rfl) (z_geq _ .i64 (p.base : Int) ((i : Nat) : Int)) (oS rfl (Yk.pickF (vr (.bool (false)) (congrArg Value.bool (decide_eq_false (by omega)))) (vr (.bool (false)) (congrArg Value.bool (decide_eq_false (by omega)))) (oZ (tN (hK86 _ _ ?_)))))))))))))))))))))))))
   refine wpF_false (vr (.bool (false)) rfl) (wpF_skip (tN (hK85 _ _ (sk fun K87 hK87 => (wt (oS rfl (Yk.fieldAt pk8_fo55_0 (vr (PQ n53 0) rfl) (oS rfl (Yk.cell1 pk8_ty24 rfl (vr (PQ n53 0) rfl) (cellAt hb66 (show _ = some (p.v : Value) from rfl)) (oS rfl (Yk.rows1 pk8_rows1_75 (RB.of (hpr.keep hE) (vr p.v rfl)) fun v88 w89 hr90 hx91 => ?_)))))))))))
   have hE := hE.trans hx91
   have hr_vb := Stab.own _ _ _ _ _ _ _ _ hr_vb hx91
   have hr_vi := hr_vi.keep hx91
   have hb11l := hb11l.keep hx91
   have hb38l := eb hx91 hb38l
   have hA59 := hA59.trans hx91
   have hb66 := eb hx91 hb66
   refine oS rfl (Yk.callA1 pk8_pl17 (vr v88 rfl) ((sum_one _ (hG.keep hE) v88 (p.bytes) hr90 (by omega)).mono ?_))
   rintro e w93 ⟨rfl, hx92⟩
   refine ⟨_, rfl, ?_⟩
   have hE := hE.trans hx92
   have hr_vb := Stab.own _ _ _ _ _ _ _ _ hr_vb hx92
   have hr_vi := hr_vi.keep hx92
   have hb11l := hb11l.keep hx92
   have hb38l := eb hx92 hb38l
   have hA59 := hA59.trans hx92
   have hb66 := eb hx92 hb66
   have hr90 := hr90.keep hx92
   refine oS rfl (Yk.alloc (cs := (Lib.byteCells (List.replicate 32 0)).toArray) pk8_al38 fun n94 w95 hn96 hb97 hx98 hs99 => ?_)
   have hA100 := Ext.refl w93
   have hea101 := hE
   have hea102 := hA59
   have hz103 := hE.size
   have hz104 := hA59.size
   have hlt105 := lte hb11l.lt hn96
   have hlt106 := lte (bl hb38l) hn96
   have hlt107 := lte (bl hb66) hn96
   have hap108 : OB vb n94 := own_newer hr_vb (by omega)
   have hap109 : OB vi n94 := own_newer hr_vi.2 (by omega)
   have hE := hE.trans hx98
   have hr_vb := Stab.own _ _ _ _ _ _ _ _ hr_vb hx98
   have hr_vi := hr_vi.keep hx98
   have hb11l := hb11l.keep hx98
   have hb38l := eb hx98 hb38l
   have hA59 := hA59.trans hx98
   have hb66 := eb hx98 hb66
   have hA100 := hA100.trans hx98
   have hb110 := hb97; clear hb97
   have hl111 : n94 < w95.heap.size := by omega
   refine oS rfl (Yk.storeAll (vr (PQ n94 0) rfl) (vr (AB (Sha.sum (p.bytes))) rfl) hb110 (by exact idsize (Sha.sum_length _) List.length_replicate) (by exact sizeId_of (Sha.sum_length _)) (byteCells_one _) fun w112 hb113 hg114 hs115 => ?_)
   have hE := row_fresh hE hg114 (Nat.le_trans hz103 (by omega))
   have hr_vb := own_kept hr_vb hg114 hap108
   have hr_vi := OG.kept hr_vi hg114 hap109
   have hb11l := MapF.other hb11l hg114 (some_ne (by omega))
   have hb38l := kb hg114 hb38l (by omega)
   have hA59 := row_fresh hA59 hg114 (Nat.le_trans hz104 (by omega))
   have hb66 := kb hg114 hb66 (by omega)
   have hA100 := row_fresh hA100 hg114 (Nat.le_trans (Nat.le_refl _) (by omega))
   clear hb110
   have hb110 := hb113; clear hb113
   have hl116 := bl hb110
   refine oZ ?_
   rw [if_neg (by omega)] at hst
   by_cases hin : Sha.sum p.bytes ∈ s.ids
   ·rw [if_pos hin] at hst
    obtain ⟨q, hq, -⟩ := lookup_zip_some s.ids s.places (Sha.sum p.bytes) (by omega) hin
    refine tN (hK87 _ _ (sk fun K117 hK117 => (sk fun K118 hK118 => (wt (oM rfl (oS rfl (Yk.loadAll (vr (PQ n94 0) rfl) hb110 pk8_ty38 rfl (by exact sizeId_of (Sha.sum_length _)) (oS rfl (Yk.lookOkS (ek := rk) (ev := NI) (D := (fun id : List UInt8 => id.length = 32)) idLaw id_ok (fun _ _ => rk_inj) pk8_ty53 (z := NI 0) zeroInt T5 (vr (AB (Sha.sum (p.bytes))) rfl) hb11l (Sha.sum_length _) (show placesG s _ = some q from hq) (oM rfl (oS rfl (Yk.extract (vs := [NI q, .bool (true)]) (vr (.tuple #[NI q, .bool (true)]) rfl) (show _ = some (NI q : Value) from rfl) (oS rfl (Yk.extract (vs := [NI q, .bool (true)]) (vr (.tuple #[NI q, .bool (true)]) rfl) (show _ = some (.bool (true) : Value) from rfl) (oA rfl (oA rfl (oZ (tN (hK118 _ _ (sk fun K119 hK119 => (wt ?_)))))))))))))))))))))
    refine oM rfl (oZ (tN (hK119 _ _ (wpF_true (vr (.bool (true)) rfl) (sk fun K120 hK120 => (wt (oA rfl (oA rfl (oZ (tN (hK120 _ _ (wpF_ret (thenF_ret (inBlockF_ret (thenF_ret (thenF_ret (inBlockF_ret (thenF_ret (postF_ret (fn := Tryd.f11) _ rfl [(Value.slice none 0 0), NI 11] (.tuple #[(Value.slice none 0 0), NI 11]) rfl ⟨rfl, rfl, trivial⟩ ?_)))))))))))))))))))
    rw [buildP_err (by omega) hst]
    exact ⟨_, rfl, RB.nil _, hE⟩
   rw [if_neg hin] at hst
   have hq := lookup_zip_none s.ids s.places (Sha.sum p.bytes) hin
   refine tN (hK87 _ _ (sk fun K121 hK121 => (sk fun K122 hK122 => (wt (oM rfl (oS rfl (Yk.loadAll (vr (PQ n94 0) rfl) hb110 pk8_ty38 rfl (by exact sizeId_of (Sha.sum_length _)) (oS rfl (Yk.lookOkN (ek := rk) (ev := NI) (D := (fun id : List UInt8 => id.length = 32)) idLaw id_ok (fun _ _ => rk_inj) pk8_ty53 (z := NI 0) zeroInt T5 (vr (AB (Sha.sum (p.bytes))) rfl) hb11l (Sha.sum_length _) (show placesG s _ = none from hq) (oM rfl (oS rfl (Yk.extract (vs := [NI 0, .bool (false)]) (vr (.tuple #[NI 0, .bool (false)]) rfl) (show _ = some (NI 0 : Value) from rfl) (oS rfl (Yk.extract (vs := [NI 0, .bool (false)]) (vr (.tuple #[NI 0, .bool (false)]) rfl) (show _ = some (.bool (false) : Value) from rfl) (oA rfl (oA rfl (oZ (tN (hK122 _ _ (sk fun K123 hK123 => (wt ?_)))))))))))))))))))))
   refine oM rfl (oZ (tN (hK123 _ _ (wpF_false (vr (.bool (false)) rfl) (wpF_skip (tN (hK121 _ _ (sk fun K124 hK124 => (sk fun K125 hK125 => (wt (oS rfl (Yk.fieldAt pk8_fo55_1 (vr (PQ n53 0) rfl) (oS rfl (Yk.cell1 pk8_ty3 rfl (vr (PQ n53 1) rfl) (cellAt hb66 (show _ = some (.int .i64 (p.base : Int) : Value) from rfl)) (oS rfl (Yk.eqI (vr (.int .i64 (p.base : Int)) rfl) (vr (NI 0) rfl) (z_geq _ .i64 (p.base : Int) ((0 : Nat) : Int)) (oZ ?_)))))))))))))))))
   obtain ⟨d2, hd2⟩ : ∃ d2, d2 = s.depths ++ depthB p s :: List.replicate (ps.length - i - 1) 0 := ⟨_, rfl⟩
   have hb38l : w112.heap[n24]? = some (.cells (d2.map fun x => NI x).toArray 3 (0, 0)) := blk_eq hb38l (congrArg (List.map fun x => NI x) (by rw [hd2, hdl, show ps.length - i = (ps.length - i - 1) + 1 by omega]; unfold depthB; rw [if_pos hC0]; rfl))
   have hdv : d2.getD i 0 = depthB p s := by rw [hd2, List.getD_eq_getElem?_getD, List.getElem?_append_right (by omega), hBd, Nat.sub_self]; simp
   have hd2l : d2.length = ps.length := by rw [hd2, List.length_append, List.length_cons, List.length_replicate]; omega
   refine tN (hK125 _ _ (wpF_false (vr (.bool (false)) (congrArg Value.bool (decide_eq_false (by omega)))) (wpF_skip (tN (hK124 _ _ (sk fun K126 hK126 => (sk fun K127 hK127 => (wt (oM rfl (oM rfl (oS rfl (Yk.atSl0 (i := i) pk8_ty54 pk8_sz3 T7 T30 (by omega) (oS rfl (Yk.cell1 pk8_ty3 rfl (vr (PQ n24 i) rfl) (cellAt hb38l (nat_at (i := i) (by omega))) (oS rfl (Yk.eqI (a := ((d2).getD (i) 0 : Nat)) (b := (50 : Nat)) rfl rfl (k_gtr _ _ _ _) (oL_ [(0, v), (4, vb), (5, .map (some n8)), (6, vi), (7, .slice (some ⟨n24, 0, none⟩) ps.length ps.length), (8, NI s.total), (9, NI i), (10, PQ n53 0), (11, PQ n94 0), (13, .bool (false)), (28, v), (29, NI ps.length), (30, NI i), (47, .bool (false)), (58, .bool (false)), (61, .bool (false)), (75, .bool (decide ((50) < ((d2).getD (i) 0))))] ⟨T0, T4, T5, T6, T7, T8, T30, rfl, rfl, rfl, T28, T29, T30, rfl, rfl, (congrArg Value.bool (decide_eq_false (by omega))), rfl, trivial⟩ fun ρ128 ⟨T0, T4, T5, T6, T7, T8, T9, T10, T11, T13, T28, T29, T30, T47, T58, T61, T75, _⟩ => (tN (hK127 _ _ ?_)))))))))))))))))))
   refine wpF_cond ((50) < ((d2).getD (i) 0)) T75 (fun hc5 => ?_) (fun hc5 => ?_)
   ·refine sk fun K129 hK129 => (wt (oA rfl (oA rfl (oZ (tN (hK129 _ _ (wpF_ret (thenF_ret (inBlockF_ret (thenF_ret (thenF_ret (inBlockF_ret (thenF_ret (postF_ret (fn := Tryd.f11) _ rfl [(Value.slice none 0 0), NI 17] (.tuple #[(Value.slice none 0 0), NI 17]) rfl ⟨rfl, rfl, trivial⟩ ?_))))))))))))))
    rw [hdv] at hc5
    rw [if_pos hc5] at hst
    rw [buildP_err (by omega) hst]
    exact ⟨_, rfl, RB.nil _, hE⟩
   rw [hdv] at hc5
   rw [if_neg hc5] at hst
   have hst3 := hst
   refine wpF_skip (tN (hK126 _ _ (sk fun K130 hK130 => (wt (oM rfl (oS rfl (Yk.loadAll T11 hb110 pk8_ty38 rfl (by exact sizeId_of (Sha.sum_length _)) (oM rfl (oS rfl (Yk.lenRB pk8_ty24 (RB.of (RB.ofOwn hr_vb) T4) (oS rfl (Yk.putM (ek := rk) (ev := NI) (D := (fun id : List UInt8 => id.length = 32)) (c := (s.b : List UInt8).length) idLaw id_ok pk8_ty53 T5 (vr (AB (Sha.sum (p.bytes))) rfl) (vr (NI ((s.b : List UInt8).length)) rfl) hb11l (Sha.sum_length _) fun w131 hb132 hg133 hs134 => ?_))))))))))))
   have hE := row_fresh hE hg133 (Nat.le_trans hz16 (by omega))
   have hr_vb := own_kept hr_vb hg133 hap_vb_n8
   have hr_vi := OG.kept hr_vi hg133 hap_vi_n8
   clear hb11l
   have hb38l := kb hg133 hb38l (by omega)
   clear hA59
   have hb66 := kb hg133 hb66 (by omega)
   clear hA100
   have hb110 := kb hg133 hb110 (by omega)
   have hl135 : n8 < w131.heap.size := hb132.lt
   refine oZ (tN (hK130 _ _ (sk fun K136 hK136 => (wt (oM rfl (oS rfl (Yk.loadAll T11 hb110 pk8_ty38 rfl (by exact sizeId_of (Sha.sum_length _)) (oS rfl (Yk.lit1G (a := (Sha.sum (p.bytes))) (enc := Lib.byteCells) (vr (AB (Sha.sum (p.bytes))) rfl) (by rw [Lib.byteCells_length]; exact (Sha.sum_length _)) pk8_lg47 fun v137 w138 hr139 hx140 => ?_)))))))))
   have hE := hE.trans hx140
   have hr_vb := Stab.own _ _ _ _ _ _ _ _ hr_vb hx140
   have hr_vi := hr_vi.keep hx140
   have hb38l := eb hx140 hb38l
   have hb66 := eb hx140 hb66
   have hb110 := eb hx140 hb110
   have hb132 := hb132.keep hx140
   refine oS rfl (Yk.appendRG _ _ w.heap.size _ 32 pk8_ty47 pk8_ig38.choose_spec.1 pk8_ig38.choose_spec.2 pk8_ty47 (s.ids) ([(Sha.sum (p.bytes))]) (OG.of hr_vi T6) (RG.of hr139 (vr v137 rfl)) (fun _ _ => byteCells_one _) (by simp only [List.length_cons, List.length_nil]; omega) (by simp only [List.length_cons, List.length_nil]; omega) hE.size fun v141 w142 ho143 hg144 => ?_)
   have hg144 : Grew w138 w142 vi v141 := .eqv T6 hg144
   have hap145 : OB v141 n8 := apart_grew hg144 hap_vi_n8 hb132.lt
   have hap146 : ApartV v141 vb := apartv_grew hg144 hap_vi_vb hr_vb
   have hap147 : ApartV vb v141 := fun k h1 h2 => hap146 k h2 h1
   have hap148 : OB v141 n24 := apart_grew hg144 hap_vi_n24 (bl hb38l)
   have hap149 : OB v141 n53 := apart_grew hg144 hap65 (bl hb66)
   have hap150 : OB v141 n94 := apart_grew hg144 hap109 (bl hb110)
   have hE := ext_grew hE hg144 hr_vi.2 (Nat.le_refl _)
   have hr_vb := own_grew hr_vb hg144 hap_vi_vb
   clear hr_vi
   have hb38l := blk_grew hb38l hg144 hap_vi_n24
   have hb66 := blk_grew hb66 hg144 hap65
   have hb110 := blk_grew hb110 hg144 hap109
   have hb132 := MapF.grew hb132 hg144 hap_vi_n8
   clear hr139
   refine oA rfl (oZ (tN (hK136 _ _ (sk fun K151 hK151 => (wt (oM rfl (oS rfl (Yk.fieldAt pk8_fo55_0 T10 (oS rfl (Yk.cell1 pk8_ty24 rfl (vr (PQ n53 0) rfl) (cellAt hb66 (show _ = some (p.v : Value) from rfl)) (oS rfl (Yk.lenRB pk8_ty24 (RB.of (hpr.keep hE) (vr p.v rfl)) (oS rfl (Yk.bin (xv := NI s.total) (yv := NI ((p.bytes : List UInt8).length)) T8 rfl rfl (i64_add _ _ _ (by omega)) (oA rfl (oZ (tN (hK151 _ _ (sk fun K152 hK152 => (sk fun K153 hK153 => (wt ?_)))))))))))))))))))))
   refine oS rfl (Yk.fieldAt pk8_fo55_1 T10 (oS rfl (Yk.cell1 pk8_ty3 rfl (vr (PQ n53 1) rfl) (cellAt hb66 (show _ = some (.int .i64 (p.base : Int) : Value) from rfl)) (oS rfl (Yk.eqI (vr (.int .i64 (p.base : Int)) rfl) (vr (NI 0) rfl) (z_lss _ .i64 (p.base : Int) ((0 : Nat) : Int)) (oZ (tN (hK153 _ _ (wpF_true (vr (.bool (true)) (congrArg Value.bool (decide_eq_true (by omega)))) (sk fun K154 hK154 => ?_))))))))))
   have hlow155 : ∀ k, Value.ownBlock vb = some k → w.heap.size ≤ k := fun k hk => (hr_vb.lt k hk).1
   have hsz_ : w.heap.size ≤ w142.heap.size := hE.size
   refine wpF_draw_rowsX (Value.ownBlock vb) [2] [0] (fun m => if m = 2 then [0, 1] else []) (fun m => if m = 2 then [0, 1, 2, 6, 7] else []) [fun x w' => RowX w.heap.size w142.heap.size 5 (Value.ownBlock vb) (s.b) x w', fun x w' => RB w' x (([0] : List UInt8)), fun x w' => RowX w.heap.size w142.heap.size 5 (Value.ownBlock vb) ((s.b : List UInt8) ++ (([0] : List UInt8) : List UInt8)) x w', Is (PQ n53 0), Is (p.v), Is (St (p.bytes)), fun x w' => RowX w.heap.size w142.heap.size 5 (Value.ownBlock vb) (((s.b : List UInt8) ++ (([0] : List UInt8) : List UInt8) : List UInt8) ++ textB (p.bytes : List UInt8)) x w', fun x w' => RowX w.heap.size w142.heap.size 5 (Value.ownBlock vb) (((s.b : List UInt8) ++ (([0] : List UInt8) : List UInt8) : List UInt8) ++ textB (p.bytes : List UInt8)) x w'] (by kernel_rfl) [92, 93, 94, 95, 96, 97, 98, 4] (by kernel_rfl) (by kernel_rfl) (by kernel_rfl) (by kernel_rfl) (by kernel_rfl) rfl ⟨(fun _ _ _ h k => ⟨Stab.own _ _ _ _ _ _ _ _ h.1 k, h.2⟩), (fun _ _ _ h k => RB.keep h k), (fun _ _ _ h k => ⟨Stab.own _ _ _ _ _ _ _ _ h.1 k, h.2⟩), Stab.is _, Stab.is _, Stab.is _, (fun _ _ _ h k => ⟨Stab.own _ _ _ _ _ _ _ _ h.1 k, h.2⟩), (fun _ _ _ h k => ⟨Stab.own _ _ _ _ _ _ _ _ h.1 k, h.2⟩), trivial⟩ ⟨⟨.inl rfl, .inl rfl, .inl rfl, .inr (Stab.is _), .inr (Stab.is _), .inr (Stab.is _), .inl rfl, .inl rfl, trivial⟩, trivial⟩ ?hs6025 ?hQ6025
   case hs6025 =>
    refine ⟨?_, ?_, ?_, ?_, ?_, ?_, ?_, ?_, trivial⟩
    ·refine stepN rfl fun σ w1 hC h => ?_
     have hX : Ext w142 w1 := hC
     have hC : BX w142.heap.size (Value.ownBlock vb) w142 w1 := BX.ofExt hX (Nat.le_refl _)
     have e4 := (eqo (h 4 (by decide))).trans T4
     exact Yk.move e4 ⟨Ext.refl _, Stab.own _ _ _ _ _ _ _ _ hr_vb hX, fun k hk => .inl hk⟩
    ·refine stepN rfl fun σ w1 hC h => ?_
     have hC : BX w142.heap.size (Value.ownBlock vb) w142 w1 := hC
     exact Yk.litN (e := 5) ([0] : List UInt8) (by decide) (fun _ _ => by kernel_rfl) fun v w2 hN => ⟨hN.ext, hN.rb⟩
    ·refine stepN rfl fun σ w1 hC h => ?_
     have hC : BX w142.heap.size (Value.ownBlock vb) w142 w1 := hC
     have e92 : (fun x w' => RowX w.heap.size w142.heap.size 5 (Value.ownBlock vb) (s.b) x w') (σ 92) w1 := h 92 (by decide)
     have e93 : (fun x w' => RB w' x (([0] : List UInt8))) (σ 93) w1 := h 93 (by decide)
     exact Yk.appendRB _ _ w.heap.size (.int .u8 0) pk8_ty24 pk8_inf5 rfl pk8_ty24 (s.b) (([0] : List UInt8)) e92.1 e93 (by simp only [List.length_cons, List.length_nil]; omega) (Nat.le_trans hsz_ hC.size) fun v w2 ho hg => ⟨BX.ofGrown hg.by_ hC.size e92.2, ho, fun k hk => (hg.fresh k hk).elim (e92.2 k) (fun x => .inr (Nat.le_trans hC.size x))⟩
    ·refine stepN rfl fun σ w1 hC h => ?_
     have hC : BX w142.heap.size (Value.ownBlock vb) w142 w1 := hC
     have e10 := (eqo (h 10 (by decide))).trans T10
     exact Yk.fieldAt pk8_fo55_0 e10 ⟨Ext.refl _, rfl⟩
    ·refine stepN rfl fun σ w1 hC h => ?_
     have hC : BX w142.heap.size (Value.ownBlock vb) w142 w1 := hC
     have e95 := eqo (h 95 (by decide))
     exact Yk.cell1 pk8_ty24 rfl e95 (cellAt (BX.blk hC hb66 hap64) (show _ = some (p.v : Value) from rfl)) ⟨Ext.refl _, rfl⟩
    ·refine stepN rfl fun σ w1 hC h => ?_
     have hC : BX w142.heap.size (Value.ownBlock vb) w142 w1 := hC
     have e96 := eqo (h 96 (by decide))
     exact Yk.convRB pk8_ty24 pk8_ty5 pk8_ty9 (RB.of (hpr.keep (ext_bx hE hC (by omega) (fun k hk => by have := hlow155 k hk; omega))) e96) ⟨Ext.refl _, rfl⟩
    ·refine stepN rfl fun σ w1 hC h => ?_
     have hC : BX w142.heap.size (Value.ownBlock vb) w142 w1 := hC
     have e94 : (fun x w' => RowX w.heap.size w142.heap.size 5 (Value.ownBlock vb) ((s.b : List UInt8) ++ (([0] : List UInt8) : List UInt8)) x w') (σ 94) w1 := h 94 (by decide)
     have e97 := eqo (h 97 (by decide))
     refine Yk.callA2 pk8_pl24 rfl e97 ((putTextL _ (σ 94) ((s.b : List UInt8) ++ (([0] : List UInt8) : List UInt8)) (RB.ofOwn e94.1) (p.bytes) (by simp only [List.length_append, List.length_cons, List.length_nil]; omega)).mono ?_)
     rintro e w2 ⟨v, rfl, hN⟩
     exact ⟨_, rfl, hN.ext, ownsRow_base hN.own (Nat.le_trans hsz_ hC.size), fun k hk => .inr (Nat.le_trans hC.size (hN.own.lt k hk).1)⟩
    ·refine stepN rfl fun σ w1 hC h => ?_
     have hC : BX w142.heap.size (Value.ownBlock vb) w142 w1 := hC
     have e98 : (fun x w' => RowX w.heap.size w142.heap.size 5 (Value.ownBlock vb) (((s.b : List UInt8) ++ (([0] : List UInt8) : List UInt8) : List UInt8) ++ textB (p.bytes : List UInt8)) x w') (σ 98) w1 := h 98 (by decide)
     exact Yk.assign rfl ⟨Ext.refl _, e98⟩
   intro ρ156 w157 hx158 he hf
   obtain ⟨-, -, -, -, -, -, -, k4, -⟩ := hf
   obtain ⟨T0, T5, T6, T7, T8, T9, T10, T11, T13, T28, T29, T30, T47, T58, T61, T91, -⟩ := he.hold [(0, _), (5, _), (6, v141), (7, _), (8, NI ((s.total) + ((p.bytes : List UInt8).length))), (9, _), (10, _), (11, _), (13, _), (28, _), (29, _), (30, _), (47, _), (58, _), (61, _), (91, _)] ⟨T0, T5, rfl, T7, rfl, T9, T10, T11, T13, T28, T29, T30, T47, T58, T61, (congrArg Value.bool (decide_eq_true (by omega))), trivial⟩ rfl
   clear he
   have k4 : (fun x w' => RowX w.heap.size w142.heap.size 5 (Value.ownBlock vb) (((s.b : List UInt8) ++ (([0] : List UInt8) : List UInt8) : List UInt8) ++ textB (p.bytes : List UInt8)) x w') (ρ156 4) w157 := k4
   obtain ⟨v159, T4⟩ : ∃ v, ρ156 4 = v := ⟨_, rfl⟩
   rw [T4] at k4
   have hg160 : Grew w142 w157 vb v159 := ⟨hx158.grown, k4.2⟩
   have ho161 := k4.1; clear k4
   have hap162 : OB v159 n8 := apart_grew hg160 hap_vb_n8 hb132.lt
   have hap163 : OB v159 n24 := apart_grew hg160 hap_vb_n24 (bl hb38l)
   have hap164 : OB v159 n53 := apart_grew hg160 hap64 (bl hb66)
   have hap165 : OB v159 n94 := apart_grew hg160 hap108 (bl hb110)
   have hap166 : ApartV v159 v141 := apartv_grew hg160 hap147 ho143.2
   have hap167 : ApartV v141 v159 := fun k h1 h2 => hap166 k h2 h1
   have hE := ext_grew hE hg160 hr_vb (Nat.le_refl _)
   clear hr_vb
   have hb38l := blk_grew hb38l hg160 hap_vb_n24
   have hb66 := blk_grew hb66 hg160 hap64
   have hb110 := blk_grew hb110 hg160 hap108
   have hb132 := MapF.grew hb132 hg160 hap_vb_n8
   have ho143 := og_grew ho143 hg160 hap147
   have hbn : (bnext ps p s).b = s.b ++ [0] ++ textB p.bytes := by unfold bnext; simp only; rw [if_pos hC0]
   refine tN (hK154 _ _ (wpF_exit (thenF_exit (inBlockF_hit (tN (hK48 _ _ (wt (oS rfl (Yk.bin (xv := NI i) (yv := NI 1) T30 rfl rfl (i64_add _ _ _ (by omega)) (oM rfl (oL_ [(0, v), (4, v159), (5, .map (some n8)), (6, v141), (7, .slice (some ⟨n24, 0, none⟩) ps.length ps.length), (8, NI ((s.total) + ((p.bytes : List UInt8).length))), (9, NI i), (10, PQ n53 0), (11, PQ n94 0), (13, .bool (false)), (28, v), (29, NI ps.length), (30, NI ((i) + (1))), (47, .bool (false)), (58, .bool (false)), (61, .bool (false)), (91, .bool (true))] ⟨T0, T4, T5, T6, T7, T8, T9, T10, T11, T13, T28, T29, rfl, T47, T58, T61, T91, trivial⟩ fun ρ168 ⟨T0, T4, T5, T6, T7, T8, T9, T10, T11, T13, T28, T29, T30, T47, T58, T61, T91, _⟩ => ?_)))))))))))
   have hdep : d2 = (bnext ps p s).depths ++ List.replicate (ps.length - (i + 1)) 0 := by rw [hd2]; simp only [bnext, List.append_assoc, List.singleton_append, Nat.sub_sub]
   refine tN (And.intro ⟨i + 1, bnext ps p s, v159, v141, T0, T5, T7, T28, T29, T30, T8, T4, T6, hE, own_eq ho161 (by rw [hbn]), og_eq ho143 (rfl), map_eq hb132 ((placesG_next hB hin).symm), blk_eq hb38l (congrArg (List.map fun x => NI x) hdep), hst3, by omega, hap162, hap166, hap163, hap145, hap167, hap148, trivial⟩ ?_)
   show ps.length - (intOf (ρ168 30)).toNat < ps.length - (intOf (ρ44 30)).toNat
   rw [T30, q30]
   simp only [intOf, Int.toNat_natCast]; omega
  obtain ⟨m, hm⟩ : ∃ m : Nat, p.base = (m : Int) := ⟨p.base.toNat, by omega⟩
  have hmi : m < i := by omega
  have hb66 : w68.heap[n53]? = some (.cells ([p.v, NI m]).toArray 55 (0, 0)) := blk_eq hb66 (by rw [hm])
  refine tN (hK49 _ _ (sk fun K169 hK169 => (sk fun K170 hK170 => (wt (oS rfl (Yk.fieldAt pk8_fo55_0 (vr (PQ n53 0) rfl) (oS rfl (Yk.cell1 pk8_ty24 rfl (vr (PQ n53 0) rfl) (cellAt hb66 (show _ = some (p.v : Value) from rfl)) (oS rfl (Yk.lenRB pk8_ty24 (RB.of (hpr.keep hE) (vr p.v rfl)) (oS rfl (Yk.eqI (a := ((p.bytes : List UInt8).length : Nat)) (b := (262144 : Nat)) rfl rfl (k_gtr _ _ _ _) (oZ (tN (hK170 _ _ ?_)))))))))))))))
  refine wpF_cond ((262144) < ((p.bytes : List UInt8).length)) (vr (.bool (decide ((262144) < ((p.bytes : List UInt8).length)))) rfl) (fun hc1 => ?_) (fun hc1 => ?_)
  ·exact absurd hc1 (by omega)
  refine wpF_skip (tN (hK169 _ _ (sk fun K171 hK171 => (sk fun K172 hK172 => (wt (oS rfl (Yk.fieldAt pk8_fo55_1 (vr (PQ n53 0) rfl) (oS rfl (Yk.cell1 pk8_ty3 rfl (vr (PQ n53 1) rfl) (cellAt hb66 (show _ = some (NI m : Value) from rfl)) (oS rfl (Yk.eqI (vr (NI m) rfl) (vr (.int .i64 (-1 : Int)) rfl) (z_lss _ .i64 ((m : Nat) : Int) (-1 : Int)) (oM rfl (oY (d := 42) rfl rfl (vr (.bool (false)) (congrArg Value.bool (decide_eq_false (by omega)))) (Yk.fieldAt pk8_fo55_1 (vr (PQ n53 0) rfl) (oY (d := 42) rfl rfl (vr (.bool (false)) (congrArg Value.bool (decide_eq_false (by omega)))) (Yk.cell1 pk8_ty3 rfl (vr (PQ n53 1) rfl) (cellAt hb66 (show _ = some (NI m : Value) from rfl)) (oY (d := 42) rfl rfl (vr (.bool (false)) (congrArg Value.bool (decide_eq_false (by omega)))) (Yk.move T30 (oY (d := 42) rfl rfl (vr (.bool (false)) (congrArg Value.bool (decide_eq_false (by omega)))) (Yk.eqI (a := (m : Nat)) (b := (i : Nat)) rfl rfl (k_geq _ _ _ _) (oS rfl (Yk.pickF (vr (.bool (false)) (congrArg Value.bool (decide_eq_false (by omega)))) (vr (.bool (false)) (congrArg Value.bool (decide_eq_false (by omega)))) (oZ (tN (hK172 _ _ ?_)))))))))))))))))))))))))
  refine wpF_false (vr (.bool (false)) rfl) (wpF_skip (tN (hK171 _ _ (sk fun K173 hK173 => (wt (oS rfl (Yk.fieldAt pk8_fo55_0 (vr (PQ n53 0) rfl) (oS rfl (Yk.cell1 pk8_ty24 rfl (vr (PQ n53 0) rfl) (cellAt hb66 (show _ = some (p.v : Value) from rfl)) (oS rfl (Yk.rows1 pk8_rows1_75 (RB.of (hpr.keep hE) (vr p.v rfl)) fun v174 w175 hr176 hx177 => ?_)))))))))))
  have hE := hE.trans hx177
  have hr_vb := Stab.own _ _ _ _ _ _ _ _ hr_vb hx177
  have hr_vi := hr_vi.keep hx177
  have hb11l := hb11l.keep hx177
  have hb38l := eb hx177 hb38l
  have hA59 := hA59.trans hx177
  have hb66 := eb hx177 hb66
  refine oS rfl (Yk.callA1 pk8_pl17 (vr v174 rfl) ((sum_one _ (hG.keep hE) v174 (p.bytes) hr176 (by omega)).mono ?_))
  rintro e w179 ⟨rfl, hx178⟩
  refine ⟨_, rfl, ?_⟩
  have hE := hE.trans hx178
  have hr_vb := Stab.own _ _ _ _ _ _ _ _ hr_vb hx178
  have hr_vi := hr_vi.keep hx178
  have hb11l := hb11l.keep hx178
  have hb38l := eb hx178 hb38l
  have hA59 := hA59.trans hx178
  have hb66 := eb hx178 hb66
  have hr176 := hr176.keep hx178
  refine oS rfl (Yk.alloc (cs := (Lib.byteCells (List.replicate 32 0)).toArray) pk8_al38 fun n180 w181 hn182 hb183 hx184 hs185 => ?_)
  have hA186 := Ext.refl w179
  have hea187 := hE
  have hea188 := hA59
  have hz189 := hE.size
  have hz190 := hA59.size
  have hlt191 := lte hb11l.lt hn182
  have hlt192 := lte (bl hb38l) hn182
  have hlt193 := lte (bl hb66) hn182
  have hap194 : OB vb n180 := own_newer hr_vb (by omega)
  have hap195 : OB vi n180 := own_newer hr_vi.2 (by omega)
  have hE := hE.trans hx184
  have hr_vb := Stab.own _ _ _ _ _ _ _ _ hr_vb hx184
  have hr_vi := hr_vi.keep hx184
  have hb11l := hb11l.keep hx184
  have hb38l := eb hx184 hb38l
  have hA59 := hA59.trans hx184
  have hb66 := eb hx184 hb66
  have hA186 := hA186.trans hx184
  have hb196 := hb183; clear hb183
  have hl197 : n180 < w181.heap.size := by omega
  refine oS rfl (Yk.storeAll (vr (PQ n180 0) rfl) (vr (AB (Sha.sum (p.bytes))) rfl) hb196 (by exact idsize (Sha.sum_length _) List.length_replicate) (by exact sizeId_of (Sha.sum_length _)) (byteCells_one _) fun w198 hb199 hg200 hs201 => ?_)
  have hE := row_fresh hE hg200 (Nat.le_trans hz189 (by omega))
  have hr_vb := own_kept hr_vb hg200 hap194
  have hr_vi := OG.kept hr_vi hg200 hap195
  have hb11l := MapF.other hb11l hg200 (some_ne (by omega))
  have hb38l := kb hg200 hb38l (by omega)
  have hA59 := row_fresh hA59 hg200 (Nat.le_trans hz190 (by omega))
  have hb66 := kb hg200 hb66 (by omega)
  have hA186 := row_fresh hA186 hg200 (Nat.le_trans (Nat.le_refl _) (by omega))
  clear hb196
  have hb196 := hb199; clear hb199
  have hl202 := bl hb196
  refine oZ ?_
  rw [if_neg (by omega)] at hst
  by_cases hin : Sha.sum p.bytes ∈ s.ids
  ·rw [if_pos hin] at hst
   obtain ⟨q, hq, -⟩ := lookup_zip_some s.ids s.places (Sha.sum p.bytes) (by omega) hin
   refine tN (hK173 _ _ (sk fun K203 hK203 => (sk fun K204 hK204 => (wt (oM rfl (oS rfl (Yk.loadAll (vr (PQ n180 0) rfl) hb196 pk8_ty38 rfl (by exact sizeId_of (Sha.sum_length _)) (oS rfl (Yk.lookOkS (ek := rk) (ev := NI) (D := (fun id : List UInt8 => id.length = 32)) idLaw id_ok (fun _ _ => rk_inj) pk8_ty53 (z := NI 0) zeroInt T5 (vr (AB (Sha.sum (p.bytes))) rfl) hb11l (Sha.sum_length _) (show placesG s _ = some q from hq) (oM rfl (oS rfl (Yk.extract (vs := [NI q, .bool (true)]) (vr (.tuple #[NI q, .bool (true)]) rfl) (show _ = some (NI q : Value) from rfl) (oS rfl (Yk.extract (vs := [NI q, .bool (true)]) (vr (.tuple #[NI q, .bool (true)]) rfl) (show _ = some (.bool (true) : Value) from rfl) (oA rfl (oA rfl (oZ (tN (hK204 _ _ (sk fun K205 hK205 => (wt ?_)))))))))))))))))))))
   refine oM rfl (oZ (tN (hK205 _ _ (wpF_true (vr (.bool (true)) rfl) (sk fun K206 hK206 => (wt (oA rfl (oA rfl (oZ (tN (hK206 _ _ (wpF_ret (thenF_ret (inBlockF_ret (thenF_ret (thenF_ret (inBlockF_ret (thenF_ret (postF_ret (fn := Tryd.f11) _ rfl [(Value.slice none 0 0), NI 11] (.tuple #[(Value.slice none 0 0), NI 11]) rfl ⟨rfl, rfl, trivial⟩ ?_)))))))))))))))))))
   rw [buildP_err (by omega) hst]
   exact ⟨_, rfl, RB.nil _, hE⟩
  rw [if_neg hin] at hst
  have hq := lookup_zip_none s.ids s.places (Sha.sum p.bytes) hin
  refine tN (hK173 _ _ (sk fun K207 hK207 => (sk fun K208 hK208 => (wt (oM rfl (oS rfl (Yk.loadAll (vr (PQ n180 0) rfl) hb196 pk8_ty38 rfl (by exact sizeId_of (Sha.sum_length _)) (oS rfl (Yk.lookOkN (ek := rk) (ev := NI) (D := (fun id : List UInt8 => id.length = 32)) idLaw id_ok (fun _ _ => rk_inj) pk8_ty53 (z := NI 0) zeroInt T5 (vr (AB (Sha.sum (p.bytes))) rfl) hb11l (Sha.sum_length _) (show placesG s _ = none from hq) (oM rfl (oS rfl (Yk.extract (vs := [NI 0, .bool (false)]) (vr (.tuple #[NI 0, .bool (false)]) rfl) (show _ = some (NI 0 : Value) from rfl) (oS rfl (Yk.extract (vs := [NI 0, .bool (false)]) (vr (.tuple #[NI 0, .bool (false)]) rfl) (show _ = some (.bool (false) : Value) from rfl) (oA rfl (oA rfl (oZ (tN (hK208 _ _ (sk fun K209 hK209 => (wt ?_)))))))))))))))))))))
  refine oM rfl (oZ (tN (hK209 _ _ (wpF_false (vr (.bool (false)) rfl) (wpF_skip (tN (hK207 _ _ (sk fun K210 hK210 => (sk fun K211 hK211 => (wt (oS rfl (Yk.fieldAt pk8_fo55_1 (vr (PQ n53 0) rfl) (oS rfl (Yk.cell1 pk8_ty3 rfl (vr (PQ n53 1) rfl) (cellAt hb66 (show _ = some (NI m : Value) from rfl)) (oS rfl (Yk.eqI (a := (m : Nat)) (b := (0 : Nat)) rfl rfl (k_geq _ _ _ _) (oZ (tN (hK211 _ _ (wpF_true (vr (.bool (true)) (congrArg Value.bool (decide_eq_true (Nat.zero_le _)))) (wt ?_)))))))))))))))))))))
  refine oM rfl (oM rfl (oM rfl (oS rfl (Yk.fieldAt pk8_fo55_1 (vr (PQ n53 0) rfl) (oS rfl (Yk.cell1 pk8_ty3 rfl (vr (PQ n53 1) rfl) (cellAt hb66 (show _ = some (NI m : Value) from rfl)) (oS rfl (Yk.atSl0 (i := m) pk8_ty54 pk8_sz3 T7 (vr (NI m) rfl) (by omega) (oS rfl (Yk.cell1 pk8_ty3 rfl (vr (PQ n24 m) rfl) (cellAt hb38l (nat_at (i := m) (by omega))) (oS rfl (Yk.bin (xv := NI ((dl).getD (m) 0)) (yv := NI 1) rfl rfl rfl (i64_add _ _ _ (by have := hB.dp _ (getD_mem 0 (l := s.depths) (i := m) (by omega)); rw [hdg m hmi]; omega)) (oS rfl (Yk.atSl0 (i := i) pk8_ty54 pk8_sz3 T7 T30 (by omega) (oS rfl (Yk.storeN (i := i) (v := ((dl).getD (m) 0) + (1)) (vr (PQ n24 i) rfl) (vr (NI (((dl).getD (m) 0) + (1))) rfl) hb38l (by omega) pk8_isz3 fun w212 hb213 hg214 hs215 => ?_))))))))))))))))
  have hE := row_fresh hE hg214 (Nat.le_trans hz33 (by omega))
  have hr_vb := own_kept hr_vb hg214 hap_vb_n24
  have hr_vi := OG.kept hr_vi hg214 hap_vi_n24
  have hb11l := MapF.other hb11l hg214 (some_ne (by omega))
  clear hb38l
  clear hA59
  have hb66 := kb hg214 hb66 (by omega)
  clear hA186
  have hb196 := kb hg214 hb196 (by omega)
  have hb38l := hb213; clear hb213
  have hl216 := bl hb38l
  refine oL_ [(0, v), (4, vb), (5, .map (some n8)), (6, vi), (7, .slice (some ⟨n24, 0, none⟩) ps.length ps.length), (8, NI s.total), (9, NI i), (10, PQ n53 0), (11, PQ n180 0), (13, .bool (false)), (28, v), (29, NI ps.length), (30, NI i), (47, .bool (false)), (58, .bool (false)), (61, .bool (true))] ⟨T0, T4, T5, T6, T7, T8, T30, rfl, rfl, rfl, T28, T29, T30, rfl, rfl, (congrArg Value.bool (decide_eq_true (Nat.zero_le _))), trivial⟩ fun ρ217 ⟨T0, T4, T5, T6, T7, T8, T9, T10, T11, T13, T28, T29, T30, T47, T58, T61, _⟩ => ?_
  obtain ⟨d2, hd2⟩ : ∃ d2, d2 = s.depths ++ depthB p s :: List.replicate (ps.length - i - 1) 0 := ⟨_, rfl⟩
  have hb38l : w212.heap[n24]? = some (.cells (d2.map fun x => NI x).toArray 3 (0, 0)) := blk_eq hb38l (congrArg (List.map fun x => NI x) (by rw [hd2, hdg m hmi, hdl, List.set_append_right _ _ (by omega), hBd, Nat.sub_self, show ps.length - i = (ps.length - i - 1) + 1 by omega]; unfold depthB; rw [if_neg hC0, hm, Int.toNat_natCast]; rfl))
  have hdv : d2.getD i 0 = depthB p s := by rw [hd2, List.getD_eq_getElem?_getD, List.getElem?_append_right (by omega), hBd, Nat.sub_self]; simp
  have hd2l : d2.length = ps.length := by rw [hd2, List.length_append, List.length_cons, List.length_replicate]; omega
  refine tN (hK210 _ _ (sk fun K218 hK218 => (sk fun K219 hK219 => (wt (oM rfl (oM rfl (oS rfl (Yk.atSl0 (i := i) pk8_ty54 pk8_sz3 T7 T9 (by omega) (oS rfl (Yk.cell1 pk8_ty3 rfl (vr (PQ n24 i) rfl) (cellAt hb38l (nat_at (i := i) (by omega))) (oS rfl (Yk.eqI (a := ((d2).getD (i) 0 : Nat)) (b := (50 : Nat)) rfl rfl (k_gtr _ _ _ _) (oZ (tN (hK219 _ _ ?_)))))))))))))))
  refine wpF_cond ((50) < ((d2).getD (i) 0)) (vr (.bool (decide ((50) < ((d2).getD (i) 0)))) rfl) (fun hc5 => ?_) (fun hc5 => ?_)
  ·refine sk fun K220 hK220 => (wt (oA rfl (oA rfl (oZ (tN (hK220 _ _ (wpF_ret (thenF_ret (inBlockF_ret (thenF_ret (thenF_ret (inBlockF_ret (thenF_ret (postF_ret (fn := Tryd.f11) _ rfl [(Value.slice none 0 0), NI 17] (.tuple #[(Value.slice none 0 0), NI 17]) rfl ⟨rfl, rfl, trivial⟩ ?_))))))))))))))
   rw [hdv] at hc5
   rw [if_pos hc5] at hst
   rw [buildP_err (by omega) hst]
   exact ⟨_, rfl, RB.nil _, hE⟩
  rw [hdv] at hc5
  rw [if_neg hc5] at hst
  have hst3 := hst
  refine wpF_skip (tN (hK218 _ _ (sk fun K221 hK221 => (wt (oM rfl (oS rfl (Yk.loadAll T11 hb196 pk8_ty38 rfl (by exact sizeId_of (Sha.sum_length _)) (oM rfl (oS rfl (Yk.lenRB pk8_ty24 (RB.of (RB.ofOwn hr_vb) T4) (oS rfl (Yk.putM (ek := rk) (ev := NI) (D := (fun id : List UInt8 => id.length = 32)) (c := (s.b : List UInt8).length) idLaw id_ok pk8_ty53 T5 (vr (AB (Sha.sum (p.bytes))) rfl) (vr (NI ((s.b : List UInt8).length)) rfl) hb11l (Sha.sum_length _) fun w222 hb223 hg224 hs225 => ?_))))))))))))
  have hE := row_fresh hE hg224 (Nat.le_trans hz16 (by omega))
  have hr_vb := own_kept hr_vb hg224 hap_vb_n8
  have hr_vi := OG.kept hr_vi hg224 hap_vi_n8
  clear hb11l
  have hb66 := kb hg224 hb66 (by omega)
  have hb196 := kb hg224 hb196 (by omega)
  have hb38l := kb hg224 hb38l (by omega)
  have hl226 : n8 < w222.heap.size := hb223.lt
  refine oZ (tN (hK221 _ _ (sk fun K227 hK227 => (wt (oM rfl (oS rfl (Yk.loadAll T11 hb196 pk8_ty38 rfl (by exact sizeId_of (Sha.sum_length _)) (oS rfl (Yk.lit1G (a := (Sha.sum (p.bytes))) (enc := Lib.byteCells) (vr (AB (Sha.sum (p.bytes))) rfl) (by rw [Lib.byteCells_length]; exact (Sha.sum_length _)) pk8_lg47 fun v228 w229 hr230 hx231 => ?_)))))))))
  have hE := hE.trans hx231
  have hr_vb := Stab.own _ _ _ _ _ _ _ _ hr_vb hx231
  have hr_vi := hr_vi.keep hx231
  have hb66 := eb hx231 hb66
  have hb196 := eb hx231 hb196
  have hb38l := eb hx231 hb38l
  have hb223 := hb223.keep hx231
  refine oS rfl (Yk.appendRG _ _ w.heap.size _ 32 pk8_ty47 pk8_ig38.choose_spec.1 pk8_ig38.choose_spec.2 pk8_ty47 (s.ids) ([(Sha.sum (p.bytes))]) (OG.of hr_vi T6) (RG.of hr230 (vr v228 rfl)) (fun _ _ => byteCells_one _) (by simp only [List.length_cons, List.length_nil]; omega) (by simp only [List.length_cons, List.length_nil]; omega) hE.size fun v232 w233 ho234 hg235 => ?_)
  have hg235 : Grew w229 w233 vi v232 := .eqv T6 hg235
  have hap236 : OB v232 n8 := apart_grew hg235 hap_vi_n8 hb223.lt
  have hap237 : ApartV v232 vb := apartv_grew hg235 hap_vi_vb hr_vb
  have hap238 : ApartV vb v232 := fun k h1 h2 => hap237 k h2 h1
  have hap239 : OB v232 n24 := apart_grew hg235 hap_vi_n24 (bl hb38l)
  have hap240 : OB v232 n53 := apart_grew hg235 hap65 (bl hb66)
  have hap241 : OB v232 n180 := apart_grew hg235 hap195 (bl hb196)
  have hE := ext_grew hE hg235 hr_vi.2 (Nat.le_refl _)
  have hr_vb := own_grew hr_vb hg235 hap_vi_vb
  clear hr_vi
  have hb66 := blk_grew hb66 hg235 hap65
  have hb196 := blk_grew hb196 hg235 hap195
  have hb38l := blk_grew hb38l hg235 hap_vi_n24
  have hb223 := MapF.grew hb223 hg235 hap_vi_n8
  clear hr230
  refine oA rfl (oZ (tN (hK227 _ _ (sk fun K242 hK242 => (wt (oM rfl (oS rfl (Yk.fieldAt pk8_fo55_0 T10 (oS rfl (Yk.cell1 pk8_ty24 rfl (vr (PQ n53 0) rfl) (cellAt hb66 (show _ = some (p.v : Value) from rfl)) (oS rfl (Yk.lenRB pk8_ty24 (RB.of (hpr.keep hE) (vr p.v rfl)) (oS rfl (Yk.bin (xv := NI s.total) (yv := NI ((p.bytes : List UInt8).length)) T8 rfl rfl (i64_add _ _ _ (by omega)) (oA rfl (oZ (tN (hK242 _ _ (sk fun K243 hK243 => (sk fun K244 hK244 => (wt ?_)))))))))))))))))))))
  refine oS rfl (Yk.fieldAt pk8_fo55_1 T10 (oS rfl (Yk.cell1 pk8_ty3 rfl (vr (PQ n53 1) rfl) (cellAt hb66 (show _ = some (NI m : Value) from rfl)) (oS rfl (Yk.eqI (a := (m : Nat)) (b := (0 : Nat)) rfl rfl (k_lss _ _ _ _) (oZ ?_))))))
  have hm32 : (s.ids.getD m []).length = 32 := hB.len _ (getD_mem [] (by omega))
  have hpq := (hps _ (getD_mem dPt (l := ps) (i := m) (by omega))).1
  have hql := hL.2 _ (getD_mem dPt (l := ps) (i := m) (by omega))
  have hmk := makeP_len (ps.getD m dPt).bytes p.bytes (by omega) (by omega)
  refine tN (hK244 _ _ (wpF_false (vr (.bool (false)) (congrArg Value.bool (decide_eq_false (by omega)))) (wpF_skip (tN (hK243 _ _ (sk fun K245 hK245 => (wt (oM rfl (oS rfl (Yk.fieldAt pk8_fo55_1 T10 (oS rfl (Yk.cell1 pk8_ty3 rfl (vr (PQ n53 1) rfl) (cellAt hb66 (show _ = some (NI m : Value) from rfl)) ?_))))))))))))
  have hl248 : (Lib.byteCells (((s.ids) ++ [(Sha.sum (p.bytes))]).getD (m) ([] : List UInt8))).length = 32 := (RG.elem (RG.ofOwn ho234) ([] : List UInt8) (by rw [List.length_append]; omega))
  refine oS rfl (Yk.atRG pk8_ty47 pk8_szg38 (by decide) ([] : List UInt8) (RG.of (RG.ofOwn ho234) (vr v232 rfl)) (vr (NI m) rfl) (by rw [List.length_append]; omega) fun v246 hp247 => (oS rfl (Yk.loadPR (PR.of hp247 (vr v246 rfl)) pk8_ty38 rfl (by rw [hl248]; exact pk8_isz38) (oS rfl (Yk.alloc (cs := (Lib.byteCells (List.replicate 32 0)).toArray) pk8_al38 fun n249 w250 hn251 hb252 hx253 hs254 => ?_)))))
  have hA255 := Ext.refl w233
  have hea256 := hE
  have hz257 := hE.size
  have hlt258 := lte (bl hb66) hn251
  have hlt259 := lte (bl hb196) hn251
  have hlt260 := lte (bl hb38l) hn251
  have hlt261 := lte hb223.lt hn251
  have hap262 : OB vb n249 := own_newer hr_vb (by omega)
  have hap263 : OB v232 n249 := own_newer ho234.2 (by omega)
  have hE := hE.trans hx253
  have hr_vb := Stab.own _ _ _ _ _ _ _ _ hr_vb hx253
  have hb66 := eb hx253 hb66
  have hb196 := eb hx253 hb196
  have hb38l := eb hx253 hb38l
  have hb223 := hb223.keep hx253
  have ho234 := ho234.keep hx253
  have hA255 := hA255.trans hx253
  have hb264 := hb252; clear hb252
  have hl265 : n249 < w250.heap.size := by omega
  refine oS rfl (Yk.storeAll (vr (PQ n249 0) rfl) (vr (AB (((s.ids) ++ [(Sha.sum (p.bytes))]).getD (m) ([] : List UInt8))) rfl) hb264 (by exact idsize (bytes_len32 (hl248)) List.length_replicate) (by exact sizeId_of (bytes_len32 (hl248))) (byteCells_one _) fun w266 hb267 hg268 hs269 => ?_)
  have hE := row_fresh hE hg268 (Nat.le_trans hz257 (by omega))
  have hr_vb := own_kept hr_vb hg268 hap262
  have hb66 := kb hg268 hb66 (by omega)
  have hb196 := kb hg268 hb196 (by omega)
  have hb38l := kb hg268 hb38l (by omega)
  have hb223 := MapF.other hb223 hg268 (some_ne (by omega))
  have ho234 := OG.kept ho234 hg268 hap263
  have hA255 := row_fresh hA255 hg268 (Nat.le_trans (Nat.le_refl _) (by omega))
  clear hb264
  have hb264 := hb267; clear hb267
  have hl270 := bl hb264
  refine oZ ?_
  clear hp247
  have hb264 : w266.heap[n249]? = some (.cells (Lib.byteCells (s.ids.getD m [])).toArray 38 (0, 0)) := blk_eq hb264 (congrArg Lib.byteCells (by rw [List.getD_eq_getElem?_getD, List.getElem?_append_left (by omega), ← List.getD_eq_getElem?_getD]))
  refine tN (hK245 _ _ (sk fun K271 hK271 => ?_))
  have hlow272 : ∀ k, Value.ownBlock vb = some k → w.heap.size ≤ k := fun k hk => (hr_vb.lt k hk).1
  have hsz_ : w.heap.size ≤ w266.heap.size := hE.size
  refine wpF_draw_rowsX (Value.ownBlock vb) [2, 4] [0] (fun m => if m = 2 then [0, 1] else if m = 4 then [0, 1, 2] else []) (fun m => if m = 2 then [0, 1, 2, 4, 5] else if m = 4 then [0, 1, 2, 4, 5] else []) [fun x w' => RowX w.heap.size w266.heap.size 5 (Value.ownBlock vb) (s.b) x w', fun x w' => RB w' x (([1] : List UInt8)), fun x w' => RowX w.heap.size w266.heap.size 5 (Value.ownBlock vb) ((s.b : List UInt8) ++ (([1] : List UInt8) : List UInt8)) x w', Is (.slice (some ⟨n249, 0, none⟩) 32 32), fun x w' => RowX w.heap.size w266.heap.size 5 (Value.ownBlock vb) (((s.b : List UInt8) ++ (([1] : List UInt8) : List UInt8) : List UInt8) ++ (s.ids.getD m [] : List UInt8)) x w', fun x w' => RowX w.heap.size w266.heap.size 5 (Value.ownBlock vb) (((s.b : List UInt8) ++ (([1] : List UInt8) : List UInt8) : List UInt8) ++ (s.ids.getD m [] : List UInt8)) x w'] (by kernel_rfl) [104, 105, 106, 107, 108, 4] (by kernel_rfl) (by kernel_rfl) (by kernel_rfl) (by kernel_rfl) (by kernel_rfl) rfl ⟨(fun _ _ _ h k => ⟨Stab.own _ _ _ _ _ _ _ _ h.1 k, h.2⟩), (fun _ _ _ h k => RB.keep h k), (fun _ _ _ h k => ⟨Stab.own _ _ _ _ _ _ _ _ h.1 k, h.2⟩), Stab.is _, (fun _ _ _ h k => ⟨Stab.own _ _ _ _ _ _ _ _ h.1 k, h.2⟩), (fun _ _ _ h k => ⟨Stab.own _ _ _ _ _ _ _ _ h.1 k, h.2⟩), trivial⟩ ⟨⟨.inl rfl, .inl rfl, .inl rfl, .inr (Stab.is _), .inl rfl, .inl rfl, trivial⟩, ⟨.inl rfl, .inl rfl, .inl rfl, .inr (Stab.is _), .inl rfl, .inl rfl, trivial⟩, trivial⟩ ?hs7027 ?hQ7027
  case hs7027 =>
   refine ⟨?_, ?_, ?_, ?_, ?_, ?_, trivial⟩
   ·refine stepN rfl fun σ w1 hC h => ?_
    have hX : Ext w266 w1 := hC
    have hC : BX w266.heap.size (Value.ownBlock vb) w266 w1 := BX.ofExt hX (Nat.le_refl _)
    have e4 := (eqo (h 4 (by decide))).trans T4
    exact Yk.move e4 ⟨Ext.refl _, Stab.own _ _ _ _ _ _ _ _ hr_vb hX, fun k hk => .inl hk⟩
   ·refine stepN rfl fun σ w1 hC h => ?_
    have hC : BX w266.heap.size (Value.ownBlock vb) w266 w1 := hC
    exact Yk.litN (e := 5) ([1] : List UInt8) (by decide) (fun _ _ => by kernel_rfl) fun v w2 hN => ⟨hN.ext, hN.rb⟩
   ·refine stepN rfl fun σ w1 hC h => ?_
    have hC : BX w266.heap.size (Value.ownBlock vb) w266 w1 := hC
    have e104 : (fun x w' => RowX w.heap.size w266.heap.size 5 (Value.ownBlock vb) (s.b) x w') (σ 104) w1 := h 104 (by decide)
    have e105 : (fun x w' => RB w' x (([1] : List UInt8))) (σ 105) w1 := h 105 (by decide)
    exact Yk.appendRB _ _ w.heap.size (.int .u8 0) pk8_ty24 pk8_inf5 rfl pk8_ty24 (s.b) (([1] : List UInt8)) e104.1 e105 (by simp only [List.length_cons, List.length_nil]; omega) (Nat.le_trans hsz_ hC.size) fun v w2 ho hg => ⟨BX.ofGrown hg.by_ hC.size e104.2, ho, fun k hk => (hg.fresh k hk).elim (e104.2 k) (fun x => .inr (Nat.le_trans hC.size x))⟩
   ·refine stepN rfl fun σ w1 hC h => ?_
    have hC : BX w266.heap.size (Value.ownBlock vb) w266 w1 := hC
    have e14 : σ 14 = PQ n249 0 := (eqo (h 14 (by decide))).trans rfl
    exact Yk.sliceArr pk8_ty38 pk8_sz5 e14 ⟨Ext.refl _, rfl⟩
   ·refine stepN rfl fun σ w1 hC h => ?_
    have hC : BX w266.heap.size (Value.ownBlock vb) w266 w1 := hC
    have e106 : (fun x w' => RowX w.heap.size w266.heap.size 5 (Value.ownBlock vb) ((s.b : List UInt8) ++ (([1] : List UInt8) : List UInt8)) x w') (σ 106) w1 := h 106 (by decide)
    have e107 := eqo (h 107 (by decide))
    exact Yk.appendRB _ _ w.heap.size (.int .u8 0) pk8_ty24 pk8_inf5 rfl pk8_ty24 ((s.b : List UInt8) ++ (([1] : List UInt8) : List UInt8)) (s.ids.getD m []) e106.1 (RB.of (RB.ofBlkN (BX.blk hC hb264 hap262) hm32 (by decide)) e107) (by simp only [List.length_append, List.length_cons, List.length_nil, hm32]; omega) (Nat.le_trans hsz_ hC.size) fun v w2 ho hg => ⟨BX.ofGrown hg.by_ hC.size e106.2, ho, fun k hk => (hg.fresh k hk).elim (e106.2 k) (fun x => .inr (Nat.le_trans hC.size x))⟩
   ·refine stepN rfl fun σ w1 hC h => ?_
    have hC : BX w266.heap.size (Value.ownBlock vb) w266 w1 := hC
    have e108 : (fun x w' => RowX w.heap.size w266.heap.size 5 (Value.ownBlock vb) (((s.b : List UInt8) ++ (([1] : List UInt8) : List UInt8) : List UInt8) ++ (s.ids.getD m [] : List UInt8)) x w') (σ 108) w1 := h 108 (by decide)
    exact Yk.assign rfl ⟨Ext.refl _, e108⟩
  intro ρ273 w274 hx275 he hf
  obtain ⟨-, -, -, -, -, k4, -⟩ := hf
  obtain ⟨T0, T5, T6, T7, T8, T9, T10, T11, T13, T14, T28, T29, T30, T47, T58, T61, T91, -⟩ := he.hold [(0, _), (5, _), (6, v232), (7, _), (8, NI ((s.total) + ((p.bytes : List UInt8).length))), (9, _), (10, _), (11, _), (13, _), (14, PQ n249 0), (28, _), (29, _), (30, _), (47, _), (58, _), (61, _), (91, _)] ⟨T0, T5, rfl, T7, rfl, T9, T10, T11, T13, rfl, T28, T29, T30, T47, T58, T61, (congrArg Value.bool (decide_eq_false (by omega))), trivial⟩ rfl
  clear he
  have k4 : (fun x w' => RowX w.heap.size w266.heap.size 5 (Value.ownBlock vb) (((s.b : List UInt8) ++ (([1] : List UInt8) : List UInt8) : List UInt8) ++ (s.ids.getD m [] : List UInt8)) x w') (ρ273 4) w274 := k4
  obtain ⟨v276, T4⟩ : ∃ v, ρ273 4 = v := ⟨_, rfl⟩
  rw [T4] at k4
  have hg277 : Grew w266 w274 vb v276 := ⟨hx275.grown, k4.2⟩
  have ho278 := k4.1; clear k4
  have hap279 : OB v276 n8 := apart_grew hg277 hap_vb_n8 hb223.lt
  have hap280 : OB v276 n24 := apart_grew hg277 hap_vb_n24 (bl hb38l)
  have hap281 : OB v276 n53 := apart_grew hg277 hap64 (bl hb66)
  have hap282 : OB v276 n180 := apart_grew hg277 hap194 (bl hb196)
  have hap283 : ApartV v276 v232 := apartv_grew hg277 hap238 ho234.2
  have hap284 : ApartV v232 v276 := fun k h1 h2 => hap283 k h2 h1
  have hap285 : OB v276 n249 := apart_grew hg277 hap262 (bl hb264)
  have hE := ext_grew hE hg277 hr_vb (Nat.le_refl _)
  clear hr_vb
  have hb66 := blk_grew hb66 hg277 hap64
  have hb196 := blk_grew hb196 hg277 hap194
  have hb38l := blk_grew hb38l hg277 hap_vb_n24
  have hb223 := MapF.grew hb223 hg277 hap_vb_n8
  have ho234 := og_grew ho234 hg277 hap238
  clear hA255
  have hb264 := blk_grew hb264 hg277 hap262
  refine tN (hK271 _ _ ?_)
  have hlow286 : ∀ k, Value.ownBlock v276 = some k → w.heap.size ≤ k := fun k hk => (ho278.lt k hk).1
  have hsz_ : w.heap.size ≤ w274.heap.size := hE.size
  refine wpF_draw_rowsX (Value.ownBlock v276) [] [0] (fun m => []) (fun m => []) [fun x w' => RowX w.heap.size w274.heap.size 5 (Value.ownBlock v276) (((s.b : List UInt8) ++ (([1] : List UInt8) : List UInt8) : List UInt8) ++ (s.ids.getD m [] : List UInt8)) x w', Is (v), Is (PQ n53 1), Is (NI m), fun x w' => PR (partC (ps.getD (m) dPt)) x w', fun x w' => PR (((partC (ps.getD (m) dPt)).drop 0).take 1) x w', Is ((ps.getD (m) dPt).v), Is (PQ n53 0), Is (p.v), fun x w' => RB w' x (makeP ((ps.getD m dPt).bytes) (p.bytes)), Is (St (makeP ((ps.getD m dPt).bytes) (p.bytes))), fun x w' => RowX w.heap.size w274.heap.size 5 (Value.ownBlock v276) ((((s.b : List UInt8) ++ (([1] : List UInt8) : List UInt8) : List UInt8) ++ (s.ids.getD m [] : List UInt8) : List UInt8) ++ textB (makeP ((ps.getD m dPt).bytes) (p.bytes) : List UInt8)) x w', fun x w' => RowX w.heap.size w274.heap.size 5 (Value.ownBlock v276) ((((s.b : List UInt8) ++ (([1] : List UInt8) : List UInt8) : List UInt8) ++ (s.ids.getD m [] : List UInt8) : List UInt8) ++ textB (makeP ((ps.getD m dPt).bytes) (p.bytes) : List UInt8)) x w'] (by kernel_rfl) [109, 110, 111, 112, 113, 114, 115, 116, 117, 118, 119, 120, 4] (by kernel_rfl) (by kernel_rfl) (by kernel_rfl) (by kernel_rfl) (by kernel_rfl) rfl ⟨(fun _ _ _ h k => ⟨Stab.own _ _ _ _ _ _ _ _ h.1 k, h.2⟩), Stab.is _, Stab.is _, Stab.is _, (fun _ _ _ h k => PR.keep h k), (fun _ _ _ h k => PR.keep h k), Stab.is _, Stab.is _, Stab.is _, (fun _ _ _ h k => RB.keep h k), Stab.is _, (fun _ _ _ h k => ⟨Stab.own _ _ _ _ _ _ _ _ h.1 k, h.2⟩), (fun _ _ _ h k => ⟨Stab.own _ _ _ _ _ _ _ _ h.1 k, h.2⟩), trivial⟩ trivial ?hs8028 ?hQ8028
  case hs8028 =>
   refine ⟨?_, ?_, ?_, ?_, ?_, ?_, ?_, ?_, ?_, ?_, ?_, ?_, ?_, trivial⟩
   ·refine stepN rfl fun σ w1 hC h => ?_
    have hX : Ext w274 w1 := hC
    have hC : BX w274.heap.size (Value.ownBlock v276) w274 w1 := BX.ofExt hX (Nat.le_refl _)
    have e4 := (eqo (h 4 (by decide))).trans T4
    exact Yk.move e4 ⟨Ext.refl _, Stab.own _ _ _ _ _ _ _ _ ho278 hX, fun k hk => .inl hk⟩
   ·refine stepN rfl fun σ w1 hC h => ?_
    have hC : BX w274.heap.size (Value.ownBlock v276) w274 w1 := hC
    have e0 := (eqo (h 0 (by decide))).trans T0
    exact Yk.move e0 ⟨Ext.refl _, rfl⟩
   ·refine stepN rfl fun σ w1 hC h => ?_
    have hC : BX w274.heap.size (Value.ownBlock v276) w274 w1 := hC
    have e10 := (eqo (h 10 (by decide))).trans T10
    exact Yk.fieldAt pk8_fo55_1 e10 ⟨Ext.refl _, rfl⟩
   ·refine stepN rfl fun σ w1 hC h => ?_
    have hC : BX w274.heap.size (Value.ownBlock v276) w274 w1 := hC
    have e111 := eqo (h 111 (by decide))
    exact Yk.cell1 pk8_ty3 rfl e111 (cellAt (BX.blk hC hb66 hap281) (show _ = some (NI m : Value) from rfl)) ⟨Ext.refl _, rfl⟩
   ·refine stepN rfl fun σ w1 hC h => ?_
    have hC : BX w274.heap.size (Value.ownBlock v276) w274 w1 := hC
    have e110 := eqo (h 110 (by decide))
    have e112 := eqo (h 112 (by decide))
    exact Yk.atRG pk8_ty28 pk8_szg55 (by decide) dPt (RG.of (hr.keep (ext_bx hE hC (by omega) (fun k hk => by have := hlow286 k hk; omega))) e110) e112 (by omega) fun v h => ⟨Ext.refl _, h⟩
   ·refine stepN rfl fun σ w1 hC h => ?_
    have hC : BX w274.heap.size (Value.ownBlock v276) w274 w1 := hC
    have e113 : (fun x w' => PR (partC (ps.getD (m) dPt)) x w') (σ 113) w1 := h 113 (by decide)
    exact Yk.fieldPR (n := 1) pk8_fo55_0 e113 fun v h => ⟨Ext.refl _, h⟩
   ·refine stepN rfl fun σ w1 hC h => ?_
    have hC : BX w274.heap.size (Value.ownBlock v276) w274 w1 := hC
    have e114 : (fun x w' => PR (((partC (ps.getD (m) dPt)).drop 0).take 1) x w') (σ 114) w1 := h 114 (by decide)
    exact Yk.loadC pk8_ty24 rfl (PR.cell e114 (show _ = some ((ps.getD (m) dPt).v : Value) from rfl)) ⟨Ext.refl _, rfl⟩
   ·refine stepN rfl fun σ w1 hC h => ?_
    have hC : BX w274.heap.size (Value.ownBlock v276) w274 w1 := hC
    have e10 := (eqo (h 10 (by decide))).trans T10
    exact Yk.fieldAt pk8_fo55_0 e10 ⟨Ext.refl _, rfl⟩
   ·refine stepN rfl fun σ w1 hC h => ?_
    have hC : BX w274.heap.size (Value.ownBlock v276) w274 w1 := hC
    have e116 := eqo (h 116 (by decide))
    exact Yk.cell1 pk8_ty24 rfl e116 (cellAt (BX.blk hC hb66 hap281) (show _ = some (p.v : Value) from rfl)) ⟨Ext.refl _, rfl⟩
   ·refine stepN rfl fun σ w1 hC h => ?_
    have hC : BX w274.heap.size (Value.ownBlock v276) w274 w1 := hC
    have e115 := eqo (h 115 (by decide))
    have e117 := eqo (h 117 (by decide))
    refine Yk.callA2 pk8_pl25 e115 e117 ((make_any _ ((ps.getD (m) dPt).v) (p.v) ((ps.getD m dPt).bytes) (p.bytes) (hpq.keep (ext_bx hE hC (by omega) (fun k hk => by have := hlow286 k hk; omega))) (hpr.keep (ext_bx hE hC (by omega) (fun k hk => by have := hlow286 k hk; omega))) (by omega) (by omega)).mono ?_)
    rintro e w2 ⟨_, rfl, hx, ho⟩
    exact ⟨_, rfl, hx, RB.ofOwn ho⟩
   ·refine stepN rfl fun σ w1 hC h => ?_
    have hC : BX w274.heap.size (Value.ownBlock v276) w274 w1 := hC
    have e118 : (fun x w' => RB w' x (makeP ((ps.getD m dPt).bytes) (p.bytes))) (σ 118) w1 := h 118 (by decide)
    exact Yk.convRB pk8_ty24 pk8_ty5 pk8_ty9 e118 ⟨Ext.refl _, rfl⟩
   ·refine stepN rfl fun σ w1 hC h => ?_
    have hC : BX w274.heap.size (Value.ownBlock v276) w274 w1 := hC
    have e109 : (fun x w' => RowX w.heap.size w274.heap.size 5 (Value.ownBlock v276) (((s.b : List UInt8) ++ (([1] : List UInt8) : List UInt8) : List UInt8) ++ (s.ids.getD m [] : List UInt8)) x w') (σ 109) w1 := h 109 (by decide)
    have e119 := eqo (h 119 (by decide))
    refine Yk.callA2 pk8_pl24 rfl e119 ((putTextL _ (σ 109) (((s.b : List UInt8) ++ (([1] : List UInt8) : List UInt8) : List UInt8) ++ (s.ids.getD m [] : List UInt8)) (RB.ofOwn e109.1) (makeP ((ps.getD m dPt).bytes) (p.bytes)) (by simp only [List.length_append, List.length_cons, List.length_nil, hm32]; omega)).mono ?_)
    rintro e w2 ⟨v, rfl, hN⟩
    exact ⟨_, rfl, hN.ext, ownsRow_base hN.own (Nat.le_trans hsz_ hC.size), fun k hk => .inr (Nat.le_trans hC.size (hN.own.lt k hk).1)⟩
   ·refine stepN rfl fun σ w1 hC h => ?_
    have hC : BX w274.heap.size (Value.ownBlock v276) w274 w1 := hC
    have e120 : (fun x w' => RowX w.heap.size w274.heap.size 5 (Value.ownBlock v276) ((((s.b : List UInt8) ++ (([1] : List UInt8) : List UInt8) : List UInt8) ++ (s.ids.getD m [] : List UInt8) : List UInt8) ++ textB (makeP ((ps.getD m dPt).bytes) (p.bytes) : List UInt8)) x w') (σ 120) w1 := h 120 (by decide)
    exact Yk.assign rfl ⟨Ext.refl _, e120⟩
  intro ρ287 w288 hx289 he hf
  obtain ⟨-, -, -, -, -, -, -, -, -, -, -, -, k4, -⟩ := hf
  obtain ⟨T0, T5, T6, T7, T8, T9, T10, T11, T13, T14, T28, T29, T30, T47, T58, T61, T91, -⟩ := he.hold [(0, _), (5, _), (6, _), (7, _), (8, _), (9, _), (10, _), (11, _), (13, _), (14, _), (28, _), (29, _), (30, _), (47, _), (58, _), (61, _), (91, _)] ⟨T0, T5, T6, T7, T8, T9, T10, T11, T13, T14, T28, T29, T30, T47, T58, T61, T91, trivial⟩ rfl
  clear he
  have k4 : (fun x w' => RowX w.heap.size w274.heap.size 5 (Value.ownBlock v276) ((((s.b : List UInt8) ++ (([1] : List UInt8) : List UInt8) : List UInt8) ++ (s.ids.getD m [] : List UInt8) : List UInt8) ++ textB (makeP ((ps.getD m dPt).bytes) (p.bytes) : List UInt8)) x w') (ρ287 4) w288 := k4
  obtain ⟨v290, T4⟩ : ∃ v, ρ287 4 = v := ⟨_, rfl⟩
  rw [T4] at k4
  have hg291 : Grew w274 w288 v276 v290 := ⟨hx289.grown, k4.2⟩
  have ho292 := k4.1; clear k4
  have hap293 : OB v290 n8 := apart_grew hg291 hap279 hb223.lt
  have hap294 : OB v290 n24 := apart_grew hg291 hap280 (bl hb38l)
  have hap295 : OB v290 n53 := apart_grew hg291 hap281 (bl hb66)
  have hap296 : OB v290 n180 := apart_grew hg291 hap282 (bl hb196)
  have hap297 : ApartV v290 v232 := apartv_grew hg291 hap283 ho234.2
  have hap298 : ApartV v232 v290 := fun k h1 h2 => hap297 k h2 h1
  have hap299 : OB v290 n249 := apart_grew hg291 hap285 (bl hb264)
  have hE := ext_grew hE hg291 ho278 (Nat.le_refl _)
  have hb66 := blk_grew hb66 hg291 hap281
  have hb196 := blk_grew hb196 hg291 hap282
  have hb38l := blk_grew hb38l hg291 hap280
  have hb223 := MapF.grew hb223 hg291 hap279
  have ho234 := og_grew ho234 hg291 hap283
  have hb264 := blk_grew hb264 hg291 hap285
  clear ho278
  have hbn : (bnext ps p s).b = s.b ++ [1] ++ s.ids.getD m [] ++ textB (makeP (ps.getD m dPt).bytes p.bytes) := by unfold bnext; simp only; rw [if_neg hC0, hm, Int.toNat_natCast]
  refine bN (tN (hK48 _ _ (wt (oS rfl (Yk.bin (xv := NI i) (yv := NI 1) T30 rfl rfl (i64_add _ _ _ (by omega)) (oM rfl (oL_ [(0, v), (4, v290), (5, .map (some n8)), (6, v232), (7, .slice (some ⟨n24, 0, none⟩) ps.length ps.length), (8, NI ((s.total) + ((p.bytes : List UInt8).length))), (9, NI i), (10, PQ n53 0), (11, PQ n180 0), (13, .bool (false)), (14, PQ n249 0), (28, v), (29, NI ps.length), (30, NI ((i) + (1))), (47, .bool (false)), (58, .bool (false)), (61, .bool (true)), (91, .bool (false))] ⟨T0, T4, T5, T6, T7, T8, T9, T10, T11, T13, T14, T28, T29, rfl, T47, T58, T61, T91, trivial⟩ fun ρ300 ⟨T0, T4, T5, T6, T7, T8, T9, T10, T11, T13, T14, T28, T29, T30, T47, T58, T61, T91, _⟩ => ?_)))))))
  have hdep : d2 = (bnext ps p s).depths ++ List.replicate (ps.length - (i + 1)) 0 := by rw [hd2]; simp only [bnext, List.append_assoc, List.singleton_append, Nat.sub_sub]
  refine tN (And.intro ⟨i + 1, bnext ps p s, v290, v232, T0, T5, T7, T28, T29, T30, T8, T4, T6, hE, own_eq ho292 (by rw [hbn]), og_eq ho234 (rfl), map_eq hb223 ((placesG_next hB hin).symm), blk_eq hb38l (congrArg (List.map fun x => NI x) hdep), hst3, by omega, hap293, hap297, hap294, hap236, hap298, hap239, trivial⟩ ?_)
  show ps.length - (intOf (ρ300 30)).toNat < ps.length - (intOf (ρ44 30)).toNat
  rw [T30, q30]
  simp only [intOf, Int.toNat_natCast]; omega
 have hie : i = ps.length := by omega
 have hfl := fanL_len s.ids
 have hsl := sortB_len s.ids
 refine wpF_exit (thenF_exit (thenF_exit (inBlockF_hit (tN (hK41 _ _ (sk fun K301 hK301 => (wt (oM rfl (oS rfl (Yk.lenRB pk8_ty24 (RB.of (RB.ofOwn hr_vb) T4) (oA rfl (oZ (tN (hK301 _ _ (sk fun K302 hK302 => (sk fun K303 hK303 => (wt (oM rfl (oS rfl (Yk.callA1 pk8_pl26 T6 ((fan_any _ vi (s.ids) (RG.ofOwn hr_vi)).mono ?_)))))))))))))))))))))
 rintro e w305 ⟨rfl, hx304⟩
 refine ⟨_, rfl, ?_⟩
 have hE := hE.trans hx304
 have hr_vb := Stab.own _ _ _ _ _ _ _ _ hr_vb hx304
 have hr_vi := hr_vi.keep hx304
 have hb11l := hb11l.keep hx304
 have hb38l := eb hx304 hb38l
 refine oM rfl (oL_ [(0, v), (4, vb), (5, .map (some n8)), (6, vi), (7, .slice (some ⟨n24, 0, none⟩) ps.length ps.length), (8, NI s.total), (15, NI ((s.b : List UInt8).length)), (28, v), (29, NI ps.length), (30, NI i), (125, .agg ((fanL (s.ids)).map fun x => NI x).toArray), (126, NI 0)] ⟨T0, T4, T5, T6, T7, T8, rfl, T28, T29, T30, rfl, rfl, trivial⟩ fun ρ306 ⟨T0, T4, T5, T6, T7, T8, T15, T28, T29, T30, T125, T126, _⟩ => (tN (hK303 _ _ (wpF_block (wpF_loop (fun (ρ : Slots) (wz : World) => ∃ c : Nat, ∃ vc : Value, ρ 0 = (v : Value) ∧ ρ 5 = (.map (some n8) : Value) ∧ ρ 6 = (vi : Value) ∧ ρ 7 = (.slice (some ⟨n24, 0, none⟩) ps.length ps.length : Value) ∧ ρ 8 = (NI s.total : Value) ∧ ρ 15 = (NI ((s.b : List UInt8).length) : Value) ∧ ρ 28 = (v : Value) ∧ ρ 29 = (NI ps.length : Value) ∧ ρ 30 = (NI i : Value) ∧ ρ 125 = (.agg ((fanL (s.ids)).map fun x => NI x).toArray : Value) ∧ ρ 126 = (NI c : Value) ∧ ρ 4 = (vc : Value) ∧ Ext w wz ∧ OG w.heap.size 38 32 (Lib.byteCells) wz vi (s.ids) ∧ MapF rk NI (fun id : List UInt8 => id.length = 32) wz n8 (placesG s) ∧ wz.heap[n24]? = some (.cells (dl.map fun x => NI x).toArray 3 (0, 0)) ∧ wz.ownsRow w.heap.size 5 1 vc (s.b ++ ((fanL s.ids).take c).flatMap fourP : List UInt8).length (Lib.byteCells (s.b ++ ((fanL s.ids).take c).flatMap fourP)) ∧ (c ≤ 256) ∧ (OB vc n8) ∧ (ApartV vc vi) ∧ (OB vc n24) ∧ True) (fun ρ _ => 256 - (intOf (ρ 126)).toNat) ⟨0, vb, T0, T5, T6, T7, T8, T15, T28, T29, T30, T125, T126, T4, hE, hr_vi, hb11l, hb38l, own_eq hr_vb (by simp), by omega, hap_vb_n8, hap_vb_vi, hap_vb_n24, trivial⟩ ?_)))))
 clear hr_vb
 clear hE hr_vi hb11l hb38l
 rintro ρ307 w308 ⟨c, vc, T0, T5, T6, T7, T8, T15, T28, T29, T30, T125, T126, T4, hE, hr_vi, hb11l, hb38l, hr_vc, hcl, hap_vc_n8, hap_vc_vi, hap_vc_n24, -⟩
 have q126 := T126
 have hbl : (s.b ++ ((fanL s.ids).take c).flatMap fourP).length ≤ 40000 := by rw [List.length_append, flat4, List.length_take]; omega
 have hfc := fanL_le s.ids c
 refine sk fun K309 hK309 => (wt (oS rfl (Yk.eqI (a := (c : Nat)) (b := (256 : Nat)) T126 rfl (k_lss _ _ _ _) (oZ (tN (hK309 _ _ (sk fun K310 hK310 => ?_)))))))
 refine wpF_cond ((c) < (256)) (vr (.bool (decide ((c) < (256)))) rfl) (fun hc7 => ?_) (fun hc7 => ?_)
 ·refine wpF_skip (tN (hK310 _ _ (sk fun K311 hK311 => (wpF_block (sk fun K312 hK312 => (wt (oS rfl (Yk.idxN (l := fanL (s.ids)) (i := c) pk8_ty59 pk8_ty3 rfl pk8_sz3 T125 T126 (by omega) (by rw [hfl]) (oA rfl (oZ (tN (hK312 _ _ (wt (oM rfl (oM rfl (oS rfl (Yk.callA2 pk8_pl27 T4 (vr (NI ((fanL (s.ids)).getD (c) 0)) rfl) ((four_any w _ hE vc (s.b ++ ((fanL s.ids).take c).flatMap fourP) ((fanL (s.ids)).getD (c) 0) (by have := fanL_le s.ids c; omega) (by omega) hr_vc).mono ?_))))))))))))))))))
  rintro e w316 ⟨v313, rfl, ho314, hg315⟩
  refine ⟨_, rfl, ?_⟩
  have hap317 : OB v313 n8 := apart_grew hg315 hap_vc_n8 hb11l.lt
  have hap318 : ApartV v313 vi := apartv_grew hg315 hap_vc_vi hr_vi.2
  have hap319 : ApartV vi v313 := fun k h1 h2 => hap318 k h2 h1
  have hap320 : OB v313 n24 := apart_grew hg315 hap_vc_n24 (bl hb38l)
  have hE := ext_grew hE hg315 hr_vc (Nat.le_refl _)
  have hr_vi := og_grew hr_vi hg315 hap_vc_vi
  have hb11l := MapF.grew hb11l hg315 hap_vc_n8
  have hb38l := blk_grew hb38l hg315 hap_vc_n24
  clear hr_vc
  refine oA rfl (oZ (bN (tN (hK311 _ _ (wt (oS rfl (Yk.bin (xv := NI c) (yv := NI 1) T126 rfl rfl (i64_add _ _ _ (by omega)) (oM rfl (oL_ [(0, v), (4, v313), (5, .map (some n8)), (6, vi), (7, .slice (some ⟨n24, 0, none⟩) ps.length ps.length), (8, NI s.total), (15, NI ((s.b : List UInt8).length)), (17, NI ((fanL (s.ids)).getD (c) 0)), (28, v), (29, NI ps.length), (30, NI i), (125, .agg ((fanL (s.ids)).map fun x => NI x).toArray), (126, NI ((c) + (1)))] ⟨T0, rfl, T5, T6, T7, T8, T15, rfl, T28, T29, T30, T125, rfl, trivial⟩ fun ρ321 ⟨T0, T4, T5, T6, T7, T8, T15, T17, T28, T29, T30, T125, T126, _⟩ => (tN (And.intro ⟨c + 1, v313, T0, T5, T6, T7, T8, T15, T28, T29, T30, T125, T126, T4, hE, hr_vi, hb11l, hb38l, own_eq ho314 (by rw [take_snocD (fanL s.ids) c 0 (by rw [hfl]; omega), List.flatMap_append, List.flatMap_cons, List.flatMap_nil, List.append_nil, List.append_assoc]), by omega, hap317, hap318, hap320, trivial⟩ ?_)))))))))))
  show 256 - (intOf (ρ321 126)).toNat < 256 - (intOf (ρ307 126)).toNat
  rw [T126, q126]
  simp only [intOf, Int.toNat_natCast]; omega
 refine wpF_exit (thenF_exit (thenF_exit (inBlockF_hit (tN (hK302 _ _ (sk fun K322 hK322 => (sk fun K323 hK323 => (wt (oM rfl (oS rfl (Yk.callA1 pk8_pl28 T6 ((sort_any _ vi (s.ids) (by omega) (RG.ofOwn hr_vi)).mono ?_))))))))))))
 rintro e w327 ⟨v324, rfl, hr325, hx326⟩
 refine ⟨_, rfl, ?_⟩
 have hA328 := Ext.refl w308
 have hea329 := hE
 have hz330 := hE.size
 have hap331 : ApartV vi v324 := apartv_new hr_vi.2 hr325.2
 have hap332 : ApartV v324 vi := apartv_new' hr_vi.2 hr325.2
 have hap333 : ApartV vc v324 := apartv_new hr_vc hr325.2
 have hap334 : ApartV v324 vc := apartv_new' hr_vc hr325.2
 have hE := hE.trans hx326
 have hr_vi := hr_vi.keep hx326
 have hb11l := hb11l.keep hx326
 have hb38l := eb hx326 hb38l
 have hr_vc := Stab.own _ _ _ _ _ _ _ _ hr_vc hx326
 have hA328 := hA328.trans hx326
 refine oS rfl (Yk.lenRG pk8_ty47 (RG.of (RG.ofOwn hr325) (vr v324 rfl)) (oM rfl (oL_ [(0, v), (4, vc), (5, .map (some n8)), (6, vi), (7, .slice (some ⟨n24, 0, none⟩) ps.length ps.length), (8, NI s.total), (15, NI ((s.b : List UInt8).length)), (28, v), (29, NI ps.length), (30, NI i), (125, .agg ((fanL (s.ids)).map fun x => NI x).toArray), (126, NI c), (134, v324), (135, NI (((sortB (s.ids))).length)), (136, NI 0)] ⟨T0, T4, T5, T6, T7, T8, T15, T28, T29, T30, T125, T126, rfl, rfl, rfl, trivial⟩ fun ρ335 ⟨T0, T4, T5, T6, T7, T8, T15, T28, T29, T30, T125, T126, T134, T135, T136, _⟩ => (tN (hK323 _ _ (wpF_block (wpF_loop (fun (ρ : Slots) (wz : World) => ∃ j : Nat, ∃ ve : Value, ρ 0 = (v : Value) ∧ ρ 5 = (.map (some n8) : Value) ∧ ρ 6 = (vi : Value) ∧ ρ 7 = (.slice (some ⟨n24, 0, none⟩) ps.length ps.length : Value) ∧ ρ 8 = (NI s.total : Value) ∧ ρ 15 = (NI ((s.b : List UInt8).length) : Value) ∧ ρ 28 = (v : Value) ∧ ρ 29 = (NI ps.length : Value) ∧ ρ 30 = (NI i : Value) ∧ ρ 125 = (.agg ((fanL (s.ids)).map fun x => NI x).toArray : Value) ∧ ρ 126 = (NI c : Value) ∧ ρ 134 = (v324 : Value) ∧ ρ 135 = (NI (((sortB (s.ids))).length) : Value) ∧ ρ 136 = (NI j : Value) ∧ ρ 4 = (ve : Value) ∧ Ext w wz ∧ OG w.heap.size 38 32 (Lib.byteCells) wz vi (s.ids) ∧ MapF rk NI (fun id : List UInt8 => id.length = 32) wz n8 (placesG s) ∧ wz.heap[n24]? = some (.cells (dl.map fun x => NI x).toArray 3 (0, 0)) ∧ OG w308.heap.size 38 32 Lib.byteCells wz v324 (sortB (s.ids)) ∧ wz.ownsRow w.heap.size 5 1 ve (s.b ++ (fanL s.ids).flatMap fourP ++ ((sortB s.ids).take j).flatMap fun id => id ++ fourP ((placesG s id).getD 0) : List UInt8).length (Lib.byteCells (s.b ++ (fanL s.ids).flatMap fourP ++ ((sortB s.ids).take j).flatMap fun id => id ++ fourP ((placesG s id).getD 0))) ∧ (j ≤ s.ids.length) ∧ (OB ve n8) ∧ (ApartV ve vi) ∧ (OB ve n24) ∧ (ApartV ve v324) ∧ True) (fun ρ _ => s.ids.length - (intOf (ρ 136)).toNat) ⟨0, vc, T0, T5, T6, T7, T8, T15, T28, T29, T30, T125, T126, T134, T135, T136, T4, hE, hr_vi, hb11l, hb38l, hr325, own_eq hr_vc (by rw [show c = 256 by omega, List.take_of_length_le (by rw [hfl]; omega)]; simp), by omega, hap_vc_n8, hap_vc_vi, hap_vc_n24, hap333, trivial⟩ ?_)))))))
 clear hr_vc
 clear hA328
 clear hE hr_vi hb11l hb38l hr325
 rintro ρ336 w337 ⟨j, ve, T0, T5, T6, T7, T8, T15, T28, T29, T30, T125, T126, T134, T135, T136, T4, hE, hr_vi, hb11l, hb38l, hr325, hr_ve, hjl, hap_ve_n8, hap_ve_vi, hap_ve_n24, hap_ve_v324, -⟩
 have q136 := T136
 have hbl2 : (s.b ++ (fanL s.ids).flatMap fourP ++ ((sortB s.ids).take j).flatMap fun id => id ++ fourP ((placesG s id).getD 0)).length ≤ 60000 := by rw [List.length_append, List.length_append, flat4, hfl, flat36 (fun id => (placesG s id).getD 0) _ (fun x hx => hB.len x ((sortB_perm _).subset (List.mem_of_mem_take hx))), List.length_take]; omega
 refine sk fun K338 hK338 => (wt (oS rfl (Yk.eqI (a := (j : Nat)) (b := (((sortB (s.ids))).length : Nat)) T136 T135 (k_lss _ _ _ _) (oZ (tN (hK338 _ _ (sk fun K339 hK339 => ?_)))))))
 refine wpF_cond ((j) < (((sortB (s.ids))).length)) (vr (.bool (decide ((j) < (((sortB (s.ids))).length)))) rfl) (fun hc8 => ?_) (fun hc8 => ?_)
 ·have hx32 : ((sortB s.ids).getD j []).length = 32 := hB.len _ ((sortB_perm _).subset (getD_mem [] (by omega)))
  obtain ⟨q2, hq2, hqm⟩ : ∃ q, placesG s ((sortB s.ids).getD j []) = some q ∧ q ∈ s.places := lookup_zip_some s.ids s.places _ (by omega) ((sortB_perm _).subset (getD_mem [] (by omega)))
  have hq2l := hB.pl q2 hqm
  refine wpF_skip (tN (hK339 _ _ (sk fun K340 hK340 => (wpF_block (sk fun K341 hK341 => (wt ?_))))))
  have hl344 : (Lib.byteCells (((sortB (s.ids))).getD (j) ([] : List UInt8))).length = 32 := (RG.elem (RG.ofOwn hr325) ([] : List UInt8) (by omega))
  refine oS rfl (Yk.atRG pk8_ty47 pk8_szg38 (by decide) ([] : List UInt8) (RG.of (RG.ofOwn hr325) T134) T136 (by omega) fun v342 hp343 => (oS rfl (Yk.loadPR (PR.of hp343 (vr v342 rfl)) pk8_ty38 rfl (by rw [hl344]; exact pk8_isz38) (oS rfl (Yk.alloc (cs := (Lib.byteCells (List.replicate 32 0)).toArray) pk8_al38 fun n345 w346 hn347 hb348 hx349 hs350 => ?_)))))
  have hA351 := Ext.refl w337
  have hea352 := hE
  have hz353 := hE.size
  have hlt354 := lte hb11l.lt hn347
  have hlt355 := lte (bl hb38l) hn347
  have hap356 : OB vi n345 := own_newer hr_vi.2 (by omega)
  have hap357 : OB v324 n345 := own_newer hr325.2 (by omega)
  have hap358 : OB ve n345 := own_newer hr_ve (by omega)
  have hE := hE.trans hx349
  have hr_vi := hr_vi.keep hx349
  have hb11l := hb11l.keep hx349
  have hb38l := eb hx349 hb38l
  have hr325 := hr325.keep hx349
  have hr_ve := Stab.own _ _ _ _ _ _ _ _ hr_ve hx349
  have hA351 := hA351.trans hx349
  have hb359 := hb348; clear hb348
  have hl360 : n345 < w346.heap.size := by omega
  refine oS rfl (Yk.storeAll (vr (PQ n345 0) rfl) (vr (AB (((sortB (s.ids))).getD (j) ([] : List UInt8))) rfl) hb359 (by exact idsize (bytes_len32 (hl344)) List.length_replicate) (by exact sizeId_of (bytes_len32 (hl344))) (byteCells_one _) fun w361 hb362 hg363 hs364 => ?_)
  have hE := row_fresh hE hg363 (Nat.le_trans hz353 (by omega))
  have hr_vi := OG.kept hr_vi hg363 hap356
  have hb11l := MapF.other hb11l hg363 (some_ne (by omega))
  have hb38l := kb hg363 hb38l (by omega)
  have hr325 := OG.kept hr325 hg363 hap357
  have hr_ve := own_kept hr_ve hg363 hap358
  have hA351 := row_fresh hA351 hg363 (Nat.le_trans (Nat.le_refl _) (by omega))
  clear hb359
  have hb359 := hb362; clear hb362
  have hl365 := bl hb359
  refine oZ ?_
  clear hp343
  refine tN (hK341 _ _ ?_)
  have hlow366 : ∀ k, Value.ownBlock ve = some k → w.heap.size ≤ k := fun k hk => (hr_ve.lt k hk).1
  have hsz_ : w.heap.size ≤ w361.heap.size := hE.size
  refine wpF_draw_rowsX (Value.ownBlock ve) [2, 6] [0] (fun m => if m = 2 then [0] else if m = 6 then [0, 2] else []) (fun m => if m = 2 then [0, 2, 6, 7] else if m = 6 then [0, 2, 6, 7] else []) [fun x w' => RowX w.heap.size w361.heap.size 5 (Value.ownBlock ve) (s.b ++ (fanL s.ids).flatMap fourP ++ ((sortB s.ids).take j).flatMap fun id => id ++ fourP ((placesG s id).getD 0)) x w', Is (.slice (some ⟨n345, 0, none⟩) 32 32), fun x w' => RowX w.heap.size w361.heap.size 5 (Value.ownBlock ve) ((s.b ++ (fanL s.ids).flatMap fourP ++ ((sortB s.ids).take j).flatMap fun id => id ++ fourP ((placesG s id).getD 0) : List UInt8) ++ (((sortB (s.ids))).getD (j) ([] : List UInt8) : List UInt8)) x w', Is (.map (some n8)), Is (AB (((sortB (s.ids))).getD (j) ([] : List UInt8))), Is (NI q2), fun x w' => RowX w.heap.size w361.heap.size 5 (Value.ownBlock ve) (((s.b ++ (fanL s.ids).flatMap fourP ++ ((sortB s.ids).take j).flatMap fun id => id ++ fourP ((placesG s id).getD 0) : List UInt8) ++ (((sortB (s.ids))).getD (j) ([] : List UInt8) : List UInt8) : List UInt8) ++ fourP (q2)) x w', fun x w' => RowX w.heap.size w361.heap.size 5 (Value.ownBlock ve) (((s.b ++ (fanL s.ids).flatMap fourP ++ ((sortB s.ids).take j).flatMap fun id => id ++ fourP ((placesG s id).getD 0) : List UInt8) ++ (((sortB (s.ids))).getD (j) ([] : List UInt8) : List UInt8) : List UInt8) ++ fourP (q2)) x w'] (by kernel_rfl) [140, 141, 142, 143, 144, 145, 146, 4] (by kernel_rfl) (by kernel_rfl) (by kernel_rfl) (by kernel_rfl) (by kernel_rfl) rfl ⟨(fun _ _ _ h k => ⟨Stab.own _ _ _ _ _ _ _ _ h.1 k, h.2⟩), Stab.is _, (fun _ _ _ h k => ⟨Stab.own _ _ _ _ _ _ _ _ h.1 k, h.2⟩), Stab.is _, Stab.is _, Stab.is _, (fun _ _ _ h k => ⟨Stab.own _ _ _ _ _ _ _ _ h.1 k, h.2⟩), (fun _ _ _ h k => ⟨Stab.own _ _ _ _ _ _ _ _ h.1 k, h.2⟩), trivial⟩ ⟨⟨.inl rfl, .inr (Stab.is _), .inl rfl, .inr (Stab.is _), .inr (Stab.is _), .inr (Stab.is _), .inl rfl, .inl rfl, trivial⟩, ⟨.inl rfl, .inr (Stab.is _), .inl rfl, .inr (Stab.is _), .inr (Stab.is _), .inr (Stab.is _), .inl rfl, .inl rfl, trivial⟩, trivial⟩ ?hs9039 ?hQ9039
  case hs9039 =>
   refine ⟨?_, ?_, ?_, ?_, ?_, ?_, ?_, ?_, trivial⟩
   ·refine stepN rfl fun σ w1 hC h => ?_
    have hX : Ext w361 w1 := hC
    have hC : BX w361.heap.size (Value.ownBlock ve) w361 w1 := BX.ofExt hX (Nat.le_refl _)
    have e4 := (eqo (h 4 (by decide))).trans T4
    exact Yk.move e4 ⟨Ext.refl _, Stab.own _ _ _ _ _ _ _ _ hr_ve hX, fun k hk => .inl hk⟩
   ·refine stepN rfl fun σ w1 hC h => ?_
    have hC : BX w361.heap.size (Value.ownBlock ve) w361 w1 := hC
    have e19 : σ 19 = PQ n345 0 := (eqo (h 19 (by decide))).trans rfl
    exact Yk.sliceArr pk8_ty38 pk8_sz5 e19 ⟨Ext.refl _, rfl⟩
   ·refine stepN rfl fun σ w1 hC h => ?_
    have hC : BX w361.heap.size (Value.ownBlock ve) w361 w1 := hC
    have e140 : (fun x w' => RowX w.heap.size w361.heap.size 5 (Value.ownBlock ve) (s.b ++ (fanL s.ids).flatMap fourP ++ ((sortB s.ids).take j).flatMap fun id => id ++ fourP ((placesG s id).getD 0)) x w') (σ 140) w1 := h 140 (by decide)
    have e141 := eqo (h 141 (by decide))
    exact Yk.appendRB _ _ w.heap.size (.int .u8 0) pk8_ty24 pk8_inf5 rfl pk8_ty24 (s.b ++ (fanL s.ids).flatMap fourP ++ ((sortB s.ids).take j).flatMap fun id => id ++ fourP ((placesG s id).getD 0)) (((sortB (s.ids))).getD (j) ([] : List UInt8)) e140.1 (RB.of (RB.ofBlkN (BX.blk hC hb359 hap358) (bytes_len32 (hl344)) (by decide)) e141) (by rw [hx32]; omega) (Nat.le_trans hsz_ hC.size) fun v w2 ho hg => ⟨BX.ofGrown hg.by_ hC.size e140.2, ho, fun k hk => (hg.fresh k hk).elim (e140.2 k) (fun x => .inr (Nat.le_trans hC.size x))⟩
   ·refine stepN rfl fun σ w1 hC h => ?_
    have hC : BX w361.heap.size (Value.ownBlock ve) w361 w1 := hC
    have e5 := (eqo (h 5 (by decide))).trans T5
    exact Yk.move e5 ⟨Ext.refl _, rfl⟩
   ·refine stepN rfl fun σ w1 hC h => ?_
    have hC : BX w361.heap.size (Value.ownBlock ve) w361 w1 := hC
    have e19 : σ 19 = PQ n345 0 := (eqo (h 19 (by decide))).trans rfl
    exact Yk.loadAll e19 (BX.blk hC hb359 hap358) pk8_ty38 rfl (by exact sizeId_of (bytes_len32 (hl344))) ⟨Ext.refl _, rfl⟩
   ·refine stepN rfl fun σ w1 hC h => ?_
    have hC : BX w361.heap.size (Value.ownBlock ve) w361 w1 := hC
    have e143 := eqo (h 143 (by decide))
    have e144 := eqo (h 144 (by decide))
    exact Yk.lookMS (ek := rk) (ev := NI) (D := (fun id : List UInt8 => id.length = 32)) idLaw id_ok (fun _ _ => rk_inj) pk8_ty53 (z := NI 0) zeroInt e143 e144 (BX.map hC hb11l hap_ve_n8) (bytes_len32 (hl344)) hq2 ⟨Ext.refl _, rfl⟩
   ·refine stepN rfl fun σ w1 hC h => ?_
    have hC : BX w361.heap.size (Value.ownBlock ve) w361 w1 := hC
    have e142 : (fun x w' => RowX w.heap.size w361.heap.size 5 (Value.ownBlock ve) ((s.b ++ (fanL s.ids).flatMap fourP ++ ((sortB s.ids).take j).flatMap fun id => id ++ fourP ((placesG s id).getD 0) : List UInt8) ++ (((sortB (s.ids))).getD (j) ([] : List UInt8) : List UInt8)) x w') (σ 142) w1 := h 142 (by decide)
    have e145 := eqo (h 145 (by decide))
    refine Yk.callA2 pk8_pl27 rfl e145 ((four_any w _ (ext_bx hE hC (by omega) (fun k hk => by have := hlow366 k hk; omega)) (σ 142) ((s.b ++ (fanL s.ids).flatMap fourP ++ ((sortB s.ids).take j).flatMap fun id => id ++ fourP ((placesG s id).getD 0) : List UInt8) ++ (((sortB (s.ids))).getD (j) ([] : List UInt8) : List UInt8)) (q2) (by omega) (by rw [List.length_append, hx32]; omega) e142.1).mono ?_)
    rintro e w2 ⟨v, rfl, ho, hg⟩
    exact ⟨_, rfl, BX.ofGrown hg.by_ hC.size e142.2, ho, fun k hk => (hg.fresh k hk).elim (e142.2 k) (fun x => .inr (Nat.le_trans hC.size x))⟩
   ·refine stepN rfl fun σ w1 hC h => ?_
    have hC : BX w361.heap.size (Value.ownBlock ve) w361 w1 := hC
    have e146 : (fun x w' => RowX w.heap.size w361.heap.size 5 (Value.ownBlock ve) (((s.b ++ (fanL s.ids).flatMap fourP ++ ((sortB s.ids).take j).flatMap fun id => id ++ fourP ((placesG s id).getD 0) : List UInt8) ++ (((sortB (s.ids))).getD (j) ([] : List UInt8) : List UInt8) : List UInt8) ++ fourP (q2)) x w') (σ 146) w1 := h 146 (by decide)
    exact Yk.assign rfl ⟨Ext.refl _, e146⟩
  intro ρ367 w368 hx369 he hf
  obtain ⟨-, -, -, -, -, -, -, k4, -⟩ := hf
  obtain ⟨T0, T5, T6, T7, T8, T15, T19, T28, T29, T30, T125, T126, T134, T135, T136, -⟩ := he.hold [(0, _), (5, _), (6, _), (7, _), (8, _), (15, _), (19, PQ n345 0), (28, _), (29, _), (30, _), (125, _), (126, _), (134, _), (135, _), (136, _)] ⟨T0, T5, T6, T7, T8, T15, rfl, T28, T29, T30, T125, T126, T134, T135, T136, trivial⟩ rfl
  clear he
  have k4 : (fun x w' => RowX w.heap.size w361.heap.size 5 (Value.ownBlock ve) (((s.b ++ (fanL s.ids).flatMap fourP ++ ((sortB s.ids).take j).flatMap fun id => id ++ fourP ((placesG s id).getD 0) : List UInt8) ++ (((sortB (s.ids))).getD (j) ([] : List UInt8) : List UInt8) : List UInt8) ++ fourP (q2)) x w') (ρ367 4) w368 := k4
  obtain ⟨v370, T4⟩ : ∃ v, ρ367 4 = v := ⟨_, rfl⟩
  rw [T4] at k4
  have hg371 : Grew w361 w368 ve v370 := ⟨hx369.grown, k4.2⟩
  have ho372 := k4.1; clear k4
  have hap373 : OB v370 n8 := apart_grew hg371 hap_ve_n8 hb11l.lt
  have hap374 : ApartV v370 vi := apartv_grew hg371 hap_ve_vi hr_vi.2
  have hap375 : ApartV vi v370 := fun k h1 h2 => hap374 k h2 h1
  have hap376 : OB v370 n24 := apart_grew hg371 hap_ve_n24 (bl hb38l)
  have hap377 : ApartV v370 v324 := apartv_grew hg371 hap_ve_v324 hr325.2
  have hap378 : ApartV v324 v370 := fun k h1 h2 => hap377 k h2 h1
  have hap379 : OB v370 n345 := apart_grew hg371 hap358 (bl hb359)
  have hE := ext_grew hE hg371 hr_ve (Nat.le_refl _)
  have hr_vi := og_grew hr_vi hg371 hap_ve_vi
  have hb11l := MapF.grew hb11l hg371 hap_ve_n8
  have hb38l := blk_grew hb38l hg371 hap_ve_n24
  have hr325 := og_grew hr325 hg371 hap_ve_v324
  clear hr_ve
  clear hA351
  have hb359 := blk_grew hb359 hg371 hap358
  refine bN (tN (hK340 _ _ (wt (oS rfl (Yk.bin (xv := NI j) (yv := NI 1) T136 rfl rfl (i64_add _ _ _ (by omega)) (oM rfl (oL_ [(0, v), (4, v370), (5, .map (some n8)), (6, vi), (7, .slice (some ⟨n24, 0, none⟩) ps.length ps.length), (8, NI s.total), (15, NI ((s.b : List UInt8).length)), (19, PQ n345 0), (28, v), (29, NI ps.length), (30, NI i), (125, .agg ((fanL (s.ids)).map fun x => NI x).toArray), (126, NI c), (134, v324), (135, NI (((sortB (s.ids))).length)), (136, NI ((j) + (1)))] ⟨T0, T4, T5, T6, T7, T8, T15, T19, T28, T29, T30, T125, T126, T134, T135, rfl, trivial⟩ fun ρ380 ⟨T0, T4, T5, T6, T7, T8, T15, T19, T28, T29, T30, T125, T126, T134, T135, T136, _⟩ => (tN (And.intro ⟨j + 1, v370, T0, T5, T6, T7, T8, T15, T28, T29, T30, T125, T126, T134, T135, T136, T4, hE, hr_vi, hb11l, hb38l, hr325, own_eq ho372 (by rw [take_snocD (sortB s.ids) j [] (by rw [hsl]; omega), List.flatMap_append, List.flatMap_cons, List.flatMap_nil, List.append_nil]; simp only [hq2, Option.getD_some, List.append_assoc]), by omega, hap373, hap374, hap376, hap377, trivial⟩ ?_)))))))))
  show s.ids.length - (intOf (ρ380 136)).toNat < s.ids.length - (intOf (ρ336 136)).toNat
  rw [T136, q136]
  simp only [intOf, Int.toNat_natCast]; omega
 refine wpF_exit (thenF_exit (thenF_exit (inBlockF_hit (tN (hK322 _ _ (sk fun K381 hK381 => (wt (oM rfl (oM rfl (oS rfl (Yk.callA2 pk8_pl27 T4 T15 ((four_any w _ hE ve (s.b ++ (fanL s.ids).flatMap fourP ++ ((sortB s.ids).take j).flatMap fun id => id ++ fourP ((placesG s id).getD 0)) ((s.b : List UInt8).length) (by omega) (by omega) hr_ve).mono ?_))))))))))))
 rintro e w385 ⟨v382, rfl, ho383, hg384⟩
 refine ⟨_, rfl, ?_⟩
 have hap386 : OB v382 n8 := apart_grew hg384 hap_ve_n8 hb11l.lt
 have hap387 : ApartV v382 vi := apartv_grew hg384 hap_ve_vi hr_vi.2
 have hap388 : ApartV vi v382 := fun k h1 h2 => hap387 k h2 h1
 have hap389 : OB v382 n24 := apart_grew hg384 hap_ve_n24 (bl hb38l)
 have hap390 : ApartV v382 v324 := apartv_grew hg384 hap_ve_v324 hr325.2
 have hap391 : ApartV v324 v382 := fun k h1 h2 => hap390 k h2 h1
 have hE := ext_grew hE hg384 hr_ve (Nat.le_refl _)
 have hr_vi := og_grew hr_vi hg384 hap_ve_vi
 have hb11l := MapF.grew hb11l hg384 hap_ve_n8
 have hb38l := blk_grew hb38l hg384 hap_ve_n24
 have hr325 := og_grew hr325 hg384 hap_ve_v324
 clear hr_ve
 refine oA rfl (oZ ?_)
 obtain ⟨C, hCd⟩ : ∃ C, C = s.b ++ behindB s s.b.length := ⟨_, rfl⟩
 have ho383 : w385.ownsRow w.heap.size 5 1 v382 (C : List UInt8).length (Lib.byteCells (C)) := (by rw [hCd, List.take_of_length_le (by rw [hsl]; omega)]; unfold behindB; simp only [List.append_assoc] : (s.b ++ (fanL s.ids).flatMap fourP ++ ((sortB s.ids).take j).flatMap fun id => id ++ fourP ((placesG s id).getD 0) : List UInt8) ++ fourP ((s.b : List UInt8).length) = C) ▸ ho383
 have hCl : C.length ≤ 60000 := by rw [hCd, List.length_append, behindB_len hB]; omega
 refine tN (hK381 _ _ (sk fun K392 hK392 => (wt (oM rfl (oS rfl (Yk.rows1 pk8_rows1_75 (RB.of (RB.ofOwn ho383) (vr v382 rfl)) fun v393 w394 hr395 hx396 => ?_))))))
 have hE := hE.trans hx396
 have hr_vi := hr_vi.keep hx396
 have hb11l := hb11l.keep hx396
 have hb38l := eb hx396 hb38l
 have hr325 := hr325.keep hx396
 have ho383 := Stab.own _ _ _ _ _ _ _ _ ho383 hx396
 refine oS rfl (Yk.callA1 pk8_pl17 (vr v393 rfl) ((sum_one _ (hG.keep hE) v393 (C) hr395 (by omega)).mono ?_))
 rintro e w398 ⟨rfl, hx397⟩
 refine ⟨_, rfl, ?_⟩
 have hE := hE.trans hx397
 have hr_vi := hr_vi.keep hx397
 have hb11l := hb11l.keep hx397
 have hb38l := eb hx397 hb38l
 have hr325 := hr325.keep hx397
 have ho383 := Stab.own _ _ _ _ _ _ _ _ ho383 hx397
 have hr395 := hr395.keep hx397
 refine oS rfl (Yk.alloc (cs := (Lib.byteCells (List.replicate 32 0)).toArray) pk8_al38 fun n399 w400 hn401 hb402 hx403 hs404 => ?_)
 have hA405 := Ext.refl w398
 have hea406 := hE
 have hz407 := hE.size
 have hlt408 := lte hb11l.lt hn401
 have hlt409 := lte (bl hb38l) hn401
 have hap410 : OB vi n399 := own_newer hr_vi.2 (by omega)
 have hap411 : OB v324 n399 := own_newer hr325.2 (by omega)
 have hap412 : OB v382 n399 := own_newer ho383 (by omega)
 have hE := hE.trans hx403
 have hr_vi := hr_vi.keep hx403
 have hb11l := hb11l.keep hx403
 have hb38l := eb hx403 hb38l
 have hr325 := hr325.keep hx403
 have ho383 := Stab.own _ _ _ _ _ _ _ _ ho383 hx403
 have hA405 := hA405.trans hx403
 have hb413 := hb402; clear hb402
 have hl414 : n399 < w400.heap.size := by omega
 refine oS rfl (Yk.storeAll (vr (PQ n399 0) rfl) (vr (AB (Sha.sum (C))) rfl) hb413 (by exact idsize (Sha.sum_length _) List.length_replicate) (by exact sizeId_of (Sha.sum_length _)) (byteCells_one _) fun w415 hb416 hg417 hs418 => ?_)
 have hE := row_fresh hE hg417 (Nat.le_trans hz407 (by omega))
 have hr_vi := OG.kept hr_vi hg417 hap410
 have hb11l := MapF.other hb11l hg417 (some_ne (by omega))
 have hb38l := kb hg417 hb38l (by omega)
 have hr325 := OG.kept hr325 hg417 hap411
 have ho383 := own_kept ho383 hg417 hap412
 have hA405 := row_fresh hA405 hg417 (Nat.le_trans (Nat.le_refl _) (by omega))
 clear hb413
 have hb413 := hb416; clear hb416
 have hl419 := bl hb413
 refine oZ (tN (hK392 _ _ (sk fun K420 hK420 => (wt (oM rfl (oS rfl (Yk.sliceArr pk8_ty38 pk8_sz5 (vr (PQ n399 0) rfl) (oS rfl (Yk.appendRB _ _ w.heap.size (.int .u8 0) pk8_ty24 pk8_inf5 rfl pk8_ty24 (C) (Sha.sum (C)) (own_of ho383 (vr v382 rfl)) (RB.of (RB.ofBlkN hb413 (Sha.sum_length _) (by decide)) (vr (.slice (some ⟨n399, 0, none⟩) 32 32) rfl)) (by rw [Sha.sum_length]; omega) hE.size fun v421 w422 ho423 hg424 => ?_)))))))))
 have hg424 : Grew w415 w422 v382 v421 := hg424
 have hap425 : OB v421 n8 := apart_grew hg424 hap386 hb11l.lt
 have hap426 : ApartV v421 vi := apartv_grew hg424 hap387 hr_vi.2
 have hap427 : ApartV vi v421 := fun k h1 h2 => hap426 k h2 h1
 have hap428 : OB v421 n24 := apart_grew hg424 hap389 (bl hb38l)
 have hap429 : ApartV v421 v324 := apartv_grew hg424 hap390 hr325.2
 have hap430 : ApartV v324 v421 := fun k h1 h2 => hap429 k h2 h1
 have hap431 : OB v421 n399 := apart_grew hg424 hap412 (bl hb413)
 have hE := ext_grew hE hg424 ho383 (Nat.le_refl _)
 have hr_vi := og_grew hr_vi hg424 hap387
 have hb11l := MapF.grew hb11l hg424 hap386
 have hb38l := blk_grew hb38l hg424 hap389
 have hr325 := og_grew hr325 hg424 hap390
 clear ho383
 clear hA405
 have hb413 := blk_grew hb413 hg424 hap412
 refine oA rfl (oZ (tN (hK420 _ _ (sk fun K432 hK432 => (sk fun K433 hK433 => (wt (oM rfl (oS rfl (Yk.lenRB pk8_ty24 (RB.of (RB.ofOwn ho423) (vr v421 rfl)) (oS rfl (Yk.eqI (a := ((C ++ Sha.sum (C) : List UInt8).length : Nat)) (b := (1048576 : Nat)) rfl rfl (k_gtr _ _ _ _) (oM rfl (oY (d := 160) rfl rfl (vr (.bool (false)) (congrArg Value.bool (decide_eq_false (by simp only [List.length_append, Sha.sum_length]; omega)))) (Yk.move T8 (oY (d := 160) rfl rfl (vr (.bool (false)) (congrArg Value.bool (decide_eq_false (by simp only [List.length_append, Sha.sum_length]; omega)))) (Yk.eqI (a := (s.total : Nat)) (b := (4194304 : Nat)) rfl rfl (k_gtr _ _ _ _) (oS rfl (Yk.pickF (vr (.bool (false)) (congrArg Value.bool (decide_eq_false (by simp only [List.length_append, Sha.sum_length]; omega)))) (vr (.bool (false)) (congrArg Value.bool (decide_eq_false (by omega)))) (oZ (tN (hK433 _ _ (wpF_false (vr (.bool (false)) rfl) ?_))))))))))))))))))))))
 refine wpF_skip (tN (hK432 _ _ (sk fun K434 hK434 => (wt (oM rfl (oA rfl (oA rfl (oZ (tN (hK434 _ _ (wpF_ret (postF_ret (fn := Tryd.f11) _ rfl [v421, NI 0] (.tuple #[v421, NI 0]) rfl ⟨rfl, rfl, trivial⟩ ?_))))))))))))
 rw [buildP_ok (show bgo ps ps.length = .ok s from by rw [← hie]; exact hs)]
 refine ⟨_, rfl, ?_, hE⟩
 have hfin := RB.ofOwn ho423
 rw [hCd] at hfin
 exact hfin
open Go.RowKit
def textP (b : Bs) (a fin : Nat) : Option (Bs × Nat) :=
  match lebDec 0 ((b.take fin).drop a) with
  | none => none
  | some x => if 1048576 < x.1 then none else if (b.take fin).length < a + x.2 + x.1 then none else some (((b.take fin).drop (a + x.2)).take x.1, a + x.2 + x.1)
structure Ent where
  pos : Nat
  based : Bool
  base : Bs
  bytes : Bs
abbrev EntV := Ent × Value
def dEnt : EntV := (⟨0, false, List.replicate 32 0, []⟩, .slice none 0 0)
def entC (x : EntV) : List Value := NI x.1.pos :: .bool x.1.based :: (Lib.byteCells x.1.base ++ [x.2])
def EntsOk (w : World) (xs : List EntV) : Prop := ∀ x ∈ xs, RB w x.2 x.1.bytes ∧ x.1.base.length = 32
theorem EntsOk.keep {w w' : World} {xs : List EntV} (h : EntsOk w xs) (k : Ext w w') : EntsOk w' xs := fun x hx => ⟨(h x hx).1.keep k, (h x hx).2⟩
theorem entC_len {x : EntV} (h : x.1.base.length = 32) : (entC x).length = 35 := by simp [entC, Lib.byteCells, h]
theorem entC_v {x : EntV} (h : x.1.base.length = 32) : (entC x)[34]? = some x.2 := by
  unfold entC
  rw [List.getElem?_cons_succ, List.getElem?_cons_succ, List.getElem?_append_right (by rw [Lib.byteCells_length, h]; omega), Lib.byteCells_length, h]
  rfl
theorem entC_range {w : World} {g : Nat} {x : EntV} {t : TypeId} {fr : Nat × Nat} (hb : w.heap[g]? = some (.cells (entC x).toArray t fr)) : w.rangeAt g 2 (Lib.byteCells x.1.base) := fun j u hu => by
  refine cellAt hb ?_
  unfold entC
  rw [show 2 + j = j + 1 + 1 by omega, List.getElem?_cons_succ, List.getElem?_cons_succ, List.getElem?_append_left (List.getElem?_eq_some_iff.1 hu).1]
  exact hu
theorem entC_one {x : EntV} (h : x.2.oneCell' = true) : ∀ u ∈ entC x, u.oneCell' = true := by
  intro u hu
  simp only [entC, List.mem_cons, List.mem_append, List.not_mem_nil, or_false] at hu
  rcases hu with rfl | rfl | hu | rfl
  · rfl
  · rfl
  · exact byteCells_one _ u hu
  · exact h
def entOne (b : Bs) (fin pos : Nat) : Option (Ent × Nat) :=
  if pos < fin ∧ (b.getD pos 0).toNat ≤ 1 then
    if b.getD pos 0 = 1 then
      if fin - (pos + 1) < 32 then none
      else (textP b (pos + 33) fin).map fun x => (⟨pos, true, ((b.take fin).drop (pos + 1)).take 32, x.1⟩, x.2)
    else (textP b (pos + 1) fin).map fun x => (⟨pos, false, List.replicate 32 0, x.1⟩, x.2)
  else none
def entGo (b : Bs) (fin first : Nat) : Nat → Option (List Ent × Nat)
  | 0 => some ([], first)
  | i + 1 => (entGo b fin first i).bind fun x => (entOne b fin x.2).map fun y => (x.1 ++ [y.1], y.2)
theorem entGo_none {b : Bs} {fin first i : Nat} (h : entGo b fin first i = none) : ∀ k, entGo b fin first (i + k) = none
  | 0 => h
  | k + 1 => by
    show (entGo b fin first (i + k)).bind _ = none
    rw [entGo_none h k]
    rfl
theorem entGo_step {b : Bs} {fin first i : Nat} {es : List Ent} {p : Nat} (h : entGo b fin first i = some (es, p)) : entGo b fin first (i + 1) = (entOne b fin p).map fun y => (es ++ [y.1], y.2) := by
  show (entGo b fin first i).bind _ = _
  rw [h]
  rfl
def entriesP (b : Bs) (n first fin : Nat) : Option (List Ent) := (entGo b fin first n).bind fun x => if x.2 = fin then some x.1 else none
theorem textP_le {b : Bs} {a fin : Nat} {s : Bs} {n : Nat} (h : textP b a fin = some (s, n)) (ha : a ≤ fin) (hf : fin ≤ b.length) : n ≤ fin ∧ a ≤ n := by
  unfold textP at h
  split at h
  · cases h
  · split at h
    · cases h
    · split at h
      · cases h
      · rename_i h1
        cases h
        rw [List.length_take] at h1
        omega
open Go.RowKit
set_option maxRecDepth 100000
theorem pk10_ty24 : Tryd.prog.underlying 24 = some (.slice 5) := by kernel_rfl
theorem pk10_sz5 : ∀ w' : World, (sizeOf 5).run Tryd.prog w' = .ok 1 w' := fun _ => by kernel_rfl
theorem pk10_pl87 : Plain Tryd.prog 87 := fun _ _ => by kernel_rfl
theorem pk10_pl64 : Plain Tryd.prog 64 := fun _ _ => by kernel_rfl
theorem text_any (w : World) (v : Value) (b : Bs) (hr : RB w v b) (a fin : Nat) (ha : a ≤ fin) (hf : fin ≤ b.length) :
  Calls Tryd.prog 76 #[v, NI a, NI fin] w fun r w' => (∃ x, r = .returned x ∧ ∃ s n, textP b a fin = some (s, n) ∧ x = .tuple #[St s, NI n] ∧ Ext w w') ∨ ∃ ch, r = .panicked ch ∧ textP b a fin = none ∧ ch = [stopE 6] ∧ Ext w w' := by
 refine calls_of_wpP (args := [v, NI a, NI fin]) Tryd.func76 rfl 25 rfl (Nat.le_of_ble_eq_true rfl) ?_
 intro ρ0 hb
 have T0 : ρ0 0 = (v : Value) := hb.get 0
 have T1 : ρ0 1 = (NI a : Value) := hb.get 1
 have T2 : ρ0 2 = (NI fin : Value) := hb.get 2
 clear hb
 have hE := Ext.refl w
 refine sk fun K1 hK1 => (wt (oA rfl (oA rfl (oZ ?_))))
 have htk : (b.take fin).length = fin := by rw [List.length_take]; omega
 rcases hd : lebDec 0 ((b.take fin).drop a) with _ | ⟨xn, xk⟩
 ·have hP : textP b a fin = none := by unfold textP; rw [hd]
  refine tN (hK1 _ _ (sk fun K2 hK2 => (wt (oM rfl (oM rfl (oS rfl (Yk.sliceHi (xs := b) (n := fin) pk10_ty24 pk10_sz5 T0 (hr.keep hE) T2 (by omega) fun v3 hr4 ha5 => (oM rfl (oS rfl (Yk.callA3 pk10_pl87 (vr v3 rfl) T1 (vr (NI 1048576) rfl) ?_))))))))))
  refine ((show Calls _ _ _ _ (fun e w2 => e = .returned (.tuple #[St (([] : List UInt8)), NI 0, NI 6]) ∧ Ext _ w2) from (getText_in _ v3 (b.take (fin)) hr4 a (by omega) 1048576).mono fun e w2 ⟨h1, h2⟩ => by subst h2; subst h1; refine ⟨?_, Ext.refl _⟩; unfold getTextRes; rw [hd]; simp only; rfl)).mono ?_
  rintro e w7 ⟨rfl, hx6⟩
  refine ⟨_, rfl, ?_⟩
  have hE := hE.trans hx6
  have hr4 := hr4.keep hx6
  refine oM rfl (oS rfl (Yk.extract (vs := [St (([] : List UInt8)), NI 0, NI 6]) (vr (.tuple #[St (([] : List UInt8)), NI 0, NI 6]) rfl) (show _ = some (St (([] : List UInt8)) : Value) from rfl) (oS rfl (Yk.extract (vs := [St (([] : List UInt8)), NI 0, NI 6]) (vr (.tuple #[St (([] : List UInt8)), NI 0, NI 6]) rfl) (show _ = some (NI 0 : Value) from rfl) (oS rfl (Yk.extract (vs := [St (([] : List UInt8)), NI 0, NI 6]) (vr (.tuple #[St (([] : List UInt8)), NI 0, NI 6]) rfl) (show _ = some (NI 6 : Value) from rfl) (oA rfl (oA rfl (oA rfl (oZ (tN (hK2 _ _ (sk fun K8 hK8 => (wt (oM rfl (oS rfl (Yk.eqI (a := (6 : Nat)) (b := (0 : Nat)) rfl rfl (k_eql _ _ _ _) (oP rfl (Yp.callA2 pk10_pl64 (vr (.bool (decide ((6 : Nat) = (0)))) rfl) (vr (NI 6) rfl) ?_)))))))))))))))))))
  refine calls_either (need_any _ (decide ((6 : Nat) = (0))) 6) ?_ ?_
  rotate_left
  ·
   rintro ch w11 ⟨rfl, hb, hx⟩
   refine thenF_panic (postP_panic ?_)
   have hno := of_decide_eq_false hb
   exact .inr ⟨_, rfl, hP, rfl, hE.trans hx⟩
  rintro v_ w13 ⟨rfl, hb9, hx10⟩
  have hE := hE.trans hx10
  have hr4 := hr4.keep hx10
  have hn14 := of_decide_eq_true hb9
  refine oZ (tN (hK8 _ _ (sk fun K15 hK15 => (wt (oM rfl (oM rfl (oA rfl (oA rfl (oZ (tN (hK15 _ _ (wpF_ret (postP_ret (fn := Tryd.f76) _ rfl [St (([] : List UInt8)), NI 0] (.tuple #[St (([] : List UInt8)), NI 0]) rfl ⟨rfl, rfl, trivial⟩ ?_)))))))))))))
  omega
 by_cases hm : 1048576 < xn
 ·have hP : textP b a fin = none := by unfold textP; rw [hd]; simp only; rw [if_pos hm]
  refine tN (hK1 _ _ (sk fun K16 hK16 => (wt (oM rfl (oM rfl (oS rfl (Yk.sliceHi (xs := b) (n := fin) pk10_ty24 pk10_sz5 T0 (hr.keep hE) T2 (by omega) fun v17 hr18 ha19 => (oM rfl (oS rfl (Yk.callA3 pk10_pl87 (vr v17 rfl) T1 (vr (NI 1048576) rfl) ?_))))))))))
  refine ((show Calls _ _ _ _ (fun e w2 => e = .returned (.tuple #[St (([] : List UInt8)), NI 0, NI 2]) ∧ Ext _ w2) from (getText_in _ v17 (b.take (fin)) hr18 a (by omega) 1048576).mono fun e w2 ⟨h1, h2⟩ => by subst h2; subst h1; refine ⟨?_, Ext.refl _⟩; unfold getTextRes; rw [hd]; simp only; rw [if_pos (by omega)]; rfl)).mono ?_
  rintro e w21 ⟨rfl, hx20⟩
  refine ⟨_, rfl, ?_⟩
  have hE := hE.trans hx20
  have hr18 := hr18.keep hx20
  refine oM rfl (oS rfl (Yk.extract (vs := [St (([] : List UInt8)), NI 0, NI 2]) (vr (.tuple #[St (([] : List UInt8)), NI 0, NI 2]) rfl) (show _ = some (St (([] : List UInt8)) : Value) from rfl) (oS rfl (Yk.extract (vs := [St (([] : List UInt8)), NI 0, NI 2]) (vr (.tuple #[St (([] : List UInt8)), NI 0, NI 2]) rfl) (show _ = some (NI 0 : Value) from rfl) (oS rfl (Yk.extract (vs := [St (([] : List UInt8)), NI 0, NI 2]) (vr (.tuple #[St (([] : List UInt8)), NI 0, NI 2]) rfl) (show _ = some (NI 2 : Value) from rfl) (oA rfl (oA rfl (oA rfl (oZ (tN (hK16 _ _ (sk fun K22 hK22 => (wt (oM rfl (oS rfl (Yk.eqI (a := (2 : Nat)) (b := (0 : Nat)) rfl rfl (k_eql _ _ _ _) (oP rfl (Yp.callA2 pk10_pl64 (vr (.bool (decide ((2 : Nat) = (0)))) rfl) (vr (NI 6) rfl) ?_)))))))))))))))))))
  refine calls_either (need_any _ (decide ((2 : Nat) = (0))) 6) ?_ ?_
  rotate_left
  ·
   rintro ch w25 ⟨rfl, hb, hx⟩
   refine thenF_panic (postP_panic ?_)
   have hno := of_decide_eq_false hb
   exact .inr ⟨_, rfl, hP, rfl, hE.trans hx⟩
  rintro v_ w27 ⟨rfl, hb23, hx24⟩
  have hE := hE.trans hx24
  have hr18 := hr18.keep hx24
  have hn28 := of_decide_eq_true hb23
  refine oZ (tN (hK22 _ _ (sk fun K29 hK29 => (wt (oM rfl (oM rfl (oA rfl (oA rfl (oZ (tN (hK29 _ _ (wpF_ret (postP_ret (fn := Tryd.f76) _ rfl [St (([] : List UInt8)), NI 0] (.tuple #[St (([] : List UInt8)), NI 0]) rfl ⟨rfl, rfl, trivial⟩ ?_)))))))))))))
  omega
 by_cases hl : (b.take fin).length < a + xk + xn
 ·have hP : textP b a fin = none := by unfold textP; rw [hd]; simp only; rw [if_neg hm, if_pos hl]
  refine tN (hK1 _ _ (sk fun K30 hK30 => (wt (oM rfl (oM rfl (oS rfl (Yk.sliceHi (xs := b) (n := fin) pk10_ty24 pk10_sz5 T0 (hr.keep hE) T2 (by omega) fun v31 hr32 ha33 => (oM rfl (oS rfl (Yk.callA3 pk10_pl87 (vr v31 rfl) T1 (vr (NI 1048576) rfl) ?_))))))))))
  refine ((show Calls _ _ _ _ (fun e w2 => e = .returned (.tuple #[St (([] : List UInt8)), NI 0, NI 6]) ∧ Ext _ w2) from (getText_in _ v31 (b.take (fin)) hr32 a (by omega) 1048576).mono fun e w2 ⟨h1, h2⟩ => by subst h2; subst h1; refine ⟨?_, Ext.refl _⟩; unfold getTextRes; rw [hd]; simp only; rw [if_neg (by omega), if_pos hl]; rfl)).mono ?_
  rintro e w35 ⟨rfl, hx34⟩
  refine ⟨_, rfl, ?_⟩
  have hE := hE.trans hx34
  have hr32 := hr32.keep hx34
  refine oM rfl (oS rfl (Yk.extract (vs := [St (([] : List UInt8)), NI 0, NI 6]) (vr (.tuple #[St (([] : List UInt8)), NI 0, NI 6]) rfl) (show _ = some (St (([] : List UInt8)) : Value) from rfl) (oS rfl (Yk.extract (vs := [St (([] : List UInt8)), NI 0, NI 6]) (vr (.tuple #[St (([] : List UInt8)), NI 0, NI 6]) rfl) (show _ = some (NI 0 : Value) from rfl) (oS rfl (Yk.extract (vs := [St (([] : List UInt8)), NI 0, NI 6]) (vr (.tuple #[St (([] : List UInt8)), NI 0, NI 6]) rfl) (show _ = some (NI 6 : Value) from rfl) (oA rfl (oA rfl (oA rfl (oZ (tN (hK30 _ _ (sk fun K36 hK36 => (wt (oM rfl (oS rfl (Yk.eqI (a := (6 : Nat)) (b := (0 : Nat)) rfl rfl (k_eql _ _ _ _) (oP rfl (Yp.callA2 pk10_pl64 (vr (.bool (decide ((6 : Nat) = (0)))) rfl) (vr (NI 6) rfl) ?_)))))))))))))))))))
  refine calls_either (need_any _ (decide ((6 : Nat) = (0))) 6) ?_ ?_
  rotate_left
  ·
   rintro ch w39 ⟨rfl, hb, hx⟩
   refine thenF_panic (postP_panic ?_)
   have hno := of_decide_eq_false hb
   exact .inr ⟨_, rfl, hP, rfl, hE.trans hx⟩
  rintro v_ w41 ⟨rfl, hb37, hx38⟩
  have hE := hE.trans hx38
  have hr32 := hr32.keep hx38
  have hn42 := of_decide_eq_true hb37
  refine oZ (tN (hK36 _ _ (sk fun K43 hK43 => (wt (oM rfl (oM rfl (oA rfl (oA rfl (oZ (tN (hK43 _ _ (wpF_ret (postP_ret (fn := Tryd.f76) _ rfl [St (([] : List UInt8)), NI 0] (.tuple #[St (([] : List UInt8)), NI 0]) rfl ⟨rfl, rfl, trivial⟩ ?_)))))))))))))
  omega
 have hP : textP b a fin = some (((b.take fin).drop (a + xk)).take xn, a + xk + xn) := by unfold textP; rw [hd]; simp only; rw [if_neg hm, if_neg hl]
 refine tN (hK1 _ _ (sk fun K44 hK44 => (wt (oM rfl (oM rfl (oS rfl (Yk.sliceHi (xs := b) (n := fin) pk10_ty24 pk10_sz5 T0 (hr.keep hE) T2 (by omega) fun v45 hr46 ha47 => (oM rfl (oS rfl (Yk.callA3 pk10_pl87 (vr v45 rfl) T1 (vr (NI 1048576) rfl) ?_))))))))))
 refine ((show Calls _ _ _ _ (fun e w2 => e = .returned (.tuple #[St (((b.take fin).drop (a + xk)).take xn), NI (a + xk + xn), NI 0]) ∧ Ext _ w2) from (getText_in _ v45 (b.take (fin)) hr46 a (by omega) 1048576).mono fun e w2 ⟨h1, h2⟩ => by subst h2; subst h1; refine ⟨?_, Ext.refl _⟩; unfold getTextRes; rw [hd]; simp only; rw [if_neg (by omega), if_neg hl]; rfl)).mono ?_
 rintro e w49 ⟨rfl, hx48⟩
 refine ⟨_, rfl, ?_⟩
 have hE := hE.trans hx48
 have hr46 := hr46.keep hx48
 refine oM rfl (oS rfl (Yk.extract (vs := [St (((b.take fin).drop (a + xk)).take xn), NI (a + xk + xn), NI 0]) (vr (.tuple #[St (((b.take fin).drop (a + xk)).take xn), NI (a + xk + xn), NI 0]) rfl) (show _ = some (St (((b.take fin).drop (a + xk)).take xn) : Value) from rfl) (oS rfl (Yk.extract (vs := [St (((b.take fin).drop (a + xk)).take xn), NI (a + xk + xn), NI 0]) (vr (.tuple #[St (((b.take fin).drop (a + xk)).take xn), NI (a + xk + xn), NI 0]) rfl) (show _ = some (NI (a + xk + xn) : Value) from rfl) (oS rfl (Yk.extract (vs := [St (((b.take fin).drop (a + xk)).take xn), NI (a + xk + xn), NI 0]) (vr (.tuple #[St (((b.take fin).drop (a + xk)).take xn), NI (a + xk + xn), NI 0]) rfl) (show _ = some (NI 0 : Value) from rfl) (oA rfl (oA rfl (oA rfl (oZ (tN (hK44 _ _ (sk fun K50 hK50 => (wt (oM rfl (oS rfl (Yk.eqI (a := (0 : Nat)) (b := (0 : Nat)) rfl rfl (k_eql _ _ _ _) (oP rfl (Yp.callA2 pk10_pl64 (vr (.bool (decide ((0 : Nat) = (0)))) rfl) (vr (NI 6) rfl) ?_)))))))))))))))))))
 refine calls_either (need_any _ (decide ((0 : Nat) = (0))) 6) ?_ ?_
 rotate_left
 ·
  rintro ch w53 ⟨rfl, hb, hx⟩
  refine thenF_panic (postP_panic ?_)
  have hno := of_decide_eq_false hb
  exact absurd rfl hno
 rintro v_ w55 ⟨rfl, hb51, hx52⟩
 have hE := hE.trans hx52
 have hr46 := hr46.keep hx52
 have hn56 := of_decide_eq_true hb51
 refine oZ (tN (hK50 _ _ (sk fun K57 hK57 => (wt (oM rfl (oM rfl (oA rfl (oA rfl (oZ (tN (hK57 _ _ (wpF_ret (postP_ret (fn := Tryd.f76) _ rfl [St (((b.take fin).drop (a + xk)).take xn), NI (a + xk + xn)] (.tuple #[St (((b.take fin).drop (a + xk)).take xn), NI (a + xk + xn)]) rfl ⟨rfl, rfl, trivial⟩ ?_)))))))))))))
 exact .inl ⟨_, rfl, _, _, hP, rfl, hE⟩
open Go.RowKit
def EntsIn (w : World) (va : Value) (xs : List EntV) : Prop := ∀ x ∈ xs, RB w x.2 x.1.bytes ∧ x.1.base.length = 32 ∧ ∀ k, x.2.ownBlock = some k → k < w.heap.size ∧ va.ownBlock ≠ some k
theorem EntsIn.keep {w w' : World} {va : Value} {xs : List EntV} (h : EntsIn w va xs) (k : Ext w w') : EntsIn w' va xs := fun x hx =>
  ⟨(h x hx).1.keep k, (h x hx).2.1, fun j hj => ⟨Nat.lt_of_lt_of_le ((h x hx).2.2 j hj).1 k.size, ((h x hx).2.2 j hj).2⟩⟩
theorem EntsIn.nil (w : World) (va : Value) : EntsIn w va [] := fun x hx => by cases hx
theorem EntsIn.snoc {w : World} {va : Value} {xs : List EntV} (h : EntsIn w va xs) {x : EntV} (h1 : RB w x.2 x.1.bytes) (h2 : x.1.base.length = 32) (h3 : ∀ k, x.2.ownBlock = some k → k < w.heap.size ∧ va.ownBlock ≠ some k) : EntsIn w va (xs ++ [x]) := fun y hy => by
  rcases List.mem_append.1 hy with hy | hy
  · exact h y hy
  · rw [List.mem_singleton.1 hy]; exact ⟨h1, h2, h3⟩
theorem rb_grewX {w w' : World} {v v' x : Value} {m : List UInt8} (h : RB w x m) (hx : ∀ k, x.ownBlock = some k → v.ownBlock ≠ some k) (gr : Grew w w' v v') : RB w' x m := by
  refine h.kept gr.by_ ?_
  cases hv : x.ownBlock with
  | none => exact .inl rfl
  | some g => exact .inr (fun e => hx g hv (by rw [← e]))
theorem EntsIn.grew {w w' : World} {va va' : Value} {xs : List EntV} (h : EntsIn w va xs) (g : Grew w w' va va') : EntsIn w' va' xs := fun x hx =>
  ⟨rb_grewX (h x hx).1 (fun k hk => ((h x hx).2.2 k hk).2) g, (h x hx).2.1, fun j hj => ⟨Nat.lt_of_lt_of_le ((h x hx).2.2 j hj).1 g.by_.size, fun e => (g.fresh j e).elim (fun q => ((h x hx).2.2 j hj).2 q) (fun q => by have := ((h x hx).2.2 j hj).1; omega)⟩⟩
theorem EntsIn.ok {w : World} {va : Value} {xs : List EntV} (h : EntsIn w va xs) : EntsOk w xs := fun x hx => ⟨(h x hx).1, (h x hx).2.1⟩
section
variable {P : Program} {K : Value → World → Prop} {ρ : Slots} {w : World} {d : Option Tmp} {ty : TypeId} {pos : String} {af : Array Edge} {gd : Option (Nat × Bool)}
theorem Yk.convStr {t e s : TypeId} {u : TypeDesc} (hs : P.underlying s = some u) (ht : P.underlying t = some (.slice e)) (he : P.underlying e = some (.int .u8)) {x : Operand} {l : List UInt8} (hx : evalR ρ x = St l) (hl : l.length ≤ 9223372036854775807)
    (hk : ∀ v w', RB w' v l → Ext w w' → (∀ k, v.ownBlock = some k → w.heap.size ≤ k ∧ k < w'.heap.size) → K v w') : Yk P K ((execOp (evalR ρ) ⟨d, .convert s t x, ty, pos, af, gd⟩).run P w) := by
  have hr := Lib.run_convert_string_bytes (P := P) w s t e ⟨l.toArray⟩ hs ht he
  have hsz : (⟨l.toArray⟩ : ByteArray).size = l.length := by simp [ByteArray.size]
  rw [hsz] at hr
  refine Yk.value (v := .slice (some ⟨w.heap.size, 0, none⟩) l.length (grownCap w l.length 0 e)) (w' := Lib.bytesWorld w e ⟨l.toArray⟩) ?_ (hk _ _ ?_ (Lib.bytesWorld_below w e _) ?_)
  · unfold execOp
    simp only [hx, hr, Sem.run_bind, Sem.run_pure, Result.andThen_ok]
  · refine ⟨by rw [Lib.byteCells_length, Nat.mul_one], _, _, rfl, grownCap_ge w _ _ _, grownCap_le_maxLen w _ _ _ (by simpa [maxLen] using hl), (fun h => by cases h), fun a ha j u hu => ?_⟩
    cases ha
    have hj : j < l.length := by have := (List.getElem?_eq_some_iff.1 hu).1; rwa [Lib.byteCells_length] at this
    have hc := Lib.bytesWorld_cell w e ⟨l.toArray⟩ j (by rw [hsz]; exact hj)
    rw [show (⟨w.heap.size, 0, none⟩ : Addr).add j = ⟨w.heap.size, j, none⟩ by simp [Addr.add]; exact fun h => h.symm]
    rw [hc, ← hu, byte_at hj]
  · intro k hk
    cases hk
    rw [Lib.bytesWorld_size]
    exact ⟨Nat.le_refl _, Nat.lt_succ_self _⟩
theorem Yk.storeMid {t' : TypeId} {x y : Operand} {g o : Nat} {a m z cells : List Value} {t : TypeId} (hx : evalR ρ x = .pointer (some ⟨g, o, none⟩)) (hy : evalR ρ y = .agg cells.toArray) (hg : w.heap[g]? = some (.cells (a ++ m ++ z).toArray t (0, 0))) (ha : a.length = o) (hm : m.length = cells.length) (hi : (P.info? t').map (·.size) = some cells.length) (h1 : ∀ v ∈ cells, v.oneCell' = true)
    (hk : ∀ w', w'.heap[g]? = some (.cells (a ++ cells ++ z).toArray t (0, 0)) → w.grownBy w' (some g) → w'.heap.size = w.heap.size → K undef w') : Yk P K ((execOp (evalR ρ) ⟨d, .store t' x y, ty, pos, af, gd⟩).run P w) := by
  have hst := run_storeCells_at P g o t cells 0 (a ++ m ++ z).toArray w hg (by simp; omega) h1
  have e : ((a ++ m ++ z).toArray.toList.take (o + 0) ++ cells ++ (a ++ m ++ z).toArray.toList.drop (o + 0 + cells.length)) = a ++ cells ++ z := by
    have e1 : (a ++ m ++ z).take o = a := by rw [List.append_assoc, ← ha, List.take_left']; rfl
    have e2 : (a ++ m ++ z).drop (o + cells.length) = z := List.drop_left' (by rw [List.length_append]; omega)
    rw [List.toList_toArray, Nat.add_zero, e1, e2]
  rw [e] at hst
  have hr : (Instr.storeAt t' (.pointer (some ⟨g, o, none⟩)) (.agg cells.toArray)).run P w = .ok () (w.setRow g (a ++ cells ++ z).toArray) := by
    cases hq : P.info? t' with
    | none => simp [hq] at hi
    | some i =>
      have hsz : cells.length = i.size := by simp [hq] at hi; omega
      simp [Instr.storeAt, Instr.sureAddr, storeVar, sizeOf, typeInfo, hq, Value.cells, hsz] at hst ⊢
      simp [hst]
  unfold execOp
  simp only [hx, hy, hr, Sem.run_bind, Result.andThen_ok, Sem.run_pure]
  exact hk _ (setRow_heap w g (a ++ m ++ z).toArray _ t (0, 0) hg) ⟨rfl, rfl, rfl, by simp, fun k _ hk => setRow_other w g k _ (fun e => hk (by rw [e]))⟩ (by simp)
theorem entC_mid (p : Nat) (q : Bool) (B s : Bs) (v : Value) : entC (⟨p, q, B, s⟩, v) = [NI p, .bool q] ++ Lib.byteCells B ++ [v] := rfl
theorem Yk.entBase {t' : TypeId} {x y : Operand} {g p : Nat} {q : Bool} {B B' s : Bs} {v : Value} {t : TypeId} (hx : evalR ρ x = .pointer (some ⟨g, 2, none⟩)) (hy : evalR ρ y = .agg (Lib.byteCells B').toArray) (hg : w.heap[g]? = some (.cells (entC (⟨p, q, B, s⟩, v)).toArray t (0, 0))) (hB : B.length = 32) (hB' : B'.length = 32) (hi : (P.info? t').map (·.size) = some 32)
    (hk : ∀ w', w'.heap[g]? = some (.cells (entC (⟨p, q, B', s⟩, v)).toArray t (0, 0)) → w.grownBy w' (some g) → w'.heap.size = w.heap.size → K undef w') : Yk P K ((execOp (evalR ρ) ⟨d, .store t' x y, ty, pos, af, gd⟩).run P w) :=
  Yk.storeMid (a := [NI p, .bool q]) (m := Lib.byteCells B) (z := [v]) hx hy (by rw [← entC_mid]; exact hg) rfl (by rw [Lib.byteCells_length, Lib.byteCells_length, hB, hB']) (by rw [Lib.byteCells_length, hB']; exact hi) (byteCells_one _) hk
theorem entC_setV (p : Nat) (q : Bool) (B s : Bs) (v v' : Value) (hB : B.length = 32) : (entC (⟨p, q, B, s⟩, v)).set 34 v' = entC (⟨p, q, B, s⟩, v') := by
  rw [entC_mid, entC_mid, List.set_append_right _ _ (by simp [Lib.byteCells, hB])]
  congr 1
  simp [Lib.byteCells, hB]
theorem Yk.entVal {t' : TypeId} {x y : Operand} {g p : Nat} {q : Bool} {B s s' : Bs} {v v' : Value} {t : TypeId} (hx : evalR ρ x = .pointer (some ⟨g, 34, none⟩)) (hy : evalR ρ y = v') (hg : w.heap[g]? = some (.cells (entC (⟨p, q, B, s⟩, v)).toArray t (0, 0))) (hB : B.length = 32) (hi : (P.info? t').map (·.size) = some 1) (hr : RB w v' s')
    (hk : ∀ w', w'.heap[g]? = some (.cells (entC (⟨p, q, B, s'⟩, v')).toArray t (0, 0)) → w.grownBy w' (some g) → w'.heap.size = w.heap.size → K undef w') : Yk P K ((execOp (evalR ρ) ⟨d, .store t' x y, ty, pos, af, gd⟩).run P w) :=
  Yk.storeC (i := 34) hx hy hg (by rw [entC_len (x := (⟨p, q, B, s⟩, v)) hB]; decide) hi hr.one.1 hr.one.2 fun w' h1 h2 h3 => hk w' (by rw [entC_setV p q B s v v' hB] at h1; exact h1) h2 h3
end
theorem entC_isz {P : Program} {t : TypeId} {x : EntV} (hi : (P.info? t).map (·.size) = some 35) (h : x.1.base.length = 32) : (P.info? t).map (·.size) = some (entC x).toArray.size := by rw [List.size_toArray, entC_len h]; exact hi
theorem entC_size {x y : EntV} (h : x.1.base.length = 32) (h' : y.1.base.length = 32) : (entC x).toArray.size = (entC y).toArray.size := by rw [List.size_toArray, List.size_toArray, entC_len h, entC_len h']
theorem entOne_in {b : Bs} {fin pos : Nat} (h : pos < fin ∧ (b.getD pos 0).toNat ≤ 1) : entOne b fin pos =
    if b.getD pos 0 = 1 then
      if fin - (pos + 1) < 32 then none
      else (textP b (pos + 33) fin).map fun x => (⟨pos, true, ((b.take fin).drop (pos + 1)).take 32, x.1⟩, x.2)
    else (textP b (pos + 1) fin).map fun x => (⟨pos, false, List.replicate 32 0, x.1⟩, x.2) := if_pos h
theorem textP_len {b : Bs} {a fin : Nat} {s : Bs} {n : Nat} (h : textP b a fin = some (s, n)) (hf : fin ≤ b.length) : s.length ≤ b.length := by
  unfold textP at h
  split at h
  · cases h
  · split at h
    · cases h
    · split at h
      · cases h
      · cases h
        rw [List.length_take, List.length_drop, List.length_take]
        omega
theorem entOne_pos {b : Bs} {fin pos : Nat} {e : Ent} {n : Nat} (h : entOne b fin pos = some (e, n)) (hf : fin ≤ b.length) : n ≤ fin ∧ pos < n := by
  unfold entOne at h
  split at h
  · rename_i hc
    split at h
    · split at h
      · cases h
      · cases ht : textP b (pos + 33) fin with
        | none => rw [ht] at h; cases h
        | some x => rw [ht] at h; cases h; have := textP_le ht (by omega) hf; omega
    · cases ht : textP b (pos + 1) fin with
      | none => rw [ht] at h; cases h
      | some x => rw [ht] at h; cases h; have := textP_le ht (by omega) hf; omega
  · cases h
open Go.RowKit
set_option maxRecDepth 100000
theorem pk12_ty24 : Tryd.prog.underlying 24 = some (.slice 5) := by kernel_rfl
theorem pk12_sz5 : ∀ w' : World, (sizeOf 5).run Tryd.prog w' = .ok 1 w' := fun _ => by kernel_rfl
theorem pk12_ty5 : Tryd.prog.underlying 5 = some (.int .u8) := by kernel_rfl
theorem pk12_pl64 : Plain Tryd.prog 64 := fun _ _ => by kernel_rfl
theorem pk12_bdEnt (z0 : Int) (z1 : Bool) (w : World) : (Instr.build 116 #[(0, .int .i64 z0), (1, .bool z1)]).run Tryd.prog w = .ok (.agg (Value.int .i64 z0 :: Value.bool z1 :: (Lib.byteCells (List.replicate 32 0) ++ [Value.slice none 0 0])).toArray) w := by kernel_rfl
theorem pk12_al116 {d : Option Tmp} {ty : TypeId} {pos : String} {af : Array Edge} {gd : Option (Nat × Bool)} (σ : Operand → Value) (w : World) : (execOp σ ⟨d, .alloc 116, ty, pos, af, gd⟩).run Tryd.prog w = .ok (.value (PQ w.heap.size 0)) (w.alloc (.cells (entC dEnt).toArray 116)) := by kernel_rfl
theorem pk12_isz116 : (Tryd.prog.info? 116).map (·.size) = some 35 := by kernel_rfl
theorem pk12_fo116_1 : FieldOff Tryd.prog 116 1 1 := fun b o w => by simp [go_sem]
theorem pk12_ty4 : Tryd.prog.underlying 4 = some (.bool) := by kernel_rfl
theorem pk12_pl75 : Plain Tryd.prog 75 := fun _ _ => by kernel_rfl
theorem pk12_al38 {d : Option Tmp} {ty : TypeId} {pos : String} {af : Array Edge} {gd : Option (Nat × Bool)} (σ : Operand → Value) (w : World) : (execOp σ ⟨d, .alloc 38, ty, pos, af, gd⟩).run Tryd.prog w = .ok (.value (PQ w.heap.size 0)) (w.alloc (.cells (Lib.byteCells (List.replicate 32 0)).toArray 38)) := by kernel_rfl
theorem pk12_ty38 : Tryd.prog.underlying 38 = some (.array 32 5) := by kernel_rfl
theorem pk12_fo116_2 : FieldOff Tryd.prog 116 2 2 := fun b o w => by simp [go_sem]
theorem pk12_isz38 : (Tryd.prog.info? 38).map (·.size) = some 32 := by kernel_rfl
theorem pk12_pl76 : Plain Tryd.prog 76 := fun _ _ => by kernel_rfl
theorem pk12_ty9 : Tryd.prog.underlying 9 = some (.string) := by kernel_rfl
theorem pk12_fo116_3 : FieldOff Tryd.prog 116 3 34 := fun b o w => by simp [go_sem]
theorem pk12_isz24 : (Tryd.prog.info? 24).map (·.size) = some 1 := by kernel_rfl
theorem pk12_ty116 : ∃ fs, Tryd.prog.underlying 116 = some (.struct fs) := struct_of (by kernel_rfl)
theorem pk12_lh110 (c0 c1 c2 c3 c4 c5 c6 c7 c8 c9 c10 c11 c12 c13 c14 c15 c16 c17 c18 c19 c20 c21 c22 c23 c24 c25 c26 c27 c28 c29 c30 c31 c32 c33 c34 : Value) (w : World) : (Instr.buildSlice 110 1 #[(0, .agg #[c0, c1, c2, c3, c4, c5, c6, c7, c8, c9, c10, c11, c12, c13, c14, c15, c16, c17, c18, c19, c20, c21, c22, c23, c24, c25, c26, c27, c28, c29, c30, c31, c32, c33, c34])]).run Tryd.prog w = .ok (.slice (some ⟨w.heap.size, 0, none⟩) 1 1) (w.alloc (.cells #[c0, c1, c2, c3, c4, c5, c6, c7, c8, c9, c10, c11, c12, c13, c14, c15, c16, c17, c18, c19, c20, c21, c22, c23, c24, c25, c26, c27, c28, c29, c30, c31, c32, c33, c34] 116)) := by kernel_rfl
theorem pk12_lg110 : ∀ (cs : Array Value), cs.size = 35 → ∀ w : World, (Instr.buildSlice 110 1 #[(0, .agg cs)]).run Tryd.prog w = .ok (.slice (some ⟨w.heap.size, 0, none⟩) 1 1) (w.alloc (.cells cs 116))
 | ⟨c0 :: c1 :: c2 :: c3 :: c4 :: c5 :: c6 :: c7 :: c8 :: c9 :: c10 :: c11 :: c12 :: c13 :: c14 :: c15 :: c16 :: c17 :: c18 :: c19 :: c20 :: c21 :: c22 :: c23 :: c24 :: c25 :: c26 :: c27 :: c28 :: c29 :: c30 :: c31 :: c32 :: c33 :: c34 :: []⟩, _, w => pk12_lh110 c0 c1 c2 c3 c4 c5 c6 c7 c8 c9 c10 c11 c12 c13 c14 c15 c16 c17 c18 c19 c20 c21 c22 c23 c24 c25 c26 c27 c28 c29 c30 c31 c32 c33 c34 w
theorem pk12_ig116 : ∃ z, (Tryd.prog.info? 116).map (fun i => (i.zero, i.size, i.bytes)) = some (some z, 35, 72) ∧ z.cells.size = 35 := info_ex (by kernel_rfl)
theorem pk12_ty110 : Tryd.prog.underlying 110 = some (.slice 116) := by kernel_rfl
theorem entries_any (w : World) (v : Value) (b : Bs) (hr : RB w v b) (n first fin : Nat) (hff : first ≤ fin) (hf : fin ≤ b.length) (hn : n ≤ 1048576) (hb : b.length ≤ 1048576) :
  Calls Tryd.prog 65 #[v, NI n, NI first, NI fin] w fun r w' => (∃ x, r = .returned x ∧ ∃ es : List EntV, entriesP b n first fin = some (es.map Prod.fst) ∧ RG 35 entC w' x es ∧ EntsOk w' es ∧ Ext w w') ∨ ∃ ch, r = .panicked ch ∧ entriesP b n first fin = none ∧ ch = [stopE 6] ∧ Ext w w' := by
 refine calls_of_wpP (args := [v, NI n, NI first, NI fin]) Tryd.func65 rfl 77 rfl (Nat.le_of_ble_eq_true rfl) ?_
 intro ρ0 hb
 have T0 : ρ0 0 = (v : Value) := hb.get 0
 have T1 : ρ0 1 = (NI n : Value) := hb.get 1
 have T2 : ρ0 2 = (NI first : Value) := hb.get 2
 have T3 : ρ0 3 = (NI fin : Value) := hb.get 3
 clear hb
 have hE := Ext.refl w
 refine sk fun K1 hK1 => (wt (oA rfl (oZ (tN (hK1 _ _ (sk fun K2 hK2 => (wt (oA rfl (oZ ?_)))))))))
 have hen0 : OG w.heap.size 116 35 entC w (Value.slice none 0 0) ([] : List EntV) := OG.nil _ _ _ _ _
 refine tN (hK2 _ _ (sk fun K3 hK3 => (sk fun K4 hK4 => (wt (oM rfl (oM rfl (oL_ [(0, v), (1, NI n), (2, NI first), (3, NI fin), (8, (Value.slice none 0 0)), (9, (Value.slice none 0 0)), (16, NI n), (17, NI 0)] ⟨T0, T1, T2, T3, rfl, rfl, T1, rfl, trivial⟩ fun ρ5 ⟨T0, T1, T2, T3, T8, T9, T16, T17, _⟩ => (tN (hK4 _ _ (wpF_block (wpF_loop (fun (ρ : Slots) (wz : World) => ∃ i : Nat, ∃ es : List EntV, ∃ p : Nat, ∃ va : Value, ρ 0 = (v : Value) ∧ ρ 1 = (NI n : Value) ∧ ρ 3 = (NI fin : Value) ∧ ρ 8 = ((Value.slice none 0 0) : Value) ∧ ρ 16 = (NI n : Value) ∧ ρ 17 = (NI i : Value) ∧ ρ 2 = (NI p : Value) ∧ ρ 9 = (va : Value) ∧ Ext w wz ∧ EntsIn wz va es ∧ OG w.heap.size 116 35 (entC) wz va (es) ∧ (entGo b fin first i = some (es.map Prod.fst, p)) ∧ (i ≤ n) ∧ (p ≤ fin) ∧ (es.length = i) ∧ True) (fun ρ _ => n - (intOf (ρ 17)).toNat) ⟨0, [], first, (Value.slice none 0 0), T0, T1, T3, T8, T16, T17, T2, T9, hE, EntsIn.nil _ _, og_eq hen0 (rfl), rfl, Nat.zero_le _, by omega, rfl, trivial⟩ ?_)))))))))))
 clear hen0
 clear hE
 rintro ρ6 w7 ⟨i, es, p, va, T0, T1, T3, T8, T16, T17, T2, T9, hE, hEn, hr_va, hs, hi, hp, hil, -⟩
 have q17 := T17
 refine sk fun K8 hK8 => (wt (oS rfl (Yk.eqI (a := (i : Nat)) (b := (n : Nat)) T17 T16 (k_lss _ _ _ _) (oZ (tN (hK8 _ _ (sk fun K9 hK9 => ?_)))))))
 refine wpF_cond ((i) < (n)) (vr (.bool (decide ((i) < (n)))) rfl) (fun hc0 => ?_) (fun hc0 => ?_)
 ·have hil0 : i < n := hc0
  have hst := entGo_step hs
  have hlen : (b.take fin).length = fin := by rw [List.length_take]; omega
  by_cases hlt : p < fin
  ·by_cases hle : (b.getD p 0).toNat ≤ 1
   ·have hO1 := entOne_in ⟨hlt, hle⟩
    by_cases h1 : b.getD p 0 = 1
    ·rw [if_pos h1] at hO1
     have h1n : (b.getD p 0).toNat = 1 := by rw [h1]; rfl
     by_cases hg : fin - (p + 1) < 32
     ·rw [if_pos hg] at hO1
      refine wpF_skip (tN (hK9 _ _ (sk fun K10 hK10 => (wpF_block (sk fun K11 hK11 => (wt (oM rfl (oM rfl (oS rfl (Yk.eqI (a := (p : Nat)) (b := (fin : Nat)) T2 T3 (k_lss _ _ _ _) (oM rfl (oY (d := 22) rfl rfl (vr (.bool (true)) (congrArg Value.bool (decide_eq_true (hlt)))) (Yk.move T0 (oY (d := 22) rfl rfl (vr (.bool (true)) (congrArg Value.bool (decide_eq_true (hlt)))) (Yk.move T2 (oY (d := 22) rfl rfl (vr (.bool (true)) (congrArg Value.bool (decide_eq_true (hlt)))) (Yk.atRB (l := b) (i := p) pk12_ty24 pk12_sz5 (RB.of (hr.keep hE) (vr v rfl)) (vr (NI p) rfl) (by omega) fun v12 hp13 => (oY (d := 22) rfl rfl (vr (.bool (true)) (congrArg Value.bool (decide_eq_true (hlt)))) (Yk.loadC pk12_ty5 rfl (PCell.of hp13 (vr v12 rfl)) (oY (d := 22) rfl rfl (vr (.bool (true)) (congrArg Value.bool (decide_eq_true (hlt)))) (Yk.eqI (a := ((b.getD (p) 0).toNat : Nat)) (b := (1 : Nat)) rfl rfl (k_leq _ _ _ _) (oS rfl (Yk.pickT (vr (.bool (true)) (congrArg Value.bool (decide_eq_true (hlt)))) (vr (.bool (true)) (congrArg Value.bool (decide_eq_true (hle)))) ?_)))))))))))))))))))))))
      refine oP rfl (Yp.callA2 pk12_pl64 (vr (.bool (true)) rfl) (vr (NI 6) rfl) ?_)
      refine calls_either (need_any _ (true) 6) ?_ ?_
      rotate_left
      ·
       rintro ch w16 ⟨rfl, hb, hx⟩
       refine thenF_panic (inBlockF_panic (thenF_panic (thenF_panic (inBlockF_panic (thenF_panic (postP_panic ?_))))))
       cases hb
      rintro v_ w18 ⟨rfl, hb14, hx15⟩
      have hE := hE.trans hx15
      have hEn : EntsIn w18 va es := (hEn.keep hx15)
      have hr_va := hr_va.keep hx15
      have hp13 := hp13.keep hx15
      refine oZ ?_
      clear hp13
      refine tN (hK11 _ _ (sk fun K19 hK19 => (wt (oM rfl (oM rfl (oM rfl (oS rfl (Yk.atRB (l := b) (i := p) pk12_ty24 pk12_sz5 (RB.of (hr.keep hE) T0) T2 (by omega) fun v20 hp21 => (oS rfl (Yk.loadC pk12_ty5 rfl (PCell.of hp21 (vr v20 rfl)) (oS rfl (Yk.eqI (a := ((b.getD (p) 0).toNat : Nat)) (b := (1 : Nat)) rfl rfl (k_eql _ _ _ _) (oS rfl (Yk.build2 T2 (vr (.bool (true)) (congrArg Value.bool (decide_eq_true (h1n)))) (fun w => pk12_bdEnt (p : Int) true w) (oS rfl (Yk.alloc (cs := (entC dEnt).toArray) pk12_al116 fun n22 w23 hn24 hb25 hx26 hs27 => ?_))))))))))))))))
      have hA28 := Ext.refl w18
      have hea29 := hE
      have hz30 := hE.size
      have hap31 : OB va n22 := own_newer hr_va.2 (by omega)
      have hE := hE.trans hx26
      have hr_va := hr_va.keep hx26
      have hA28 := hA28.trans hx26
      have hb32 := hb25; clear hb25
      have hl33 : n22 < w23.heap.size := by omega
      refine oS rfl (Yk.storeAll (vr (PQ n22 0) rfl) (vr (.agg (entC ((⟨p, true, List.replicate 32 0, []⟩, .slice none 0 0))).toArray) rfl) hb32 (entC_size (x := ((⟨p, true, List.replicate 32 0, []⟩, .slice none 0 0) : EntV)) (y := dEnt) (by simp) (by simp [dEnt])) (entC_isz (x := ((⟨p, true, List.replicate 32 0, []⟩, .slice none 0 0) : EntV)) pk12_isz116 (by simp)) (entC_one (x := ((⟨p, true, List.replicate 32 0, []⟩, .slice none 0 0) : EntV)) rfl) fun w34 hb35 hg36 hs37 => ?_)
      have hE := row_fresh hE hg36 (Nat.le_trans hz30 (by omega))
      have hr_va := OG.kept hr_va hg36 hap31
      have hA28 := row_fresh hA28 hg36 (Nat.le_trans (Nat.le_refl _) (by omega))
      clear hb32
      have hb32 := hb35; clear hb35
      have hl38 := bl hb32
      refine oZ ?_
      clear hp21
      refine tN (hK19 _ _ (sk fun K39 hK39 => (wt (oM rfl (oS rfl (Yk.bin (xv := NI p) (yv := NI 1) T2 rfl rfl (i64_add _ _ _ (by omega)) (oA rfl (oZ (tN (hK39 _ _ (sk fun K40 hK40 => (sk fun K41 hK41 => (wt (oS rfl (Yk.fieldAt pk12_fo116_1 (vr (PQ n22 0) rfl) (oS rfl (Yk.cell1 pk12_ty4 rfl (vr (PQ n22 1) rfl) (cellAt hb32 (show (entC ((⟨p, true, List.replicate 32 0, []⟩, .slice none 0 0)))[1]? = some (.bool (true) : Value) from rfl)) (oZ (tN (hK41 _ _ (wpF_true (vr (.bool (true)) rfl) ?_)))))))))))))))))))))
      refine sk fun K42 hK42 => (wt (oM rfl (oM rfl (oS rfl (Yk.sliceHi (xs := b) (n := fin) pk12_ty24 pk12_sz5 T0 (hr.keep hE) T3 (by omega) fun v43 hr44 ha45 => (oM rfl (oS rfl (Yk.callA2 pk12_pl75 (vr v43 rfl) (vr (NI ((p) + (1))) rfl) ?_))))))))
      refine ((show Calls _ _ _ _ (fun e w2 => e = .returned (.tuple #[AB zero32, NI 0, NI 6]) ∧ Ext _ w2) from (getId_in _ v43 (b.take fin) hr44 (p + 1) (by omega)).mono fun e w2 ⟨h1, h2⟩ => by subst h1; refine ⟨?_, h2⟩; unfold getIdRes; rw [hlen]; rw [if_pos (by omega)]; rfl)).mono ?_
      rintro e w47 ⟨rfl, hx46⟩
      refine ⟨_, rfl, ?_⟩
      have hE := hE.trans hx46
      have hr_va := hr_va.keep hx46
      have hA28 := hA28.trans hx46
      have hb32 := eb hx46 hb32
      have hr44 := hr44.keep hx46
      refine oM rfl (oS rfl (Yk.extract (vs := [AB zero32, NI 0, NI 6]) (vr (.tuple #[AB zero32, NI 0, NI 6]) rfl) (show _ = some (AB zero32 : Value) from rfl) (oS rfl (Yk.extract (vs := [AB zero32, NI 0, NI 6]) (vr (.tuple #[AB zero32, NI 0, NI 6]) rfl) (show _ = some (NI 0 : Value) from rfl) (oS rfl (Yk.extract (vs := [AB zero32, NI 0, NI 6]) (vr (.tuple #[AB zero32, NI 0, NI 6]) rfl) (show _ = some (NI 6 : Value) from rfl) (oS rfl (Yk.alloc (cs := (Lib.byteCells (List.replicate 32 0)).toArray) pk12_al38 fun n48 w49 hn50 hb51 hx52 hs53 => ?_))))))))
      have hA54 := Ext.refl w47
      have hea55 := hE
      have hea56 := hA28
      have hz57 := hE.size
      have hz58 := hA28.size
      have hlt59 := lte (bl hb32) hn50
      have hap60 : OB va n48 := own_newer hr_va.2 (by omega)
      have hE := hE.trans hx52
      have hr_va := hr_va.keep hx52
      have hA28 := hA28.trans hx52
      have hb32 := eb hx52 hb32
      have hA54 := hA54.trans hx52
      have hb61 := hb51; clear hb51
      have hl62 : n48 < w49.heap.size := by omega
      refine oS rfl (Yk.storeAll (vr (PQ n48 0) rfl) (vr (AB zero32) rfl) hb61 (by exact idsize (by decide) List.length_replicate) (by exact sizeId_of (by decide)) (byteCells_one _) fun w63 hb64 hg65 hs66 => ?_)
      have hE := row_fresh hE hg65 (Nat.le_trans hz57 (by omega))
      have hr_va := OG.kept hr_va hg65 hap60
      have hA28 := row_fresh hA28 hg65 (Nat.le_trans hz58 (by omega))
      have hb32 := kb hg65 hb32 (by omega)
      have hA54 := row_fresh hA54 hg65 (Nat.le_trans (Nat.le_refl _) (by omega))
      clear hb61
      have hb61 := hb64; clear hb64
      have hl67 := bl hb61
      refine oA rfl (oA rfl (oZ (tN (hK42 _ _ (sk fun K68 hK68 => (wt (oM rfl (oS rfl (Yk.eqI (a := (6 : Nat)) (b := (0 : Nat)) rfl rfl (k_eql _ _ _ _) (oP rfl (Yp.callA2 pk12_pl64 (vr (.bool (false)) (congrArg Value.bool (decide_eq_false (by decide)))) (vr (NI 6) rfl) ?_)))))))))))
      refine calls_either (need_any _ (false) 6) ?_ ?_
      rotate_left
      ·
       rintro ch w71 ⟨rfl, hb, hx⟩
       refine thenF_panic (thenF_panic (inBlockF_panic (thenF_panic (thenF_panic (inBlockF_panic (thenF_panic (postP_panic ?_)))))))
       have hE1 := entGo_none (show entGo b fin first (i + 1) = none by rw [hst, hO1]; rfl) (n - (i + 1))
       rw [show i + 1 + (n - (i + 1)) = n by omega] at hE1
       exact .inr ⟨_, rfl, by unfold entriesP; rw [hE1]; rfl, rfl, hE.trans hx⟩
      rintro v_ w73 ⟨rfl, hb69, hx70⟩
      cases hb69
     rw [if_neg hg] at hO1
     have hB32 : (((b.take fin).drop (p + 1)).take 32).length = 32 := by rw [List.length_take, List.length_drop, hlen]; omega
     refine wpF_skip (tN (hK9 _ _ (sk fun K74 hK74 => (wpF_block (sk fun K75 hK75 => (wt (oM rfl (oM rfl (oS rfl (Yk.eqI (a := (p : Nat)) (b := (fin : Nat)) T2 T3 (k_lss _ _ _ _) (oM rfl (oY (d := 22) rfl rfl (vr (.bool (true)) (congrArg Value.bool (decide_eq_true (hlt)))) (Yk.move T0 (oY (d := 22) rfl rfl (vr (.bool (true)) (congrArg Value.bool (decide_eq_true (hlt)))) (Yk.move T2 (oY (d := 22) rfl rfl (vr (.bool (true)) (congrArg Value.bool (decide_eq_true (hlt)))) (Yk.atRB (l := b) (i := p) pk12_ty24 pk12_sz5 (RB.of (hr.keep hE) (vr v rfl)) (vr (NI p) rfl) (by omega) fun v76 hp77 => (oY (d := 22) rfl rfl (vr (.bool (true)) (congrArg Value.bool (decide_eq_true (hlt)))) (Yk.loadC pk12_ty5 rfl (PCell.of hp77 (vr v76 rfl)) (oY (d := 22) rfl rfl (vr (.bool (true)) (congrArg Value.bool (decide_eq_true (hlt)))) (Yk.eqI (a := ((b.getD (p) 0).toNat : Nat)) (b := (1 : Nat)) rfl rfl (k_leq _ _ _ _) (oS rfl (Yk.pickT (vr (.bool (true)) (congrArg Value.bool (decide_eq_true (hlt)))) (vr (.bool (true)) (congrArg Value.bool (decide_eq_true (hle)))) ?_)))))))))))))))))))))))
     refine oP rfl (Yp.callA2 pk12_pl64 (vr (.bool (true)) rfl) (vr (NI 6) rfl) ?_)
     refine calls_either (need_any _ (true) 6) ?_ ?_
     rotate_left
     ·
      rintro ch w80 ⟨rfl, hb, hx⟩
      refine thenF_panic (inBlockF_panic (thenF_panic (thenF_panic (inBlockF_panic (thenF_panic (postP_panic ?_))))))
      cases hb
     rintro v_ w82 ⟨rfl, hb78, hx79⟩
     have hE := hE.trans hx79
     have hEn : EntsIn w82 va es := (hEn.keep hx79)
     have hr_va := hr_va.keep hx79
     have hp77 := hp77.keep hx79
     refine oZ ?_
     clear hp77
     refine tN (hK75 _ _ (sk fun K83 hK83 => (wt (oM rfl (oM rfl (oM rfl (oS rfl (Yk.atRB (l := b) (i := p) pk12_ty24 pk12_sz5 (RB.of (hr.keep hE) T0) T2 (by omega) fun v84 hp85 => (oS rfl (Yk.loadC pk12_ty5 rfl (PCell.of hp85 (vr v84 rfl)) (oS rfl (Yk.eqI (a := ((b.getD (p) 0).toNat : Nat)) (b := (1 : Nat)) rfl rfl (k_eql _ _ _ _) (oS rfl (Yk.build2 T2 (vr (.bool (true)) (congrArg Value.bool (decide_eq_true (h1n)))) (fun w => pk12_bdEnt (p : Int) true w) (oS rfl (Yk.alloc (cs := (entC dEnt).toArray) pk12_al116 fun n86 w87 hn88 hb89 hx90 hs91 => ?_))))))))))))))))
     have hA92 := Ext.refl w82
     have hea93 := hE
     have hz94 := hE.size
     have hap95 : OB va n86 := own_newer hr_va.2 (by omega)
     have hE := hE.trans hx90
     have hr_va := hr_va.keep hx90
     have hA92 := hA92.trans hx90
     have hb96 := hb89; clear hb89
     have hl97 : n86 < w87.heap.size := by omega
     refine oS rfl (Yk.storeAll (vr (PQ n86 0) rfl) (vr (.agg (entC ((⟨p, true, List.replicate 32 0, []⟩, .slice none 0 0))).toArray) rfl) hb96 (entC_size (x := ((⟨p, true, List.replicate 32 0, []⟩, .slice none 0 0) : EntV)) (y := dEnt) (by simp) (by simp [dEnt])) (entC_isz (x := ((⟨p, true, List.replicate 32 0, []⟩, .slice none 0 0) : EntV)) pk12_isz116 (by simp)) (entC_one (x := ((⟨p, true, List.replicate 32 0, []⟩, .slice none 0 0) : EntV)) rfl) fun w98 hb99 hg100 hs101 => ?_)
     have hE := row_fresh hE hg100 (Nat.le_trans hz94 (by omega))
     have hr_va := OG.kept hr_va hg100 hap95
     have hA92 := row_fresh hA92 hg100 (Nat.le_trans (Nat.le_refl _) (by omega))
     clear hb96
     have hb96 := hb99; clear hb99
     have hl102 := bl hb96
     refine oZ ?_
     clear hp85
     refine tN (hK83 _ _ (sk fun K103 hK103 => (wt (oM rfl (oS rfl (Yk.bin (xv := NI p) (yv := NI 1) T2 rfl rfl (i64_add _ _ _ (by omega)) (oA rfl (oZ (tN (hK103 _ _ (sk fun K104 hK104 => (sk fun K105 hK105 => (wt (oS rfl (Yk.fieldAt pk12_fo116_1 (vr (PQ n86 0) rfl) (oS rfl (Yk.cell1 pk12_ty4 rfl (vr (PQ n86 1) rfl) (cellAt hb96 (show (entC ((⟨p, true, List.replicate 32 0, []⟩, .slice none 0 0)))[1]? = some (.bool (true) : Value) from rfl)) (oZ (tN (hK105 _ _ (wpF_true (vr (.bool (true)) rfl) ?_)))))))))))))))))))))
     refine sk fun K106 hK106 => (wt (oM rfl (oM rfl (oS rfl (Yk.sliceHi (xs := b) (n := fin) pk12_ty24 pk12_sz5 T0 (hr.keep hE) T3 (by omega) fun v107 hr108 ha109 => (oM rfl (oS rfl (Yk.callA2 pk12_pl75 (vr v107 rfl) (vr (NI ((p) + (1))) rfl) ?_))))))))
     refine ((show Calls _ _ _ _ (fun e w2 => e = .returned (.tuple #[AB (((b.take fin).drop (p + 1)).take 32), NI (p + 1 + 32), NI 0]) ∧ Ext _ w2) from (getId_in _ v107 (b.take fin) hr108 (p + 1) (by omega)).mono fun e w2 ⟨h1, h2⟩ => by subst h1; refine ⟨?_, h2⟩; unfold getIdRes; rw [hlen]; rw [if_neg (by omega)]; rfl)).mono ?_
     rintro e w111 ⟨rfl, hx110⟩
     refine ⟨_, rfl, ?_⟩
     have hE := hE.trans hx110
     have hr_va := hr_va.keep hx110
     have hA92 := hA92.trans hx110
     have hb96 := eb hx110 hb96
     have hr108 := hr108.keep hx110
     refine oM rfl (oS rfl (Yk.extract (vs := [AB (((b.take fin).drop (p + 1)).take 32), NI (p + 1 + 32), NI 0]) (vr (.tuple #[AB (((b.take fin).drop (p + 1)).take 32), NI (p + 1 + 32), NI 0]) rfl) (show _ = some (AB (((b.take fin).drop (p + 1)).take 32) : Value) from rfl) (oS rfl (Yk.extract (vs := [AB (((b.take fin).drop (p + 1)).take 32), NI (p + 1 + 32), NI 0]) (vr (.tuple #[AB (((b.take fin).drop (p + 1)).take 32), NI (p + 1 + 32), NI 0]) rfl) (show _ = some (NI (p + 1 + 32) : Value) from rfl) (oS rfl (Yk.extract (vs := [AB (((b.take fin).drop (p + 1)).take 32), NI (p + 1 + 32), NI 0]) (vr (.tuple #[AB (((b.take fin).drop (p + 1)).take 32), NI (p + 1 + 32), NI 0]) rfl) (show _ = some (NI 0 : Value) from rfl) (oS rfl (Yk.alloc (cs := (Lib.byteCells (List.replicate 32 0)).toArray) pk12_al38 fun n112 w113 hn114 hb115 hx116 hs117 => ?_))))))))
     have hA118 := Ext.refl w111
     have hea119 := hE
     have hea120 := hA92
     have hz121 := hE.size
     have hz122 := hA92.size
     have hlt123 := lte (bl hb96) hn114
     have hap124 : OB va n112 := own_newer hr_va.2 (by omega)
     have hE := hE.trans hx116
     have hr_va := hr_va.keep hx116
     have hA92 := hA92.trans hx116
     have hb96 := eb hx116 hb96
     have hA118 := hA118.trans hx116
     have hb125 := hb115; clear hb115
     have hl126 : n112 < w113.heap.size := by omega
     refine oS rfl (Yk.storeAll (vr (PQ n112 0) rfl) (vr (AB (((b.take fin).drop (p + 1)).take 32)) rfl) hb125 (by exact idsize hB32 List.length_replicate) (by exact sizeId_of hB32) (byteCells_one _) fun w127 hb128 hg129 hs130 => ?_)
     have hE := row_fresh hE hg129 (Nat.le_trans hz121 (by omega))
     have hr_va := OG.kept hr_va hg129 hap124
     have hA92 := row_fresh hA92 hg129 (Nat.le_trans hz122 (by omega))
     have hb96 := kb hg129 hb96 (by omega)
     have hA118 := row_fresh hA118 hg129 (Nat.le_trans (Nat.le_refl _) (by omega))
     clear hb125
     have hb125 := hb128; clear hb128
     have hl131 := bl hb125
     refine oA rfl (oA rfl (oZ (tN (hK106 _ _ (sk fun K132 hK132 => (wt (oM rfl (oS rfl (Yk.eqI (a := (0 : Nat)) (b := (0 : Nat)) rfl rfl (k_eql _ _ _ _) (oP rfl (Yp.callA2 pk12_pl64 (vr (.bool (true)) (congrArg Value.bool (decide_eq_true (rfl)))) (vr (NI 6) rfl) ?_)))))))))))
     refine calls_either (need_any _ (true) 6) ?_ ?_
     rotate_left
     ·
      rintro ch w135 ⟨rfl, hb, hx⟩
      refine thenF_panic (thenF_panic (inBlockF_panic (thenF_panic (thenF_panic (inBlockF_panic (thenF_panic (postP_panic ?_)))))))
      cases hb
     rintro v_ w137 ⟨rfl, hb133, hx134⟩
     have hE := hE.trans hx134
     have hr_va := hr_va.keep hx134
     have hA92 := hA92.trans hx134
     have hb96 := eb hx134 hb96
     have hA118 := hA118.trans hx134
     have hb125 := eb hx134 hb125
     refine oL_ [(0, v), (1, NI n), (2, NI ((p) + (1))), (3, NI fin), (8, (Value.slice none 0 0)), (9, va), (10, PQ n86 0), (11, PQ n112 0), (12, NI (p + 1 + 32)), (13, NI 0), (16, NI n), (17, NI i), (40, .bool (true))] ⟨T0, T1, rfl, T3, T8, T9, rfl, rfl, rfl, rfl, T16, T17, rfl, trivial⟩ fun ρ138 ⟨T0, T1, T2, T3, T8, T9, T10, T11, T12, T13, T16, T17, T40, _⟩ => (tN (hK132 _ _ (wt (oS rfl (Yk.loadAll T11 hb125 pk12_ty38 rfl (by exact sizeId_of hB32) (oM rfl (oS rfl (Yk.fieldAt pk12_fo116_2 T10 (oS rfl (Yk.entBase (B := List.replicate 32 0) (B' := ((b.take fin).drop (p + 1)).take 32) (vr (PQ n86 2) rfl) (vr (AB (((b.take fin).drop (p + 1)).take 32)) rfl) hb96 (by simp) hB32 pk12_isz38 fun w139 hb140 hg141 hs142 => ?_))))))))))
     have hE := row_fresh hE hg141 (Nat.le_trans hz94 (by omega))
     have hr_va := OG.kept hr_va hg141 hap95
     have hA92 := row_fresh hA92 hg141 (Nat.le_trans (Nat.le_refl _) (by omega))
     clear hb96
     clear hA118
     have hb125 := kb hg141 hb125 (by omega)
     have hb96 := hb140; clear hb140
     have hl143 := bl hb96
     refine oA rfl (oZ (tN (hK104 _ _ (sk fun K144 hK144 => (wt (oM rfl (oM rfl (oM rfl (oP rfl (Yp.callA3 pk12_pl76 T0 T12 T3 ?_))))))))))
     refine calls_either (text_any _ v b (hr.keep hE) (p + 33) fin (by omega) hf) ?_ ?_
     rotate_left
     ·
      rintro ch w146 ⟨hT, rfl, hx⟩
      refine thenF_panic (inBlockF_panic (thenF_panic (thenF_panic (inBlockF_panic (thenF_panic (postP_panic ?_))))))
      have hO1 : entOne b fin p = none := by rw [hO1, show textP b (p + 33) fin = none from hT]; rfl
      have hE1 := entGo_none (show entGo b fin first (i + 1) = none by rw [hst, hO1]; rfl) (n - (i + 1))
      rw [show i + 1 + (n - (i + 1)) = n by omega] at hE1
      exact .inr ⟨_, rfl, by unfold entriesP; rw [hE1]; rfl, rfl, hE.trans hx⟩
     rintro v_ w148 ⟨ts, tn, hT, rfl, hx145⟩
     have hE := hE.trans hx145
     have hr_va := hr_va.keep hx145
     have hA92 := hA92.trans hx145
     have hb125 := eb hx145 hb125
     have hb96 := eb hx145 hb96
     have hO : entOne b fin p = some (⟨p, true, ((b.take fin).drop (p + 1)).take 32, ts⟩, tn) := by rw [hO1, show textP b (p + 33) fin = some (ts, tn) from hT]; rfl
     refine oM rfl (oS rfl (Yk.extract (vs := [St (ts), NI tn]) (vr (.tuple #[St (ts), NI tn]) rfl) (show _ = some (St (ts) : Value) from rfl) (oS rfl (Yk.extract (vs := [St (ts), NI tn]) (vr (.tuple #[St (ts), NI tn]) rfl) (show _ = some (NI tn : Value) from rfl) (oA rfl (oA rfl (oZ (tN (hK144 _ _ (sk fun K149 hK149 => (wt (oM rfl (oS rfl (Yk.convStr pk12_ty9 pk12_ty24 pk12_ty5 (vr (St (ts)) rfl) (by have := textP_len hT hf; omega) fun v150 w151 hr152 hx153 hk154 => ?_))))))))))))))
     have hap155 : OB v150 n112 := fun e => by have h1 := (hk154 _ e).1; have h2 := (bl hb125); omega
     have hap156 : OB v150 n86 := fun e => by have h1 := (hk154 _ e).1; have h2 := (bl hb96); omega
     have hva : ∀ k, Value.ownBlock va = some k → k < w148.heap.size := fun k hk => ((hr_va).2.lt k hk).2
     have hkv : ∀ k, Value.ownBlock v150 = some k → k < w151.heap.size ∧ OB va k := fun k hk => ⟨(hk154 k hk).2, fun e => by have h1 := hva k e; have h2 := (hk154 k hk).1; omega⟩
     have hE := hE.trans hx153
     have hr_va := hr_va.keep hx153
     have hA92 := hA92.trans hx153
     have hb125 := eb hx153 hb125
     have hb96 := eb hx153 hb96
     refine oM rfl (oS rfl (Yk.fieldAt pk12_fo116_3 T10 (oS rfl (Yk.entVal (s := []) (s' := ts) (vr (PQ n86 34) rfl) (vr v150 rfl) hb96 hB32 pk12_isz24 hr152 fun w157 hb158 hg159 hs160 => ?_))))
     have hE := row_fresh hE hg159 (Nat.le_trans hz94 (by omega))
     have hr_va := OG.kept hr_va hg159 hap95
     have hA92 := row_fresh hA92 hg159 (Nat.le_trans (Nat.le_refl _) (by omega))
     have hb125 := kb hg159 hb125 (by omega)
     clear hb96
     have hr152 := hr152.kept hg159 (.inr hap156)
     have hb96 := hb158; clear hb158
     have hl161 := bl hb96
     refine oA rfl (oZ (tN (hK149 _ _ (wt (oM rfl ?_)))))
     have hkv2 : ∀ k, Value.ownBlock v150 = some k → k < w157.heap.size ∧ OB va k := fun k hk => ⟨by have := (hkv k hk).1; omega, (hkv k hk).2⟩
     have hEn : EntsIn w157 va (es ++ [((⟨p, true, ((b.take fin).drop (p + 1)).take 32, ts⟩, v150) : EntV)]) := EntsIn.snoc (hEn.keep hA92) hr152 hB32 hkv2
     have hone_ := entC_one (x := ((⟨p, true, ((b.take fin).drop (p + 1)).take 32, ts⟩, v150) : EntV)) (RB.one hr152).2
     refine oS rfl (Yk.loadAll T10 hb96 (pk12_ty116).choose_spec rfl (entC_isz (x := ((⟨p, true, ((b.take fin).drop (p + 1)).take 32, ts⟩, v150) : EntV)) pk12_isz116 hB32) (oS rfl (Yk.lit1G (a := ((⟨p, true, ((b.take fin).drop (p + 1)).take 32, ts⟩, v150))) (enc := entC) (vr (.agg (entC ((⟨p, true, ((b.take fin).drop (p + 1)).take 32, ts⟩, v150))).toArray) rfl) ((entC_len (x := ((⟨p, true, ((b.take fin).drop (p + 1)).take 32, ts⟩, v150) : EntV)) hB32)) pk12_lg110 fun v162 w163 hr164 hx165 => ?_)))
     have hE := hE.trans hx165
     have hEn : EntsIn w163 va (es ++ [((⟨p, true, ((b.take fin).drop (p + 1)).take 32, ts⟩, v150) : EntV)]) := (hEn.keep hx165)
     have hr_va := hr_va.keep hx165
     have hA92 := hA92.trans hx165
     have hb125 := eb hx165 hb125
     have hr152 := hr152.keep hx165
     have hb96 := eb hx165 hb96
     refine oS rfl (Yk.appendRG _ _ w.heap.size _ 72 pk12_ty110 pk12_ig116.choose_spec.1 pk12_ig116.choose_spec.2 pk12_ty110 (es) ([((⟨p, true, ((b.take fin).drop (p + 1)).take 32, ts⟩, v150))]) (OG.of hr_va T9) (RG.of hr164 (vr v162 rfl)) (fun y hy => by rw [List.mem_singleton.1 hy]; exact hone_) (by simp only [List.length_cons, List.length_nil]; omega) (by simp only [List.length_cons, List.length_nil]; omega) hE.size fun v166 w167 ho168 hg169 => ?_)
     have hEn_ := hEn
     have hg169 : Grew w163 w167 va v166 := .eqv T9 hg169
     have hap170 : OB v166 n86 := apart_grew hg169 hap95 (bl hb96)
     have hap171 : OB v166 n112 := apart_grew hg169 hap124 (bl hb125)
     have hE := ext_grew hE hg169 hr_va.2 (Nat.le_refl _)
     clear hr_va
     clear hA92
     have hb125 := blk_grew hb125 hg169 hap124
     clear hr152
     have hb96 := blk_grew hb96 hg169 hap95
     clear hr164
     have hEn : EntsIn w167 v166 (es ++ [((⟨p, true, ((b.take fin).drop (p + 1)).take 32, ts⟩, v150) : EntV)]) := EntsIn.grew hEn_ hg169; clear hEn_
     refine oA rfl (oZ (bN (tN (hK74 _ _ (wt (oS rfl (Yk.bin (xv := NI i) (yv := NI 1) T17 rfl rfl (i64_add _ _ _ (by omega)) (oM rfl (oL_ [(0, v), (1, NI n), (2, NI tn), (3, NI fin), (8, (Value.slice none 0 0)), (9, v166), (10, PQ n86 0), (11, PQ n112 0), (12, NI (p + 1 + 32)), (13, NI 0), (14, St (ts)), (15, NI tn), (16, NI n), (17, NI ((i) + (1))), (40, .bool (true))] ⟨T0, T1, rfl, T3, T8, rfl, T10, T11, T12, T13, rfl, rfl, T16, rfl, T40, trivial⟩ fun ρ172 ⟨T0, T1, T2, T3, T8, T9, T10, T11, T12, T13, T14, T15, T16, T17, T40, _⟩ => (tN (And.intro ⟨i + 1, es ++ [(⟨p, true, ((b.take fin).drop (p + 1)).take 32, ts⟩, v150)], tn, v166, T0, T1, T3, T8, T16, T17, T2, T9, hE, hEn, og_eq ho168 (rfl), by rw [hst, hO, List.map_append]; rfl, by omega, (entOne_pos hO hf).1, by rw [List.length_append, hil]; rfl, trivial⟩ ?_)))))))))))
     show n - (intOf (ρ172 17)).toNat < n - (intOf (ρ6 17)).toNat
     rw [T17, q17]
     simp only [intOf, Int.toNat_natCast]; omega
    rw [if_neg h1] at hO1
    have h1n : ¬ (b.getD p 0).toNat = 1 := fun h => h1 (UInt8.toNat_inj.1 (by rw [h]; rfl))
    refine wpF_skip (tN (hK9 _ _ (sk fun K173 hK173 => (wpF_block (sk fun K174 hK174 => (wt (oM rfl (oM rfl (oS rfl (Yk.eqI (a := (p : Nat)) (b := (fin : Nat)) T2 T3 (k_lss _ _ _ _) (oM rfl (oY (d := 22) rfl rfl (vr (.bool (true)) (congrArg Value.bool (decide_eq_true (hlt)))) (Yk.move T0 (oY (d := 22) rfl rfl (vr (.bool (true)) (congrArg Value.bool (decide_eq_true (hlt)))) (Yk.move T2 (oY (d := 22) rfl rfl (vr (.bool (true)) (congrArg Value.bool (decide_eq_true (hlt)))) (Yk.atRB (l := b) (i := p) pk12_ty24 pk12_sz5 (RB.of (hr.keep hE) (vr v rfl)) (vr (NI p) rfl) (by omega) fun v175 hp176 => (oY (d := 22) rfl rfl (vr (.bool (true)) (congrArg Value.bool (decide_eq_true (hlt)))) (Yk.loadC pk12_ty5 rfl (PCell.of hp176 (vr v175 rfl)) (oY (d := 22) rfl rfl (vr (.bool (true)) (congrArg Value.bool (decide_eq_true (hlt)))) (Yk.eqI (a := ((b.getD (p) 0).toNat : Nat)) (b := (1 : Nat)) rfl rfl (k_leq _ _ _ _) (oS rfl (Yk.pickT (vr (.bool (true)) (congrArg Value.bool (decide_eq_true (hlt)))) (vr (.bool (true)) (congrArg Value.bool (decide_eq_true (hle)))) ?_)))))))))))))))))))))))
    refine oP rfl (Yp.callA2 pk12_pl64 (vr (.bool (true)) rfl) (vr (NI 6) rfl) ?_)
    refine calls_either (need_any _ (true) 6) ?_ ?_
    rotate_left
    ·
     rintro ch w179 ⟨rfl, hb, hx⟩
     refine thenF_panic (inBlockF_panic (thenF_panic (thenF_panic (inBlockF_panic (thenF_panic (postP_panic ?_))))))
     cases hb
    rintro v_ w181 ⟨rfl, hb177, hx178⟩
    have hE := hE.trans hx178
    have hEn : EntsIn w181 va es := (hEn.keep hx178)
    have hr_va := hr_va.keep hx178
    have hp176 := hp176.keep hx178
    refine oZ ?_
    clear hp176
    refine tN (hK174 _ _ (sk fun K182 hK182 => (wt (oM rfl (oM rfl (oM rfl (oS rfl (Yk.atRB (l := b) (i := p) pk12_ty24 pk12_sz5 (RB.of (hr.keep hE) T0) T2 (by omega) fun v183 hp184 => (oS rfl (Yk.loadC pk12_ty5 rfl (PCell.of hp184 (vr v183 rfl)) (oS rfl (Yk.eqI (a := ((b.getD (p) 0).toNat : Nat)) (b := (1 : Nat)) rfl rfl (k_eql _ _ _ _) (oS rfl (Yk.build2 T2 (vr (.bool (false)) (congrArg Value.bool (decide_eq_false (h1n)))) (fun w => pk12_bdEnt (p : Int) false w) (oS rfl (Yk.alloc (cs := (entC dEnt).toArray) pk12_al116 fun n185 w186 hn187 hb188 hx189 hs190 => ?_))))))))))))))))
    have hA191 := Ext.refl w181
    have hea192 := hE
    have hz193 := hE.size
    have hap194 : OB va n185 := own_newer hr_va.2 (by omega)
    have hE := hE.trans hx189
    have hr_va := hr_va.keep hx189
    have hA191 := hA191.trans hx189
    have hb195 := hb188; clear hb188
    have hl196 : n185 < w186.heap.size := by omega
    refine oS rfl (Yk.storeAll (vr (PQ n185 0) rfl) (vr (.agg (entC ((⟨p, false, List.replicate 32 0, []⟩, .slice none 0 0))).toArray) rfl) hb195 (entC_size (x := ((⟨p, false, List.replicate 32 0, []⟩, .slice none 0 0) : EntV)) (y := dEnt) (by simp) (by simp [dEnt])) (entC_isz (x := ((⟨p, false, List.replicate 32 0, []⟩, .slice none 0 0) : EntV)) pk12_isz116 (by simp)) (entC_one (x := ((⟨p, false, List.replicate 32 0, []⟩, .slice none 0 0) : EntV)) rfl) fun w197 hb198 hg199 hs200 => ?_)
    have hE := row_fresh hE hg199 (Nat.le_trans hz193 (by omega))
    have hr_va := OG.kept hr_va hg199 hap194
    have hA191 := row_fresh hA191 hg199 (Nat.le_trans (Nat.le_refl _) (by omega))
    clear hb195
    have hb195 := hb198; clear hb198
    have hl201 := bl hb195
    refine oZ ?_
    clear hp184
    refine tN (hK182 _ _ (sk fun K202 hK202 => (wt (oM rfl (oS rfl (Yk.bin (xv := NI p) (yv := NI 1) T2 rfl rfl (i64_add _ _ _ (by omega)) (oA rfl (oZ (tN (hK202 _ _ (sk fun K203 hK203 => (sk fun K204 hK204 => (wt (oS rfl (Yk.fieldAt pk12_fo116_1 (vr (PQ n185 0) rfl) (oS rfl (Yk.cell1 pk12_ty4 rfl (vr (PQ n185 1) rfl) (cellAt hb195 (show (entC ((⟨p, false, List.replicate 32 0, []⟩, .slice none 0 0)))[1]? = some (.bool (false) : Value) from rfl)) (oZ (tN (hK204 _ _ (wpF_false (vr (.bool (false)) rfl) ?_)))))))))))))))))))))
    refine wpF_skip (tN (hK203 _ _ (sk fun K205 hK205 => (wt (oM rfl (oM rfl (oM rfl (oP rfl (Yp.callA3 pk12_pl76 T0 (vr (NI ((p) + (1))) rfl) T3 ?_)))))))))
    refine calls_either (text_any _ v b (hr.keep hE) (p + 1) fin (by omega) hf) ?_ ?_
    rotate_left
    ·
     rintro ch w207 ⟨hT, rfl, hx⟩
     refine thenF_panic (inBlockF_panic (thenF_panic (thenF_panic (inBlockF_panic (thenF_panic (postP_panic ?_))))))
     have hO1 : entOne b fin p = none := by rw [hO1, show textP b (p + 1) fin = none from hT]; rfl
     have hE1 := entGo_none (show entGo b fin first (i + 1) = none by rw [hst, hO1]; rfl) (n - (i + 1))
     rw [show i + 1 + (n - (i + 1)) = n by omega] at hE1
     exact .inr ⟨_, rfl, by unfold entriesP; rw [hE1]; rfl, rfl, hE.trans hx⟩
    rintro v_ w209 ⟨ts, tn, hT, rfl, hx206⟩
    have hE := hE.trans hx206
    have hr_va := hr_va.keep hx206
    have hA191 := hA191.trans hx206
    have hb195 := eb hx206 hb195
    have hO : entOne b fin p = some (⟨p, false, List.replicate 32 0, ts⟩, tn) := by rw [hO1, show textP b (p + 1) fin = some (ts, tn) from hT]; rfl
    refine oM rfl (oS rfl (Yk.extract (vs := [St (ts), NI tn]) (vr (.tuple #[St (ts), NI tn]) rfl) (show _ = some (St (ts) : Value) from rfl) (oS rfl (Yk.extract (vs := [St (ts), NI tn]) (vr (.tuple #[St (ts), NI tn]) rfl) (show _ = some (NI tn : Value) from rfl) (oA rfl (oA rfl (oZ (tN (hK205 _ _ (sk fun K210 hK210 => (wt (oM rfl (oS rfl (Yk.convStr pk12_ty9 pk12_ty24 pk12_ty5 (vr (St (ts)) rfl) (by have := textP_len hT hf; omega) fun v211 w212 hr213 hx214 hk215 => ?_))))))))))))))
    have hap216 : OB v211 n185 := fun e => by have h1 := (hk215 _ e).1; have h2 := (bl hb195); omega
    have hva : ∀ k, Value.ownBlock va = some k → k < w209.heap.size := fun k hk => ((hr_va).2.lt k hk).2
    have hkv : ∀ k, Value.ownBlock v211 = some k → k < w212.heap.size ∧ OB va k := fun k hk => ⟨(hk215 k hk).2, fun e => by have h1 := hva k e; have h2 := (hk215 k hk).1; omega⟩
    have hE := hE.trans hx214
    have hr_va := hr_va.keep hx214
    have hA191 := hA191.trans hx214
    have hb195 := eb hx214 hb195
    refine oM rfl (oS rfl (Yk.fieldAt pk12_fo116_3 (vr (PQ n185 0) rfl) (oS rfl (Yk.entVal (s := []) (s' := ts) (vr (PQ n185 34) rfl) (vr v211 rfl) hb195 (by simp) pk12_isz24 hr213 fun w217 hb218 hg219 hs220 => ?_))))
    have hE := row_fresh hE hg219 (Nat.le_trans hz193 (by omega))
    have hr_va := OG.kept hr_va hg219 hap194
    have hA191 := row_fresh hA191 hg219 (Nat.le_trans (Nat.le_refl _) (by omega))
    clear hb195
    have hr213 := hr213.kept hg219 (.inr hap216)
    have hb195 := hb218; clear hb218
    have hl221 := bl hb195
    refine oA rfl (oZ (tN (hK210 _ _ (wt (oM rfl ?_)))))
    have hkv2 : ∀ k, Value.ownBlock v211 = some k → k < w217.heap.size ∧ OB va k := fun k hk => ⟨by have := (hkv k hk).1; omega, (hkv k hk).2⟩
    have hEn : EntsIn w217 va (es ++ [((⟨p, false, List.replicate 32 0, ts⟩, v211) : EntV)]) := EntsIn.snoc (hEn.keep hA191) hr213 (by simp) hkv2
    have hone_ := entC_one (x := ((⟨p, false, List.replicate 32 0, ts⟩, v211) : EntV)) (RB.one hr213).2
    refine oS rfl (Yk.loadAll (vr (PQ n185 0) rfl) hb195 (pk12_ty116).choose_spec rfl (entC_isz (x := ((⟨p, false, List.replicate 32 0, ts⟩, v211) : EntV)) pk12_isz116 (by simp)) (oS rfl (Yk.lit1G (a := ((⟨p, false, List.replicate 32 0, ts⟩, v211))) (enc := entC) (vr (.agg (entC ((⟨p, false, List.replicate 32 0, ts⟩, v211))).toArray) rfl) ((entC_len (x := ((⟨p, false, List.replicate 32 0, ts⟩, v211) : EntV)) (by simp))) pk12_lg110 fun v222 w223 hr224 hx225 => ?_)))
    have hE := hE.trans hx225
    have hEn : EntsIn w223 va (es ++ [((⟨p, false, List.replicate 32 0, ts⟩, v211) : EntV)]) := (hEn.keep hx225)
    have hr_va := hr_va.keep hx225
    have hA191 := hA191.trans hx225
    have hr213 := hr213.keep hx225
    have hb195 := eb hx225 hb195
    refine oS rfl (Yk.appendRG _ _ w.heap.size _ 72 pk12_ty110 pk12_ig116.choose_spec.1 pk12_ig116.choose_spec.2 pk12_ty110 (es) ([((⟨p, false, List.replicate 32 0, ts⟩, v211))]) (OG.of hr_va T9) (RG.of hr224 (vr v222 rfl)) (fun y hy => by rw [List.mem_singleton.1 hy]; exact hone_) (by simp only [List.length_cons, List.length_nil]; omega) (by simp only [List.length_cons, List.length_nil]; omega) hE.size fun v226 w227 ho228 hg229 => ?_)
    have hEn_ := hEn
    have hg229 : Grew w223 w227 va v226 := .eqv T9 hg229
    have hap230 : OB v226 n185 := apart_grew hg229 hap194 (bl hb195)
    have hE := ext_grew hE hg229 hr_va.2 (Nat.le_refl _)
    clear hr_va
    clear hA191
    clear hr213
    have hb195 := blk_grew hb195 hg229 hap194
    clear hr224
    have hEn : EntsIn w227 v226 (es ++ [((⟨p, false, List.replicate 32 0, ts⟩, v211) : EntV)]) := EntsIn.grew hEn_ hg229; clear hEn_
    refine oA rfl (oL_ [(0, v), (1, NI n), (2, NI tn), (3, NI fin), (8, (Value.slice none 0 0)), (9, v226), (10, PQ n185 0), (14, St (ts)), (15, NI tn), (16, NI n), (17, NI i), (40, .bool (false))] ⟨T0, T1, rfl, T3, T8, rfl, rfl, rfl, rfl, T16, T17, rfl, trivial⟩ fun ρ231 ⟨T0, T1, T2, T3, T8, T9, T10, T14, T15, T16, T17, T40, _⟩ => (bN (tN (hK173 _ _ (wt (oS rfl (Yk.bin (xv := NI i) (yv := NI 1) T17 rfl rfl (i64_add _ _ _ (by omega)) (oM rfl (oL_ [(0, v), (1, NI n), (2, NI tn), (3, NI fin), (8, (Value.slice none 0 0)), (9, v226), (10, PQ n185 0), (14, St (ts)), (15, NI tn), (16, NI n), (17, NI ((i) + (1))), (40, .bool (false))] ⟨T0, T1, T2, T3, T8, T9, T10, T14, T15, T16, rfl, T40, trivial⟩ fun ρ232 ⟨T0, T1, T2, T3, T8, T9, T10, T14, T15, T16, T17, T40, _⟩ => (tN (And.intro ⟨i + 1, es ++ [(⟨p, false, List.replicate 32 0, ts⟩, v211)], tn, v226, T0, T1, T3, T8, T16, T17, T2, T9, hE, hEn, og_eq ho228 (rfl), by rw [hst, hO, List.map_append]; rfl, by omega, (entOne_pos hO hf).1, by rw [List.length_append, hil]; rfl, trivial⟩ ?_)))))))))))
    show n - (intOf (ρ232 17)).toNat < n - (intOf (ρ6 17)).toNat
    rw [T17, q17]
    simp only [intOf, Int.toNat_natCast]; omega
   have hO1 : entOne b fin p = none := by unfold entOne; rw [if_neg (fun h => hle h.2)]
   refine wpF_skip (tN (hK9 _ _ (sk fun K233 hK233 => (wpF_block (sk fun K234 hK234 => (wt (oM rfl (oM rfl (oS rfl (Yk.eqI (a := (p : Nat)) (b := (fin : Nat)) T2 T3 (k_lss _ _ _ _) (oM rfl (oY (d := 22) rfl rfl (vr (.bool (true)) (congrArg Value.bool (decide_eq_true (hlt)))) (Yk.move T0 (oY (d := 22) rfl rfl (vr (.bool (true)) (congrArg Value.bool (decide_eq_true (hlt)))) (Yk.move T2 (oY (d := 22) rfl rfl (vr (.bool (true)) (congrArg Value.bool (decide_eq_true (hlt)))) (Yk.atRB (l := b) (i := p) pk12_ty24 pk12_sz5 (RB.of (hr.keep hE) (vr v rfl)) (vr (NI p) rfl) (by omega) fun v235 hp236 => (oY (d := 22) rfl rfl (vr (.bool (true)) (congrArg Value.bool (decide_eq_true (hlt)))) (Yk.loadC pk12_ty5 rfl (PCell.of hp236 (vr v235 rfl)) (oY (d := 22) rfl rfl (vr (.bool (true)) (congrArg Value.bool (decide_eq_true (hlt)))) (Yk.eqI (a := ((b.getD (p) 0).toNat : Nat)) (b := (1 : Nat)) rfl rfl (k_leq _ _ _ _) (oS rfl (Yk.pickT (vr (.bool (true)) (congrArg Value.bool (decide_eq_true (hlt)))) (vr (.bool (false)) (congrArg Value.bool (decide_eq_false (hle)))) ?_)))))))))))))))))))))))
   refine oP rfl (Yp.callA2 pk12_pl64 (vr (.bool (false)) rfl) (vr (NI 6) rfl) ?_)
   refine calls_either (need_any _ (false) 6) ?_ ?_
   rotate_left
   ·
    rintro ch w239 ⟨rfl, hb, hx⟩
    refine thenF_panic (inBlockF_panic (thenF_panic (thenF_panic (inBlockF_panic (thenF_panic (postP_panic ?_))))))
    have hE1 := entGo_none (show entGo b fin first (i + 1) = none by rw [hst, hO1]; rfl) (n - (i + 1))
    rw [show i + 1 + (n - (i + 1)) = n by omega] at hE1
    exact .inr ⟨_, rfl, by unfold entriesP; rw [hE1]; rfl, rfl, hE.trans hx⟩
   rintro v_ w241 ⟨rfl, hb237, hx238⟩
   cases hb237
  have hO1 : entOne b fin p = none := by unfold entOne; rw [if_neg (fun h => hlt h.1)]
  refine wpF_skip (tN (hK9 _ _ (sk fun K242 hK242 => (wpF_block (sk fun K243 hK243 => (wt (oM rfl (oM rfl (oS rfl (Yk.eqI (a := (p : Nat)) (b := (fin : Nat)) T2 T3 (k_lss _ _ _ _) (oM rfl (oN (d := 22) rfl rfl rfl (vr (.bool (false)) (congrArg Value.bool (decide_eq_false (hlt)))) rfl (oN (d := 22) rfl rfl rfl (vr (.bool (false)) (congrArg Value.bool (decide_eq_false (hlt)))) rfl (oN (d := 22) rfl rfl rfl (vr (.bool (false)) (congrArg Value.bool (decide_eq_false (hlt)))) rfl (oN (d := 22) rfl rfl rfl (vr (.bool (false)) (congrArg Value.bool (decide_eq_false (hlt)))) rfl (oN (d := 22) rfl rfl rfl (vr (.bool (false)) (congrArg Value.bool (decide_eq_false (hlt)))) rfl (oS rfl (Yk.pickF (vr (.bool (false)) (congrArg Value.bool (decide_eq_false (hlt)))) (vr (.bool (false)) rfl) ?_))))))))))))))))))
  refine oP rfl (Yp.callA2 pk12_pl64 (vr (.bool (false)) rfl) (vr (NI 6) rfl) ?_)
  refine calls_either (need_any _ (false) 6) ?_ ?_
  rotate_left
  ·
   rintro ch w246 ⟨rfl, hb, hx⟩
   refine thenF_panic (inBlockF_panic (thenF_panic (thenF_panic (inBlockF_panic (thenF_panic (postP_panic ?_))))))
   have hE1 := entGo_none (show entGo b fin first (i + 1) = none by rw [hst, hO1]; rfl) (n - (i + 1))
   rw [show i + 1 + (n - (i + 1)) = n by omega] at hE1
   exact .inr ⟨_, rfl, by unfold entriesP; rw [hE1]; rfl, rfl, hE.trans hx⟩
  rintro v_ w248 ⟨rfl, hb244, hx245⟩
  cases hb244
 have hin : i = n := by omega
 refine wpF_exit (thenF_exit (thenF_exit (inBlockF_hit (tN (hK3 _ _ (sk fun K249 hK249 => (wt (oM rfl (oM rfl (oS rfl (Yk.eqI (a := (p : Nat)) (b := (fin : Nat)) T2 T3 (k_eql _ _ _ _) (oP rfl (Yp.callA2 pk12_pl64 (vr (.bool (decide ((p : Nat) = (fin)))) rfl) (vr (NI 6) rfl) ?_)))))))))))))
 refine calls_either (need_any _ (decide ((p : Nat) = (fin))) 6) ?_ ?_
 rotate_left
 ·
  rintro ch w252 ⟨rfl, hb, hx⟩
  refine thenF_panic (postP_panic ?_)
  have hno := of_decide_eq_false hb
  exact .inr ⟨_, rfl, by unfold entriesP; rw [← hin, hs]; exact if_neg hno, rfl, hE.trans hx⟩
 rintro v_ w254 ⟨rfl, hb250, hx251⟩
 have hE := hE.trans hx251
 have hEn : EntsIn w254 va es := (hEn.keep hx251)
 have hr_va := hr_va.keep hx251
 have hn255 := of_decide_eq_true hb250
 refine oZ (tN (hK249 _ _ (sk fun K256 hK256 => (wt (oM rfl (oA rfl (oZ (tN (hK256 _ _ (wpF_ret (postP_ret (fn := Tryd.f65) _ rfl [va] (va) rfl ⟨T9, trivial⟩ ?_)))))))))))
 exact .inl ⟨_, rfl, es, by unfold entriesP; rw [← hin, hs]; exact if_pos hn255, RG.ofOwn hr_va, hEn.ok, hE⟩
open Go.RowKit
section
variable {P : Program} {n : Nat} {ρ : Slots} {w : World} {Q : PostF}
theorem wpF_draw_rowsXL {l : List Oper} (L : Nat) (oL : Oper) (r : Option Nat) (cs es : List Nat) (ks ls : Nat → List Nat) (Φs : List Fact) {id : Nat} (hm : P.follows .mixedOrders = true) (ds : List Tmp) (hg : goodB l n = true) (hn : lastB l L = true) (hkl : killB l ks = true) (hds : slotsW l = ds)
    (hls : lsOk l cs ks ls = true) (hes : esOk l cs es = true) (hgc : (cs.all fun m => ((l[m]?).bind (·.guard)).isNone) = true) (hoL : l[L]? = some oL) (hgL : oL.guard = none) (hdL : oL.dst = none) (hL : es.contains L = false) (hst : AllStab Ext Φs) (hsB : AllCh (BX w.heap.size r) ls Φs cs)
    (hs : StepsFL P l L (rowXC w r es) (rowXR w.heap.size r cs) (facts Φs) ρ 0 l)
    (hQ : ∀ (ρ' : Slots) w1, BX w.heap.size r w w1 → EndF ds ρ ρ' → EndFacts l ks (facts Φs) ρ' w1 ds → Yp P (fun _ w' => Q .normal ρ' w') (fun ch w' => Q (.panic ch) ρ' w') ((execOp (evalR ρ') oL).run P w1)) : wpF P n (.region id l.toArray true) Q ρ w := by
  have stepR : ∀ m a b, BX w.heap.size r w a → rowXR w.heap.size r cs m a b → BX w.heap.size r w b := fun m a b h k => by
    unfold rowXR at k
    cases hc : cs.contains m <;> rw [hc] at k
    · exact h.trans (BX.ofExt k h.size)
    · exact h.trans k
  refine wpF_draw_lastP L oL ks (rowXC w r es) (rowXR w.heap.size r cs) Φs hm ds hg hn hkl hds hoL hgL hdL (fun m i _ _ hne hbit w1 w' hc hr => ?_) (fun m i hm' hi hni hne hbit v w1 w' h hr => ?_) (fun m o w1 ho hgo => ?_) (fun m _ => ?_) hs (fun ρ' w1 hc he hf => hQ ρ' w1 (by unfold rowXC at hc; rw [hL] at hc; exact hc) he hf)
  · unfold rowXC at hc ⊢
    cases he : es.contains i <;> rw [he] at hc
    · exact stepR m _ _ hc hr
    · unfold rowXR at hr
      cases hcm : cs.contains m <;> rw [hcm] at hr
      · exact Ext.trans hc hr
      · unfold esOk at hes
        have := List.all_eq_true.1 (List.all_eq_true.1 hes m (by simpa using hcm)) i (by simpa using he)
        rw [this] at hbit
        cases hbit
  · unfold rowXR at hr
    cases hc : cs.contains m <;> rw [hc] at hr
    · exact hst.get Φs i v w1 w' h hr
    · refine (AllCh.get cs hsB m hc).get Φs 0 i ?_ v w1 w' h hr
      rw [Nat.zero_add]
      intro hmem
      unfold lsOk at hls
      have h1 := List.all_eq_true.1 (List.all_eq_true.1 hls m (by simpa using hc)) i hmem
      simp only [Bool.or_eq_true] at h1
      rcases h1 with (h1 | h1) | h1
      · exact hni (by simpa using h1)
      · exact hne (Nat.eq_of_beq_eq_true h1)
      · rw [h1] at hbit
        cases hbit
  · unfold rowXR
    cases hc : cs.contains m
    · exact Ext.refl w1
    · have := List.all_eq_true.1 hgc m (by simpa using hc)
      rw [ho] at this
      simp only [Option.bind_some, Option.isNone_iff_eq_none] at this
      rw [this] at hgo
      cases hgo
  · unfold rowXC
    cases es.contains m
    · exact BX.ofExt (Below.refl _ _).drew (Nat.le_refl _)
    · exact (Below.refl _ _).drew
end
open Go.RowKit
abbrev entV (x : EntV) : Value := .agg (entC x).toArray
theorem intLaw : KL Tryd.prog 3 (MapKept.IsKey (.int .i64)) := KL.ofKey (by kernel_rfl)
theorem int_ok : ∀ n : Nat, True → MapKept.IsKey (.int .i64) (NI n) := fun n _ => by first | exact ⟨_, rfl⟩ | simp [MapKept.IsKey]
theorem ni_inj {a b : Nat} (h : NI a = NI b) : a = b := by injection h with _ h; exact Int.ofNat.inj h
theorem zeroEnt : ∀ u : World, (zeroValue 116).run Tryd.prog u = .ok (entV dEnt) u := fun _ => by kernel_rfl
structure IxS (α : Type) where
  ids : List Bs
  G : Nat → Option α
  M : Bs → Option α
section
variable {α : Type} (at_ : α → Nat) (d : α) (t : Bs) (es : List α)
def placeGo : Nat → Nat → Option α
  | 0 => fun _ => none
  | i + 1 => updM (placeGo i) (at_ (es.getD i d)) (some (es.getD i d))
def rowId (i : Nat) : Bs := (t.drop (36 * i)).take 32
def rowAt (i : Nat) : Nat := numP ((t.drop (36 * i)).drop 32)
def ixNext (i : Nat) (s : IxS α) (c : α) : IxS α := ⟨s.ids ++ [rowId t i], updM s.G (at_ c) none, updM s.M (rowId t i) (some c)⟩
def ixStep (i : Nat) (s : IxS α) : Option (IxS α) :=
  match s.G (rowAt t i) with
  | none => none
  | some c => if i = 0 ∨ Lib.compareBytes (s.ids.getD (i - 1) []) (rowId t i) < 0 then some (ixNext at_ t i s c) else none
def ixGo : Nat → Option (IxS α)
  | 0 => some ⟨[], placeGo at_ d es es.length, fun _ => none⟩
  | i + 1 => (ixGo i).bind (ixStep at_ t i)
variable {at_ d t es}
theorem ixGo_none {i : Nat} (h : ixGo at_ d t es i = none) : ∀ k, ixGo at_ d t es (i + k) = none
  | 0 => h
  | k + 1 => by
    show (ixGo at_ d t es (i + k)).bind _ = none
    rw [ixGo_none h k]
    rfl
theorem ixGo_step {i : Nat} {s : IxS α} (h : ixGo at_ d t es i = some s) : ixGo at_ d t es (i + 1) = ixStep at_ t i s := by
  show (ixGo at_ d t es i).bind _ = _
  rw [h]
  rfl
theorem placeGo_mem : ∀ i, i ≤ es.length → ∀ k c, placeGo at_ d es i k = some c → c ∈ es ∧ at_ c = k
  | 0, _, _, _, h => by cases h
  | i + 1, hi, k, c, h => by
    unfold placeGo updM at h
    split at h
    · rename_i hk
      cases h
      refine ⟨?_, hk.symm⟩
      rw [List.getD_eq_getElem?_getD, List.getElem?_eq_getElem (by omega)]
      exact List.getElem_mem _
    · exact placeGo_mem i (by omega) k c h
structure IxOk (t : Bs) (es : List α) (i : Nat) (s : IxS α) : Prop where
  len : s.ids.length = i
  ids : ∀ x ∈ s.ids, ∃ j, j < i ∧ x = rowId t j
  G : ∀ k c, s.G k = some c → c ∈ es
  M : ∀ k c, s.M k = some c → c ∈ es
  all : ∀ x ∈ s.ids, (s.M x).isSome = true
theorem ixGo_ok : ∀ i s, ixGo at_ d t es i = some s → IxOk t es i s
  | 0, s, h => by
    cases h
    exact ⟨rfl, (fun x hx => by cases hx), (fun k c hk => (placeGo_mem _ (Nat.le_refl _) k c hk).1), (fun k c hk => by cases hk), (fun x hx => by cases hx)⟩
  | i + 1, s, h => by
    cases h1 : ixGo at_ d t es i with
    | none => rw [ixGo_none h1 1] at h; cases h
    | some s0 =>
      have ih := ixGo_ok i s0 h1
      rw [ixGo_step h1] at h
      unfold ixStep at h
      split at h
      · cases h
      · rename_i c hc
        split at h
        · cases h
          have hcm := ih.G _ c hc
          refine ⟨?_, fun x hx => ?_, fun k c' hk => ?_, fun k c' hk => ?_, fun x hx => ?_⟩
          · show (s0.ids ++ [rowId t i]).length = i + 1
            rw [List.length_append, ih.len]
            rfl
          · rcases List.mem_append.1 hx with hx | hx
            · obtain ⟨j, hj, e⟩ := ih.ids x hx
              exact ⟨j, by omega, e⟩
            · exact ⟨i, by omega, List.mem_singleton.1 hx⟩
          · unfold ixNext updM at hk
            dsimp only at hk
            split at hk
            · cases hk
            · exact ih.G k c' hk
          · unfold ixNext updM at hk
            dsimp only at hk
            split at hk
            · cases hk; exact hcm
            · exact ih.M k c' hk
          · unfold ixNext updM
            dsimp only
            split
            · rfl
            · rename_i hne
              rcases List.mem_append.1 hx with hx | hx
              · exact ih.all x hx
              · exact absurd (List.mem_singleton.1 hx) hne
        · cases h
end
theorem rowId_len {t : Bs} {i n : Nat} (h : t.length = 36 * n) (hi : i < n) : (rowId t i).length = 32 := by
  unfold rowId
  rw [List.length_take, List.length_drop]
  omega
open Go.RowKit
section
variable {P : Program} {l : List Oper} {kill : Nat → List Nat} {C : Nat → World → Prop} {R : Nat → World → World → Prop} {Φ : Nat → Fact} {a0 : Act}
theorem anyInvLD (g : Good l a0.tmps.size) (hkl : killB l kill = true) {L : Nat} {oL : Oper} (hn : lastB l L = true) (hoL : l[L]? = some oL) (hgL : oL.guard = none)
    (hC : ∀ n m, n < l.length → m < l.length → n ≠ m → ((masks l []).getD n 0).testBit m = false → ∀ w w', C m w → R n w w' → C m w') (hΦ : ∀ n i, n < l.length → i < l.length → i ∉ kill n → i ≠ n → ((masks l []).getD i 0).testBit n = false → ∀ v w w', Φ i v w → R n w w' → Φ i v w') (hRr : ∀ n o w, l[n]? = some o → o.guard.isSome = true → R n w w) (hs : ∀ i o, l[i]? = some o → i ≠ L → StepOk P l C R Φ a0.tmps i o) {Q : Exit → Act → World → Prop}
    (hQ : ∀ listed a' w', (∀ i, i < l.length → i ≠ L → On listed i) → ¬ On listed L → Inv l kill C (fun _ _ => True) Φ a0 listed a' w' → Yp P (fun v w'' => Q .normal (a'.put oL.dst v) w'') (fun ch w'' => Q (.panic ch) a' w'') ((execOp a'.eval oL).run P w')) :
    ∀ (fuel : Nat) (listed : Array Bool) (a : Act) (w : World), (listed.toList.filter (!·)).length = fuel → ¬ On listed L → Inv l kill C (fun _ _ => True) Φ a0 listed a w → wpAny P .any l.toArray Q fuel listed a w := by
  obtain ⟨hlen, hb⟩ := lastB_iff hn
  have rdy : ∀ (listed : Array Bool), listed.size = l.length → (∀ i, i < l.length → On listed i) → Region.ready .any l.toArray listed = [] := by
    intro listed hsz hon
    cases hr : Region.ready .any l.toArray listed with
    | nil => rfl
    | cons x xs =>
      exfalso
      have hm : x ∈ Region.ready .any l.toArray listed := by rw [hr]; simp
      obtain ⟨h1, o, ho, _⟩ := mem_ready.1 hm
      have hx : x < l.length := by simpa using (Array.getElem?_eq_some_iff.1 ho).1
      have h2 := hon x hx
      have hx' : x < listed.size := h2.lt
      unfold On at h2
      simp [hx'] at h1 h2
      rw [h1] at h2
      cases h2
  intro fuel
  induction fuel with
  | zero =>
    intro listed a w hf hoff h
    exfalso
    have := count_zero _ hf L (by rw [Array.length_toList, h.size]; omega)
    exact hoff (by unfold On; simp at this; simp [this])
  | succ fuel ih =>
    intro listed a w hf hoff h
    have hstep : ∀ i ∈ Region.ready .any l.toArray listed, ∃ o, l[i]? = some o ∧ ¬ On listed i ∧ (∀ e ∈ o.after, Region.binds .any e = true → On listed e.on) ∧ ((listed.setIfInBounds i true).toList.filter (!·)).length = fuel := by
      intro i hi
      obtain ⟨h1, o, ho, hall⟩ := mem_ready.1 hi
      have ho' : l[i]? = some o := by simpa using ho
      have hil : i < listed.size := by rw [h.size]; exact (List.getElem?_eq_some_iff.1 ho').1
      refine ⟨o, ho', ?_, fun e he hb => hall e he hb, ?_⟩
      · unfold On
        simp [hil] at h1 ⊢
        exact h1
      · rw [Array.toList_setIfInBounds]
        have := count_set listed.toList i (by
          simp [hil] at h1
          simp [hil, h1])
        omega
    refine ⟨fun hr => ?_, fun i hi => ?_⟩
    · exfalso
      have full : ∀ i, i < l.length → On listed i := by
        intro i
        induction i using Nat.strongRecOn with
        | _ i ih =>
          intro hi
          refine Classical.byContradiction fun hno => ?_
          have ho : l[i]? = some l[i] := List.getElem?_eq_getElem hi
          have : i ∈ Region.ready .any l.toArray listed := by
            refine mem_ready.2 ⟨?_, l[i], by rw [List.getElem?_toArray]; exact ho, fun e he hb => ?_⟩
            · have hi' : i < listed.size := by rw [h.size]; exact hi
              unfold On at hno
              simp [hi'] at hno ⊢
              exact hno
            · have hlt := g.back i _ ho e he hb
              exact ih e.on hlt (by omega)
          rw [hr] at this
          cases this
      exact hoff (full L (by omega))
    · obtain ⟨o, ho, hno, hall, hcnt⟩ := hstep i hi
      by_cases hiL : i = L
      · subst hiL
        obtain rfl : oL = o := by rw [hoL] at ho; exact Option.some.inj ho
        have hon : ∀ j, j < l.length → j ≠ i → On listed j := fun j hj hne => h.maskReady ho hall (hb j (by omega))
        have hst := hQ listed a w hon hno h
        have hall' : ∀ j, j < l.length → On (listed.setIfInBounds i true) j := fun j hj => by
          by_cases hji : j = i
          · exact (on_set (by rw [h.size]; omega)).2 (.inl hji)
          · exact (on_set (by rw [h.size]; omega)).2 (.inr (hon j hj hji))
        have hr := rdy (listed.setIfInBounds i true) (by simpa using h.size) hall'
        have fin : ∀ v w', Q .normal (a.put oL.dst v) w' → wpAny P .any l.toArray Q fuel (listed.setIfInBounds i true) (a.put oL.dst v) w' := fun v w' hq => by
          cases fuel with
          | zero => exact ⟨hr, hq⟩
          | succ m => exact ⟨fun _ => hq, fun j hj => by rw [hr] at hj; cases hj⟩
        unfold wpOp
        simp only [List.getElem?_toArray, ho]
        have hw : Region.wanted oL (yielded l.toArray a.tmps) = true := by unfold Region.wanted; rw [hgL]
        rw [if_pos hw]
        refine .inl ?_
        unfold Oper.wp
        generalize (execOp a.eval oL).run P w = r at hst ⊢
        match r, hst with
        | .ok (.value v) w', hst => exact fin _ _ hst
        | .ok .skip w', hst => exact fin _ _ hst
        | .halt (.panic v) w', hst => exact hst
        | .ok (.enter f args) w', hst =>
          refine Calls.mono hst fun e w'' hx => ?_
          match e, hx with
          | .returned v, hx => exact fin _ _ hx
          | .panicked ch, hx => exact hx
      · refine h.step g hkl hC (fun _ _ _ _ _ _ _ _ _ _ => trivial) hΦ hRr ho hno hall (hs i o ho hiL) fun a' w' h' => ih _ _ _ hcnt (fun hx => ?_) h'
        exact ((on_set (by rw [h.size]; exact (List.getElem?_eq_some_iff.1 ho).1)).1 hx).elim (fun e => hiL e.symm) hoff
end
section
variable {P : Program} {n : Nat} {ρ : Slots} {w : World} {Q : PostF}
theorem wpF_draw_lastD {l : List Oper} (L : Nat) (oL : Oper) (ks : Nat → List Nat) (C : Nat → World → Prop) (R : Nat → World → World → Prop) (Φs : List Fact) {id : Nat} (hm : P.follows .mixedOrders = true) (ds : List Tmp) (hg : goodB l n = true) (hn : lastB l L = true) (hkl : killB l ks = true) (hds : slotsW l = ds) (hoL : l[L]? = some oL) (hgL : oL.guard = none) (hd : (match oL.dst with | some d => Nat.blt d n | none => true) = true) (hΦL : ∀ v w, facts Φs L v w)
    (hC : ∀ n m, n < l.length → m < l.length → n ≠ m → ((masks l []).getD n 0).testBit m = false → ∀ w w', C m w → R n w w' → C m w')
    (hΦ : ∀ n i, n < l.length → i < l.length → i ∉ ks n → i ≠ n → ((masks l []).getD i 0).testBit n = false → ∀ v w w', facts Φs i v w → R n w w' → facts Φs i v w')
    (hRr : ∀ n o w, l[n]? = some o → o.guard.isSome = true → R n w w) (h0 : ∀ n, n < l.length → C n { w with drawn := w.drawn + 1 })
    (hs : StepsFL P l L C R (facts Φs) ρ 0 l)
    (hQ : ∀ (ρ' : Slots) w1, C L w1 → EndF ds ρ ρ' → EndFacts l ks (facts Φs) ρ' w1 ds → Yp P (fun v w' => Q .normal (updO ρ' oL.dst v) w') (fun ch w' => Q (.panic ch) ρ' w') ((execOp (evalR ρ') oL).run P w1)) : wpF P n (.region id l.toArray true) Q ρ w := by
  intro a ha
  obtain ⟨T, df⟩ := a
  have hz : T.size = n := ha.size
  subst hz
  obtain ⟨hl, hb⟩ := lastB_iff hn
  have g := good_of hg
  refine wp_region_any hm (anyInvLD (a0 := { tmps := T, defers := df }) (C := C) (R := R) (Φ := facts Φs) g hkl hn hoL hgL hC hΦ hRr (fun i o ho hi => ?_) (fun listed a' w' hon hoff h => ?_) _ _ _ _ (by simp) ?_ ?_)
  · have hst := StepsFL.get l 0 hs i o ho (by omega)
    rw [Nat.zero_add] at hst
    have h2 := StepsF.ok (P := P) (l := l) (C := C) (R := R) (Φ := facts Φs) (T := T) ha.get [o] i ⟨hst, trivial⟩
    exact h2.1
  · -- what the slots hold
    have hw : ∀ d k, writer l d l.length = some k → (List.range l.length).all (fun n => !(ks n).contains k) = true → facts Φs k (a'.tmps.getD d undef) w' := fun d k hk hall => by
      obtain ⟨h1, ⟨o, ho, hd'⟩, h3⟩ := writer_some _ hk
      by_cases hkL : k = L
      · rw [hkL]; exact hΦL _ _
      refine h.new d k o ho hd' (hon k h1 hkL) (fun k' o' hkk ho' hd'' _ => h3 k' o' hkk (List.getElem?_eq_some_iff.1 ho').1 ho' hd'') (fun n hn hkn => ?_)
      have hnl : n < l.length := by have := hn.lt; rw [h.size] at this; exact this
      have := List.all_eq_true.1 hall n (by simpa using hnl)
      simp at this
      exact this hkn
    have hget : ∀ t, a'.tmps.getD t undef = if t ∈ ds then a'.tmps.getD t undef else ρ t := fun t => by
      by_cases hn : t ∈ ds
      · rw [if_pos hn]
      · rw [if_neg hn, ← ha.get]
        exact h.old t fun k o ho hd _ => hn (by
          rw [← hds]
          unfold slotsW
          rw [List.mem_eraseDups, List.mem_filterMap]
          exact ⟨o, List.mem_of_getElem? ho, hd⟩)
    have hcl := h.cls L (by omega) hoff
    have hend : EndF ds ρ (fun t => a'.tmps.getD t undef) := ⟨fun t ht => by rw [hget t, if_neg (by simpa using ht)]⟩
    have := hQ (fun t => a'.tmps.getD t undef) w' hcl hend (endFacts_of hw ds)
    rw [evalR_eq] at this
    have hfit : Fits _ (fun t => a'.tmps.getD t undef) a' := ⟨h.tmps, h.defers.trans ha.defers, fun t => rfl⟩
    have hdn : ∀ t, oL.dst = some t → t < _ := fun t ht => by rw [ht] at hd; exact Nat.le_of_ble_eq_true hd
    exact Yp.mono' this (fun v w'' hq => ⟨_, hfit.put oL.dst hdn v, hq⟩) (fun ch w'' hq => ⟨_, ⟨h.tmps, h.defers.trans ha.defers, fun t => rfl⟩, hq⟩)
  · intro h
    unfold On at h
    rw [Array.getD_eq_getD_getElem?, Array.getElem?_replicate] at h
    split at h <;> simp at h
  · have hno : ∀ i, ¬ On (Array.replicate l.toArray.size false) i := fun i h => by
      unfold On at h
      rw [Array.getD_eq_getD_getElem?, Array.getElem?_replicate] at h
      split at h <;> simp at h
    exact ⟨Array.size_replicate, fun i o _ h => absurd h (hno i), rfl, rfl, fun n hn _ => h0 n hn, trivial, fun t _ => rfl, fun t k o _ _ h => absurd h (hno k)⟩
theorem wpF_draw_endD {l : List Oper} (L : Nat) (oL : Oper) (Φs : List Fact) {id : Nat} (hm : P.follows .mixedOrders = true) (ds : List Tmp) (hg : goodB l n = true) (hn : lastB l L = true) (hds : slotsW l = ds)
    (hoL : l[L]? = some oL) (hgL : oL.guard = none) (hd : (match oL.dst with | some d => Nat.blt d n | none => true) = true) (hΦL : ∀ v w, facts Φs L v w) (hst : AllStab Ext Φs)
    (hs : StepsFL P l L (fun _ => Ext w) (fun _ => Ext) (facts Φs) ρ 0 l)
    (hQ : ∀ (ρ' : Slots) w1, Ext w w1 → EndF ds ρ ρ' → EndFacts l (fun _ => []) (facts Φs) ρ' w1 ds → Yp P (fun v w' => Q .normal (updO ρ' oL.dst v) w') (fun ch w' => Q (.panic ch) ρ' w') ((execOp (evalR ρ') oL).run P w1)) : wpF P n (.region id l.toArray true) Q ρ w :=
  wpF_draw_lastD L oL (fun _ => []) (fun _ => Ext w) (fun _ => Ext) Φs hm ds hg hn (by unfold killB; simp) hds hoL hgL hd hΦL (fun _ _ _ _ _ _ _ _ hc hr => hc.trans hr) (fun _ i _ _ _ _ _ v w1 w' => hst.get Φs i v w1 w') (fun _ _ w1 _ _ => Ext.refl w1) (fun _ _ => (Below.refl _ _).drew) hs hQ
theorem updO_other {ρ : Slots} {d : Option Tmp} {v : Value} {t : Tmp} (h : some t ≠ d) : updO ρ d v t = ρ t := by
  cases d with
  | none => rfl
  | some d =>
    show (bif Nat.beq t d then v else ρ t) = ρ t
    cases e : Nat.beq t d with
    | false => rfl
    | true => exact absurd (congrArg some (Nat.eq_of_beq_eq_true e)) h
theorem wpF_draw_endE {l : List Oper} (L : Nat) (oL : Oper) (Φs : List Fact) {id : Nat} (hm : P.follows .mixedOrders = true) (ds : List Tmp) (hg : goodB l n = true) (hn : lastB l L = true) (hds : slotsW l = ds)
    (hoL : l[L]? = some oL) (hgL : oL.guard = none) (hd : (match oL.dst with | some d => Nat.blt d n | none => true) = true) (hΦL : ∀ v w, facts Φs L v w) (hst : AllStab Ext Φs)
    (hs : StepsFL P l L (fun _ => Ext w) (fun _ => Ext) (facts Φs) ρ 0 l)
    (hQ : ∀ (ρ' : Slots) w1, Ext w w1 → EndF ds ρ ρ' → EndFacts l (fun _ => []) (facts Φs) ρ' w1 ds → Yp P (fun _ w' => ∀ ρ'' : Slots, (∀ t, some t ≠ oL.dst → ρ'' t = ρ' t) → Q .normal ρ'' w') (fun ch w' => Q (.panic ch) ρ' w') ((execOp (evalR ρ') oL).run P w1)) : wpF P n (.region id l.toArray true) Q ρ w :=
  wpF_draw_endD L oL Φs hm ds hg hn hds hoL hgL hd hΦL hst hs fun ρ' w1 h1 h2 h3 => Yp.mono' (hQ ρ' w1 h1 h2 h3) (fun _ _ h => h _ fun _ ht => updO_other ht) (fun _ _ h => h)
end
open Go.RowKit
set_option maxRecDepth 100000
theorem pk14_ty110 : Tryd.prog.underlying 110 = some (.slice 116) := by kernel_rfl
theorem pk14_szg116 : ∀ w' : World, (sizeOf 116).run Tryd.prog w' = .ok 35 w' := fun _ => by kernel_rfl
theorem pk14_ty116 : ∃ fs, Tryd.prog.underlying 116 = some (.struct fs) := struct_of (by kernel_rfl)
theorem pk14_isz116 : (Tryd.prog.info? 116).map (·.size) = some 35 := by kernel_rfl
theorem pk14_al116 {d : Option Tmp} {ty : TypeId} {pos : String} {af : Array Edge} {gd : Option (Nat × Bool)} (σ : Operand → Value) (w : World) : (execOp σ ⟨d, .alloc 116, ty, pos, af, gd⟩).run Tryd.prog w = .ok (.value (PQ w.heap.size 0)) (w.alloc (.cells (entC dEnt).toArray 116)) := by kernel_rfl
theorem pk14_fo116_0 : FieldOff Tryd.prog 116 0 0 := fun b o w => by simp [go_sem]
theorem pk14_ty3 : Tryd.prog.underlying 3 = some (.int .i64) := by kernel_rfl
theorem pk14_ty140 : Tryd.prog.underlying 140 = some (.map 3 116) := by kernel_rfl
theorem pk14_ty24 : Tryd.prog.underlying 24 = some (.slice 5) := by kernel_rfl
theorem pk14_sz5 : ∀ w' : World, (sizeOf 5).run Tryd.prog w' = .ok 1 w' := fun _ => by kernel_rfl
theorem pk14_pl75 : Plain Tryd.prog 75 := fun _ _ => by kernel_rfl
theorem pk14_al38 {d : Option Tmp} {ty : TypeId} {pos : String} {af : Array Edge} {gd : Option (Nat × Bool)} (σ : Operand → Value) (w : World) : (execOp σ ⟨d, .alloc 38, ty, pos, af, gd⟩).run Tryd.prog w = .ok (.value (PQ w.heap.size 0)) (w.alloc (.cells (Lib.byteCells (List.replicate 32 0)).toArray 38)) := by kernel_rfl
theorem pk14_pl62 : Plain Tryd.prog 62 := fun _ _ => by kernel_rfl
theorem pk14_pl64 : Plain Tryd.prog 64 := fun _ _ => by kernel_rfl
theorem pk14_ty38 : Tryd.prog.underlying 38 = some (.array 32 5) := by kernel_rfl
theorem pk14_lh47 (c0 c1 c2 c3 c4 c5 c6 c7 c8 c9 c10 c11 c12 c13 c14 c15 c16 c17 c18 c19 c20 c21 c22 c23 c24 c25 c26 c27 c28 c29 c30 c31 : Value) (w : World) : (Instr.buildSlice 47 1 #[(0, .agg #[c0, c1, c2, c3, c4, c5, c6, c7, c8, c9, c10, c11, c12, c13, c14, c15, c16, c17, c18, c19, c20, c21, c22, c23, c24, c25, c26, c27, c28, c29, c30, c31])]).run Tryd.prog w = .ok (.slice (some ⟨w.heap.size, 0, none⟩) 1 1) (w.alloc (.cells #[c0, c1, c2, c3, c4, c5, c6, c7, c8, c9, c10, c11, c12, c13, c14, c15, c16, c17, c18, c19, c20, c21, c22, c23, c24, c25, c26, c27, c28, c29, c30, c31] 38)) := by kernel_rfl
theorem pk14_lg47 : ∀ (cs : Array Value), cs.size = 32 → ∀ w : World, (Instr.buildSlice 47 1 #[(0, .agg cs)]).run Tryd.prog w = .ok (.slice (some ⟨w.heap.size, 0, none⟩) 1 1) (w.alloc (.cells cs 38))
 | ⟨[c0, c1, c2, c3, c4, c5, c6, c7, c8, c9, c10, c11, c12, c13, c14, c15, c16, c17, c18, c19, c20, c21, c22, c23, c24, c25, c26, c27, c28, c29, c30, c31]⟩, _, w => pk14_lh47 c0 c1 c2 c3 c4 c5 c6 c7 c8 c9 c10 c11 c12 c13 c14 c15 c16 c17 c18 c19 c20 c21 c22 c23 c24 c25 c26 c27 c28 c29 c30 c31 w
theorem pk14_ig38 : ∃ z, (Tryd.prog.info? 38).map (fun i => (i.zero, i.size, i.bytes)) = some (some z, 32, 32) ∧ z.cells.size = 32 := info_ex (by kernel_rfl)
theorem pk14_ty47 : Tryd.prog.underlying 47 = some (.slice 38) := by kernel_rfl
theorem pk14_ty112 : Tryd.prog.underlying 112 = some (.map 38 116) := by kernel_rfl
theorem pk14_szg38 : ∀ w' : World, (sizeOf 38).run Tryd.prog w' = .ok 32 w' := fun _ => by kernel_rfl
theorem pk14_isz38 : (Tryd.prog.info? 38).map (·.size) = some 32 := by kernel_rfl
theorem pk14_pl57 : Plain Tryd.prog 57 := fun _ _ => by kernel_rfl
theorem pindex_any (w : World) (v : Value) (t : Bs) (hr : RB w v t) (ve : Value) (es : List EntV) (hg : RG 35 entC w ve es) (hok : EntsOk w es) (htl : t.length = 36 * es.length) (hn : es.length ≤ 1048576) :
  Calls Tryd.prog 66 #[v, ve] w fun r w' => (∃ x, r = .returned x ∧ ∃ s vi b, ixGo (fun x : EntV => x.1.pos) dEnt t es es.length = some s ∧ x = .tuple #[vi, .map (some b)] ∧ RG 32 Lib.byteCells w' vi s.ids ∧ MapF rk entV (fun id : List UInt8 => id.length = 32) w' b s.M ∧ Ext w w') ∨ ∃ ch, r = .panicked ch ∧ ixGo (fun x : EntV => x.1.pos) dEnt t es es.length = none ∧ ch = [stopE 6] ∧ Ext w w' := by
 refine calls_of_wpP (args := [v, ve]) Tryd.func66 rfl 83 rfl (Nat.le_of_ble_eq_true rfl) ?_
 intro ρ0 hb
 have T0 : ρ0 0 = (v : Value) := hb.get 0
 have T1 : ρ0 1 = (ve : Value) := hb.get 1
 clear hb
 have hE := Ext.refl w
 refine sk fun K1 hK1 => (wt (oA rfl (oA rfl (oZ (tN (hK1 _ _ (sk fun K2 hK2 => (wt (oS rfl (Yk.mkMap NI entV (fun _ : Nat => True) fun n3 w4 hn5 hb6 hx7 hs8 => ?_))))))))))
 have hE := hE.trans hx7
 have hl9 : n3 < w4.heap.size := by omega
 refine oA rfl (oZ (tN (hK2 _ _ (sk fun K10 hK10 => (sk fun K11 hK11 => (wt (oM rfl (oS rfl (Yk.lenRG pk14_ty110 (RG.of (hg.keep hE) T1) (oM rfl (oL_ [(0, v), (1, ve), (4, (Value.slice none 0 0)), (5, (Value.map none)), (6, .map (some n3)), (19, ve), (20, NI es.length), (21, NI 0)] ⟨T0, T1, rfl, rfl, rfl, T1, rfl, rfl, trivial⟩ fun ρ12 ⟨T0, T1, T4, T5, T6, T19, T20, T21, _⟩ => (tN (hK11 _ _ (wpF_block (wpF_loop (fun (ρ : Slots) (wz : World) => ∃ m : Nat, ρ 0 = (v : Value) ∧ ρ 1 = (ve : Value) ∧ ρ 4 = ((Value.slice none 0 0) : Value) ∧ ρ 5 = ((Value.map none) : Value) ∧ ρ 6 = (.map (some n3) : Value) ∧ ρ 19 = (ve : Value) ∧ ρ 20 = (NI es.length : Value) ∧ ρ 21 = (NI m : Value) ∧ Ext w wz ∧ MapF NI entV (fun _ : Nat => True) wz n3 (placeGo (fun x : EntV => x.1.pos) dEnt es m) ∧ (m ≤ es.length) ∧ True) (fun ρ _ => es.length - (intOf (ρ 21)).toNat) ⟨0, T0, T1, T4, T5, T6, T19, T20, T21, hE, map_eq hb6 (rfl), Nat.zero_le _, trivial⟩ ?_)))))))))))))))
 clear hb6
 clear hE
 rintro ρ13 w14 ⟨m, T0, T1, T4, T5, T6, T19, T20, T21, hE, hb6l, hm, -⟩
 have q21 := T21
 refine sk fun K15 hK15 => (wt (oS rfl (Yk.eqI (a := (m : Nat)) (b := (es.length : Nat)) T21 T20 (k_lss _ _ _ _) (oZ (tN (hK15 _ _ (sk fun K16 hK16 => ?_)))))))
 refine wpF_cond ((m) < (es.length)) (vr (.bool (decide ((m) < (es.length)))) rfl) (fun hc0 => ?_) (fun hc0 => ?_)
 ·have hmi := getD_mem dEnt (l := es) (i := m) hc0
  have hel := hok _ hmi
  refine wpF_skip (tN (hK16 _ _ (sk fun K17 hK17 => (wpF_block (sk fun K18 hK18 => (wt ?_))))))
  have hl21 : (entC (es.getD (m) dEnt)).length = 35 := (RG.elem (hg.keep hE) dEnt (by omega))
  refine oS rfl (Yk.atRG pk14_ty110 pk14_szg116 (by decide) dEnt (RG.of (hg.keep hE) T19) T21 (by omega) fun v19 hp20 => (oS rfl (Yk.loadPR (PR.of hp20 (vr v19 rfl)) (pk14_ty116).choose_spec rfl (by rw [hl21]; exact pk14_isz116) (oS rfl (Yk.alloc (cs := (entC dEnt).toArray) pk14_al116 fun n22 w23 hn24 hb25 hx26 hs27 => ?_)))))
  have hA28 := Ext.refl w14
  have hea29 := hE
  have hz30 := hE.size
  have hlt31 := lte hb6l.lt hn24
  have hE := hE.trans hx26
  have hb6l := hb6l.keep hx26
  have hA28 := hA28.trans hx26
  have hb32 := hb25; clear hb25
  have hl33 : n22 < w23.heap.size := by omega
  refine oS rfl (Yk.storeAll (vr (PQ n22 0) rfl) (vr (.agg (entC (es.getD (m) dEnt)).toArray) rfl) hb32 (entC_size (x := ((es.getD (m) dEnt) : EntV)) (y := (dEnt : EntV)) hel.2 (by simp [dEnt])) (entC_isz (x := ((es.getD (m) dEnt) : EntV)) pk14_isz116 hel.2) (entC_one (x := ((es.getD (m) dEnt) : EntV)) (RB.one hel.1).2) fun w34 hb35 hg36 hs37 => ?_)
  have hE := row_fresh hE hg36 (Nat.le_trans hz30 (by omega))
  have hb6l := MapF.other hb6l hg36 (some_ne (by omega))
  have hA28 := row_fresh hA28 hg36 (Nat.le_trans (Nat.le_refl _) (by omega))
  clear hb32
  have hb32 := hb35; clear hb35
  have hl38 := bl hb32
  refine oZ ?_
  clear hp20
  refine tN (hK18 _ _ (wt (oM rfl (oS rfl (Yk.fieldAt pk14_fo116_0 (vr (PQ n22 0) rfl) (oS rfl (Yk.cell1 pk14_ty3 rfl (vr (PQ n22 0) rfl) (cellAt hb32 ((show (entC ((es.getD (m) dEnt)))[0]? = some (NI (((es.getD (m) dEnt)).1.pos) : Value) from rfl))) (oS rfl (Yk.loadAll (vr (PQ n22 0) rfl) hb32 (pk14_ty116).choose_spec rfl (entC_isz (x := ((es.getD (m) dEnt) : EntV)) pk14_isz116 hel.2) (oS rfl (Yk.putM (ek := NI) (ev := entV) (D := (fun _ : Nat => True)) (c := ((es.getD (m) dEnt))) intLaw int_ok pk14_ty140 T6 (vr (NI (((es.getD (m) dEnt)).1.pos)) rfl) (vr (.agg (entC ((es.getD (m) dEnt))).toArray) rfl) hb6l trivial fun w39 hb40 hg41 hs42 => ?_)))))))))))
  have hE := row_fresh hE hg41 (Nat.le_trans (Nat.le_refl _) (by omega))
  clear hb6l
  clear hA28
  have hb32 := kb hg41 hb32 (by omega)
  have hl43 : n3 < w39.heap.size := hb40.lt
  refine oZ (bN (tN (hK17 _ _ (wt (oS rfl (Yk.bin (xv := NI m) (yv := NI 1) T21 rfl rfl (i64_add _ _ _ (by omega)) (oM rfl (oL_ [(0, v), (1, ve), (4, (Value.slice none 0 0)), (5, (Value.map none)), (6, .map (some n3)), (8, PQ n22 0), (19, ve), (20, NI es.length), (21, NI ((m) + (1)))] ⟨T0, T1, T4, T5, T6, rfl, T19, T20, rfl, trivial⟩ fun ρ44 ⟨T0, T1, T4, T5, T6, T8, T19, T20, T21, _⟩ => (tN (And.intro ⟨m + 1, T0, T1, T4, T5, T6, T19, T20, T21, hE, map_eq hb40 (rfl), by omega, trivial⟩ ?_))))))))))
  show es.length - (intOf (ρ44 21)).toNat < es.length - (intOf (ρ13 21)).toNat
  rw [T21, q21]
  simp only [intOf, Int.toNat_natCast]; omega
 have hie : m = es.length := by omega
 refine wpF_exit (thenF_exit (thenF_exit (inBlockF_hit (tN (hK10 _ _ (sk fun K45 hK45 => (wt (oA rfl (oZ ?_)))))))))
 have hids0 : OG w.heap.size 38 32 Lib.byteCells w14 (Value.slice none 0 0) ([] : List Bs) := OG.nil _ _ _ _ _
 have hap46 : Value.ownBlock (Value.slice none 0 0) ≠ some n3 := fun h => by cases h
 refine tN (hK45 _ _ (sk fun K47 hK47 => (wt (oS rfl (Yk.mkMap rk entV (fun id : List UInt8 => id.length = 32) fun n48 w49 hn50 hb51 hx52 hs53 => ?_)))))
 have hA54 := Ext.refl w14
 have hea55 := hE
 have hz56 := hE.size
 have hlt57 := lte hb6l.lt hn50
 have hap58 : Value.ownBlock (Value.slice none 0 0) ≠ some n48 := own_newer hids0.2 (by omega)
 have hE := hE.trans hx52
 have hb6l := hb6l.keep hx52
 have hids0 := hids0.keep hx52
 have hA54 := hA54.trans hx52
 have hl59 : n48 < w49.heap.size := by omega
 refine oA rfl (oZ (tN (hK47 _ _ (sk fun K60 hK60 => (sk fun K61 hK61 => (wt (oM rfl (oS rfl (Yk.lenRG pk14_ty110 (RG.of (hg.keep hE) T1) (oM rfl (oL_ [(0, v), (1, ve), (4, (Value.slice none 0 0)), (5, (Value.map none)), (6, .map (some n3)), (9, (Value.slice none 0 0)), (10, .map (some n48)), (19, ve), (20, NI es.length), (21, NI m), (32, NI es.length), (33, NI 0)] ⟨T0, T1, T4, T5, T6, rfl, rfl, T19, T20, T21, rfl, rfl, trivial⟩ fun ρ62 ⟨T0, T1, T4, T5, T6, T9, T10, T19, T20, T21, T32, T33, _⟩ => (tN (hK61 _ _ (wpF_block (wpF_loop (fun (ρ : Slots) (wz : World) => ∃ i : Nat, ∃ s : IxS EntV, ∃ vi : Value, ρ 0 = (v : Value) ∧ ρ 1 = (ve : Value) ∧ ρ 4 = ((Value.slice none 0 0) : Value) ∧ ρ 5 = ((Value.map none) : Value) ∧ ρ 6 = (.map (some n3) : Value) ∧ ρ 10 = (.map (some n48) : Value) ∧ ρ 19 = (ve : Value) ∧ ρ 20 = (NI es.length : Value) ∧ ρ 21 = (NI m : Value) ∧ ρ 32 = (NI es.length : Value) ∧ ρ 33 = (NI i : Value) ∧ ρ 9 = (vi : Value) ∧ Ext w wz ∧ OG w.heap.size 38 32 (Lib.byteCells) wz vi (s.ids) ∧ MapF NI entV (fun _ : Nat => True) wz n3 (s.G) ∧ MapF rk entV (fun id : List UInt8 => id.length = 32) wz n48 (s.M) ∧ (ixGo (fun x : EntV => x.1.pos) dEnt t es i = some s) ∧ (i ≤ es.length) ∧ (OB vi n3) ∧ (OB vi n48) ∧ True) (fun ρ _ => es.length - (intOf (ρ 33)).toNat) ⟨0, ⟨[], placeGo (fun x : EntV => x.1.pos) dEnt es es.length, fun _ => none⟩, (Value.slice none 0 0), T0, T1, T4, T5, T6, T10, T19, T20, T21, T32, T33, T9, hE, og_eq hids0 (rfl), map_eq hb6l (by rw [hie]), map_eq hb51 (rfl), rfl, Nat.zero_le _, hap46, hap58, trivial⟩ ?_)))))))))))))))
 clear hb6l
 clear hids0
 clear hA54
 clear hb51
 clear hE
 rintro ρ63 w64 ⟨i, s, vi, T0, T1, T4, T5, T6, T10, T19, T20, T21, T32, T33, T9, hE, hr_vi, hb6ll, hb51l, hs, hi, hap_vi_n3, hap_vi_n48, -⟩
 have q33 := T33
 refine sk fun K65 hK65 => (wt (oS rfl (Yk.eqI (a := (i : Nat)) (b := (es.length : Nat)) T33 T32 (k_lss _ _ _ _) (oZ (tN (hK65 _ _ (sk fun K66 hK66 => ?_)))))))
 refine wpF_cond ((i) < (es.length)) (vr (.bool (decide ((i) < (es.length)))) rfl) (fun hc1 => ?_) (fun hc1 => ?_)
 ·have hil : i < es.length := hc1
  have hI := ixGo_ok i s hs
  have hIl := hI.len
  have hst := ixGo_step hs
  have h32 := rowId_len htl hil
  refine wpF_skip (tN (hK66 _ _ (sk fun K67 hK67 => (wpF_block (sk fun K68 hK68 => (wt (oM rfl (oA rfl (oZ (tN (hK68 _ _ (sk fun K69 hK69 => (wt (oM rfl (oM rfl (oS rfl (Yk.bin (xv := NI 36) (yv := NI i) rfl T33 rfl (i64_mul _ _ _ (by omega)) (oS rfl (Yk.sliceLo (xs := t) (l := (36) * (i)) pk14_ty24 pk14_sz5 T0 (hr.keep hE) (vr (NI ((36) * (i))) rfl) (by omega) fun v70 hr71 ha72 => ?_)))))))))))))))))))
  refine oA rfl (oZ (tN (hK69 _ _ (sk fun K73 hK73 => (wt (oM rfl (oS rfl (Yk.callA2 pk14_pl75 (vr v70 rfl) (vr (NI 0) rfl) ?_))))))))
  refine ((show Calls _ _ _ _ (fun e w2 => e = .returned (.tuple #[AB (rowId t i), NI 32, NI 0]) ∧ Ext _ w2) from (getId_in _ v70 (t.drop ((36) * (i))) hr71 0 (Nat.zero_le _)).mono fun e w2 ⟨h1, h2⟩ => by subst h1; refine ⟨?_, h2⟩; unfold getIdRes rowId; rw [if_neg (by simp only [List.length_drop]; omega), List.drop_zero]; rfl)).mono ?_
  rintro e w75 ⟨rfl, hx74⟩
  refine ⟨_, rfl, ?_⟩
  have hE := hE.trans hx74
  have hr_vi := hr_vi.keep hx74
  have hb6ll := hb6ll.keep hx74
  have hb51l := hb51l.keep hx74
  have hr71 := hr71.keep hx74
  refine oM rfl (oS rfl (Yk.extract (vs := [AB (rowId t i), NI 32, NI 0]) (vr (.tuple #[AB (rowId t i), NI 32, NI 0]) rfl) (show _ = some (AB (rowId t i) : Value) from rfl) (oS rfl (Yk.extract (vs := [AB (rowId t i), NI 32, NI 0]) (vr (.tuple #[AB (rowId t i), NI 32, NI 0]) rfl) (show _ = some (NI 32 : Value) from rfl) (oS rfl (Yk.extract (vs := [AB (rowId t i), NI 32, NI 0]) (vr (.tuple #[AB (rowId t i), NI 32, NI 0]) rfl) (show _ = some (NI 0 : Value) from rfl) (oS rfl (Yk.alloc (cs := (Lib.byteCells (List.replicate 32 0)).toArray) pk14_al38 fun n76 w77 hn78 hb79 hx80 hs81 => ?_))))))))
  have hA82 := Ext.refl w75
  have hea83 := hE
  have hz84 := hE.size
  have hlt85 := lte hb6ll.lt hn78
  have hlt86 := lte hb51l.lt hn78
  have hap87 : OB vi n76 := own_newer hr_vi.2 (by omega)
  have hE := hE.trans hx80
  have hr_vi := hr_vi.keep hx80
  have hb6ll := hb6ll.keep hx80
  have hb51l := hb51l.keep hx80
  have hA82 := hA82.trans hx80
  have hb88 := hb79; clear hb79
  have hl89 : n76 < w77.heap.size := by omega
  refine oS rfl (Yk.storeAll (vr (PQ n76 0) rfl) (vr (AB (rowId t i)) rfl) hb88 (by exact idsize h32 List.length_replicate) (by exact sizeId_of h32) (byteCells_one _) fun w90 hb91 hg92 hs93 => ?_)
  have hE := row_fresh hE hg92 (Nat.le_trans hz84 (by omega))
  have hr_vi := OG.kept hr_vi hg92 hap87
  have hb6ll := MapF.other hb6ll hg92 (some_ne (by omega))
  have hb51l := MapF.other hb51l hg92 (some_ne (by omega))
  have hA82 := row_fresh hA82 hg92 (Nat.le_trans (Nat.le_refl _) (by omega))
  clear hb88
  have hb88 := hb91; clear hb91
  have hl94 := bl hb88
  refine oA rfl (oA rfl (oZ ?_))
  rcases hG : s.G (rowAt t i) with _ | c
  ·have hO : ixStep (fun x : EntV => x.1.pos) t i s = none := by unfold ixStep; rw [hG]
   refine tN (hK73 _ _ (sk fun K95 hK95 => (wt (oM rfl (oM rfl (oS rfl (Yk.sliceLo (xs := t.drop ((36) * (i))) (l := 32) pk14_ty24 pk14_sz5 (vr v70 rfl) (hr71.keep hA82) (vr (NI 32) rfl) (by simp only [List.length_drop]; omega) fun v96 hr97 ha98 => (oS rfl (Yk.callA1 pk14_pl62 (vr v96 rfl) (((show Calls _ _ _ _ (fun e w2 => e = .returned (NI (rowAt t i)) ∧ Ext _ w2) from number_any_ _ v96 ((t.drop ((36) * (i)) : List UInt8).drop (32)) hr97 (by simp only [List.length_drop]; omega))).mono ?_))))))))))
   rintro e w100 ⟨rfl, hx99⟩
   refine ⟨_, rfl, ?_⟩
   have hE := hE.trans hx99
   have hr_vi := hr_vi.keep hx99
   have hb6ll := hb6ll.keep hx99
   have hb51l := hb51l.keep hx99
   have hA82 := hA82.trans hx99
   have hb88 := eb hx99 hb88
   have hr97 := hr97.keep hx99
   refine oS rfl (Yk.lookOkN (ek := NI) (ev := entV) (D := (fun _ : Nat => True)) intLaw int_ok (fun _ _ => ni_inj) pk14_ty140 (z := entV dEnt) zeroEnt T6 (vr (NI (rowAt t i)) rfl) hb6ll trivial hG (oM rfl (oS rfl (Yk.extract (vs := [.agg (entC (dEnt)).toArray, .bool (false)]) (vr (.tuple #[.agg (entC (dEnt)).toArray, .bool (false)]) rfl) (show _ = some (.agg (entC (dEnt)).toArray : Value) from rfl) (oS rfl (Yk.extract (vs := [.agg (entC (dEnt)).toArray, .bool (false)]) (vr (.tuple #[.agg (entC (dEnt)).toArray, .bool (false)]) rfl) (show _ = some (.bool (false) : Value) from rfl) (oS rfl (Yk.alloc (cs := (entC dEnt).toArray) pk14_al116 fun n101 w102 hn103 hb104 hx105 hs106 => ?_))))))))
   have hA107 := Ext.refl w100
   have hea108 := hE
   have hea109 := hA82
   have hz110 := hE.size
   have hz111 := hA82.size
   have hlt112 := lte hb6ll.lt hn103
   have hlt113 := lte hb51l.lt hn103
   have hlt114 := lte (bl hb88) hn103
   have hap115 : OB vi n101 := own_newer hr_vi.2 (by omega)
   have hE := hE.trans hx105
   have hr_vi := hr_vi.keep hx105
   have hb6ll := hb6ll.keep hx105
   have hb51l := hb51l.keep hx105
   have hA82 := hA82.trans hx105
   have hb88 := eb hx105 hb88
   have hA107 := hA107.trans hx105
   have hb116 := hb104; clear hb104
   have hl117 : n101 < w102.heap.size := by omega
   refine oS rfl (Yk.storeAll (vr (PQ n101 0) rfl) (vr (.agg (entC (dEnt)).toArray) rfl) hb116 (entC_size (x := ((dEnt) : EntV)) (y := (dEnt : EntV)) (by simp [dEnt]) (by simp [dEnt])) (entC_isz (x := ((dEnt) : EntV)) pk14_isz116 (by simp [dEnt])) (entC_one (x := ((dEnt) : EntV)) rfl) fun w118 hb119 hg120 hs121 => ?_)
   have hE := row_fresh hE hg120 (Nat.le_trans hz110 (by omega))
   have hr_vi := OG.kept hr_vi hg120 hap115
   have hb6ll := MapF.other hb6ll hg120 (some_ne (by omega))
   have hb51l := MapF.other hb51l hg120 (some_ne (by omega))
   have hA82 := row_fresh hA82 hg120 (Nat.le_trans hz111 (by omega))
   have hb88 := kb hg120 hb88 (by omega)
   have hA107 := row_fresh hA107 hg120 (Nat.le_trans (Nat.le_refl _) (by omega))
   clear hb116
   have hb116 := hb119; clear hb119
   have hl122 := bl hb116
   refine oA rfl (oZ (tN (hK95 _ _ (sk fun K123 hK123 => ?_))))
   refine wpF_draw_endE 15 _ [Is (.bool (false)), Is (.bool (false)), Is undef, Is undef, Is undef, Is undef, Is undef, Is undef, Is undef, Is undef, Is undef, Is undef, Is undef, Is undef, Is (.bool (false))] (by kernel_rfl) [54, 55, 56, 57, 58, 59, 60, 61, 62, 63, 64, 65, 66, 67, 68, 69] (by kernel_rfl) (by kernel_rfl) (by kernel_rfl) rfl rfl rfl (fun _ _ => trivial) (si3 (si12 trivial)) ?hs4015 ?hQ4015
   case hs4015 =>
    refine ⟨?_, ?_, ?_, ?_, ?_, ?_, ?_, ?_, ?_, ?_, ?_, ?_, ?_, ?_, ?_, ?_, trivial⟩
    ·refine stepFL (stepN rfl fun σ w1 hC h => ?_)
     have e17 : σ 17 = .bool (false) := (eqo (h 17 (by decide))).trans rfl
     exact Yk.move e17 ⟨Ext.refl _, rfl⟩
    ·refine stepFL (stepN rfl fun σ w1 hC h => ?_)
     have e54 := eqo (h 54 (by decide))
     exact Yk.move e54 ⟨Ext.refl _, rfl⟩
    ·refine stepFL (stepX 1 true 55 rfl rfl (fun x _ (h : x = .bool false) => by rw [h]; intro h; cases h) fun _ => rfl)
    ·refine stepFL (stepX 1 true 55 rfl rfl (fun x _ (h : x = .bool false) => by rw [h]; intro h; cases h) fun _ => rfl)
    ·refine stepFL (stepX 1 true 55 rfl rfl (fun x _ (h : x = .bool false) => by rw [h]; intro h; cases h) fun _ => rfl)
    ·refine stepFL (stepX 4 false 58 rfl rfl (fun x _ (h : x = undef) => by rw [h]; intro h; cases h) fun _ => rfl)
    ·refine stepFL (stepX 4 false 58 rfl rfl (fun x _ (h : x = undef) => by rw [h]; intro h; cases h) fun _ => rfl)
    ·refine stepFL (stepX 4 false 58 rfl rfl (fun x _ (h : x = undef) => by rw [h]; intro h; cases h) fun _ => rfl)
    ·refine stepFL (stepX 4 false 58 rfl rfl (fun x _ (h : x = undef) => by rw [h]; intro h; cases h) fun _ => rfl)
    ·refine stepFL (stepX 4 false 58 rfl rfl (fun x _ (h : x = undef) => by rw [h]; intro h; cases h) fun _ => rfl)
    ·refine stepFL (stepX 4 false 58 rfl rfl (fun x _ (h : x = undef) => by rw [h]; intro h; cases h) fun _ => rfl)
    ·refine stepFL (stepX 4 false 58 rfl rfl (fun x _ (h : x = undef) => by rw [h]; intro h; cases h) fun _ => rfl)
    ·refine stepFL (stepX 4 false 58 rfl rfl (fun x _ (h : x = undef) => by rw [h]; intro h; cases h) fun _ => rfl)
    ·refine stepFL (stepX 1 true 55 rfl rfl (fun x _ (h : x = .bool false) => by rw [h]; intro h; cases h) fun _ => rfl)
    ·refine stepFL (stepN rfl fun σ w1 hC h => ?_)
     have e55 := eqo (h 55 (by decide))
     exact Yk.pickF e55 (vr (.bool (false)) rfl) ⟨Ext.refl _, rfl⟩
    ·exact trivial
   intro ρ124 w125 hx126 he hf
   obtain ⟨-, -, -, -, -, -, -, -, -, -, -, -, -, -, k68, -⟩ := hf
   obtain ⟨T0, T1, T4, T5, T6, T9, T10, T11, T12, T13, T16, T17, T19, T20, T21, T32, T33, -⟩ := he.hold [(0, _), (1, _), (4, _), (5, _), (6, _), (9, _), (10, _), (11, _), (12, v70), (13, PQ n76 0), (16, PQ n101 0), (17, .bool (false)), (19, _), (20, _), (21, _), (32, _), (33, _)] ⟨T0, T1, T4, T5, T6, T9, T10, T33, rfl, rfl, rfl, rfl, T19, T20, T21, T32, T33, trivial⟩ rfl
   clear he
   have hE := hE.trans hx126
   have hr_vi := hr_vi.keep hx126
   have hb6ll := hb6ll.keep hx126
   have hb51l := hb51l.keep hx126
   have hA82 := hA82.trans hx126
   have hb88 := eb hx126 hb88
   have hA107 := hA107.trans hx126
   have hb116 := eb hx126 hb116
   have T68 : ρ124 68 = .bool (false) := k68
   clear k68
   refine Yp.callA2 pk14_pl64 T68 (vr (NI 6) rfl) ?_
   refine calls_either (need_any _ (false) 6) ?_ ?_
   rotate_left
   ·
    rintro ch w129 ⟨rfl, hb, hx⟩
    refine thenF_panic (inBlockF_panic (thenF_panic (thenF_panic (inBlockF_panic (thenF_panic (postP_panic ?_))))))
    rw [hO] at hst
    have hE1 := ixGo_none hst (es.length - (i + 1))
    rw [show i + 1 + (es.length - (i + 1)) = es.length by omega] at hE1
    exact .inr ⟨_, rfl, hE1, rfl, hE.trans hx⟩
   rintro v_ w130 ⟨rfl, hb127, hx128⟩
   cases hb127
  have hcm := hI.G _ c hG
  have hcl := hok _ hcm
  by_cases h0 : i = 0
  ·have hO : ixStep (fun x : EntV => x.1.pos) t i s = some (ixNext (fun x : EntV => x.1.pos) t i s c) := by unfold ixStep; rw [hG]; exact if_pos (.inl h0)
   rw [hO] at hst
   refine tN (hK73 _ _ (sk fun K131 hK131 => (wt (oM rfl (oM rfl (oS rfl (Yk.sliceLo (xs := t.drop ((36) * (i))) (l := 32) pk14_ty24 pk14_sz5 (vr v70 rfl) (hr71.keep hA82) (vr (NI 32) rfl) (by simp only [List.length_drop]; omega) fun v132 hr133 ha134 => (oS rfl (Yk.callA1 pk14_pl62 (vr v132 rfl) (((show Calls _ _ _ _ (fun e w2 => e = .returned (NI (rowAt t i)) ∧ Ext _ w2) from number_any_ _ v132 ((t.drop ((36) * (i)) : List UInt8).drop (32)) hr133 (by simp only [List.length_drop]; omega))).mono ?_))))))))))
   rintro e w136 ⟨rfl, hx135⟩
   refine ⟨_, rfl, ?_⟩
   have hE := hE.trans hx135
   have hr_vi := hr_vi.keep hx135
   have hb6ll := hb6ll.keep hx135
   have hb51l := hb51l.keep hx135
   have hA82 := hA82.trans hx135
   have hb88 := eb hx135 hb88
   have hr133 := hr133.keep hx135
   refine oS rfl (Yk.lookOkS (ek := NI) (ev := entV) (D := (fun _ : Nat => True)) intLaw int_ok (fun _ _ => ni_inj) pk14_ty140 (z := entV dEnt) zeroEnt T6 (vr (NI (rowAt t i)) rfl) hb6ll trivial hG (oM rfl (oS rfl (Yk.extract (vs := [.agg (entC (c)).toArray, .bool (true)]) (vr (.tuple #[.agg (entC (c)).toArray, .bool (true)]) rfl) (show _ = some (.agg (entC (c)).toArray : Value) from rfl) (oS rfl (Yk.extract (vs := [.agg (entC (c)).toArray, .bool (true)]) (vr (.tuple #[.agg (entC (c)).toArray, .bool (true)]) rfl) (show _ = some (.bool (true) : Value) from rfl) (oS rfl (Yk.alloc (cs := (entC dEnt).toArray) pk14_al116 fun n137 w138 hn139 hb140 hx141 hs142 => ?_))))))))
   have hA143 := Ext.refl w136
   have hea144 := hE
   have hea145 := hA82
   have hz146 := hE.size
   have hz147 := hA82.size
   have hlt148 := lte hb6ll.lt hn139
   have hlt149 := lte hb51l.lt hn139
   have hlt150 := lte (bl hb88) hn139
   have hap151 : OB vi n137 := own_newer hr_vi.2 (by omega)
   have hE := hE.trans hx141
   have hr_vi := hr_vi.keep hx141
   have hb6ll := hb6ll.keep hx141
   have hb51l := hb51l.keep hx141
   have hA82 := hA82.trans hx141
   have hb88 := eb hx141 hb88
   have hA143 := hA143.trans hx141
   have hb152 := hb140; clear hb140
   have hl153 : n137 < w138.heap.size := by omega
   refine oS rfl (Yk.storeAll (vr (PQ n137 0) rfl) (vr (.agg (entC (c)).toArray) rfl) hb152 (entC_size (x := ((c) : EntV)) (y := (dEnt : EntV)) hcl.2 (by simp [dEnt])) (entC_isz (x := ((c) : EntV)) pk14_isz116 hcl.2) (entC_one (x := ((c) : EntV)) (RB.one hcl.1).2) fun w154 hb155 hg156 hs157 => ?_)
   have hE := row_fresh hE hg156 (Nat.le_trans hz146 (by omega))
   have hr_vi := OG.kept hr_vi hg156 hap151
   have hb6ll := MapF.other hb6ll hg156 (some_ne (by omega))
   have hb51l := MapF.other hb51l hg156 (some_ne (by omega))
   have hA82 := row_fresh hA82 hg156 (Nat.le_trans hz147 (by omega))
   have hb88 := kb hg156 hb88 (by omega)
   have hA143 := row_fresh hA143 hg156 (Nat.le_trans (Nat.le_refl _) (by omega))
   clear hb152
   have hb152 := hb155; clear hb155
   have hl158 := bl hb152
   refine oA rfl (oZ (tN (hK131 _ _ (sk fun K159 hK159 => ?_))))
   refine wpF_draw_endE 15 _ [Is (.bool (true)), Is (.bool (true)), Is (NI i), Is (.bool (true)), Is (.bool (true)), Is undef, Is undef, Is undef, Is undef, Is undef, Is undef, Is undef, Is undef, Is (.bool (true)), Is (.bool (true))] (by kernel_rfl) [54, 55, 56, 57, 58, 59, 60, 61, 62, 63, 64, 65, 66, 67, 68, 69] (by kernel_rfl) (by kernel_rfl) (by kernel_rfl) rfl rfl rfl (fun _ _ => trivial) (si3 (si12 trivial)) ?hs5015 ?hQ5015
   case hs5015 =>
    refine ⟨?_, ?_, ?_, ?_, ?_, ?_, ?_, ?_, ?_, ?_, ?_, ?_, ?_, ?_, ?_, ?_, trivial⟩
    ·refine stepFL (stepN rfl fun σ w1 hC h => ?_)
     have e17 : σ 17 = .bool (true) := (eqo (h 17 (by decide))).trans rfl
     exact Yk.move e17 ⟨Ext.refl _, rfl⟩
    ·refine stepFL (stepN rfl fun σ w1 hC h => ?_)
     have e54 := eqo (h 54 (by decide))
     exact Yk.move e54 ⟨Ext.refl _, rfl⟩
    ·refine stepFL (stepY 1 true 55 rfl rfl (fun _ _ h => h) fun σ w1 hC h => ?_)
     have e11 := (eqo (h 11 (by decide))).trans T33
     exact Yk.move e11 ⟨Ext.refl _, rfl⟩
    ·refine stepFL (stepY 1 true 55 rfl rfl (fun _ _ h => h) fun σ w1 hC h => ?_)
     have e56 := eqo (h 56 (by decide))
     exact Yk.eqI (a := (i : Nat)) (b := (0 : Nat)) e56 rfl (k_eql _ _ _ _) ⟨Ext.refl _, (congrArg Value.bool (decide_eq_true (h0)))⟩
    ·refine stepFL (stepY 1 true 55 rfl rfl (fun _ _ h => h) fun σ w1 hC h => ?_)
     have e57 := eqo (h 57 (by decide))
     exact Yk.move e57 ⟨Ext.refl _, rfl⟩
    ·refine stepFL (stepX 4 false 58 rfl rfl (fun x _ (h : x = .bool true) => by rw [h]; intro h; cases h) fun _ => rfl)
    ·refine stepFL (stepX 4 false 58 rfl rfl (fun x _ (h : x = .bool true) => by rw [h]; intro h; cases h) fun _ => rfl)
    ·refine stepFL (stepX 4 false 58 rfl rfl (fun x _ (h : x = .bool true) => by rw [h]; intro h; cases h) fun _ => rfl)
    ·refine stepFL (stepX 4 false 58 rfl rfl (fun x _ (h : x = .bool true) => by rw [h]; intro h; cases h) fun _ => rfl)
    ·refine stepFL (stepX 4 false 58 rfl rfl (fun x _ (h : x = .bool true) => by rw [h]; intro h; cases h) fun _ => rfl)
    ·refine stepFL (stepX 4 false 58 rfl rfl (fun x _ (h : x = .bool true) => by rw [h]; intro h; cases h) fun _ => rfl)
    ·refine stepFL (stepX 4 false 58 rfl rfl (fun x _ (h : x = .bool true) => by rw [h]; intro h; cases h) fun _ => rfl)
    ·refine stepFL (stepX 4 false 58 rfl rfl (fun x _ (h : x = .bool true) => by rw [h]; intro h; cases h) fun _ => rfl)
    ·refine stepFL (stepY 1 true 55 rfl rfl (fun _ _ h => h) fun σ w1 hC h => ?_)
     have e58 := eqo (h 58 (by decide))
     exact Yk.pickT e58 (vr (.bool (true)) rfl) ⟨Ext.refl _, rfl⟩
    ·refine stepFL (stepN rfl fun σ w1 hC h => ?_)
     have e55 := eqo (h 55 (by decide))
     have e67 := eqo (h 67 (by decide))
     exact Yk.pickT e55 e67 ⟨Ext.refl _, rfl⟩
    ·exact trivial
   intro ρ160 w161 hx162 he hf
   obtain ⟨-, -, -, -, -, -, -, -, -, -, -, -, -, -, k68, -⟩ := hf
   obtain ⟨T0, T1, T4, T5, T6, T9, T10, T11, T12, T13, T16, T17, T19, T20, T21, T32, T33, -⟩ := he.hold [(0, _), (1, _), (4, _), (5, _), (6, _), (9, _), (10, _), (11, _), (12, v70), (13, PQ n76 0), (16, PQ n137 0), (17, .bool (true)), (19, _), (20, _), (21, _), (32, _), (33, _)] ⟨T0, T1, T4, T5, T6, T9, T10, T33, rfl, rfl, rfl, rfl, T19, T20, T21, T32, T33, trivial⟩ rfl
   clear he
   have hE := hE.trans hx162
   have hr_vi := hr_vi.keep hx162
   have hb6ll := hb6ll.keep hx162
   have hb51l := hb51l.keep hx162
   have hA82 := hA82.trans hx162
   have hb88 := eb hx162 hb88
   have hA143 := hA143.trans hx162
   have hb152 := eb hx162 hb152
   have T68 : ρ160 68 = .bool (true) := k68
   clear k68
   refine Yp.callA2 pk14_pl64 T68 (vr (NI 6) rfl) ?_
   refine calls_either (need_any _ (true) 6) ?_ ?_
   rotate_left
   ·
    rintro ch w165 ⟨rfl, hb, hx⟩
    refine thenF_panic (inBlockF_panic (thenF_panic (thenF_panic (inBlockF_panic (thenF_panic (postP_panic ?_))))))
    cases hb
   rintro v_ w166 ⟨rfl, hb163, hx164⟩
   have hE := hE.trans hx164
   have hr_vi := hr_vi.keep hx164
   have hb6ll := hb6ll.keep hx164
   have hb51l := hb51l.keep hx164
   have hA82 := hA82.trans hx164
   have hb88 := eb hx164 hb88
   have hA143 := hA143.trans hx164
   have hb152 := eb hx164 hb152
   intro ρ167 hu168
   have T0 : ρ167 0 = (v : Value) := (hu168 0 (by decide)).trans T0
   have T1 : ρ167 1 = (ve : Value) := (hu168 1 (by decide)).trans T1
   have T4 : ρ167 4 = ((Value.slice none 0 0) : Value) := (hu168 4 (by decide)).trans T4
   have T5 : ρ167 5 = ((Value.map none) : Value) := (hu168 5 (by decide)).trans T5
   have T6 : ρ167 6 = (.map (some n3) : Value) := (hu168 6 (by decide)).trans T6
   have T9 : ρ167 9 = (vi : Value) := (hu168 9 (by decide)).trans T9
   have T10 : ρ167 10 = (.map (some n48) : Value) := (hu168 10 (by decide)).trans T10
   have T11 : ρ167 11 = (NI i : Value) := (hu168 11 (by decide)).trans T11
   have T12 : ρ167 12 = (v70 : Value) := (hu168 12 (by decide)).trans T12
   have T13 : ρ167 13 = (PQ n76 0 : Value) := (hu168 13 (by decide)).trans T13
   have T16 : ρ167 16 = (PQ n137 0 : Value) := (hu168 16 (by decide)).trans T16
   have T17 : ρ167 17 = (.bool (true) : Value) := (hu168 17 (by decide)).trans T17
   have T19 : ρ167 19 = (ve : Value) := (hu168 19 (by decide)).trans T19
   have T20 : ρ167 20 = (NI es.length : Value) := (hu168 20 (by decide)).trans T20
   have T21 : ρ167 21 = (NI m : Value) := (hu168 21 (by decide)).trans T21
   have T32 : ρ167 32 = (NI es.length : Value) := (hu168 32 (by decide)).trans T32
   have T33 : ρ167 33 = (NI i : Value) := (hu168 33 (by decide)).trans T33
   refine tN (hK159 _ _ (sk fun K169 hK169 => (wt (oM rfl (oS rfl (Yk.fieldAt pk14_fo116_0 T16 (oS rfl (Yk.cell1 pk14_ty3 rfl (vr (PQ n137 0) rfl) (cellAt hb152 ((show (entC ((c)))[0]? = some (NI (((c)).1.pos) : Value) from rfl))) (oS rfl (Yk.delM (ek := NI) (ev := entV) (D := (fun _ : Nat => True)) intLaw int_ok (fun _ _ => ni_inj) pk14_ty140 T6 (vr (NI (((c)).1.pos)) rfl) hb6ll trivial fun w170 hb171 hg172 hs173 => ?_))))))))))
   have hE := row_fresh hE hg172 (Nat.le_trans (Nat.le_refl _) (by omega))
   have hr_vi := OG.kept hr_vi hg172 hap_vi_n3
   clear hb6ll
   have hb51l := MapF.other hb51l hg172 (some_ne (by omega))
   clear hA82
   have hb88 := kb hg172 hb88 (by omega)
   clear hA143
   have hb152 := kb hg172 hb152 (by omega)
   have hl174 : n3 < w170.heap.size := hb171.lt
   refine oZ (tN (hK169 _ _ ?_))
   have hlow175 : ∀ k, Value.ownBlock vi = some k → w.heap.size ≤ k := fun k hk => (hr_vi.2.lt k hk).1
   have hsz_ : w.heap.size ≤ w170.heap.size := hE.size
   refine wpF_draw_rowsXL 8 _ (Value.ownBlock vi) [5] [2] (fun m => if m = 5 then [2, 4] else []) (fun m => if m = 5 then [2, 4, 5, 7] else []) [Is (.map (some n48)), Is (AB (rowId t i)), fun x w' => RowG w.heap.size w170.heap.size 38 32 (Lib.byteCells) (Value.ownBlock vi) (s.ids) x w', Is (AB (rowId t i)), fun x w' => RG 32 (Lib.byteCells) w' x ([(rowId t i)]), fun x w' => RowG w.heap.size w170.heap.size 38 32 (Lib.byteCells) (Value.ownBlock vi) ((s.ids) ++ [(rowId t i)]) x w', Is (.agg (entC ((c))).toArray), fun x w' => RowG w.heap.size w170.heap.size 38 32 (Lib.byteCells) (Value.ownBlock vi) ((s.ids) ++ [(rowId t i)]) x w'] (by kernel_rfl) [73, 74, 75, 76, 77, 78, 79, 9] (by kernel_rfl) (by kernel_rfl) (by kernel_rfl) (by kernel_rfl) (by kernel_rfl) (by kernel_rfl) rfl rfl rfl rfl rfl (si2 ⟨(fun _ _ _ h k => ⟨OG.keep h.1 k, h.2⟩), Stab.is _, (fun _ _ _ h k => RG.keep h k), (fun _ _ _ h k => ⟨OG.keep h.1 k, h.2⟩), Stab.is _, (fun _ _ _ h k => ⟨OG.keep h.1 k, h.2⟩), trivial⟩) ⟨⟨.inr (Stab.is _), .inr (Stab.is _), .inl rfl, .inr (Stab.is _), .inl rfl, .inl rfl, .inr (Stab.is _), .inl rfl, trivial⟩, trivial⟩ ?hs6017 ?hQ6017
   case hs6017 =>
    refine ⟨?_, ?_, ?_, ?_, ?_, ?_, ?_, ?_, ?_, trivial⟩
    ·refine stepFL (stepN rfl fun σ w1 hC h => ?_)
     have hC : BX w170.heap.size (Value.ownBlock vi) w170 w1 := hC
     have e10 := (eqo (h 10 (by decide))).trans T10
     exact Yk.move e10 ⟨Ext.refl _, rfl⟩
    ·refine stepFL (stepN rfl fun σ w1 hC h => ?_)
     have hC : BX w170.heap.size (Value.ownBlock vi) w170 w1 := hC
     have e13 := (eqo (h 13 (by decide))).trans T13
     exact Yk.loadAll e13 (BX.blk hC hb88 hap87) pk14_ty38 rfl (by exact sizeId_of h32) ⟨Ext.refl _, rfl⟩
    ·refine stepFL (stepN rfl fun σ w1 hC h => ?_)
     have hX : Ext w170 w1 := hC
     have hC : BX w170.heap.size (Value.ownBlock vi) w170 w1 := BX.ofExt hX (Nat.le_refl _)
     have e9 := (eqo (h 9 (by decide))).trans T9
     exact Yk.move e9 ⟨Ext.refl _, OG.keep hr_vi hX, fun k hk => .inl hk⟩
    ·refine stepFL (stepN rfl fun σ w1 hC h => ?_)
     have hC : BX w170.heap.size (Value.ownBlock vi) w170 w1 := hC
     have e13 := (eqo (h 13 (by decide))).trans T13
     exact Yk.loadAll e13 (BX.blk hC hb88 hap87) pk14_ty38 rfl (by exact sizeId_of h32) ⟨Ext.refl _, rfl⟩
    ·refine stepFL (stepN rfl fun σ w1 hC h => ?_)
     have hC : BX w170.heap.size (Value.ownBlock vi) w170 w1 := hC
     have e76 := eqo (h 76 (by decide))
     exact Yk.lit1G (a := (rowId t i)) (enc := Lib.byteCells) e76 (by rw [Lib.byteCells_length]; exact h32) pk14_lg47 fun v w2 h hx => ⟨hx, h⟩
    ·refine stepFL (stepN rfl fun σ w1 hC h => ?_)
     have hC : BX w170.heap.size (Value.ownBlock vi) w170 w1 := hC
     have e75 : (fun x w' => RowG w.heap.size w170.heap.size 38 32 (Lib.byteCells) (Value.ownBlock vi) (s.ids) x w') (σ 75) w1 := h 75 (by decide)
     have e77 : (fun x w' => RG 32 (Lib.byteCells) w' x ([(rowId t i)])) (σ 77) w1 := h 77 (by decide)
     exact Yk.appendRG _ _ w.heap.size _ 32 pk14_ty47 pk14_ig38.choose_spec.1 pk14_ig38.choose_spec.2 pk14_ty47 (s.ids) ([(rowId t i)]) e75.1 e77 (fun _ _ => byteCells_one _) (by simp only [List.length_cons, List.length_nil]; omega) (by simp only [List.length_cons, List.length_nil]; omega) (Nat.le_trans hsz_ hC.size) fun v w2 ho hg => ⟨BX.ofGrown hg.by_ hC.size e75.2, ho, fun k hk => (hg.fresh k hk).elim (e75.2 k) (fun x => .inr (Nat.le_trans hC.size x))⟩
    ·refine stepFL (stepN rfl fun σ w1 hC h => ?_)
     have hC : BX w170.heap.size (Value.ownBlock vi) w170 w1 := hC
     have e16 := (eqo (h 16 (by decide))).trans T16
     exact Yk.loadAll e16 (BX.blk hC hb152 hap151) (pk14_ty116).choose_spec rfl (entC_isz (x := ((c) : EntV)) pk14_isz116 hcl.2) ⟨Ext.refl _, rfl⟩
    ·refine stepFL (stepN rfl fun σ w1 hC h => ?_)
     have hC : BX w170.heap.size (Value.ownBlock vi) w170 w1 := hC
     have e78 : (fun x w' => RowG w.heap.size w170.heap.size 38 32 (Lib.byteCells) (Value.ownBlock vi) ((s.ids) ++ [(rowId t i)]) x w') (σ 78) w1 := h 78 (by decide)
     exact Yk.assign rfl ⟨Ext.refl _, e78⟩
    ·exact trivial
   intro ρ176 w177 hx178 he hf
   obtain ⟨k73, k74, -, -, -, -, k79, k9, -⟩ := hf
   obtain ⟨T0, T1, T4, T5, T6, T10, T11, T12, T13, T16, T17, T19, T20, T21, T32, T33, -⟩ := he.hold [(0, _), (1, _), (4, _), (5, _), (6, _), (10, _), (11, _), (12, _), (13, _), (16, _), (17, _), (19, _), (20, _), (21, _), (32, _), (33, _)] ⟨T0, T1, T4, T5, T6, T10, T11, T12, T13, T16, T17, T19, T20, T21, T32, T33, trivial⟩ rfl
   clear he
   have k9 : (fun x w' => RowG w.heap.size w170.heap.size 38 32 (Lib.byteCells) (Value.ownBlock vi) ((s.ids) ++ [(rowId t i)]) x w') (ρ176 9) w177 := k9
   obtain ⟨v179, T9⟩ : ∃ v, ρ176 9 = v := ⟨_, rfl⟩
   rw [T9] at k9
   have hg180 : Grew w170 w177 vi v179 := ⟨hx178.grown, k9.2⟩
   have ho181 := k9.1; clear k9
   have hap182 : OB v179 n3 := apart_grew hg180 hap_vi_n3 hb171.lt
   have hap183 : OB v179 n48 := apart_grew hg180 hap_vi_n48 hb51l.lt
   have hap184 : OB v179 n76 := apart_grew hg180 hap87 (bl hb88)
   have hap185 : OB v179 n137 := apart_grew hg180 hap151 (bl hb152)
   have hE := ext_grew hE hg180 hr_vi.2 (Nat.le_refl _)
   clear hr_vi
   have hb51l := MapF.grew hb51l hg180 hap_vi_n48
   have hb88 := blk_grew hb88 hg180 hap87
   have hb152 := blk_grew hb152 hg180 hap151
   have hb171 := MapF.grew hb171 hg180 hap_vi_n3
   have T73 : ρ176 73 = .map (some n48) := k73
   have T74 : ρ176 74 = AB (rowId t i) := k74
   have T79 : ρ176 79 = .agg (entC ((c))).toArray := k79
   clear k73 k74 k79
   refine Yp.ofK (Yk.putM (ek := rk) (ev := entV) (D := (fun id : List UInt8 => id.length = 32)) (c := ((c))) idLaw id_ok pk14_ty112 T73 T74 T79 hb51l h32 fun w186 hb187 hg188 hs189 => ?_)
   have hE := row_fresh hE hg188 (Nat.le_trans hz56 (by omega))
   clear hb51l
   have hb88 := kb hg188 hb88 (by omega)
   have hb152 := kb hg188 hb152 (by omega)
   have hb171 := MapF.other hb171 hg188 (some_ne (by omega))
   have ho181 := OG.kept ho181 hg188 hap183
   have hl190 : n48 < w186.heap.size := hb187.lt
   refine bN (tN (hK67 _ _ (wt (oS rfl (Yk.bin (xv := NI i) (yv := NI 1) T33 rfl rfl (i64_add _ _ _ (by omega)) (oM rfl (oL_ [(0, v), (1, ve), (4, (Value.slice none 0 0)), (5, (Value.map none)), (6, .map (some n3)), (9, v179), (10, .map (some n48)), (11, NI i), (12, v70), (13, PQ n76 0), (16, PQ n137 0), (17, .bool (true)), (19, ve), (20, NI es.length), (21, NI m), (32, NI es.length), (33, NI ((i) + (1)))] ⟨T0, T1, T4, T5, T6, T9, T10, T11, T12, T13, T16, T17, T19, T20, T21, T32, rfl, trivial⟩ fun ρ191 ⟨T0, T1, T4, T5, T6, T9, T10, T11, T12, T13, T16, T17, T19, T20, T21, T32, T33, _⟩ => (tN (And.intro ⟨i + 1, ixNext (fun x : EntV => x.1.pos) t i s c, v179, T0, T1, T4, T5, T6, T10, T19, T20, T21, T32, T33, T9, hE, og_eq ho181 (rfl), map_eq hb171 (rfl), map_eq hb187 (rfl), hst, by omega, hap182, hap183, trivial⟩ ?_)))))))))
   show es.length - (intOf (ρ191 33)).toNat < es.length - (intOf (ρ63 33)).toNat
   rw [T33, q33]
   simp only [intOf, Int.toNat_natCast]; omega
  by_cases hlt : Lib.compareBytes (s.ids.getD (i - 1) []) (rowId t i) < 0
  ·have hO : ixStep (fun x : EntV => x.1.pos) t i s = some (ixNext (fun x : EntV => x.1.pos) t i s c) := by unfold ixStep; rw [hG]; exact if_pos (.inr hlt)
   rw [hO] at hst
   refine tN (hK73 _ _ (sk fun K192 hK192 => (wt (oM rfl (oM rfl (oS rfl (Yk.sliceLo (xs := t.drop ((36) * (i))) (l := 32) pk14_ty24 pk14_sz5 (vr v70 rfl) (hr71.keep hA82) (vr (NI 32) rfl) (by simp only [List.length_drop]; omega) fun v193 hr194 ha195 => (oS rfl (Yk.callA1 pk14_pl62 (vr v193 rfl) (((show Calls _ _ _ _ (fun e w2 => e = .returned (NI (rowAt t i)) ∧ Ext _ w2) from number_any_ _ v193 ((t.drop ((36) * (i)) : List UInt8).drop (32)) hr194 (by simp only [List.length_drop]; omega))).mono ?_))))))))))
   rintro e w197 ⟨rfl, hx196⟩
   refine ⟨_, rfl, ?_⟩
   have hE := hE.trans hx196
   have hr_vi := hr_vi.keep hx196
   have hb6ll := hb6ll.keep hx196
   have hb51l := hb51l.keep hx196
   have hA82 := hA82.trans hx196
   have hb88 := eb hx196 hb88
   have hr194 := hr194.keep hx196
   refine oS rfl (Yk.lookOkS (ek := NI) (ev := entV) (D := (fun _ : Nat => True)) intLaw int_ok (fun _ _ => ni_inj) pk14_ty140 (z := entV dEnt) zeroEnt T6 (vr (NI (rowAt t i)) rfl) hb6ll trivial hG (oM rfl (oS rfl (Yk.extract (vs := [.agg (entC (c)).toArray, .bool (true)]) (vr (.tuple #[.agg (entC (c)).toArray, .bool (true)]) rfl) (show _ = some (.agg (entC (c)).toArray : Value) from rfl) (oS rfl (Yk.extract (vs := [.agg (entC (c)).toArray, .bool (true)]) (vr (.tuple #[.agg (entC (c)).toArray, .bool (true)]) rfl) (show _ = some (.bool (true) : Value) from rfl) (oS rfl (Yk.alloc (cs := (entC dEnt).toArray) pk14_al116 fun n198 w199 hn200 hb201 hx202 hs203 => ?_))))))))
   have hA204 := Ext.refl w197
   have hea205 := hE
   have hea206 := hA82
   have hz207 := hE.size
   have hz208 := hA82.size
   have hlt209 := lte hb6ll.lt hn200
   have hlt210 := lte hb51l.lt hn200
   have hlt211 := lte (bl hb88) hn200
   have hap212 : OB vi n198 := own_newer hr_vi.2 (by omega)
   have hE := hE.trans hx202
   have hr_vi := hr_vi.keep hx202
   have hb6ll := hb6ll.keep hx202
   have hb51l := hb51l.keep hx202
   have hA82 := hA82.trans hx202
   have hb88 := eb hx202 hb88
   have hA204 := hA204.trans hx202
   have hb213 := hb201; clear hb201
   have hl214 : n198 < w199.heap.size := by omega
   refine oS rfl (Yk.storeAll (vr (PQ n198 0) rfl) (vr (.agg (entC (c)).toArray) rfl) hb213 (entC_size (x := ((c) : EntV)) (y := (dEnt : EntV)) hcl.2 (by simp [dEnt])) (entC_isz (x := ((c) : EntV)) pk14_isz116 hcl.2) (entC_one (x := ((c) : EntV)) (RB.one hcl.1).2) fun w215 hb216 hg217 hs218 => ?_)
   have hE := row_fresh hE hg217 (Nat.le_trans hz207 (by omega))
   have hr_vi := OG.kept hr_vi hg217 hap212
   have hb6ll := MapF.other hb6ll hg217 (some_ne (by omega))
   have hb51l := MapF.other hb51l hg217 (some_ne (by omega))
   have hA82 := row_fresh hA82 hg217 (Nat.le_trans hz208 (by omega))
   have hb88 := kb hg217 hb88 (by omega)
   have hA204 := row_fresh hA204 hg217 (Nat.le_trans (Nat.le_refl _) (by omega))
   clear hb213
   have hb213 := hb216; clear hb216
   have hl219 := bl hb213
   refine oA rfl (oZ (tN (hK192 _ _ (sk fun K220 hK220 => ?_))))
   refine wpF_draw_endE 15 _ [Is (.bool (true)), Is (.bool (true)), Is (NI i), Is (.bool (false)), Is (.bool (false)), Is (vi), Is (NI i), Is (NI ((i) - (1))), fun x w' => PR (Lib.byteCells ((s.ids).getD ((i) - (1)) ([] : List UInt8))) x w', Is (AB ((s.ids).getD ((i) - (1)) ([] : List UInt8))), Is (AB (rowId t i)), Is (.int .i64 (Lib.compareBytes ((s.ids).getD ((i) - (1)) ([] : List UInt8)) (rowId t i) : Int)), Is (.bool (true)), Is (.bool (true)), Is (.bool (true))] (by kernel_rfl) [54, 55, 56, 57, 58, 59, 60, 61, 62, 63, 64, 65, 66, 67, 68, 69] (by kernel_rfl) (by kernel_rfl) (by kernel_rfl) rfl rfl rfl (fun _ _ => trivial) (si8 ⟨(fun _ _ _ h k => PR.keep h k), (si6 trivial)⟩) ?hs7015 ?hQ7015
   case hs7015 =>
    refine ⟨?_, ?_, ?_, ?_, ?_, ?_, ?_, ?_, ?_, ?_, ?_, ?_, ?_, ?_, ?_, ?_, trivial⟩
    ·refine stepFL (stepN rfl fun σ w1 hC h => ?_)
     have e17 : σ 17 = .bool (true) := (eqo (h 17 (by decide))).trans rfl
     exact Yk.move e17 ⟨Ext.refl _, rfl⟩
    ·refine stepFL (stepN rfl fun σ w1 hC h => ?_)
     have e54 := eqo (h 54 (by decide))
     exact Yk.move e54 ⟨Ext.refl _, rfl⟩
    ·refine stepFL (stepY 1 true 55 rfl rfl (fun _ _ h => h) fun σ w1 hC h => ?_)
     have e11 := (eqo (h 11 (by decide))).trans T33
     exact Yk.move e11 ⟨Ext.refl _, rfl⟩
    ·refine stepFL (stepY 1 true 55 rfl rfl (fun _ _ h => h) fun σ w1 hC h => ?_)
     have e56 := eqo (h 56 (by decide))
     exact Yk.eqI (a := (i : Nat)) (b := (0 : Nat)) e56 rfl (k_eql _ _ _ _) ⟨Ext.refl _, (congrArg Value.bool (decide_eq_false (h0)))⟩
    ·refine stepFL (stepY 1 true 55 rfl rfl (fun _ _ h => h) fun σ w1 hC h => ?_)
     have e57 := eqo (h 57 (by decide))
     exact Yk.move e57 ⟨Ext.refl _, rfl⟩
    ·refine stepFL (stepY 4 false 58 rfl rfl (fun _ _ h => h) fun σ w1 hC h => ?_)
     have e9 := (eqo (h 9 (by decide))).trans T9
     exact Yk.move e9 ⟨Ext.refl _, rfl⟩
    ·refine stepFL (stepY 4 false 58 rfl rfl (fun _ _ h => h) fun σ w1 hC h => ?_)
     have e11 := (eqo (h 11 (by decide))).trans T33
     exact Yk.move e11 ⟨Ext.refl _, rfl⟩
    ·refine stepFL (stepY 4 false 58 rfl rfl (fun _ _ h => h) fun σ w1 hC h => ?_)
     have e60 := eqo (h 60 (by decide))
     exact Yk.bin (xv := NI i) (yv := NI 1) e60 rfl rfl (i64_sub _ _ _ (by omega) (by omega)) ⟨Ext.refl _, rfl⟩
    ·refine stepFL (stepY 4 false 58 rfl rfl (fun _ _ h => h) fun σ w1 hC h => ?_)
     have e59 := eqo (h 59 (by decide))
     have e61 := eqo (h 61 (by decide))
     exact Yk.atRG pk14_ty47 pk14_szg38 (by decide) ([] : List UInt8) (RG.of (RG.ofOwn (hr_vi.keep hC)) e59) e61 (by omega) fun v h => ⟨Ext.refl _, h⟩
    ·refine stepFL (stepY 4 false 58 rfl rfl (fun _ _ h => h) fun σ w1 hC h => ?_)
     have e62 : (fun x w' => PR (Lib.byteCells ((s.ids).getD ((i) - (1)) ([] : List UInt8))) x w') (σ 62) w1 := h 62 (by decide)
     exact Yk.loadPR e62 pk14_ty38 rfl (by rw [RG.elem (RG.ofOwn hr_vi) ([] : List UInt8) (by omega)]; exact pk14_isz38) ⟨Ext.refl _, rfl⟩
    ·refine stepFL (stepY 4 false 58 rfl rfl (fun _ _ h => h) fun σ w1 hC h => ?_)
     have e13 : σ 13 = PQ n76 0 := (eqo (h 13 (by decide))).trans rfl
     exact Yk.loadAll e13 (eb hC hb88) pk14_ty38 rfl (by exact sizeId_of h32) ⟨Ext.refl _, rfl⟩
    ·refine stepFL (stepY 4 false 58 rfl rfl (fun _ _ h => h) fun σ w1 hC h => ?_)
     have e63 := eqo (h 63 (by decide))
     have e64 := eqo (h 64 (by decide))
     refine Yk.callA2 pk14_pl57 e63 e64 ((compare_any _ ((s.ids).getD ((i) - (1)) ([] : List UInt8)) (rowId t i) ((bytes_len32 (RG.elem (RG.ofOwn hr_vi) ([] : List UInt8) (by omega)))) (h32)).mono ?_)
     rintro e w2 ⟨rfl, hx⟩
     exact ⟨_, rfl, hx, rfl⟩
    ·refine stepFL (stepY 4 false 58 rfl rfl (fun _ _ h => h) fun σ w1 hC h => ?_)
     have e65 := eqo (h 65 (by decide))
     exact Yk.eqI e65 (vr (NI 0) rfl) (z_lss _ .i64 (Lib.compareBytes ((s.ids).getD ((i) - (1)) ([] : List UInt8)) (rowId t i) : Int) ((0 : Nat) : Int)) ⟨Ext.refl _, (congrArg Value.bool (decide_eq_true (hlt)))⟩
    ·refine stepFL (stepY 1 true 55 rfl rfl (fun _ _ h => h) fun σ w1 hC h => ?_)
     have e58 := eqo (h 58 (by decide))
     have e66 := eqo (h 66 (by decide))
     exact Yk.pickF e58 e66 ⟨Ext.refl _, rfl⟩
    ·refine stepFL (stepN rfl fun σ w1 hC h => ?_)
     have e55 := eqo (h 55 (by decide))
     have e67 := eqo (h 67 (by decide))
     exact Yk.pickT e55 e67 ⟨Ext.refl _, rfl⟩
    ·exact trivial
   intro ρ221 w222 hx223 he hf
   obtain ⟨-, -, -, -, -, -, -, -, -, -, -, -, -, -, k68, -⟩ := hf
   obtain ⟨T0, T1, T4, T5, T6, T9, T10, T11, T12, T13, T16, T17, T19, T20, T21, T32, T33, -⟩ := he.hold [(0, _), (1, _), (4, _), (5, _), (6, _), (9, _), (10, _), (11, _), (12, v70), (13, PQ n76 0), (16, PQ n198 0), (17, .bool (true)), (19, _), (20, _), (21, _), (32, _), (33, _)] ⟨T0, T1, T4, T5, T6, T9, T10, T33, rfl, rfl, rfl, rfl, T19, T20, T21, T32, T33, trivial⟩ rfl
   clear he
   have hE := hE.trans hx223
   have hr_vi := hr_vi.keep hx223
   have hb6ll := hb6ll.keep hx223
   have hb51l := hb51l.keep hx223
   have hA82 := hA82.trans hx223
   have hb88 := eb hx223 hb88
   have hA204 := hA204.trans hx223
   have hb213 := eb hx223 hb213
   have T68 : ρ221 68 = .bool (true) := k68
   clear k68
   refine Yp.callA2 pk14_pl64 T68 (vr (NI 6) rfl) ?_
   refine calls_either (need_any _ (true) 6) ?_ ?_
   rotate_left
   ·
    rintro ch w226 ⟨rfl, hb, hx⟩
    refine thenF_panic (inBlockF_panic (thenF_panic (thenF_panic (inBlockF_panic (thenF_panic (postP_panic ?_))))))
    cases hb
   rintro v_ w227 ⟨rfl, hb224, hx225⟩
   have hE := hE.trans hx225
   have hr_vi := hr_vi.keep hx225
   have hb6ll := hb6ll.keep hx225
   have hb51l := hb51l.keep hx225
   have hA82 := hA82.trans hx225
   have hb88 := eb hx225 hb88
   have hA204 := hA204.trans hx225
   have hb213 := eb hx225 hb213
   intro ρ228 hu229
   have T0 : ρ228 0 = (v : Value) := (hu229 0 (by decide)).trans T0
   have T1 : ρ228 1 = (ve : Value) := (hu229 1 (by decide)).trans T1
   have T4 : ρ228 4 = ((Value.slice none 0 0) : Value) := (hu229 4 (by decide)).trans T4
   have T5 : ρ228 5 = ((Value.map none) : Value) := (hu229 5 (by decide)).trans T5
   have T6 : ρ228 6 = (.map (some n3) : Value) := (hu229 6 (by decide)).trans T6
   have T9 : ρ228 9 = (vi : Value) := (hu229 9 (by decide)).trans T9
   have T10 : ρ228 10 = (.map (some n48) : Value) := (hu229 10 (by decide)).trans T10
   have T11 : ρ228 11 = (NI i : Value) := (hu229 11 (by decide)).trans T11
   have T12 : ρ228 12 = (v70 : Value) := (hu229 12 (by decide)).trans T12
   have T13 : ρ228 13 = (PQ n76 0 : Value) := (hu229 13 (by decide)).trans T13
   have T16 : ρ228 16 = (PQ n198 0 : Value) := (hu229 16 (by decide)).trans T16
   have T17 : ρ228 17 = (.bool (true) : Value) := (hu229 17 (by decide)).trans T17
   have T19 : ρ228 19 = (ve : Value) := (hu229 19 (by decide)).trans T19
   have T20 : ρ228 20 = (NI es.length : Value) := (hu229 20 (by decide)).trans T20
   have T21 : ρ228 21 = (NI m : Value) := (hu229 21 (by decide)).trans T21
   have T32 : ρ228 32 = (NI es.length : Value) := (hu229 32 (by decide)).trans T32
   have T33 : ρ228 33 = (NI i : Value) := (hu229 33 (by decide)).trans T33
   refine tN (hK220 _ _ (sk fun K230 hK230 => (wt (oM rfl (oS rfl (Yk.fieldAt pk14_fo116_0 T16 (oS rfl (Yk.cell1 pk14_ty3 rfl (vr (PQ n198 0) rfl) (cellAt hb213 ((show (entC ((c)))[0]? = some (NI (((c)).1.pos) : Value) from rfl))) (oS rfl (Yk.delM (ek := NI) (ev := entV) (D := (fun _ : Nat => True)) intLaw int_ok (fun _ _ => ni_inj) pk14_ty140 T6 (vr (NI (((c)).1.pos)) rfl) hb6ll trivial fun w231 hb232 hg233 hs234 => ?_))))))))))
   have hE := row_fresh hE hg233 (Nat.le_trans (Nat.le_refl _) (by omega))
   have hr_vi := OG.kept hr_vi hg233 hap_vi_n3
   clear hb6ll
   have hb51l := MapF.other hb51l hg233 (some_ne (by omega))
   clear hA82
   have hb88 := kb hg233 hb88 (by omega)
   clear hA204
   have hb213 := kb hg233 hb213 (by omega)
   have hl235 : n3 < w231.heap.size := hb232.lt
   refine oZ (tN (hK230 _ _ ?_))
   have hlow236 : ∀ k, Value.ownBlock vi = some k → w.heap.size ≤ k := fun k hk => (hr_vi.2.lt k hk).1
   have hsz_ : w.heap.size ≤ w231.heap.size := hE.size
   refine wpF_draw_rowsXL 8 _ (Value.ownBlock vi) [5] [2] (fun m => if m = 5 then [2, 4] else []) (fun m => if m = 5 then [2, 4, 5, 7] else []) [Is (.map (some n48)), Is (AB (rowId t i)), fun x w' => RowG w.heap.size w231.heap.size 38 32 (Lib.byteCells) (Value.ownBlock vi) (s.ids) x w', Is (AB (rowId t i)), fun x w' => RG 32 (Lib.byteCells) w' x ([(rowId t i)]), fun x w' => RowG w.heap.size w231.heap.size 38 32 (Lib.byteCells) (Value.ownBlock vi) ((s.ids) ++ [(rowId t i)]) x w', Is (.agg (entC ((c))).toArray), fun x w' => RowG w.heap.size w231.heap.size 38 32 (Lib.byteCells) (Value.ownBlock vi) ((s.ids) ++ [(rowId t i)]) x w'] (by kernel_rfl) [73, 74, 75, 76, 77, 78, 79, 9] (by kernel_rfl) (by kernel_rfl) (by kernel_rfl) (by kernel_rfl) (by kernel_rfl) (by kernel_rfl) rfl rfl rfl rfl rfl (si2 ⟨(fun _ _ _ h k => ⟨OG.keep h.1 k, h.2⟩), Stab.is _, (fun _ _ _ h k => RG.keep h k), (fun _ _ _ h k => ⟨OG.keep h.1 k, h.2⟩), Stab.is _, (fun _ _ _ h k => ⟨OG.keep h.1 k, h.2⟩), trivial⟩) ⟨⟨.inr (Stab.is _), .inr (Stab.is _), .inl rfl, .inr (Stab.is _), .inl rfl, .inl rfl, .inr (Stab.is _), .inl rfl, trivial⟩, trivial⟩ ?hs8017 ?hQ8017
   case hs8017 =>
    refine ⟨?_, ?_, ?_, ?_, ?_, ?_, ?_, ?_, ?_, trivial⟩
    ·refine stepFL (stepN rfl fun σ w1 hC h => ?_)
     have hC : BX w231.heap.size (Value.ownBlock vi) w231 w1 := hC
     have e10 := (eqo (h 10 (by decide))).trans T10
     exact Yk.move e10 ⟨Ext.refl _, rfl⟩
    ·refine stepFL (stepN rfl fun σ w1 hC h => ?_)
     have hC : BX w231.heap.size (Value.ownBlock vi) w231 w1 := hC
     have e13 := (eqo (h 13 (by decide))).trans T13
     exact Yk.loadAll e13 (BX.blk hC hb88 hap87) pk14_ty38 rfl (by exact sizeId_of h32) ⟨Ext.refl _, rfl⟩
    ·refine stepFL (stepN rfl fun σ w1 hC h => ?_)
     have hX : Ext w231 w1 := hC
     have hC : BX w231.heap.size (Value.ownBlock vi) w231 w1 := BX.ofExt hX (Nat.le_refl _)
     have e9 := (eqo (h 9 (by decide))).trans T9
     exact Yk.move e9 ⟨Ext.refl _, OG.keep hr_vi hX, fun k hk => .inl hk⟩
    ·refine stepFL (stepN rfl fun σ w1 hC h => ?_)
     have hC : BX w231.heap.size (Value.ownBlock vi) w231 w1 := hC
     have e13 := (eqo (h 13 (by decide))).trans T13
     exact Yk.loadAll e13 (BX.blk hC hb88 hap87) pk14_ty38 rfl (by exact sizeId_of h32) ⟨Ext.refl _, rfl⟩
    ·refine stepFL (stepN rfl fun σ w1 hC h => ?_)
     have hC : BX w231.heap.size (Value.ownBlock vi) w231 w1 := hC
     have e76 := eqo (h 76 (by decide))
     exact Yk.lit1G (a := (rowId t i)) (enc := Lib.byteCells) e76 (by rw [Lib.byteCells_length]; exact h32) pk14_lg47 fun v w2 h hx => ⟨hx, h⟩
    ·refine stepFL (stepN rfl fun σ w1 hC h => ?_)
     have hC : BX w231.heap.size (Value.ownBlock vi) w231 w1 := hC
     have e75 : (fun x w' => RowG w.heap.size w231.heap.size 38 32 (Lib.byteCells) (Value.ownBlock vi) (s.ids) x w') (σ 75) w1 := h 75 (by decide)
     have e77 : (fun x w' => RG 32 (Lib.byteCells) w' x ([(rowId t i)])) (σ 77) w1 := h 77 (by decide)
     exact Yk.appendRG _ _ w.heap.size _ 32 pk14_ty47 pk14_ig38.choose_spec.1 pk14_ig38.choose_spec.2 pk14_ty47 (s.ids) ([(rowId t i)]) e75.1 e77 (fun _ _ => byteCells_one _) (by simp only [List.length_cons, List.length_nil]; omega) (by simp only [List.length_cons, List.length_nil]; omega) (Nat.le_trans hsz_ hC.size) fun v w2 ho hg => ⟨BX.ofGrown hg.by_ hC.size e75.2, ho, fun k hk => (hg.fresh k hk).elim (e75.2 k) (fun x => .inr (Nat.le_trans hC.size x))⟩
    ·refine stepFL (stepN rfl fun σ w1 hC h => ?_)
     have hC : BX w231.heap.size (Value.ownBlock vi) w231 w1 := hC
     have e16 := (eqo (h 16 (by decide))).trans T16
     exact Yk.loadAll e16 (BX.blk hC hb213 hap212) (pk14_ty116).choose_spec rfl (entC_isz (x := ((c) : EntV)) pk14_isz116 hcl.2) ⟨Ext.refl _, rfl⟩
    ·refine stepFL (stepN rfl fun σ w1 hC h => ?_)
     have hC : BX w231.heap.size (Value.ownBlock vi) w231 w1 := hC
     have e78 : (fun x w' => RowG w.heap.size w231.heap.size 38 32 (Lib.byteCells) (Value.ownBlock vi) ((s.ids) ++ [(rowId t i)]) x w') (σ 78) w1 := h 78 (by decide)
     exact Yk.assign rfl ⟨Ext.refl _, e78⟩
    ·exact trivial
   intro ρ237 w238 hx239 he hf
   obtain ⟨k73, k74, -, -, -, -, k79, k9, -⟩ := hf
   obtain ⟨T0, T1, T4, T5, T6, T10, T11, T12, T13, T16, T17, T19, T20, T21, T32, T33, -⟩ := he.hold [(0, _), (1, _), (4, _), (5, _), (6, _), (10, _), (11, _), (12, _), (13, _), (16, _), (17, _), (19, _), (20, _), (21, _), (32, _), (33, _)] ⟨T0, T1, T4, T5, T6, T10, T11, T12, T13, T16, T17, T19, T20, T21, T32, T33, trivial⟩ rfl
   clear he
   have k9 : (fun x w' => RowG w.heap.size w231.heap.size 38 32 (Lib.byteCells) (Value.ownBlock vi) ((s.ids) ++ [(rowId t i)]) x w') (ρ237 9) w238 := k9
   obtain ⟨v240, T9⟩ : ∃ v, ρ237 9 = v := ⟨_, rfl⟩
   rw [T9] at k9
   have hg241 : Grew w231 w238 vi v240 := ⟨hx239.grown, k9.2⟩
   have ho242 := k9.1; clear k9
   have hap243 : OB v240 n3 := apart_grew hg241 hap_vi_n3 hb232.lt
   have hap244 : OB v240 n48 := apart_grew hg241 hap_vi_n48 hb51l.lt
   have hap245 : OB v240 n76 := apart_grew hg241 hap87 (bl hb88)
   have hap246 : OB v240 n198 := apart_grew hg241 hap212 (bl hb213)
   have hE := ext_grew hE hg241 hr_vi.2 (Nat.le_refl _)
   clear hr_vi
   have hb51l := MapF.grew hb51l hg241 hap_vi_n48
   have hb88 := blk_grew hb88 hg241 hap87
   have hb213 := blk_grew hb213 hg241 hap212
   have hb232 := MapF.grew hb232 hg241 hap_vi_n3
   have T73 : ρ237 73 = .map (some n48) := k73
   have T74 : ρ237 74 = AB (rowId t i) := k74
   have T79 : ρ237 79 = .agg (entC ((c))).toArray := k79
   clear k73 k74 k79
   refine Yp.ofK (Yk.putM (ek := rk) (ev := entV) (D := (fun id : List UInt8 => id.length = 32)) (c := ((c))) idLaw id_ok pk14_ty112 T73 T74 T79 hb51l h32 fun w247 hb248 hg249 hs250 => ?_)
   have hE := row_fresh hE hg249 (Nat.le_trans hz56 (by omega))
   clear hb51l
   have hb88 := kb hg249 hb88 (by omega)
   have hb213 := kb hg249 hb213 (by omega)
   have hb232 := MapF.other hb232 hg249 (some_ne (by omega))
   have ho242 := OG.kept ho242 hg249 hap244
   have hl251 : n48 < w247.heap.size := hb248.lt
   refine bN (tN (hK67 _ _ (wt (oS rfl (Yk.bin (xv := NI i) (yv := NI 1) T33 rfl rfl (i64_add _ _ _ (by omega)) (oM rfl (oL_ [(0, v), (1, ve), (4, (Value.slice none 0 0)), (5, (Value.map none)), (6, .map (some n3)), (9, v240), (10, .map (some n48)), (11, NI i), (12, v70), (13, PQ n76 0), (16, PQ n198 0), (17, .bool (true)), (19, ve), (20, NI es.length), (21, NI m), (32, NI es.length), (33, NI ((i) + (1)))] ⟨T0, T1, T4, T5, T6, T9, T10, T11, T12, T13, T16, T17, T19, T20, T21, T32, rfl, trivial⟩ fun ρ252 ⟨T0, T1, T4, T5, T6, T9, T10, T11, T12, T13, T16, T17, T19, T20, T21, T32, T33, _⟩ => (tN (And.intro ⟨i + 1, ixNext (fun x : EntV => x.1.pos) t i s c, v240, T0, T1, T4, T5, T6, T10, T19, T20, T21, T32, T33, T9, hE, og_eq ho242 (rfl), map_eq hb232 (rfl), map_eq hb248 (rfl), hst, by omega, hap243, hap244, trivial⟩ ?_)))))))))
   show es.length - (intOf (ρ252 33)).toNat < es.length - (intOf (ρ63 33)).toNat
   rw [T33, q33]
   simp only [intOf, Int.toNat_natCast]; omega
  have hO : ixStep (fun x : EntV => x.1.pos) t i s = none := by unfold ixStep; rw [hG]; exact if_neg (fun h => h.elim h0 hlt)
  refine tN (hK73 _ _ (sk fun K253 hK253 => (wt (oM rfl (oM rfl (oS rfl (Yk.sliceLo (xs := t.drop ((36) * (i))) (l := 32) pk14_ty24 pk14_sz5 (vr v70 rfl) (hr71.keep hA82) (vr (NI 32) rfl) (by simp only [List.length_drop]; omega) fun v254 hr255 ha256 => (oS rfl (Yk.callA1 pk14_pl62 (vr v254 rfl) (((show Calls _ _ _ _ (fun e w2 => e = .returned (NI (rowAt t i)) ∧ Ext _ w2) from number_any_ _ v254 ((t.drop ((36) * (i)) : List UInt8).drop (32)) hr255 (by simp only [List.length_drop]; omega))).mono ?_))))))))))
  rintro e w258 ⟨rfl, hx257⟩
  refine ⟨_, rfl, ?_⟩
  have hE := hE.trans hx257
  have hr_vi := hr_vi.keep hx257
  have hb6ll := hb6ll.keep hx257
  have hb51l := hb51l.keep hx257
  have hA82 := hA82.trans hx257
  have hb88 := eb hx257 hb88
  have hr255 := hr255.keep hx257
  refine oS rfl (Yk.lookOkS (ek := NI) (ev := entV) (D := (fun _ : Nat => True)) intLaw int_ok (fun _ _ => ni_inj) pk14_ty140 (z := entV dEnt) zeroEnt T6 (vr (NI (rowAt t i)) rfl) hb6ll trivial hG (oM rfl (oS rfl (Yk.extract (vs := [.agg (entC (c)).toArray, .bool (true)]) (vr (.tuple #[.agg (entC (c)).toArray, .bool (true)]) rfl) (show _ = some (.agg (entC (c)).toArray : Value) from rfl) (oS rfl (Yk.extract (vs := [.agg (entC (c)).toArray, .bool (true)]) (vr (.tuple #[.agg (entC (c)).toArray, .bool (true)]) rfl) (show _ = some (.bool (true) : Value) from rfl) (oS rfl (Yk.alloc (cs := (entC dEnt).toArray) pk14_al116 fun n259 w260 hn261 hb262 hx263 hs264 => ?_))))))))
  have hA265 := Ext.refl w258
  have hea266 := hE
  have hea267 := hA82
  have hz268 := hE.size
  have hz269 := hA82.size
  have hlt270 := lte hb6ll.lt hn261
  have hlt271 := lte hb51l.lt hn261
  have hlt272 := lte (bl hb88) hn261
  have hap273 : OB vi n259 := own_newer hr_vi.2 (by omega)
  have hE := hE.trans hx263
  have hr_vi := hr_vi.keep hx263
  have hb6ll := hb6ll.keep hx263
  have hb51l := hb51l.keep hx263
  have hA82 := hA82.trans hx263
  have hb88 := eb hx263 hb88
  have hA265 := hA265.trans hx263
  have hb274 := hb262; clear hb262
  have hl275 : n259 < w260.heap.size := by omega
  refine oS rfl (Yk.storeAll (vr (PQ n259 0) rfl) (vr (.agg (entC (c)).toArray) rfl) hb274 (entC_size (x := ((c) : EntV)) (y := (dEnt : EntV)) hcl.2 (by simp [dEnt])) (entC_isz (x := ((c) : EntV)) pk14_isz116 hcl.2) (entC_one (x := ((c) : EntV)) (RB.one hcl.1).2) fun w276 hb277 hg278 hs279 => ?_)
  have hE := row_fresh hE hg278 (Nat.le_trans hz268 (by omega))
  have hr_vi := OG.kept hr_vi hg278 hap273
  have hb6ll := MapF.other hb6ll hg278 (some_ne (by omega))
  have hb51l := MapF.other hb51l hg278 (some_ne (by omega))
  have hA82 := row_fresh hA82 hg278 (Nat.le_trans hz269 (by omega))
  have hb88 := kb hg278 hb88 (by omega)
  have hA265 := row_fresh hA265 hg278 (Nat.le_trans (Nat.le_refl _) (by omega))
  clear hb274
  have hb274 := hb277; clear hb277
  have hl280 := bl hb274
  refine oA rfl (oZ (tN (hK253 _ _ (sk fun K281 hK281 => ?_))))
  refine wpF_draw_endE 15 _ [Is (.bool (true)), Is (.bool (true)), Is (NI i), Is (.bool (false)), Is (.bool (false)), Is (vi), Is (NI i), Is (NI ((i) - (1))), fun x w' => PR (Lib.byteCells ((s.ids).getD ((i) - (1)) ([] : List UInt8))) x w', Is (AB ((s.ids).getD ((i) - (1)) ([] : List UInt8))), Is (AB (rowId t i)), Is (.int .i64 (Lib.compareBytes ((s.ids).getD ((i) - (1)) ([] : List UInt8)) (rowId t i) : Int)), Is (.bool (false)), Is (.bool (false)), Is (.bool (false))] (by kernel_rfl) [54, 55, 56, 57, 58, 59, 60, 61, 62, 63, 64, 65, 66, 67, 68, 69] (by kernel_rfl) (by kernel_rfl) (by kernel_rfl) rfl rfl rfl (fun _ _ => trivial) (si8 ⟨(fun _ _ _ h k => PR.keep h k), (si6 trivial)⟩) ?hs9015 ?hQ9015
  case hs9015 =>
   refine ⟨?_, ?_, ?_, ?_, ?_, ?_, ?_, ?_, ?_, ?_, ?_, ?_, ?_, ?_, ?_, ?_, trivial⟩
   ·refine stepFL (stepN rfl fun σ w1 hC h => ?_)
    have e17 : σ 17 = .bool (true) := (eqo (h 17 (by decide))).trans rfl
    exact Yk.move e17 ⟨Ext.refl _, rfl⟩
   ·refine stepFL (stepN rfl fun σ w1 hC h => ?_)
    have e54 := eqo (h 54 (by decide))
    exact Yk.move e54 ⟨Ext.refl _, rfl⟩
   ·refine stepFL (stepY 1 true 55 rfl rfl (fun _ _ h => h) fun σ w1 hC h => ?_)
    have e11 := (eqo (h 11 (by decide))).trans T33
    exact Yk.move e11 ⟨Ext.refl _, rfl⟩
   ·refine stepFL (stepY 1 true 55 rfl rfl (fun _ _ h => h) fun σ w1 hC h => ?_)
    have e56 := eqo (h 56 (by decide))
    exact Yk.eqI (a := (i : Nat)) (b := (0 : Nat)) e56 rfl (k_eql _ _ _ _) ⟨Ext.refl _, (congrArg Value.bool (decide_eq_false (h0)))⟩
   ·refine stepFL (stepY 1 true 55 rfl rfl (fun _ _ h => h) fun σ w1 hC h => ?_)
    have e57 := eqo (h 57 (by decide))
    exact Yk.move e57 ⟨Ext.refl _, rfl⟩
   ·refine stepFL (stepY 4 false 58 rfl rfl (fun _ _ h => h) fun σ w1 hC h => ?_)
    have e9 := (eqo (h 9 (by decide))).trans T9
    exact Yk.move e9 ⟨Ext.refl _, rfl⟩
   ·refine stepFL (stepY 4 false 58 rfl rfl (fun _ _ h => h) fun σ w1 hC h => ?_)
    have e11 := (eqo (h 11 (by decide))).trans T33
    exact Yk.move e11 ⟨Ext.refl _, rfl⟩
   ·refine stepFL (stepY 4 false 58 rfl rfl (fun _ _ h => h) fun σ w1 hC h => ?_)
    have e60 := eqo (h 60 (by decide))
    exact Yk.bin (xv := NI i) (yv := NI 1) e60 rfl rfl (i64_sub _ _ _ (by omega) (by omega)) ⟨Ext.refl _, rfl⟩
   ·refine stepFL (stepY 4 false 58 rfl rfl (fun _ _ h => h) fun σ w1 hC h => ?_)
    have e59 := eqo (h 59 (by decide))
    have e61 := eqo (h 61 (by decide))
    exact Yk.atRG pk14_ty47 pk14_szg38 (by decide) ([] : List UInt8) (RG.of (RG.ofOwn (hr_vi.keep hC)) e59) e61 (by omega) fun v h => ⟨Ext.refl _, h⟩
   ·refine stepFL (stepY 4 false 58 rfl rfl (fun _ _ h => h) fun σ w1 hC h => ?_)
    have e62 : (fun x w' => PR (Lib.byteCells ((s.ids).getD ((i) - (1)) ([] : List UInt8))) x w') (σ 62) w1 := h 62 (by decide)
    exact Yk.loadPR e62 pk14_ty38 rfl (by rw [RG.elem (RG.ofOwn hr_vi) ([] : List UInt8) (by omega)]; exact pk14_isz38) ⟨Ext.refl _, rfl⟩
   ·refine stepFL (stepY 4 false 58 rfl rfl (fun _ _ h => h) fun σ w1 hC h => ?_)
    have e13 : σ 13 = PQ n76 0 := (eqo (h 13 (by decide))).trans rfl
    exact Yk.loadAll e13 (eb hC hb88) pk14_ty38 rfl (by exact sizeId_of h32) ⟨Ext.refl _, rfl⟩
   ·refine stepFL (stepY 4 false 58 rfl rfl (fun _ _ h => h) fun σ w1 hC h => ?_)
    have e63 := eqo (h 63 (by decide))
    have e64 := eqo (h 64 (by decide))
    refine Yk.callA2 pk14_pl57 e63 e64 ((compare_any _ ((s.ids).getD ((i) - (1)) ([] : List UInt8)) (rowId t i) ((bytes_len32 (RG.elem (RG.ofOwn hr_vi) ([] : List UInt8) (by omega)))) (h32)).mono ?_)
    rintro e w2 ⟨rfl, hx⟩
    exact ⟨_, rfl, hx, rfl⟩
   ·refine stepFL (stepY 4 false 58 rfl rfl (fun _ _ h => h) fun σ w1 hC h => ?_)
    have e65 := eqo (h 65 (by decide))
    exact Yk.eqI e65 (vr (NI 0) rfl) (z_lss _ .i64 (Lib.compareBytes ((s.ids).getD ((i) - (1)) ([] : List UInt8)) (rowId t i) : Int) ((0 : Nat) : Int)) ⟨Ext.refl _, (congrArg Value.bool (decide_eq_false (hlt)))⟩
   ·refine stepFL (stepY 1 true 55 rfl rfl (fun _ _ h => h) fun σ w1 hC h => ?_)
    have e58 := eqo (h 58 (by decide))
    have e66 := eqo (h 66 (by decide))
    exact Yk.pickF e58 e66 ⟨Ext.refl _, rfl⟩
   ·refine stepFL (stepN rfl fun σ w1 hC h => ?_)
    have e55 := eqo (h 55 (by decide))
    have e67 := eqo (h 67 (by decide))
    exact Yk.pickT e55 e67 ⟨Ext.refl _, rfl⟩
   ·exact trivial
  intro ρ282 w283 hx284 he hf
  obtain ⟨-, -, -, -, -, -, -, -, -, -, -, -, -, -, k68, -⟩ := hf
  obtain ⟨T0, T1, T4, T5, T6, T9, T10, T11, T12, T13, T16, T17, T19, T20, T21, T32, T33, -⟩ := he.hold [(0, _), (1, _), (4, _), (5, _), (6, _), (9, _), (10, _), (11, _), (12, v70), (13, PQ n76 0), (16, PQ n259 0), (17, .bool (true)), (19, _), (20, _), (21, _), (32, _), (33, _)] ⟨T0, T1, T4, T5, T6, T9, T10, T33, rfl, rfl, rfl, rfl, T19, T20, T21, T32, T33, trivial⟩ rfl
  clear he
  have hE := hE.trans hx284
  have hr_vi := hr_vi.keep hx284
  have hb6ll := hb6ll.keep hx284
  have hb51l := hb51l.keep hx284
  have hA82 := hA82.trans hx284
  have hb88 := eb hx284 hb88
  have hA265 := hA265.trans hx284
  have hb274 := eb hx284 hb274
  have T68 : ρ282 68 = .bool (false) := k68
  clear k68
  refine Yp.callA2 pk14_pl64 T68 (vr (NI 6) rfl) ?_
  refine calls_either (need_any _ (false) 6) ?_ ?_
  rotate_left
  ·
   rintro ch w287 ⟨rfl, hb, hx⟩
   refine thenF_panic (inBlockF_panic (thenF_panic (thenF_panic (inBlockF_panic (thenF_panic (postP_panic ?_))))))
   rw [hO] at hst
   have hE1 := ixGo_none hst (es.length - (i + 1))
   rw [show i + 1 + (es.length - (i + 1)) = es.length by omega] at hE1
   exact .inr ⟨_, rfl, hE1, rfl, hE.trans hx⟩
  rintro v_ w288 ⟨rfl, hb285, hx286⟩
  cases hb285
 have hie1 : i = es.length := by omega
 refine wpF_exit (thenF_exit (thenF_exit (inBlockF_hit (tN (hK60 _ _ (sk fun K289 hK289 => (wt (oM rfl (oM rfl (oA rfl (oA rfl (oZ (tN (hK289 _ _ (wpF_ret (postP_ret (fn := Tryd.f66) _ rfl [vi, .map (some n48)] (.tuple #[vi, .map (some n48)]) rfl ⟨T9, T10, trivial⟩ ?_))))))))))))))))
 exact .inl ⟨_, rfl, s, _, _, by rw [← hie1]; exact hs, rfl, RG.ofOwn hr_vi, hb51l, hE⟩
end Go.Proofs.YtcegdjpdnlaleaaDoor
