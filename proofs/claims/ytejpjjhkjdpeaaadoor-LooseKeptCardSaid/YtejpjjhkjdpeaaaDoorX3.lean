/- Part 3 of what stands behind these statements: laws and walks of the functions that are reached. Conditions: those that each theorem names. -/
import Derived.Test.YtejpjjhkjdpeaaaDoorX2
set_option linter.unusedVariables false
set_option linter.unusedSimpArgs false
namespace Go.Proofs.YtejpjjhkjdpeaaaDoor
open Go.RowKit
theorem zi_add (t : TypeId) (a b : Int) (h : -9223372036854775808 ≤ a + b ∧ a + b ≤ 9223372036854775807) : Go.binOp .add t (.int .i64 a) (.int .i64 b) = pure (.int .i64 (a + b)) := by
  show pure (Value.int .i64 (IntKind.i64.wrap (a + b))) = _
  rw [IntWalk.i64_in _ h]
theorem zi_sub (t : TypeId) (a b : Int) (h : -9223372036854775808 ≤ a - b ∧ a - b ≤ 9223372036854775807) : Go.binOp .sub t (.int .i64 a) (.int .i64 b) = pure (.int .i64 (a - b)) := by
  show pure (Value.int .i64 (IntKind.i64.wrap (a - b))) = _
  rw [IntWalk.i64_in _ h]
open Go.RowKit
set_option maxRecDepth 100000
set_option linter.unusedVariables false
set_option linter.unusedSimpArgs false
structure DLt (D : Dsk) : Prop where
  quota : D.quota ≤ 1073741824
  used : usedD D < 4611686018427387904
  refused : D.refused < 4611686018427387904
  arm : D.arm < 9223372036854775808
  acts : D.acts.length < 1099511627776
  now : D.now.length < 1099511627776
  kept : D.kept.length + D.acts.length < 1099511627776
  files : ∀ x ∈ D.files, x.1.length < 1099511627776
theorem readyL_2 (D : Dsk) (s t : List UInt8) : readyL D [t, s] = readyD D s t := by
  unfold readyL readyD
  by_cases h : D.down = true
  · rw [if_pos h, if_pos h]
  · rw [if_neg h, if_neg h]
    simp only [List.all_cons, List.all_nil, Bool.and_true, Bool.and_eq_true]
    by_cases h1 : mayD s = true <;> by_cases h2 : mayD t = true <;> simp [h1, h2]
theorem readyL_1 (D : Dsk) (s : List UInt8) : readyL D [s] = readyD D s s := by
  rw [← readyL_2]
  unfold readyL
  simp
theorem app_clo (w0 w : World) (hE0 : Ext w0 w) (H : Dk) (D : Dsk) (hS : DkS w0.heap.size w H D) (bd bn bb : Nat) (s b : List UInt8) (vb : Value) (hbd : w.heap[bd]? = some (.cells ([PQ H.g 0]).toArray 23 (0, 0))) (hbn : w.heap[bn]? = some (.cells ([St s]).toArray 9 (0, 0))) (hbb : w.heap[bb]? = some (.cells ([vb]).toArray 22 (0, 0)))
    (hrb : RB w vb b) (hoff : b = [] ∨ ∀ i, vb.ownBlock = some i → ¬ Foot H D.files.length i) (hs : mayD s = true) (hbl : b.length < 1099511627776) (hfs : ∀ x ∈ D.files, x.1.length < 1099511627776) (hn : D.acts.length < 1099511627776) :
    ∀ w1 D1, DkT w0.heap.size w H D w1 H D1 → D1 = (armD D).1 → Calls Tryd.prog 36 #[PQ bd 0, PQ bn 0, PQ bb 0] w1 fun e w' => e = .returned (.tuple #[]) ∧ ∃ H', DkT w0.heap.size w1 H D1 w' H' (addD D1 s b) := by
  intro w1 D1 hT hD1
  have hf := armD_files D
  rw [← hD1] at hf
  have hE1 : Ext w0 w1 := Chg.ext hE0 hT.chg (fun i q => (hS.foot q).2.2)
  have h1 := DkT.box hT hS hbd (by decide) (by decide) (by decide) (by decide)
  have h2 := DkT.box hT hS hbn (by decide) (by decide) (by decide) (by decide)
  have h3 := DkT.box hT hS hbb (by decide) (by decide) (by decide) (by decide)
  have h4 := hrb.chg hT.chg hoff
  have h5 : b = [] ∨ ∀ i, vb.ownBlock = some i → ¬ Foot H D1.files.length i := by rw [hf.1]; exact hoff
  cases hlk : lookD D1.now s with
  | none => exact (add_n w0 w1 hE1 H D1 hT.st bd bn bb s b vb h1 h2 h3 h4 h5 hs hbl (by rw [hf.1]; exact hfs) (by rw [hf.2.2.2.1]; exact hn) hlk).mono fun e w' ⟨H', q1, q2⟩ => ⟨q1, H', q2⟩
  | some k => exact (add_y w0 w1 hE1 H D1 hT.st bd bn bb s b vb h1 h2 h3 h4 h5 hs hbl (by rw [hf.1]; exact hfs) (by rw [hf.2.2.2.1]; exact hn) k hlk).mono fun e w' ⟨H', q1, q2⟩ => ⟨q1, H', q2⟩
theorem hasD_1 (D : Dsk) (s : List UInt8) : hasD D s s = hasL D [] s := by
  unfold hasD hasL
  rw [List.nil_append, readyL_1] <;>
  (by_cases h : readyD D s s ≠ 0
   · rw [if_pos h, if_pos h]
   · rw [if_neg h, if_neg h] <;> (cases lookD D.now s <;> rfl))
theorem hasL_ne {D : Dsk} {ms : List (List UInt8)} {s : List UInt8} {c : Nat} (h : hasL D ms s = .error c) : c ≠ 0 := by
  unfold hasL at h
  split at h
  · rename_i hn; cases h; exact hn
  · split at h
    · cases h
    · cases h; decide
theorem hasL_ok {D : Dsk} {ms : List (List UInt8)} {s : List UInt8} {k : Nat} (h : hasL D ms s = .ok k) : D.down = false ∧ lookD D.now s = some k ∧ ∀ t ∈ ms, mayD t = true := by
  unfold hasL at h
  split at h
  · cases h
  · rename_i hn
    have hn : readyL D (ms ++ [s]) = 0 := Classical.not_not.1 hn
    split at h
    · rename_i k' hk
      cases h
      unfold readyL at hn
      split at hn
      · cases hn
      · rename_i hd
        split at hn
        · rename_i ha
          exact ⟨Bool.eq_false_iff.2 hd, hk, fun t ht => List.all_eq_true.1 ha t (List.mem_append_left _ ht)⟩
        · cases hn
    · cases h
theorem sync_clo (w0 w : World) (hE0 : Ext w0 w) (H : Dk) (D : Dsk) (hS : DkS w0.heap.size w H D) (bf bd k : Nat) (hbf : w.heap[bf]? = some (.cells ([PQ (H.F k) 0]).toArray 69 (0, 0))) (hbd : w.heap[bd]? = some (.cells ([PQ H.g 0]).toArray 23 (0, 0))) (hk : k < D.files.length) :
    ∀ w1 D1, DkT w0.heap.size w H D w1 H D1 → D1 = (armD D).1 → Calls Tryd.prog 50 #[PQ bf 0, PQ bd 0] w1 fun e w' => e = .returned (.tuple #[]) ∧ ∃ H', DkT w0.heap.size w1 H D1 w' H' { D1 with files := D1.files.set k ((fileD D1 k).1, (fileD D1 k).1.length), kept := D1.now, acts := [] } := by
  intro w1 D1 hT hD1
  have hf := armD_files D
  rw [← hD1] at hf
  have hE1 : Ext w0 w1 := Chg.ext hE0 hT.chg (fun i q => (hS.foot q).2.2)
  exact (sy_at w0 w1 hE1 H D1 hT.st bf bd k (DkT.box hT hS hbf (by decide) (by decide) (by decide) (by decide)) (DkT.box hT hS hbd (by decide) (by decide) (by decide) (by decide)) (by rw [hf.1]; exact hk)).mono fun e w' ⟨H', q1, q2⟩ => ⟨q1, H', q2⟩
theorem drop_clo (w0 w : World) (hE0 : Ext w0 w) (H : Dk) (D : Dsk) (hS : DkS w0.heap.size w H D) (bd bs k : Nat) (s : List UInt8) (hbd : w.heap[bd]? = some (.cells ([PQ H.g 0]).toArray 23 (0, 0))) (hbs : w.heap[bs]? = some (.cells ([St s]).toArray 9 (0, 0)))
    (hk : k < D.files.length) (hs : mayD s = true) (hn : D.acts.length < 1099511627776) :
    ∀ w1 D1, DkT w0.heap.size w H D w1 H D1 → D1 = (armD D).1 → Calls Tryd.prog 51 #[PQ bd 0, PQ bs 0] w1 fun e w' => e = .returned (.tuple #[]) ∧ ∃ H', DkT w0.heap.size w1 H D1 w' H' (turnedD D1 ⟨s, [], k⟩) := by
  intro w1 D1 hT hD1
  have hf := armD_files D
  rw [← hD1] at hf
  have hE1 : Ext w0 w1 := Chg.ext hE0 hT.chg (fun i q => (hS.foot q).2.2)
  exact (rm_at w0 w1 hE1 H D1 hT.st bd bs k s (DkT.box hT hS hbd (by decide) (by decide) (by decide) (by decide)) (DkT.box hT hS hbs (by decide) (by decide) (by decide) (by decide)) (by rw [hf.1]; exact hk) hs (by rw [hf.2.2.2.1]; exact hn)).mono fun e w' ⟨H', q1, q2⟩ => ⟨q1, H', q2⟩
theorem dw8_ty23 : Tryd.prog.underlying 23 = some (.pointer 55) := by kernel_rfl
theorem dw8_ty9 : Tryd.prog.underlying 9 = some (.string) := by kernel_rfl
theorem dw8_lk64 (z : ByteArray) (w : World) : (Instr.buildSlice 64 1 #[(0, .string z)]).run Tryd.prog w = .ok (.slice (some ⟨w.heap.size, 0, none⟩) 1 1) (w.alloc (.cells #[.string z] 9)) := by kernel_rfl
theorem dw8_pl27 : Plain Tryd.prog 27 := fun _ _ => by kernel_rfl
theorem dw8_ty22 : Tryd.prog.underlying 22 = some (.slice 5) := by kernel_rfl
theorem dw8_fo55_0 : FieldOff Tryd.prog 55 0 0 := fun b o w => by simp [go_sem]
theorem dw8_ty3 : Tryd.prog.underlying 3 = some (.int .i64) := by kernel_rfl
theorem dw8_pl28 : Plain Tryd.prog 28 := fun _ _ => by kernel_rfl
theorem dw8_fo55_4 : FieldOff Tryd.prog 55 4 4 := fun b o w => by simp [go_sem]
theorem dw8_isz3 : (Tryd.prog.info? 3).map (·.size) = some 1 := by kernel_rfl
theorem dw8_pl35 : Plain Tryd.prog 35 := fun _ _ => by kernel_rfl
theorem dw8_pl49 : Plain Tryd.prog 49 := fun _ _ => by kernel_rfl
theorem dw8_al69 {d : Option Tmp} {ty : TypeId} {pos : String} {af : Array Edge} {gd : Option (Nat × Bool)} (σ : Operand → Value) (w : World) : (execOp σ ⟨d, .alloc 69, ty, pos, af, gd⟩).run Tryd.prog w = .ok (.value (PQ w.heap.size 0)) (w.alloc (.cells ([.pointer none]).toArray 69)) := by kernel_rfl
theorem dw8_isz69 : (Tryd.prog.info? 69).map (·.size) = some 1 := by kernel_rfl
set_option maxHeartbeats 1600000
theorem append_at (w0 w : World) (hE0 : Ext w0 w) (H : Dk) (D : Dsk) (hS : DkS w0.heap.size w H D) (s : List UInt8) (vb : Value) (b : List UInt8) (hrb : RB w vb b) (hoff : b = [] ∨ ∀ i, vb.ownBlock = some i → ¬ Foot H D.files.length i) (hbl : b.length < 1099511627776) (hL : DLt D) :
    Calls Tryd.prog 12 #[PQ H.g 0, St s, vb] w fun e w' => ∃ H', e = .returned (NI (appendD D s b).2) ∧ DkT w0.heap.size w H D w' H' (appendD D s b).1 := by
  have hb := hS.blk
  have hgl := (bl hb)
  have hgl0 := hS.lo.1
  have hsz0 := hE0.size
  have hS0 := hS
  have hgr := World.grownBy.refl w (some H.g)
  refine calls_of_wpF (args := [PQ H.g 0, St (s), vb]) Tryd.func12 rfl 35 rfl (Nat.le_of_ble_eq_true rfl) ?_
  intro ρ0 hb
  have T0 : ρ0 0 = (PQ H.g 0 : Value) := hb.get 0
  have T1 : ρ0 1 = (St (s) : Value) := hb.get 1
  have T2 : ρ0 2 = (vb : Value) := hb.get 2
  clear hb
  have hE := Ext.refl w
  refine sk fun K1 hK1 => (wt (oS rfl (Yk.box1 T0 rfl fun n2 w3 hn4 hb5 hx6 hs7 => ?_)))
  have hA8 := Ext.refl w
  have hea9 := hE
  have hea10 := hE0
  have hz11 := hE.size
  have hz12 := hE0.size
  have hlt13 := lte (bl hb) hn4
  have hb := eb hx6 hb
  have hgr : w.grownBy w3 (some H.g) := grownBy_trans hgr hx6.grown (fun _ e => by cases e)
  have hE := hE.trans hx6
  have hE0 := hE0.trans hx6
  have hA8 := hA8.trans hx6
  have hb14 := hb5; clear hb5
  have hl15 : n2 < w3.heap.size := by omega
  refine oS rfl (Yk.box1 T1 rfl fun n16 w17 hn18 hb19 hx20 hs21 => ?_)
  have hA22 := Ext.refl w3
  have hea23 := hE
  have hea24 := hE0
  have hea25 := hA8
  have hz26 := hE.size
  have hz27 := hE0.size
  have hz28 := hA8.size
  have hlt29 := lte (bl hb) hn18
  have hlt30 := lte (bl hb14) hn18
  have hb := eb hx20 hb
  have hgr : w.grownBy w17 (some H.g) := grownBy_trans hgr hx20.grown (fun _ e => by cases e)
  have hE := hE.trans hx20
  have hE0 := hE0.trans hx20
  have hA8 := hA8.trans hx20
  have hb14 := eb hx20 hb14
  have hA22 := hA22.trans hx20
  have hb31 := hb19; clear hb19
  have hl32 : n16 < w17.heap.size := by omega
  refine oS rfl (Yk.box1 T2 (RB.one (hrb.keep hE)).1 fun n33 w34 hn35 hb36 hx37 hs38 => ?_)
  have hA39 := Ext.refl w17
  have hea40 := hE
  have hea41 := hE0
  have hea42 := hA8
  have hea43 := hA22
  have hz44 := hE.size
  have hz45 := hE0.size
  have hz46 := hA8.size
  have hz47 := hA22.size
  have hlt48 := lte (bl hb) hn35
  have hlt49 := lte (bl hb14) hn35
  have hlt50 := lte (bl hb31) hn35
  have hb := eb hx37 hb
  have hgr : w.grownBy w34 (some H.g) := grownBy_trans hgr hx37.grown (fun _ e => by cases e)
  have hE := hE.trans hx37
  have hE0 := hE0.trans hx37
  have hA8 := hA8.trans hx37
  have hb14 := eb hx37 hb14
  have hA22 := hA22.trans hx37
  have hb31 := eb hx37 hb31
  have hA39 := hA39.trans hx37
  have hb51 := hb36; clear hb36
  have hl52 : n33 < w34.heap.size := by omega
  refine oA rfl (oZ ?_)
  have hq0 := hL.quota
  have hq1 := hL.used
  by_cases hr0 : readyD D s s ≠ 0
  · have hV : appendD D s b = (D, readyD D s s) := if_pos hr0
    refine tN (hK1 _ _ (sk fun K53 hK53 => (sk fun K54 hK54 => (wt (oS rfl (Yk.cell1 dw8_ty23 rfl (vr (PQ n2 0) rfl) (cellAt hb14 (show _ = some (PQ H.g 0 : Value) from rfl)) (oS rfl (Yk.cell1 dw8_ty9 rfl (vr (PQ n16 0) rfl) (cellAt hb31 (show _ = some (St (s) : Value) from rfl)) (oS rfl (Yk.lit1S (a := s) (enc := enS) (vr (St (s)) rfl) rfl (fun w => dw8_lk64 _ w) fun v55 w56 hr57 hx58 => ?_))))))))))
    have hb := eb hx58 hb
    have hgr : w.grownBy w56 (some H.g) := grownBy_trans hgr hx58.grown (fun _ e => by cases e)
    have hE := hE.trans hx58
    have hE0 := hE0.trans hx58
    have hA8 := hA8.trans hx58
    have hb14 := eb hx58 hb14
    have hA22 := hA22.trans hx58
    have hb31 := eb hx58 hb31
    have hA39 := hA39.trans hx58
    have hb51 := eb hx58 hb51
    refine oS rfl (Yk.callA2 dw8_pl27 (vr (PQ H.g 0) rfl) (vr v55 rfl) ((ready_at w0.heap.size _ H D (hS.keep hE) v55 [s] hr57 (by simp)).mono ?_))
    rintro e w60 ⟨rfl, hx59⟩
    refine ⟨_, rfl, ?_⟩
    have hb := eb hx59 hb
    have hgr : w.grownBy w60 (some H.g) := grownBy_trans hgr hx59.grown (fun _ e => by cases e)
    have hE := hE.trans hx59
    have hE0 := hE0.trans hx59
    have hA8 := hA8.trans hx59
    have hb14 := eb hx59 hb14
    have hA22 := hA22.trans hx59
    have hb31 := eb hx59 hb31
    have hA39 := hA39.trans hx59
    have hb51 := eb hx59 hb51
    have hr57 := hr57.keep hx59
    refine oA rfl (oZ (tN (hK54 _ _ (sk fun K61 hK61 => (wt (oM rfl (oS rfl (Yk.eqI (a := (readyL D [s] : Nat)) (b := (0 : Nat)) rfl rfl (k_neq _ _ _ _) (oZ (tN (hK61 _ _ (wpF_true (vr (.bool (true)) (congrArg Value.bool (decide_eq_true (by rw [readyL_1]; omega)))) (sk fun K62 hK62 => (wt (oM rfl (oA rfl (oZ (tN (hK62 _ _ ?_)))))))))))))))))))
    refine wpF_ret (thenF_ret (postF_ret (fn := Tryd.f12) _ rfl [NI (readyL D [s])] (NI (readyL D [s])) rfl ⟨rfl, trivial⟩ ?_))
    exact ⟨H, by rw [hV, readyL_1], by rw [hV]; exact DkT.ofExt hS0 hE⟩
  have hr1 : readyD D s s = 0 := Classical.not_not.1 hr0
  obtain ⟨hdn, hs, -⟩ := ready_ok hr1
  by_cases hq : D.quota < usedD D + b.length
  · have hV : appendD D s b = ({ D with refused := D.refused + 1 }, 8) := (if_neg hr0).trans (if_pos hq)
    refine tN (hK1 _ _ (sk fun K63 hK63 => (sk fun K64 hK64 => (wt (oS rfl (Yk.cell1 dw8_ty23 rfl (vr (PQ n2 0) rfl) (cellAt hb14 (show _ = some (PQ H.g 0 : Value) from rfl)) (oS rfl (Yk.cell1 dw8_ty9 rfl (vr (PQ n16 0) rfl) (cellAt hb31 (show _ = some (St (s) : Value) from rfl)) (oS rfl (Yk.lit1S (a := s) (enc := enS) (vr (St (s)) rfl) rfl (fun w => dw8_lk64 _ w) fun v65 w66 hr67 hx68 => ?_))))))))))
    have hb := eb hx68 hb
    have hgr : w.grownBy w66 (some H.g) := grownBy_trans hgr hx68.grown (fun _ e => by cases e)
    have hE := hE.trans hx68
    have hE0 := hE0.trans hx68
    have hA8 := hA8.trans hx68
    have hb14 := eb hx68 hb14
    have hA22 := hA22.trans hx68
    have hb31 := eb hx68 hb31
    have hA39 := hA39.trans hx68
    have hb51 := eb hx68 hb51
    refine oS rfl (Yk.callA2 dw8_pl27 (vr (PQ H.g 0) rfl) (vr v65 rfl) ((ready_at w0.heap.size _ H D (hS.keep hE) v65 [s] hr67 (by simp)).mono ?_))
    rintro e w70 ⟨rfl, hx69⟩
    refine ⟨_, rfl, ?_⟩
    have hb := eb hx69 hb
    have hgr : w.grownBy w70 (some H.g) := grownBy_trans hgr hx69.grown (fun _ e => by cases e)
    have hE := hE.trans hx69
    have hE0 := hE0.trans hx69
    have hA8 := hA8.trans hx69
    have hb14 := eb hx69 hb14
    have hA22 := hA22.trans hx69
    have hb31 := eb hx69 hb31
    have hA39 := hA39.trans hx69
    have hb51 := eb hx69 hb51
    have hr67 := hr67.keep hx69
    refine oA rfl (oZ (tN (hK64 _ _ (sk fun K71 hK71 => (wt (oM rfl (oS rfl (Yk.eqI (a := (readyL D [s] : Nat)) (b := (0 : Nat)) rfl rfl (k_neq _ _ _ _) (oZ (tN (hK71 _ _ (wpF_false (vr (.bool (false)) (congrArg Value.bool (decide_eq_false (by rw [readyL_1]; omega)))) (wpF_skip (tN (hK63 _ _ (sk fun K72 hK72 => (sk fun K73 hK73 => ?_)))))))))))))))))
    refine wpF_draw [Is (vb), Is (NI b.length), Is (PQ H.g 0), Is (PQ H.g 0), Is (PQ H.g 0), Is (NI D.quota), Is (PQ H.g 0), Is (NI (usedD D)), Is (.int .i64 (((((D.quota : Nat) : Int)) - (((usedD D : Nat) : Int))) : Int)), Is (.bool (true))] (by kernel_rfl) [15, 16, 17, 18, 19, 20, 21, 22, 23, 24] (by kernel_rfl) (by kernel_rfl) (si10 trivial) ?hs1004 ?hQ1004
    case hs1004 =>
      refine ⟨?_, ?_, ?_, ?_, ?_, ?_, ?_, ?_, ?_, ?_, trivial⟩
      · refine stepN rfl fun σ w1 hC h => ?_
        have e5 : σ 5 = PQ n33 0 := (eqo (h 5 (by decide))).trans rfl
        exact Yk.cell1 dw8_ty22 rfl e5 (cellAt (eb hC hb51) (show _ = some (vb : Value) from rfl)) ⟨Ext.refl _, rfl⟩
      · refine stepN rfl fun σ w1 hC h => ?_
        have e15 := eqo (h 15 (by decide))
        exact Yk.lenRB dw8_ty22 (RB.of (hrb.keep (hE.trans hC)) e15) ⟨Ext.refl _, rfl⟩
      · refine stepN rfl fun σ w1 hC h => ?_
        have e3 : σ 3 = PQ n2 0 := (eqo (h 3 (by decide))).trans rfl
        exact Yk.cell1 dw8_ty23 rfl e3 (cellAt (eb hC hb14) (show _ = some (PQ H.g 0 : Value) from rfl)) ⟨Ext.refl _, rfl⟩
      · refine stepN rfl fun σ w1 hC h => ?_
        have e17 := eqo (h 17 (by decide))
        exact Yk.nilCheck e17 ⟨Ext.refl _, rfl⟩
      · refine stepN rfl fun σ w1 hC h => ?_
        have e18 := eqo (h 18 (by decide))
        exact Yk.fieldAt dw8_fo55_0 e18 ⟨Ext.refl _, rfl⟩
      · refine stepN rfl fun σ w1 hC h => ?_
        have e19 := eqo (h 19 (by decide))
        exact Yk.cell1 dw8_ty3 rfl e19 (cellAt (eb hC hb) (show _ = some (NI D.quota : Value) from rfl)) ⟨Ext.refl _, rfl⟩
      · refine stepN rfl fun σ w1 hC h => ?_
        have e3 : σ 3 = PQ n2 0 := (eqo (h 3 (by decide))).trans rfl
        exact Yk.cell1 dw8_ty23 rfl e3 (cellAt (eb hC hb14) (show _ = some (PQ H.g 0 : Value) from rfl)) ⟨Ext.refl _, rfl⟩
      · refine stepN rfl fun σ w1 hC h => ?_
        have e21 := eqo (h 21 (by decide))
        refine Yk.callA1 dw8_pl28 e21 ((used_at w0.heap.size _ H D (hS.keep (hE.trans hC)) hL.used).mono ?_)
        rintro e w2 ⟨rfl, hx⟩
        exact ⟨_, rfl, hx, rfl⟩
      · refine stepN rfl fun σ w1 hC h => ?_
        have e20 := eqo (h 20 (by decide))
        have e22 := eqo (h 22 (by decide))
        exact Yk.bin (xv := .int .i64 (((D.quota : Nat) : Int))) (yv := .int .i64 (((usedD D : Nat) : Int))) e20 e22 rfl (zi_sub _ (((D.quota : Nat) : Int)) (((usedD D : Nat) : Int)) (by omega)) ⟨Ext.refl _, rfl⟩
      · refine stepN rfl fun σ w1 hC h => ?_
        have e16 := eqo (h 16 (by decide))
        have e23 := eqo (h 23 (by decide))
        exact Yk.eqI e16 e23 (z_gtr _ .i64 ((b.length : Nat) : Int) (((((D.quota : Nat) : Int)) - (((usedD D : Nat) : Int))) : Int)) ⟨Ext.refl _, (congrArg Value.bool (decide_eq_true (by omega)))⟩
    intro ρ74 w75 hx76 he hf
    obtain ⟨-, -, -, -, -, -, -, -, -, k24, -⟩ := hf
    obtain ⟨T0, T1, T2, T3, T4, T5, T6, T7, T13, -⟩ := he.hold [(0, _), (1, _), (2, _), (3, PQ n2 0), (4, PQ n16 0), (5, PQ n33 0), (6, NI 0), (7, NI (readyL D [s])), (13, _)] ⟨T0, T1, T2, rfl, rfl, rfl, rfl, rfl, (congrArg Value.bool (decide_eq_false (by rw [readyL_1]; omega))), trivial⟩ rfl
    clear he
    have hb := eb hx76 hb
    have hgr : w.grownBy w75 (some H.g) := grownBy_trans hgr hx76.grown (fun _ e => by cases e)
    have hE := hE.trans hx76
    have hE0 := hE0.trans hx76
    have hA8 := hA8.trans hx76
    have hb14 := eb hx76 hb14
    have hA22 := hA22.trans hx76
    have hb31 := eb hx76 hb31
    have hA39 := hA39.trans hx76
    have hb51 := eb hx76 hb51
    have hr67 := hr67.keep hx76
    have T24 : ρ74 24 = .bool (true) := k24
    clear k24
    refine tN (hK73 _ _ (wpF_true T24 (sk fun K77 hK77 => (wt (oS rfl (Yk.cell1 dw8_ty23 rfl T3 (cellAt hb14 (show _ = some (PQ H.g 0 : Value) from rfl)) (oS rfl (Yk.nilCheck (vr (PQ H.g 0) rfl) (oS rfl (Yk.fieldAt dw8_fo55_4 (vr (PQ H.g 0) rfl) (oS rfl (Yk.cell1 dw8_ty3 rfl (vr (PQ H.g 4) rfl) (cellAt hb (show _ = some (NI D.refused : Value) from rfl)) (oS rfl (Yk.bin (xv := NI D.refused) (yv := NI 1) rfl rfl rfl (i64_add _ _ _ (by have := hL.refused; omega)) (oS rfl (Yk.nilCheck (vr (PQ H.g 0) rfl) (oS rfl (Yk.fieldAt dw8_fo55_4 (vr (PQ H.g 0) rfl) (oS rfl (Yk.storeC (i := 4) (v := NI ((D.refused) + (1))) (vr (PQ H.g 4) rfl) (vr (NI ((D.refused) + (1))) rfl) hb (Nat.le_of_ble_eq_true rfl) dw8_isz3 rfl rfl fun w78 hb79 hg80 hs81 => ?_))))))))))))))))))))
    have hgr : w.grownBy w78 (some H.g) := grownBy_trans hgr hg80 (fun _ e => .inl e)
    clear hE
    have hE0 := row_fresh hE0 hg80 (Nat.le_trans (Nat.le_refl _) (by omega))
    clear hA8
    have hb14 := kb hg80 hb14 (by omega)
    clear hA22
    have hb31 := kb hg80 hb31 (by omega)
    clear hA39
    have hb51 := kb hg80 hb51 (by omega)
    clear hr67
    clear hb
    have hb := hb79; clear hb79
    have hl82 := bl hb
    refine oZ (tN (hK77 _ _ (sk fun K83 hK83 => (wt (oA rfl (oZ (tN (hK83 _ _ (wpF_ret (thenF_ret (postF_ret (fn := Tryd.f12) _ rfl [NI 8] (NI 8) rfl ⟨rfl, trivial⟩ ?_)))))))))))
    exact ⟨H, by rw [hV], by rw [hV]; exact hS0.setBlkT hgr hb⟩
  have hV : appendD D s b = doD D (fun d => addD d s b) := by unfold doD; exact (if_neg hr0).trans (if_neg hq)
  refine tN (hK1 _ _ (sk fun K84 hK84 => (sk fun K85 hK85 => (wt (oS rfl (Yk.cell1 dw8_ty23 rfl (vr (PQ n2 0) rfl) (cellAt hb14 (show _ = some (PQ H.g 0 : Value) from rfl)) (oS rfl (Yk.cell1 dw8_ty9 rfl (vr (PQ n16 0) rfl) (cellAt hb31 (show _ = some (St (s) : Value) from rfl)) (oS rfl (Yk.lit1S (a := s) (enc := enS) (vr (St (s)) rfl) rfl (fun w => dw8_lk64 _ w) fun v86 w87 hr88 hx89 => ?_))))))))))
  have hb := eb hx89 hb
  have hgr : w.grownBy w87 (some H.g) := grownBy_trans hgr hx89.grown (fun _ e => by cases e)
  have hE := hE.trans hx89
  have hE0 := hE0.trans hx89
  have hA8 := hA8.trans hx89
  have hb14 := eb hx89 hb14
  have hA22 := hA22.trans hx89
  have hb31 := eb hx89 hb31
  have hA39 := hA39.trans hx89
  have hb51 := eb hx89 hb51
  refine oS rfl (Yk.callA2 dw8_pl27 (vr (PQ H.g 0) rfl) (vr v86 rfl) ((ready_at w0.heap.size _ H D (hS.keep hE) v86 [s] hr88 (by simp)).mono ?_))
  rintro e w91 ⟨rfl, hx90⟩
  refine ⟨_, rfl, ?_⟩
  have hb := eb hx90 hb
  have hgr : w.grownBy w91 (some H.g) := grownBy_trans hgr hx90.grown (fun _ e => by cases e)
  have hE := hE.trans hx90
  have hE0 := hE0.trans hx90
  have hA8 := hA8.trans hx90
  have hb14 := eb hx90 hb14
  have hA22 := hA22.trans hx90
  have hb31 := eb hx90 hb31
  have hA39 := hA39.trans hx90
  have hb51 := eb hx90 hb51
  have hr88 := hr88.keep hx90
  refine oA rfl (oZ (tN (hK85 _ _ (sk fun K92 hK92 => (wt (oM rfl (oS rfl (Yk.eqI (a := (readyL D [s] : Nat)) (b := (0 : Nat)) rfl rfl (k_neq _ _ _ _) (oZ (tN (hK92 _ _ (wpF_false (vr (.bool (false)) (congrArg Value.bool (decide_eq_false (by rw [readyL_1]; omega)))) (wpF_skip (tN (hK84 _ _ (sk fun K93 hK93 => (sk fun K94 hK94 => ?_)))))))))))))))))
  refine wpF_draw [Is (vb), Is (NI b.length), Is (PQ H.g 0), Is (PQ H.g 0), Is (PQ H.g 0), Is (NI D.quota), Is (PQ H.g 0), Is (NI (usedD D)), Is (.int .i64 (((((D.quota : Nat) : Int)) - (((usedD D : Nat) : Int))) : Int)), Is (.bool (false))] (by kernel_rfl) [15, 16, 17, 18, 19, 20, 21, 22, 23, 24] (by kernel_rfl) (by kernel_rfl) (si10 trivial) ?hs2004 ?hQ2004
  case hs2004 =>
    refine ⟨?_, ?_, ?_, ?_, ?_, ?_, ?_, ?_, ?_, ?_, trivial⟩
    · refine stepN rfl fun σ w1 hC h => ?_
      have e5 : σ 5 = PQ n33 0 := (eqo (h 5 (by decide))).trans rfl
      exact Yk.cell1 dw8_ty22 rfl e5 (cellAt (eb hC hb51) (show _ = some (vb : Value) from rfl)) ⟨Ext.refl _, rfl⟩
    · refine stepN rfl fun σ w1 hC h => ?_
      have e15 := eqo (h 15 (by decide))
      exact Yk.lenRB dw8_ty22 (RB.of (hrb.keep (hE.trans hC)) e15) ⟨Ext.refl _, rfl⟩
    · refine stepN rfl fun σ w1 hC h => ?_
      have e3 : σ 3 = PQ n2 0 := (eqo (h 3 (by decide))).trans rfl
      exact Yk.cell1 dw8_ty23 rfl e3 (cellAt (eb hC hb14) (show _ = some (PQ H.g 0 : Value) from rfl)) ⟨Ext.refl _, rfl⟩
    · refine stepN rfl fun σ w1 hC h => ?_
      have e17 := eqo (h 17 (by decide))
      exact Yk.nilCheck e17 ⟨Ext.refl _, rfl⟩
    · refine stepN rfl fun σ w1 hC h => ?_
      have e18 := eqo (h 18 (by decide))
      exact Yk.fieldAt dw8_fo55_0 e18 ⟨Ext.refl _, rfl⟩
    · refine stepN rfl fun σ w1 hC h => ?_
      have e19 := eqo (h 19 (by decide))
      exact Yk.cell1 dw8_ty3 rfl e19 (cellAt (eb hC hb) (show _ = some (NI D.quota : Value) from rfl)) ⟨Ext.refl _, rfl⟩
    · refine stepN rfl fun σ w1 hC h => ?_
      have e3 : σ 3 = PQ n2 0 := (eqo (h 3 (by decide))).trans rfl
      exact Yk.cell1 dw8_ty23 rfl e3 (cellAt (eb hC hb14) (show _ = some (PQ H.g 0 : Value) from rfl)) ⟨Ext.refl _, rfl⟩
    · refine stepN rfl fun σ w1 hC h => ?_
      have e21 := eqo (h 21 (by decide))
      refine Yk.callA1 dw8_pl28 e21 ((used_at w0.heap.size _ H D (hS.keep (hE.trans hC)) hL.used).mono ?_)
      rintro e w2 ⟨rfl, hx⟩
      exact ⟨_, rfl, hx, rfl⟩
    · refine stepN rfl fun σ w1 hC h => ?_
      have e20 := eqo (h 20 (by decide))
      have e22 := eqo (h 22 (by decide))
      exact Yk.bin (xv := .int .i64 (((D.quota : Nat) : Int))) (yv := .int .i64 (((usedD D : Nat) : Int))) e20 e22 rfl (zi_sub _ (((D.quota : Nat) : Int)) (((usedD D : Nat) : Int)) (by omega)) ⟨Ext.refl _, rfl⟩
    · refine stepN rfl fun σ w1 hC h => ?_
      have e16 := eqo (h 16 (by decide))
      have e23 := eqo (h 23 (by decide))
      exact Yk.eqI e16 e23 (z_gtr _ .i64 ((b.length : Nat) : Int) (((((D.quota : Nat) : Int)) - (((usedD D : Nat) : Int))) : Int)) ⟨Ext.refl _, (congrArg Value.bool (decide_eq_false (by omega)))⟩
  intro ρ95 w96 hx97 he hf
  obtain ⟨-, -, -, -, -, -, -, -, -, k24, -⟩ := hf
  obtain ⟨T0, T1, T2, T3, T4, T5, T6, T7, T13, -⟩ := he.hold [(0, _), (1, _), (2, _), (3, PQ n2 0), (4, PQ n16 0), (5, PQ n33 0), (6, NI 0), (7, NI (readyL D [s])), (13, _)] ⟨T0, T1, T2, rfl, rfl, rfl, rfl, rfl, (congrArg Value.bool (decide_eq_false (by rw [readyL_1]; omega))), trivial⟩ rfl
  clear he
  have hb := eb hx97 hb
  have hgr : w.grownBy w96 (some H.g) := grownBy_trans hgr hx97.grown (fun _ e => by cases e)
  have hE := hE.trans hx97
  have hE0 := hE0.trans hx97
  have hA8 := hA8.trans hx97
  have hb14 := eb hx97 hb14
  have hA22 := hA22.trans hx97
  have hb31 := eb hx97 hb31
  have hA39 := hA39.trans hx97
  have hb51 := eb hx97 hb51
  have hr88 := hr88.keep hx97
  have T24 : ρ95 24 = .bool (false) := k24
  clear k24
  refine tN (hK94 _ _ (wpF_false T24 (wpF_skip (tN (hK93 _ _ (sk fun K98 hK98 => (wt (oS rfl (Yk.cell1 dw8_ty23 rfl T3 (cellAt hb14 (show _ = some (PQ H.g 0 : Value) from rfl)) (oS rfl (Yk.mkFunc (vs := #[PQ n2 0, PQ n16 0, PQ n33 0]) (by simp only [List.map_toArray, List.map_cons, List.map_nil]; exact congrArg List.toArray (list3 T3 T4 T5)) ?_)))))))))))
  have hEc := hE
  have hSc := (hS.keep hE)
  have hTc := DkT.ofExt hS0 hEc
  have hE0c := hE0
  refine oS rfl (Yk.callA2 dw8_pl35 (vr (PQ H.g 0) rfl) (vr (.func (.func 36) #[] #[PQ n2 0, PQ n16 0, PQ n33 0]) rfl) ((act_at w0 _ hE0c H D hSc hdn hL.arm (.func (.func 36) #[] #[PQ n2 0, PQ n16 0, PQ n33 0]) 36 #[PQ n2 0, PQ n16 0, PQ n33 0] (fun _ _ => by kernel_rfl) rfl (fun d => addD d s b) (app_clo w0 _ hE0c H D hSc n2 n16 n33 s b vb hb14 hb31 hb51 (hrb.keep hE) (hoff.imp id fun q i hi r => q i hi r) hs hbl hL.files hL.acts)).mono ?_))
  rintro e w99 ⟨H3, rfl, hT2⟩
  refine ⟨_, rfl, ?_⟩
  have hT3 := hTc.trans hT2
  refine oA rfl (oZ (tN (hK98 _ _ (wpF_ret (postF_ret (fn := Tryd.f12) _ rfl [NI ((doD D (fun d => addD d s b)).2)] (NI ((doD D (fun d => addD d s b)).2)) rfl ⟨rfl, trivial⟩ ?_)))))
  exact ⟨H3, by rw [hV], by rw [hV]; exact hT3⟩

theorem sync_at (w0 w : World) (hE0 : Ext w0 w) (H : Dk) (D : Dsk) (hS : DkS w0.heap.size w H D) (s : List UInt8) (hL : DLt D) :
    Calls Tryd.prog 25 #[PQ H.g 0, St s] w fun e w' => ∃ H', e = .returned (NI (syncD D s).2) ∧ DkT w0.heap.size w H D w' H' (syncD D s).1 := by
  have hb := hS.blk
  have hgl := (bl hb)
  have hgl0 := hS.lo.1
  have hsz0 := hE0.size
  have hS0 := hS
  have hgr := World.grownBy.refl w (some H.g)
  refine calls_of_wpF (args := [PQ H.g 0, St (s)]) Tryd.func25 rfl 19 rfl (Nat.le_of_ble_eq_true rfl) ?_
  intro ρ0 hb
  have T0 : ρ0 0 = (PQ H.g 0 : Value) := hb.get 0
  have T1 : ρ0 1 = (St (s) : Value) := hb.get 1
  clear hb
  have hE := Ext.refl w
  refine sk fun K1 hK1 => (wt (oS rfl (Yk.box1 T0 rfl fun n2 w3 hn4 hb5 hx6 hs7 => ?_)))
  have hA8 := Ext.refl w
  have hea9 := hE
  have hea10 := hE0
  have hz11 := hE.size
  have hz12 := hE0.size
  have hlt13 := lte (bl hb) hn4
  have hb := eb hx6 hb
  have hgr : w.grownBy w3 (some H.g) := grownBy_trans hgr hx6.grown (fun _ e => by cases e)
  have hE := hE.trans hx6
  have hE0 := hE0.trans hx6
  have hA8 := hA8.trans hx6
  have hb14 := hb5; clear hb5
  have hl15 : n2 < w3.heap.size := by omega
  refine oA rfl (oZ ?_)
  rcases hV0 : hasL D [] s with ce | k
  · have hV : syncD D s = (D, ce) := by unfold syncD; rw [hasD_1, hV0]
    have hce := hasL_ne hV0
    refine tN (hK1 _ _ (sk fun K16 hK16 => (wt (oS rfl (Yk.cell1 dw8_ty23 rfl (vr (PQ n2 0) rfl) (cellAt hb14 (show _ = some (PQ H.g 0 : Value) from rfl)) (oM rfl (oS rfl (Yk.callA3 dw8_pl49 (vr (PQ H.g 0) rfl) T1 (vr (Value.slice none 0 0) rfl) (((show Calls _ _ _ _ (fun e w2 => e = .returned (.tuple #[.pointer none, NI ce]) ∧ Ext _ w2) from by have h := has_at w0.heap.size _ H D (hS.keep hE) s ((Value.slice none 0 0)) [] (.inl ⟨rfl, rfl⟩) (by simp); rw [hV0] at h; exact h)).mono ?_)))))))))
    rintro e w18 ⟨rfl, hx17⟩
    refine ⟨_, rfl, ?_⟩
    have hb := eb hx17 hb
    have hgr : w.grownBy w18 (some H.g) := grownBy_trans hgr hx17.grown (fun _ e => by cases e)
    have hE := hE.trans hx17
    have hE0 := hE0.trans hx17
    have hA8 := hA8.trans hx17
    have hb14 := eb hx17 hb14
    refine oM rfl (oS rfl (Yk.extract (vs := [.pointer none, NI ce]) (vr (.tuple #[.pointer none, NI ce]) rfl) (show _ = some (.pointer none : Value) from rfl) (oS rfl (Yk.extract (vs := [.pointer none, NI ce]) (vr (.tuple #[.pointer none, NI ce]) rfl) (show _ = some (NI ce : Value) from rfl) (oS rfl (Yk.alloc (cs := ([.pointer none]).toArray) dw8_al69 fun n19 w20 hn21 hb22 hx23 hs24 => ?_))))))
    have hA25 := Ext.refl w18
    have hea26 := hE
    have hea27 := hE0
    have hea28 := hA8
    have hz29 := hE.size
    have hz30 := hE0.size
    have hz31 := hA8.size
    have hlt32 := lte (bl hb) hn21
    have hlt33 := lte (bl hb14) hn21
    have hb := eb hx23 hb
    have hgr : w.grownBy w20 (some H.g) := grownBy_trans hgr hx23.grown (fun _ e => by cases e)
    have hE := hE.trans hx23
    have hE0 := hE0.trans hx23
    have hA8 := hA8.trans hx23
    have hb14 := eb hx23 hb14
    have hA25 := hA25.trans hx23
    have hb34 := hb22; clear hb22
    have hl35 : n19 < w20.heap.size := by omega
    refine oS rfl (Yk.storeC (i := 0) (v := .pointer none) (vr (PQ n19 0) rfl) (vr (.pointer none) rfl) hb34 (Nat.le_of_ble_eq_true rfl) dw8_isz69 rfl rfl fun w36 hb37 hg38 hs39 => ?_)
    have hb := kb hg38 hb (by omega)
    have hgr : w.grownBy w36 (some H.g) := grownBy_trans hgr hg38 (fun _ e => .inr (by cases e; omega))
    have hE := row_fresh hE hg38 (Nat.le_trans hz31 (by omega))
    have hE0 := row_fresh hE0 hg38 (Nat.le_trans hz30 (by omega))
    have hA8 := row_fresh hA8 hg38 (Nat.le_trans hz31 (by omega))
    have hb14 := kb hg38 hb14 (by omega)
    have hA25 := row_fresh hA25 hg38 (Nat.le_trans (Nat.le_refl _) (by omega))
    clear hb34
    have hb34 := hb37; clear hb37
    have hl40 := bl hb34
    refine oA rfl (oZ (tN (hK16 _ _ (sk fun K41 hK41 => (sk fun K42 hK42 => (wt (oM rfl (oS rfl (Yk.eqI (a := (ce : Nat)) (b := (0 : Nat)) rfl rfl (k_neq _ _ _ _) (oZ (tN (hK42 _ _ (wpF_true (vr (.bool (true)) (congrArg Value.bool (decide_eq_true (by omega)))) (sk fun K43 hK43 => (wt (oM rfl (oA rfl (oZ ?_))))))))))))))))))
    refine tN (hK43 _ _ (wpF_ret (thenF_ret (postF_ret (fn := Tryd.f25) _ rfl [NI ce] (NI ce) rfl ⟨rfl, trivial⟩ ?_))))
    exact ⟨H, by rw [hV], by rw [hV]; exact DkT.ofExt hS0 hE⟩
  have hV : syncD D s = doD D (fun d => { d with files := d.files.set k ((fileD d k).1, (fileD d k).1.length), kept := d.now, acts := [] }) := by unfold syncD; rw [hasD_1, hV0]
  obtain ⟨hdn, hlk, hms⟩ := hasL_ok hV0
  have hkl := hS.ok.now.look hlk
  refine tN (hK1 _ _ (sk fun K44 hK44 => (wt (oS rfl (Yk.cell1 dw8_ty23 rfl (vr (PQ n2 0) rfl) (cellAt hb14 (show _ = some (PQ H.g 0 : Value) from rfl)) (oM rfl (oS rfl (Yk.callA3 dw8_pl49 (vr (PQ H.g 0) rfl) T1 (vr (Value.slice none 0 0) rfl) (((show Calls _ _ _ _ (fun e w2 => e = .returned (.tuple #[.pointer (some ⟨(H.F k), 0, none⟩), NI 0]) ∧ Ext _ w2) from by have h := has_at w0.heap.size _ H D (hS.keep hE) s ((Value.slice none 0 0)) [] (.inl ⟨rfl, rfl⟩) (by simp); rw [hV0] at h; exact h)).mono ?_)))))))))
  rintro e w46 ⟨rfl, hx45⟩
  refine ⟨_, rfl, ?_⟩
  have hb := eb hx45 hb
  have hgr : w.grownBy w46 (some H.g) := grownBy_trans hgr hx45.grown (fun _ e => by cases e)
  have hE := hE.trans hx45
  have hE0 := hE0.trans hx45
  have hA8 := hA8.trans hx45
  have hb14 := eb hx45 hb14
  refine oM rfl (oS rfl (Yk.extract (vs := [.pointer (some ⟨(H.F k), 0, none⟩), NI 0]) (vr (.tuple #[.pointer (some ⟨(H.F k), 0, none⟩), NI 0]) rfl) (show _ = some (.pointer (some ⟨(H.F k), 0, none⟩) : Value) from rfl) (oS rfl (Yk.extract (vs := [.pointer (some ⟨(H.F k), 0, none⟩), NI 0]) (vr (.tuple #[.pointer (some ⟨(H.F k), 0, none⟩), NI 0]) rfl) (show _ = some (NI 0 : Value) from rfl) (oS rfl (Yk.alloc (cs := ([.pointer none]).toArray) dw8_al69 fun n47 w48 hn49 hb50 hx51 hs52 => ?_))))))
  have hA53 := Ext.refl w46
  have hea54 := hE
  have hea55 := hE0
  have hea56 := hA8
  have hz57 := hE.size
  have hz58 := hE0.size
  have hz59 := hA8.size
  have hlt60 := lte (bl hb) hn49
  have hlt61 := lte (bl hb14) hn49
  have hb := eb hx51 hb
  have hgr : w.grownBy w48 (some H.g) := grownBy_trans hgr hx51.grown (fun _ e => by cases e)
  have hE := hE.trans hx51
  have hE0 := hE0.trans hx51
  have hA8 := hA8.trans hx51
  have hb14 := eb hx51 hb14
  have hA53 := hA53.trans hx51
  have hb62 := hb50; clear hb50
  have hl63 : n47 < w48.heap.size := by omega
  refine oS rfl (Yk.storeC (i := 0) (v := .pointer (some ⟨(H.F k), 0, none⟩)) (vr (PQ n47 0) rfl) (vr (.pointer (some ⟨(H.F k), 0, none⟩)) rfl) hb62 (Nat.le_of_ble_eq_true rfl) dw8_isz69 rfl rfl fun w64 hb65 hg66 hs67 => ?_)
  have hb := kb hg66 hb (by omega)
  have hgr : w.grownBy w64 (some H.g) := grownBy_trans hgr hg66 (fun _ e => .inr (by cases e; omega))
  have hE := row_fresh hE hg66 (Nat.le_trans hz59 (by omega))
  have hE0 := row_fresh hE0 hg66 (Nat.le_trans hz58 (by omega))
  have hA8 := row_fresh hA8 hg66 (Nat.le_trans hz59 (by omega))
  have hb14 := kb hg66 hb14 (by omega)
  have hA53 := row_fresh hA53 hg66 (Nat.le_trans (Nat.le_refl _) (by omega))
  clear hb62
  have hb62 := hb65; clear hb65
  have hl68 := bl hb62
  refine oA rfl (oZ (tN (hK44 _ _ (sk fun K69 hK69 => (sk fun K70 hK70 => (wt (oM rfl (oS rfl (Yk.eqI (a := (0 : Nat)) (b := (0 : Nat)) rfl rfl (k_neq _ _ _ _) (oZ (tN (hK70 _ _ (wpF_false (vr (.bool (false)) (congrArg Value.bool (decide_eq_false (by decide)))) (wpF_skip (tN (hK69 _ _ (sk fun K71 hK71 => (wt (oS rfl (Yk.cell1 dw8_ty23 rfl (vr (PQ n2 0) rfl) (cellAt hb14 (show _ = some (PQ H.g 0 : Value) from rfl)) ?_))))))))))))))))))))
  refine oS rfl (Yk.mkFunc (vs := #[PQ n47 0, PQ n2 0]) (by simp only [List.map_toArray, List.map_cons, List.map_nil]; exact congrArg List.toArray (list2 (vr (PQ n47 0) rfl) (vr (PQ n2 0) rfl))) ?_)
  have hEc := hE
  have hSc := (hS.keep hE)
  have hTc := DkT.ofExt hS0 hEc
  have hE0c := hE0
  refine oS rfl (Yk.callA2 dw8_pl35 (vr (PQ H.g 0) rfl) (vr (.func (.func 50) #[] #[PQ n47 0, PQ n2 0]) rfl) ((act_at w0 _ hE0c H D hSc hdn hL.arm (.func (.func 50) #[] #[PQ n47 0, PQ n2 0]) 50 #[PQ n47 0, PQ n2 0] (fun _ _ => by kernel_rfl) rfl (fun d => { d with files := d.files.set k ((fileD d k).1, (fileD d k).1.length), kept := d.now, acts := [] }) (sync_clo w0 _ hE0c H D hSc n47 n2 k hb62 hb14 hkl.1)).mono ?_))
  rintro e w72 ⟨H3, rfl, hT2⟩
  refine ⟨_, rfl, ?_⟩
  have hT3 := hTc.trans hT2
  refine oA rfl (oZ (tN (hK71 _ _ (wpF_ret (postF_ret (fn := Tryd.f25) _ rfl [NI ((doD D (fun d => { d with files := d.files.set k ((fileD d k).1, (fileD d k).1.length), kept := d.now, acts := [] })).2)] (NI ((doD D (fun d => { d with files := d.files.set k ((fileD d k).1, (fileD d k).1.length), kept := d.now, acts := [] })).2)) rfl ⟨rfl, trivial⟩ ?_)))))
  exact ⟨H3, by rw [hV], by rw [hV]; exact hT3⟩

theorem drop_at (w0 w : World) (hE0 : Ext w0 w) (H : Dk) (D : Dsk) (hS : DkS w0.heap.size w H D) (s : List UInt8) (hL : DLt D) :
    Calls Tryd.prog 26 #[PQ H.g 0, St s] w fun e w' => ∃ H', e = .returned (NI (dropD D s).2) ∧ DkT w0.heap.size w H D w' H' (dropD D s).1 := by
  have hb := hS.blk
  have hgl := (bl hb)
  have hgl0 := hS.lo.1
  have hsz0 := hE0.size
  have hS0 := hS
  have hgr := World.grownBy.refl w (some H.g)
  refine calls_of_wpF (args := [PQ H.g 0, St (s)]) Tryd.func26 rfl 19 rfl (Nat.le_of_ble_eq_true rfl) ?_
  intro ρ0 hb
  have T0 : ρ0 0 = (PQ H.g 0 : Value) := hb.get 0
  have T1 : ρ0 1 = (St (s) : Value) := hb.get 1
  clear hb
  have hE := Ext.refl w
  refine sk fun K1 hK1 => (wt (oS rfl (Yk.box1 T0 rfl fun n2 w3 hn4 hb5 hx6 hs7 => ?_)))
  have hA8 := Ext.refl w
  have hea9 := hE
  have hea10 := hE0
  have hz11 := hE.size
  have hz12 := hE0.size
  have hlt13 := lte (bl hb) hn4
  have hb := eb hx6 hb
  have hgr : w.grownBy w3 (some H.g) := grownBy_trans hgr hx6.grown (fun _ e => by cases e)
  have hE := hE.trans hx6
  have hE0 := hE0.trans hx6
  have hA8 := hA8.trans hx6
  have hb14 := hb5; clear hb5
  have hl15 : n2 < w3.heap.size := by omega
  refine oS rfl (Yk.box1 T1 rfl fun n16 w17 hn18 hb19 hx20 hs21 => ?_)
  have hA22 := Ext.refl w3
  have hea23 := hE
  have hea24 := hE0
  have hea25 := hA8
  have hz26 := hE.size
  have hz27 := hE0.size
  have hz28 := hA8.size
  have hlt29 := lte (bl hb) hn18
  have hlt30 := lte (bl hb14) hn18
  have hb := eb hx20 hb
  have hgr : w.grownBy w17 (some H.g) := grownBy_trans hgr hx20.grown (fun _ e => by cases e)
  have hE := hE.trans hx20
  have hE0 := hE0.trans hx20
  have hA8 := hA8.trans hx20
  have hb14 := eb hx20 hb14
  have hA22 := hA22.trans hx20
  have hb31 := hb19; clear hb19
  have hl32 : n16 < w17.heap.size := by omega
  refine oA rfl (oZ ?_)
  rcases hV0 : hasL D [] s with ce | k
  · have hV : dropD D s = (D, ce) := by unfold dropD; rw [hasD_1, hV0]
    have hce := hasL_ne hV0
    refine tN (hK1 _ _ (sk fun K33 hK33 => (sk fun K34 hK34 => (wt (oS rfl (Yk.cell1 dw8_ty23 rfl (vr (PQ n2 0) rfl) (cellAt hb14 (show _ = some (PQ H.g 0 : Value) from rfl)) (oS rfl (Yk.cell1 dw8_ty9 rfl (vr (PQ n16 0) rfl) (cellAt hb31 (show _ = some (St (s) : Value) from rfl)) (oS rfl (Yk.callA3 dw8_pl49 (vr (PQ H.g 0) rfl) (vr (St (s)) rfl) (vr (Value.slice none 0 0) rfl) (((show Calls _ _ _ _ (fun e w2 => e = .returned (.tuple #[.pointer none, NI ce]) ∧ Ext _ w2) from by have h := has_at w0.heap.size _ H D (hS.keep hE) s ((Value.slice none 0 0)) [] (.inl ⟨rfl, rfl⟩) (by simp); rw [hV0] at h; exact h)).mono ?_)))))))))))
    rintro e w36 ⟨rfl, hx35⟩
    refine ⟨_, rfl, ?_⟩
    have hb := eb hx35 hb
    have hgr : w.grownBy w36 (some H.g) := grownBy_trans hgr hx35.grown (fun _ e => by cases e)
    have hE := hE.trans hx35
    have hE0 := hE0.trans hx35
    have hA8 := hA8.trans hx35
    have hb14 := eb hx35 hb14
    have hA22 := hA22.trans hx35
    have hb31 := eb hx35 hb31
    refine oM rfl (oS rfl (Yk.extract (vs := [.pointer none, NI ce]) (vr (.tuple #[.pointer none, NI ce]) rfl) (show _ = some (.pointer none : Value) from rfl) (oS rfl (Yk.extract (vs := [.pointer none, NI ce]) (vr (.tuple #[.pointer none, NI ce]) rfl) (show _ = some (NI ce : Value) from rfl) (oA rfl (oA rfl (oZ (tN (hK34 _ _ (sk fun K37 hK37 => (wt (oM rfl (oS rfl (Yk.eqI (a := (ce : Nat)) (b := (0 : Nat)) rfl rfl (k_neq _ _ _ _) (oZ (tN (hK37 _ _ (wpF_true (vr (.bool (true)) (congrArg Value.bool (decide_eq_true (by omega)))) (sk fun K38 hK38 => (wt ?_))))))))))))))))))))
    refine oM rfl (oA rfl (oZ (tN (hK38 _ _ (wpF_ret (thenF_ret (postF_ret (fn := Tryd.f26) _ rfl [NI ce] (NI ce) rfl ⟨rfl, trivial⟩ ?_)))))))
    exact ⟨H, by rw [hV], by rw [hV]; exact DkT.ofExt hS0 hE⟩
  have hV : dropD D s = doD D (fun d => turnedD d ⟨s, [], k⟩) := by unfold dropD; rw [hasD_1, hV0]
  obtain ⟨hdn, hlk, hms⟩ := hasL_ok hV0
  have hkl := hS.ok.now.look hlk
  refine tN (hK1 _ _ (sk fun K39 hK39 => (sk fun K40 hK40 => (wt (oS rfl (Yk.cell1 dw8_ty23 rfl (vr (PQ n2 0) rfl) (cellAt hb14 (show _ = some (PQ H.g 0 : Value) from rfl)) (oS rfl (Yk.cell1 dw8_ty9 rfl (vr (PQ n16 0) rfl) (cellAt hb31 (show _ = some (St (s) : Value) from rfl)) (oS rfl (Yk.callA3 dw8_pl49 (vr (PQ H.g 0) rfl) (vr (St (s)) rfl) (vr (Value.slice none 0 0) rfl) (((show Calls _ _ _ _ (fun e w2 => e = .returned (.tuple #[.pointer (some ⟨(H.F k), 0, none⟩), NI 0]) ∧ Ext _ w2) from by have h := has_at w0.heap.size _ H D (hS.keep hE) s ((Value.slice none 0 0)) [] (.inl ⟨rfl, rfl⟩) (by simp); rw [hV0] at h; exact h)).mono ?_)))))))))))
  rintro e w42 ⟨rfl, hx41⟩
  refine ⟨_, rfl, ?_⟩
  have hb := eb hx41 hb
  have hgr : w.grownBy w42 (some H.g) := grownBy_trans hgr hx41.grown (fun _ e => by cases e)
  have hE := hE.trans hx41
  have hE0 := hE0.trans hx41
  have hA8 := hA8.trans hx41
  have hb14 := eb hx41 hb14
  have hA22 := hA22.trans hx41
  have hb31 := eb hx41 hb31
  refine oM rfl (oS rfl (Yk.extract (vs := [.pointer (some ⟨(H.F k), 0, none⟩), NI 0]) (vr (.tuple #[.pointer (some ⟨(H.F k), 0, none⟩), NI 0]) rfl) (show _ = some (.pointer (some ⟨(H.F k), 0, none⟩) : Value) from rfl) (oS rfl (Yk.extract (vs := [.pointer (some ⟨(H.F k), 0, none⟩), NI 0]) (vr (.tuple #[.pointer (some ⟨(H.F k), 0, none⟩), NI 0]) rfl) (show _ = some (NI 0 : Value) from rfl) (oA rfl (oA rfl (oZ (tN (hK40 _ _ (sk fun K43 hK43 => (wt (oM rfl (oS rfl (Yk.eqI (a := (0 : Nat)) (b := (0 : Nat)) rfl rfl (k_neq _ _ _ _) (oZ (tN (hK43 _ _ (wpF_false (vr (.bool (false)) (congrArg Value.bool (decide_eq_false (by decide)))) (wpF_skip (tN (hK39 _ _ ?_)))))))))))))))))))))
  refine sk fun K44 hK44 => (wt (oS rfl (Yk.cell1 dw8_ty23 rfl (vr (PQ n2 0) rfl) (cellAt hb14 (show _ = some (PQ H.g 0 : Value) from rfl)) (oS rfl (Yk.mkFunc (vs := #[PQ n2 0, PQ n16 0]) (by simp only [List.map_toArray, List.map_cons, List.map_nil]; exact congrArg List.toArray (list2 (vr (PQ n2 0) rfl) (vr (PQ n16 0) rfl))) ?_)))))
  have hEc := hE
  have hSc := (hS.keep hE)
  have hTc := DkT.ofExt hS0 hEc
  have hE0c := hE0
  refine oS rfl (Yk.callA2 dw8_pl35 (vr (PQ H.g 0) rfl) (vr (.func (.func 51) #[] #[PQ n2 0, PQ n16 0]) rfl) ((act_at w0 _ hE0c H D hSc hdn hL.arm (.func (.func 51) #[] #[PQ n2 0, PQ n16 0]) 51 #[PQ n2 0, PQ n16 0] (fun _ _ => by kernel_rfl) rfl (fun d => turnedD d ⟨s, [], k⟩) (drop_clo w0 _ hE0c H D hSc n2 n16 k s hb14 hb31 hkl.1 hkl.2 hL.acts)).mono ?_))
  rintro e w45 ⟨H3, rfl, hT2⟩
  refine ⟨_, rfl, ?_⟩
  have hT3 := hTc.trans hT2
  refine oA rfl (oZ (tN (hK44 _ _ (wpF_ret (postF_ret (fn := Tryd.f26) _ rfl [NI ((doD D (fun d => turnedD d ⟨s, [], k⟩)).2)] (NI ((doD D (fun d => turnedD d ⟨s, [], k⟩)).2)) rfl ⟨rfl, trivial⟩ ?_)))))
  exact ⟨H3, by rw [hV], by rw [hV]; exact hT3⟩
open Go.RowKit
section
variable {P : Program} {K : Value → World → Prop} {ρ : Slots} {w : World} {d : Option Tmp} {ty : TypeId} {pos : String} {af : Array Edge} {gd : Option (Nat × Bool)}
theorem run_slNil {t e : TypeId} (ht : P.underlying t = some (.slice e)) (a : Option Addr) (n c : Nat) (w : World) : (Op.equal t (.slice a n c) (.slice none 0 0)).run P w = .ok a.isNone w := by
  unfold Op.equal
  rw [show Op.maxDepth = (Op.maxDepth - 1) + 1 from rfl]
  cases a <;> simp [Op.equalIn, run_underlying ht, Sem.run_bind, Sem.run_pure]
theorem Yk.eqlNilSl {t e ty2 : TypeId} (ht : P.underlying t = some (.slice e)) {x : Operand} {a : Option Addr} {n c : Nat} (hx : evalR ρ x = .slice a n c) (hk : K (.bool a.isNone) w) : Yk P K ((execOp (evalR ρ) ⟨d, .binOp .eql t x (.const (.slice none 0 0)) ty2, ty, pos, af, gd⟩).run P w) := by
  have hy : evalR ρ (.const (.slice none 0 0)) = .slice none 0 0 := rfl
  refine Yk.value (v := .bool a.isNone) (w' := w) ?_ hk
  have hr := run_slNil ht a n c w
  unfold execOp
  simp only [hx, hy]
  cases a <;> simp [eqGuard, Go.binOp, hr]
end
open Go.RowKit
set_option maxRecDepth 100000
set_option linter.unusedVariables false
set_option linter.unusedSimpArgs false
theorem Yk.max0 {P : Program} {K : Value → World → Prop} {ρ : Slots} {w : World} {d : Option Tmp} {ty : TypeId} {pos : String} {af : Array Edge} {gd : Option (Nat × Bool)} {x y : Operand} {n : Int} (hx : evalR ρ x = .int .i64 n) (hy : evalR ρ y = NI 0) (hk : K (NI n.toNat) w) : Yk P K ((execOp (evalR ρ) ⟨d, .call ⟨.builtin .max, #[x, y], #[3, 3]⟩, ty, pos, af, gd⟩).run P w) := by
 refine Yk.value (v := NI n.toNat) (w' := w) ?_ hk
 have he : (if (0 : Int) > n then (0 : Int) else n) = (n.toNat : Int) := by split <;> omega
 have hr := run_max_int2 (P := P) w #[3, 3] ty .i64 .i64 n 0
 rw [he] at hr
 unfold execOp
 simp only [resolve, invoke, builtin, Sem.run_bind, Sem.run_pure, Result.andThen_ok, List.map_toArray, List.map_cons, List.map_nil, hx, hy, hr, show (NI 0 : Value) = .int .i64 0 from rfl]
def usedR (D : Dsk) : Nat := if D.down = true then 0 else usedD D
theorem dw9_ty22 : Tryd.prog.underlying 22 = some (.slice 5) := by kernel_rfl
theorem dw9_l0_22 (w : World) : (Instr.buildSlice 22 0 #[]).run Tryd.prog w = .ok (.slice (some ⟨w.heap.size, 0, none⟩) 0 0) (w.alloc (.cells #[] 5)) := by kernel_rfl
theorem dw9_inf5 : (Tryd.prog.info? 5).map (fun i => (i.zero, i.size, i.bytes)) = some (some (.int .u8 0), 1, 1) := by kernel_rfl
theorem dw9_pl49 : Plain Tryd.prog 49 := fun _ _ => by kernel_rfl
theorem dw9_fo71_0 : FieldOff Tryd.prog 71 0 0 := fun b o w => by simp [go_sem]
theorem dw9_pl47 : Plain Tryd.prog 47 := fun _ _ => by kernel_rfl
theorem dw9_pl27 : Plain Tryd.prog 27 := fun _ _ => by kernel_rfl
theorem dw9_pl28 : Plain Tryd.prog 28 := fun _ _ => by kernel_rfl
theorem dw9_ty23 : Tryd.prog.underlying 23 = some (.pointer 55) := by kernel_rfl
theorem dw9_fo55_6 : FieldOff Tryd.prog 55 6 6 := fun b o w => by simp [go_sem]
theorem dw9_ty4 : Tryd.prog.underlying 4 = some (.bool) := by kernel_rfl
theorem dw9_fo55_1 : FieldOff Tryd.prog 55 1 1 := fun b o w => by simp [go_sem]
theorem dw9_ty52 : Tryd.prog.underlying 52 = some (.map 9 69) := by kernel_rfl
theorem dw9_pl46 : Plain Tryd.prog 46 := fun _ _ => by kernel_rfl
theorem dw9_pl45 : Plain Tryd.prog 45 := fun _ _ => by kernel_rfl
theorem dw9_fo55_5 : FieldOff Tryd.prog 55 5 5 := fun b o w => by simp [go_sem]
theorem dw9_isz3 : (Tryd.prog.info? 3).map (·.size) = some 1 := by kernel_rfl
set_option maxHeartbeats 1600000
theorem cloneN (w : World) :
  Calls Tryd.prog 47 #[(.slice none 0 0)] w fun e w' => ∃ v', e = .returned v' ∧ NewB 5 w w' v' [] := by
 refine calls_of_wpF (args := [(.slice none 0 0)]) Tryd.func47 rfl 8 rfl (Nat.le_of_ble_eq_true rfl) ?_
 intro ρ0 hb
 have T0 : ρ0 0 = ((.slice none 0 0) : Value) := hb.get 0
 clear hb
 have hE := Ext.refl w
 refine sk fun K1 hK1 => (wt (oA rfl (oZ (tN (hK1 _ _ (sk fun K2 hK2 => (sk fun K3 hK3 => (wt (oM rfl (oS rfl (Yk.eqlNilSl dw9_ty22 T0 (oZ (tN (hK3 _ _ (wpF_true (vr (.bool (true)) rfl) (sk fun K4 hK4 => (wt (oA rfl ?_))))))))))))))))))
 refine oZ (tN (hK4 _ _ (wpF_ret (thenF_ret (postF_ret (fn := Tryd.f47) _ rfl [(Value.slice none 0 0)] ((Value.slice none 0 0)) rfl ⟨rfl, trivial⟩ ?_)))))
 exact ⟨_, rfl, ⟨World.ownsRow_nil _ _ _ 1, hE.grown⟩⟩

theorem cloneS (w : World) (a : Addr) (c : Nat) (l : List UInt8) (hr : RB w (.slice (some a) l.length c) l) (hl : l.length < 1099511627776) :
  Calls Tryd.prog 47 #[(.slice (some a) l.length c)] w fun e w' => ∃ v', e = .returned v' ∧ NewB 5 w w' v' l := by
 refine calls_of_wpF (args := [(.slice (some a) l.length c)]) Tryd.func47 rfl 8 rfl (Nat.le_of_ble_eq_true rfl) ?_
 intro ρ0 hb
 have T0 : ρ0 0 = ((.slice (some a) l.length c) : Value) := hb.get 0
 clear hb
 have hE := Ext.refl w
 refine sk fun K1 hK1 => (wt (oA rfl (oZ (tN (hK1 _ _ (sk fun K2 hK2 => (sk fun K3 hK3 => (wt (oM rfl (oS rfl (Yk.eqlNilSl dw9_ty22 T0 (oZ (tN (hK3 _ _ (wpF_false (vr (.bool (false)) rfl) (wpF_skip (tN (hK2 _ _ (sk fun K4 hK4 => ?_)))))))))))))))))))
 refine wt (oS rfl (Yk.lit0 dw9_l0_22 fun v5 w6 hN7 => ?_))
 have hE := hE.trans hN7.ext
 have ho8 := hN7.own; clear hN7
 refine oM rfl (oS rfl (Yk.appendRB _ _ w.heap.size (.int .u8 0) dw9_ty22 dw9_inf5 rfl dw9_ty22 (([] : List UInt8)) (l) (own_of ho8 (vr v5 rfl)) (RB.of (hr.keep hE) T0) (by simp only [List.length_nil]; omega) hE.size fun v9 w10 ho11 hg12 => ?_))
 have hg12 : Grew w6 w10 v5 v9 := hg12
 have hE := ext_grew hE hg12 ho8 (Nat.le_refl _)
 clear ho8
 refine oA rfl (oZ (tN (hK4 _ _ (wpF_ret (postF_ret (fn := Tryd.f47) _ rfl [v9] (v9) rfl ⟨rfl, trivial⟩ ?_)))))
 exact ⟨_, rfl, ⟨(show World.ownsRow _ _ _ _ _ _ _ from by simpa using ho11), hE.grown⟩⟩

theorem clone_any (w : World) (v : Value) (l : List UInt8) (h : RB w v l) (hl : l.length < 1099511627776) :
  Calls Tryd.prog 47 #[v] w fun e w' => ∃ v', e = .returned v' ∧ NewB 5 w w' v' l := by
 obtain ⟨h1, ao, cap, rfl, h2, h3, h4, h5⟩ := id h
 cases ao with
 | none =>
  have hl := h4 rfl
  have : l = [] := List.eq_nil_of_length_eq_zero hl.1
  subst this
  rw [show cap = 0 from hl.2]
  exact cloneN w
 | some a => exact cloneS w a cap l h hl

theorem read_at (w0 w : World) (H : Dk) (D : Dsk) (hS : DkS w0.heap.size w H D) (s : List UInt8) (hL : DLt D) :
  Calls Tryd.prog 23 #[PQ H.g 0, St s] w fun e w' => ∃ v, e = .returned (.tuple #[v, NI (readD D s).2]) ∧ w'.ownsRow w.heap.size 5 1 v (readD D s).1.length (Lib.byteCells (readD D s).1) ∧ Ext w w' := by
 have hb := hS.blk
 have hgl := (bl hb)
 have hS0 := hS
 refine calls_of_wpF (args := [PQ H.g 0, St (s)]) Tryd.func23 rfl 22 rfl (Nat.le_of_ble_eq_true rfl) ?_
 intro ρ0 hb
 have T0 : ρ0 0 = (PQ H.g 0 : Value) := hb.get 0
 have T1 : ρ0 1 = (St (s) : Value) := hb.get 1
 clear hb
 have hE := Ext.refl w
 refine sk fun K1 hK1 => (wt (oA rfl (oA rfl (oZ ?_))))
 rcases hV0 : hasL D [] s with ce | k
 ·have hV : readD D s = ([], ce) := by unfold readD; rw [hasD_1, hV0]
  have hce := hasL_ne hV0
  refine tN (hK1 _ _ (sk fun K2 hK2 => (wt (oM rfl (oM rfl (oS rfl (Yk.callA3 dw9_pl49 T0 T1 (vr (Value.slice none 0 0) rfl) (((show Calls _ _ _ _ (fun e w2 => e = .returned (.tuple #[.pointer none, NI ce]) ∧ Ext _ w2) from by have h := has_at w0.heap.size _ H D (hS.keep hE) s ((Value.slice none 0 0)) [] (.inl ⟨rfl, rfl⟩) (by simp); rw [hV0] at h; exact h)).mono ?_))))))))
  rintro e w4 ⟨rfl, hx3⟩
  refine ⟨_, rfl, ?_⟩
  have hb := eb hx3 hb
  have hE := hE.trans hx3
  refine oM rfl (oS rfl (Yk.extract (vs := [.pointer none, NI ce]) (vr (.tuple #[.pointer none, NI ce]) rfl) (show _ = some (.pointer none : Value) from rfl) (oS rfl (Yk.extract (vs := [.pointer none, NI ce]) (vr (.tuple #[.pointer none, NI ce]) rfl) (show _ = some (NI ce : Value) from rfl) (oA rfl (oA rfl (oZ (tN (hK2 _ _ (sk fun K5 hK5 => (sk fun K6 hK6 => (wt (oM rfl (oS rfl (Yk.eqI (a := (ce : Nat)) (b := (0 : Nat)) rfl rfl (k_neq _ _ _ _) (oZ (tN (hK6 _ _ (wpF_true (vr (.bool (true)) (congrArg Value.bool (decide_eq_true (by omega)))) (sk fun K7 hK7 => ?_))))))))))))))))))))
  refine wt (oM rfl (oA rfl (oA rfl (oZ (tN (hK7 _ _ (wpF_ret (thenF_ret (postF_ret (fn := Tryd.f23) _ rfl [(Value.slice none 0 0), NI ce] (.tuple #[(Value.slice none 0 0), NI ce]) rfl ⟨rfl, rfl, trivial⟩ ?_)))))))))
  exact ⟨_, by rw [hV], by rw [hV]; exact World.ownsRow_nil _ _ _ 1, hE⟩
 have hV : readD D s = ((fileD D k).1, 0) := by unfold readD; rw [hasD_1, hV0]
 obtain ⟨hdn, hlk, hms⟩ := hasL_ok hV0
 have hkl := (hS0.ok.now.look hlk).1
 have hfa := hS0.files.at_ k hkl
 have hfb := hfa.blk
 have hfr : RB w (H.V k) (D.files.getD k ([], 0)).1 := RB.ofOwn hfa.row
 have hlb := hL.files _ (getD_mem_ (d := ([], 0)) hkl)
 refine tN (hK1 _ _ (sk fun K8 hK8 => (wt (oM rfl (oM rfl (oS rfl (Yk.callA3 dw9_pl49 T0 T1 (vr (Value.slice none 0 0) rfl) (((show Calls _ _ _ _ (fun e w2 => e = .returned (.tuple #[.pointer (some ⟨(H.F k), 0, none⟩), NI 0]) ∧ Ext _ w2) from by have h := has_at w0.heap.size _ H D (hS.keep hE) s ((Value.slice none 0 0)) [] (.inl ⟨rfl, rfl⟩) (by simp); rw [hV0] at h; exact h)).mono ?_))))))))
 rintro e w10 ⟨rfl, hx9⟩
 refine ⟨_, rfl, ?_⟩
 have hb := eb hx9 hb
 have hE := hE.trans hx9
 refine oM rfl (oS rfl (Yk.extract (vs := [.pointer (some ⟨(H.F k), 0, none⟩), NI 0]) (vr (.tuple #[.pointer (some ⟨(H.F k), 0, none⟩), NI 0]) rfl) (show _ = some (.pointer (some ⟨(H.F k), 0, none⟩) : Value) from rfl) (oS rfl (Yk.extract (vs := [.pointer (some ⟨(H.F k), 0, none⟩), NI 0]) (vr (.tuple #[.pointer (some ⟨(H.F k), 0, none⟩), NI 0]) rfl) (show _ = some (NI 0 : Value) from rfl) (oA rfl (oA rfl (oZ (tN (hK8 _ _ (sk fun K11 hK11 => (sk fun K12 hK12 => (wt (oM rfl (oS rfl (Yk.eqI (a := (0 : Nat)) (b := (0 : Nat)) rfl rfl (k_neq _ _ _ _) (oZ (tN (hK12 _ _ (wpF_false (vr (.bool (false)) (congrArg Value.bool (decide_eq_false (by decide)))) (wpF_skip ?_))))))))))))))))))))
 refine tN (hK11 _ _ (sk fun K13 hK13 => (wt (oM rfl (oS rfl (Yk.nilCheck (vr (.pointer (some ⟨(H.F k), 0, none⟩)) rfl) (oS rfl (Yk.fieldAt dw9_fo71_0 (vr (.pointer (some ⟨(H.F k), 0, none⟩)) rfl) (oS rfl (Yk.cell1 dw9_ty22 rfl (vr (.pointer (some ⟨(H.F k), 0, none⟩)) rfl) (cellAt (eb hE hfb) (show _ = some ((H.V k) : Value) from rfl)) (oS rfl (Yk.callA1 dw9_pl47 (vr (H.V k) rfl) ((clone_any _ (H.V k) ((D.files.getD k ([], 0)).1) (hfr.keep hE) (by omega)).mono ?_)))))))))))))
 rintro e w16 ⟨v14, rfl, hN15⟩
 refine ⟨_, rfl, ?_⟩
 have hA17 := Ext.refl w10
 have hea18 := hE
 have hz19 := hE.size
 have hap20 : OB v14 H.g := own_older hN15.own (bl hb)
 have hb := eb hN15.ext hb
 have hE := hE.trans hN15.ext
 have hA17 := hA17.trans hN15.ext
 have ho21 := hN15.own; clear hN15
 refine oA rfl (oA rfl (oZ (tN (hK13 _ _ (wpF_ret (postF_ret (fn := Tryd.f23) _ rfl [v14, NI 0] (.tuple #[v14, NI 0]) rfl ⟨rfl, rfl, trivial⟩ ?_))))))
 exact ⟨_, by rw [hV], by rw [hV]; exact ownsRow_base ho21 (by omega), hE⟩

theorem tused_at (base : Nat) (w : World) (H : Dk) (D : Dsk) (hS : DkS base w H D) (hU : usedD D < 4611686018427387904) :
  Calls Tryd.prog 8 #[PQ H.g 0] w fun e w' => e = .returned (NI (usedR D)) ∧ Ext w w' := by
 have hb := hS.blk
 have hgl := (bl hb)
 refine calls_of_wpF (args := [PQ H.g 0]) Tryd.func8 rfl 8 rfl (Nat.le_of_ble_eq_true rfl) ?_
 intro ρ0 hb
 have T0 : ρ0 0 = (PQ H.g 0 : Value) := hb.get 0
 clear hb
 have hE := Ext.refl w
 refine sk fun K1 hK1 => (wt (oA rfl (oZ ?_)))
 cases hdn : D.down
 ·have hV : usedR D = usedD D := if_neg (by rw [hdn]; decide)
  have hr : readyL D [] = 0 := readyL_ok hdn rfl
  refine tN (hK1 _ _ (sk fun K2 hK2 => (sk fun K3 hK3 => (wt (oM rfl (oS rfl (Yk.callA2 dw9_pl27 T0 (vr (Value.slice none 0 0) rfl) ((ready_at base _ H D (hS.keep hE) (Value.slice none 0 0) [] (RG.nil _ _ _) (by simp)).mono ?_))))))))
  rintro e w5 ⟨rfl, hx4⟩
  refine ⟨_, rfl, ?_⟩
  have hb := eb hx4 hb
  have hE := hE.trans hx4
  refine oS rfl (Yk.eqI (a := (readyL D [] : Nat)) (b := (0 : Nat)) rfl rfl (k_neq _ _ _ _) (oZ (tN (hK3 _ _ (wpF_false (vr (.bool (false)) (congrArg Value.bool (decide_eq_false (by omega)))) (wpF_skip (tN (hK2 _ _ (sk fun K6 hK6 => (wt (oM rfl (oS rfl (Yk.callA1 dw9_pl28 T0 ((used_at base _ H D (hS.keep hE) hU).mono ?_))))))))))))))
  rintro e w8 ⟨rfl, hx7⟩
  refine ⟨_, rfl, ?_⟩
  have hb := eb hx7 hb
  have hE := hE.trans hx7
  refine oA rfl (oZ (tN (hK6 _ _ (wpF_ret (postF_ret (fn := Tryd.f8) _ rfl [NI (usedD D)] (NI (usedD D)) rfl ⟨rfl, trivial⟩ ?_)))))
  exact ⟨by rw [hV], hE⟩
 have hV : usedR D = 0 := if_pos hdn
 have hr : readyL D [] = 9 := readyL_down hdn
 refine tN (hK1 _ _ (sk fun K9 hK9 => (sk fun K10 hK10 => (wt (oM rfl (oS rfl (Yk.callA2 dw9_pl27 T0 (vr (Value.slice none 0 0) rfl) ((ready_at base _ H D (hS.keep hE) (Value.slice none 0 0) [] (RG.nil _ _ _) (by simp)).mono ?_))))))))
 rintro e w12 ⟨rfl, hx11⟩
 refine ⟨_, rfl, ?_⟩
 have hb := eb hx11 hb
 have hE := hE.trans hx11
 refine oS rfl (Yk.eqI (a := (readyL D [] : Nat)) (b := (0 : Nat)) rfl rfl (k_neq _ _ _ _) (oZ (tN (hK10 _ _ (wpF_true (vr (.bool (true)) (congrArg Value.bool (decide_eq_true (by omega)))) (sk fun K13 hK13 => (wt (oA rfl (oZ (tN (hK13 _ _ (wpF_ret (thenF_ret (postF_ret (fn := Tryd.f8) _ rfl [NI 0] (NI 0) rfl ⟨rfl, trivial⟩ ?_))))))))))))))
 exact ⟨by rw [hV], hE⟩

theorem tdown_at (base : Nat) (w : World) (H : Dk) (D : Dsk) (hS : DkS base w H D) :
  Calls Tryd.prog 18 #[PQ H.g 0] w fun e w' => e = .returned (.bool D.down) ∧ Ext w w' := by
 have hb := hS.blk
 have hgl := (bl hb)
 refine calls_of_wpF (args := [PQ H.g 0]) Tryd.func18 rfl 11 rfl (Nat.le_of_ble_eq_true rfl) ?_
 intro ρ0 hb
 have T0 : ρ0 0 = (PQ H.g 0 : Value) := hb.get 0
 clear hb
 have hE := Ext.refl w
 refine sk fun K1 hK1 => (wt (oA rfl (oZ (tN (hK1 _ _ (sk fun K2 hK2 => (wt (oM rfl (oS rfl (Yk.neqNil dw9_ty23 T0 (oM rfl (oY (d := 5) rfl rfl (vr (.bool (true)) rfl) (Yk.move T0 (oY (d := 5) rfl rfl (vr (.bool (true)) rfl) (Yk.nilCheck (vr (PQ H.g 0) rfl) (oY (d := 5) rfl rfl (vr (.bool (true)) rfl) (Yk.fieldAt dw9_fo55_6 (vr (PQ H.g 0) rfl) (oY (d := 5) rfl rfl (vr (.bool (true)) rfl) (Yk.cell1 dw9_ty4 rfl (vr (PQ H.g 6) rfl) (cellAt hb (show _ = some (.bool (D.down) : Value) from rfl)) (oS rfl (Yk.pickT (vr (.bool (true)) rfl) (vr (.bool (D.down)) rfl) (oA rfl ?_))))))))))))))))))))))
 refine oZ (tN (hK2 _ _ (wpF_ret (postF_ret (fn := Tryd.f18) _ rfl [.bool (D.down)] (.bool (D.down)) rfl ⟨rfl, trivial⟩ ?_))))
 exact ⟨rfl, hE⟩

theorem list_at (base : Nat) (w : World) (H : Dk) (D : Dsk) (hS : DkS base w H D) (hlen : D.now.length < 1099511627776) :
  Calls Tryd.prog 32 #[PQ H.g 0] w fun e w' => ∃ v, e = .returned v ∧ OG w.heap.size 9 1 enS w' v (listD D) ∧ Ext w w' := by
 have hb := hS.blk
 have hgl := (bl hb)
 have hS0 := hS
 refine calls_of_wpF (args := [PQ H.g 0]) Tryd.func32 rfl 12 rfl (Nat.le_of_ble_eq_true rfl) ?_
 intro ρ0 hb
 have T0 : ρ0 0 = (PQ H.g 0 : Value) := hb.get 0
 clear hb
 have hE := Ext.refl w
 refine sk fun K1 hK1 => (wt (oA rfl (oZ ?_)))
 cases hdn : D.down
 ·have hV : listD D = D.now.map Prod.fst := if_neg (by rw [hdn]; decide)
  have hr : readyL D [] = 0 := readyL_ok hdn rfl
  refine tN (hK1 _ _ (sk fun K2 hK2 => (sk fun K3 hK3 => (wt (oM rfl (oS rfl (Yk.callA2 dw9_pl27 T0 (vr (Value.slice none 0 0) rfl) ((ready_at base _ H D (hS.keep hE) (Value.slice none 0 0) [] (RG.nil _ _ _) (by simp)).mono ?_))))))))
  rintro e w5 ⟨rfl, hx4⟩
  refine ⟨_, rfl, ?_⟩
  have hb := eb hx4 hb
  have hE := hE.trans hx4
  refine oS rfl (Yk.eqI (a := (readyL D [] : Nat)) (b := (0 : Nat)) rfl rfl (k_neq _ _ _ _) (oZ (tN (hK3 _ _ (wpF_false (vr (.bool (false)) (congrArg Value.bool (decide_eq_false (by omega)))) (wpF_skip (tN (hK2 _ _ (sk fun K6 hK6 => (wt (oM rfl (oS rfl (Yk.nilCheck T0 (oS rfl (Yk.fieldAt dw9_fo55_1 (vr (PQ H.g 0) rfl) (oS rfl (Yk.cell1 dw9_ty52 rfl (vr (PQ H.g 1) rfl) (cellAt hb (show _ = some (.map (some (H.mn)) : Value) from rfl)) ?_)))))))))))))))))
  have hm1 := (hS.keep hE).now
  refine oS rfl (Yk.callA1 dw9_pl46 (vr (.map (some (H.mn))) rfl) ((keys_map _ _).mono ?_))
  rintro e w7 ⟨rfl, hwk⟩
  refine ⟨_, rfl, ?_⟩
  have hxk : Ext w5 w7 := by rw [hwk]; exact (Below.refl _ _).alloc (Nat.le_refl _) _
  have hb := eb hxk hb
  have hE := hE.trans hxk
  refine oS rfl (Yk.callA1 dw9_pl45 (vr (.func (.func 65) #[] #[PQ w5.heap.size 0]) rfl) ((sorted_map w5 w7 hwk hm1 hS0.ok.now hlen).mono ?_))
  rintro e w11 ⟨v8, rfl, ho9, hx10⟩
  refine ⟨_, rfl, ?_⟩
  have hA12 := Ext.refl w7
  have hea13 := hE
  have hz14 := hE.size
  have hb := eb hx10 hb
  have hE := hE.trans hx10
  have hA12 := hA12.trans hx10
  refine oA rfl (oZ (tN (hK6 _ _ (wpF_ret (postF_ret (fn := Tryd.f32) _ rfl [v8] (v8) rfl ⟨rfl, trivial⟩ ?_)))))
  exact ⟨_, rfl, by rw [hV]; exact OG.low ho9 (by omega), hE⟩
 have hV : listD D = [] := if_pos hdn
 have hr : readyL D [] = 9 := readyL_down hdn
 refine tN (hK1 _ _ (sk fun K15 hK15 => (sk fun K16 hK16 => (wt (oM rfl (oS rfl (Yk.callA2 dw9_pl27 T0 (vr (Value.slice none 0 0) rfl) ((ready_at base _ H D (hS.keep hE) (Value.slice none 0 0) [] (RG.nil _ _ _) (by simp)).mono ?_))))))))
 rintro e w18 ⟨rfl, hx17⟩
 refine ⟨_, rfl, ?_⟩
 have hb := eb hx17 hb
 have hE := hE.trans hx17
 refine oS rfl (Yk.eqI (a := (readyL D [] : Nat)) (b := (0 : Nat)) rfl rfl (k_neq _ _ _ _) (oZ (tN (hK16 _ _ (wpF_true (vr (.bool (true)) (congrArg Value.bool (decide_eq_true (by omega)))) (sk fun K19 hK19 => (wt (oA rfl (oZ (tN (hK19 _ _ (wpF_ret (thenF_ret (postF_ret (fn := Tryd.f32) _ rfl [(Value.slice none 0 0)] ((Value.slice none 0 0)) rfl ⟨rfl, trivial⟩ ?_))))))))))))))
 exact ⟨_, rfl, by rw [hV]; exact OG.nil _ _ _ _ _, hE⟩

theorem arm_at (w0 w : World) (hE0 : Ext w0 w) (H : Dk) (D : Dsk) (hS : DkS w0.heap.size w H D) (n : Int) :
  Calls Tryd.prog 20 #[PQ H.g 0, .int .i64 n] w fun e w' => e = .returned (.tuple #[]) ∧ DkT w0.heap.size w H D w' H { D with arm := n.toNat } := by
 have hb := hS.blk
 have hgl := (bl hb)
 have hgl0 := hS.lo.1
 have hsz0 := hE0.size
 have hS0 := hS
 have hgr := World.grownBy.refl w (some H.g)
 refine calls_of_wpF (args := [PQ H.g 0, .int .i64 (n : Int)]) Tryd.func20 rfl 11 rfl (Nat.le_of_ble_eq_true rfl) ?_
 intro ρ0 hb
 have T0 : ρ0 0 = (PQ H.g 0 : Value) := hb.get 0
 have T1 : ρ0 1 = (.int .i64 (n : Int) : Value) := hb.get 1
 clear hb
 have hE := Ext.refl w
 refine sk fun K1 hK1 => (wt (oM rfl (oS rfl (Yk.neqNil dw9_ty23 T0 (oZ (tN (hK1 _ _ (wpF_true (vr (.bool (true)) rfl) (wt (oM rfl (oM rfl (oS rfl (Yk.max0 T1 (vr (NI 0) rfl) (oS rfl (Yk.nilCheck T0 (oS rfl (Yk.fieldAt dw9_fo55_5 (vr (PQ H.g 0) rfl) (oS rfl (Yk.storeC (i := 5) (v := NI n.toNat) (vr (PQ H.g 5) rfl) (vr (NI n.toNat) rfl) hb (Nat.le_of_ble_eq_true rfl) dw9_isz3 rfl rfl fun w2 hb3 hg4 hs5 => ?_)))))))))))))))))))
 have hgr : w.grownBy w2 (some H.g) := grownBy_trans hgr hg4 (fun _ e => .inl e)
 clear hE
 have hE0 := row_fresh hE0 hg4 (Nat.le_trans (Nat.le_refl _) (by omega))
 clear hb
 have hb := hb3; clear hb3
 have hl6 := bl hb
 refine oZ (postF_end (fn := Tryd.f20) [] rfl [] (.tuple #[]) rfl trivial ?_)
 exact ⟨rfl, hS0.setBlkT hgr hb⟩
open Go.RowKit
set_option maxRecDepth 100000
set_option linter.unusedVariables false
set_option linter.unusedSimpArgs false
theorem RG.kept {α : Type} {k : Nat} {enc : α → List Value} {w w' : World} {v : Value} {l : List α} (h : RG k enc w v l) {row : Option Nat} (hg : w.grownBy w' row) (hv : v.ownBlock = none ∨ v.ownBlock ≠ row) : RG k enc w' v l := by
 refine ⟨h.1, ?_⟩
 obtain ⟨h1, ao, cap, rfl, h2, h3, h4, h5⟩ := h.2
 refine ⟨h1, ao, cap, rfl, h2, h3, h4, fun a ha j u hu => ?_⟩
 have hc := h5 a ha j u hu
 subst ha
 have hlt := World.block_lt_of_cell? w _ hc
 have hbl : (a.add j).block = a.block := by unfold Addr.add; split <;> rfl
 have hne : (some a.block) ≠ row := by
  rcases hv with hv | hv
  ·cases hv
  ·exact hv
 rw [hbl] at hlt
 rw [World.cell?_of_block (w := w) (by rw [hbl]; exact hg.block a.block hlt hne)]
 exact hc
theorem zi_rem (t : TypeId) (a b : Int) (hb : b ≠ 0) : Go.binOp .rem t (.int .i64 a) (.int .i64 b) = pure (.int .i64 (Int.tmod a b)) := by
 unfold Go.binOp
 simp only [ne_eq, not_true_eq_false, if_false, Op.intDiv]
 rw [if_neg hb]
theorem tmod_bd (x : Int) (m : Nat) : -(m : Int) ≤ Int.tmod x ((m + 1 : Nat) : Int) ∧ Int.tmod x ((m + 1 : Nat) : Int) ≤ m := by
 have h1 := Int.tmod_lt_of_pos x (show (0 : Int) < ((m + 1 : Nat) : Int) by omega)
 have h2 := Int.lt_tmod_of_pos x (show (0 : Int) < ((m + 1 : Nat) : Int) by omega)
 omega
theorem zi_fate (t : TypeId) (x : Int) (m : Nat) (y : Int) (hy : y = Int.tmod x ((m + 1 : Nat) : Int) + m + 1) : Go.binOp .rem t (.int .i64 y) (NI (m + 1)) = pure (NI (Int.emod x ((m + 1 : Nat) : Int)).toNat) := by
 have hb := tmod_bd x m
 have h := zi_rem t y ((m + 1 : Nat) : Int) (by omega)
 refine h.trans ?_
 have e1 : Int.tmod y ((m + 1 : Nat) : Int) = Int.emod y ((m + 1 : Nat) : Int) := Int.tmod_eq_emod_of_nonneg (by omega)
 have e2 : Int.emod y ((m + 1 : Nat) : Int) = Int.emod x ((m + 1 : Nat) : Int) := by
  have h3 : Int.tmod x ((m + 1 : Nat) : Int) = x - ((m + 1 : Nat) : Int) * Int.tdiv x ((m + 1 : Nat) : Int) := Int.tmod_def _ _
  have h4 : y = x + ((m + 1 : Nat) : Int) * (1 - Int.tdiv x ((m + 1 : Nat) : Int)) := by
   rw [hy, h3, Int.mul_sub, Int.mul_one]
   omega
  show y % _ = x % _
  rw [h4, Int.add_mul_emod_self_left]
 have h5 : 0 ≤ Int.emod x ((m + 1 : Nat) : Int) := Int.emod_nonneg x (show ((m + 1 : Nat) : Int) ≠ 0 by omega)
 rw [e1, e2]
 show pure (Value.int .i64 (Int.emod x _)) = pure (Value.int .i64 (((Int.emod x ((m + 1 : Nat) : Int)).toNat : Nat) : Int))
 rw [Int.toNat_of_nonneg h5]
def newD (q : Nat) : Dsk := ⟨q, [], [], [], [], 0, 0, false⟩
theorem newD_ok (q : Nat) : DOk (newD q) := ⟨DirOk.nil _, DirOk.nil _, fun a h => (by cases h), fun x h => (by cases h)⟩
theorem Yk.build3 {P : Program} {K : Value → World → Prop} {ρ : Slots} {w : World} {d : Option Tmp} {t ty : TypeId} {pos : String} {af : Array Edge} {gd : Option (Nat × Bool)} {i0 i1 i2 : Nat} {x0 x1 x2 : Operand} {v0 v1 v2 v : Value} (h0 : evalR ρ x0 = v0) (h1 : evalR ρ x1 = v1) (h2 : evalR ρ x2 = v2) (hr : ∀ w : World, (Instr.build t #[(i0, v0), (i1, v1), (i2, v2)]).run P w = .ok v w) (hk : K v w) : Yk P K ((execOp (evalR ρ) ⟨d, .build t #[(i0, x0), (i1, x1), (i2, x2)], ty, pos, af, gd⟩).run P w) :=
 Yk.build (by simp [h0, h1, h2]) hr hk
theorem dwa_bdk (q : Int) (a b : Nat) (w : World) : (Instr.build 55 #[(0, .int .i64 q), (1, .map (some a)), (2, .map (some b))]).run Tryd.prog w = .ok (.agg #[.int .i64 q, .map (some a), .map (some b), .slice none 0 0, NI 0, NI 0, .bool false]) w := by kernel_rfl
theorem dwa_ty37 : Tryd.prog.underlying 37 = some (.slice 3) := by kernel_rfl
theorem dwa_szg3 : ∀ w' : World, (sizeOf 3).run Tryd.prog w' = .ok 1 w' := fun _ => by kernel_rfl
theorem dwa_ty3 : Tryd.prog.underlying 3 = some (.int .i64) := by kernel_rfl
theorem dwa_sz3 : ∀ w' : World, (sizeOf 3).run Tryd.prog w' = .ok 1 w' := fun _ => by kernel_rfl
theorem dwa_isz37 : (Tryd.prog.info? 37).map (·.size) = some 1 := by kernel_rfl
set_option maxHeartbeats 1600000
theorem new_ok (w : World) (q : Nat) (hq : q ≤ 1073741824) :
  Calls Tryd.prog 6 #[NI q] w fun e w' => ∃ H, e = .returned (PQ H.g 0) ∧ DkS w.heap.size w' H (newD q) ∧ Ext w w' := by
 refine calls_of_wpF (args := [NI q]) Tryd.func6 rfl 14 rfl (Nat.le_of_ble_eq_true rfl) ?_
 intro ρ0 hb
 have T0 : ρ0 0 = (NI q : Value) := hb.get 0
 clear hb
 have hE := Ext.refl w
 refine sk fun K1 hK1 => (wt (oA rfl (oZ (tN (hK1 _ _ (sk fun K2 hK2 => (sk fun K3 hK3 => (wt (oM rfl (oS rfl (Yk.eqI (a := (q : Nat)) (b := (0 : Nat)) T0 rfl (k_lss _ _ _ _) (oM rfl (oY (d := 5) rfl rfl (vr (.bool (false)) (congrArg Value.bool (decide_eq_false (by omega)))) (Yk.move T0 (oY (d := 5) rfl rfl (vr (.bool (false)) (congrArg Value.bool (decide_eq_false (by omega)))) (Yk.eqI (a := (q : Nat)) (b := (1073741824 : Nat)) rfl rfl (k_gtr _ _ _ _) (oS rfl (Yk.pickF (vr (.bool (false)) (congrArg Value.bool (decide_eq_false (by omega)))) (vr (.bool (false)) (congrArg Value.bool (decide_eq_false (by omega)))) (oZ (tN (hK3 _ _ ?_)))))))))))))))))))))
 refine wpF_false (vr (.bool (false)) rfl) (wpF_skip (tN (hK2 _ _ (sk fun K4 hK4 => (wt (oM rfl ?_))))))
 have hz11 := hE.size
 refine oS rfl (Yk.mkMap St (pF (fun _ => 0)) Nm fun n5 w6 hn7 hm8 hx9 hs10 => ?_)
 have hE := hE.trans hx9
 have hl12 : n5 < w6.heap.size := by omega
 have hz19 := hE.size
 refine oS rfl (Yk.mkMap St (pF (fun _ => 0)) Nm fun n13 w14 hn15 hm16 hx17 hs18 => ?_)
 have hE := hE.trans hx17
 have hm8 := hm8.keep hx17
 have hl20 : n13 < w14.heap.size := by omega
 refine oS rfl (Yk.build3 T0 (vr (.map (some n5)) rfl) (vr (.map (some n13)) rfl) (fun w => dwa_bdk _ _ _ w) (oS rfl (Yk.box (cs := (dkC q n5 n13 (.slice none 0 0) 0 0 false : List Value).toArray) (vr (.agg (dkC q n5 n13 (.slice none 0 0) 0 0 false).toArray) rfl) fun n21 w22 hn23 hb24 hx25 hs26 => ?_)))
 have hA27 := Ext.refl w14
 have hea28 := hE
 have hz29 := hE.size
 have hlt30 := lte hm8.lt hn23
 have hlt31 := lte hm16.lt hn23
 have hE := hE.trans hx25
 have hm8 := hm8.keep hx25
 have hm16 := hm16.keep hx25
 have hA27 := hA27.trans hx25
 have hb32 := hb24; clear hb24
 have hl33 : n21 < w22.heap.size := by omega
 refine oA rfl (oZ (tN (hK4 _ _ (wpF_ret (postF_ret (fn := Tryd.f6) _ rfl [PQ n21 0] (PQ n21 0) rfl ⟨rfl, trivial⟩ ?_)))))
 exact ⟨⟨n21, n5, n13, .slice none 0 0, fun _ => 0, fun _ => .slice none 0 0⟩, rfl, ⟨hb32, hm8, hm16, by show n5 ≠ n13; omega, ⟨[], World.ownsRow_nil _ _ _ 1, rfl, fun i hi => absurd hi (Nat.not_lt_zero _)⟩, ⟨fun k hk => absurd hk (Nat.not_lt_zero _), fun i j hi => absurd hi (Nat.not_lt_zero _), fun i j hi => absurd hi (Nat.not_lt_zero _)⟩, newD_ok q, by show _ ≤ n21 ∧ _ ≤ n5 ∧ _ ≤ n13; omega⟩, hE⟩

theorem take_n (w : World) (bf : Nat) (vf : Value) (fs : List Int) (hbf : w.heap[bf]? = some (.cells ([vf]).toArray 37 (0, 0))) (hrf : RG 1 enI w vf fs) (m : Nat) (hm : m < 4611686018427387904) (hf : fs.length = 0) :
  Calls Tryd.prog 43 #[NI m, PQ bf 0] w fun e w' => e = .returned (NI 0) ∧ Ext w w' := by
 have hbl := (bl hbf)
 have hgr := World.grownBy.refl w (some bf)
 refine calls_of_wpF (args := [NI m, PQ bf 0]) Tryd.func43 rfl 23 rfl (Nat.le_of_ble_eq_true rfl) ?_
 intro ρ0 hb
 have T0 : ρ0 0 = (NI m : Value) := hb.get 0
 have T1 : ρ0 1 = (PQ bf 0 : Value) := hb.get 1
 clear hb
 have hE := Ext.refl w
 refine sk fun K1 hK1 => (wt (oA rfl (oZ (tN (hK1 _ _ (sk fun K2 hK2 => (sk fun K3 hK3 => (wt (oS rfl (Yk.cell1 dwa_ty37 rfl T1 (cellAt hbf (show _ = some (vf : Value) from rfl)) (oS rfl (Yk.lenRG dwa_ty37 (RG.of hrf (vr vf rfl)) (oS rfl (Yk.eqI (a := (fs.length : Nat)) (b := (0 : Nat)) rfl rfl (k_eql _ _ _ _) (oZ (tN (hK3 _ _ (wpF_true (vr (.bool (true)) (congrArg Value.bool (decide_eq_true (by omega)))) (sk fun K4 hK4 => (wt ?_))))))))))))))))))))
 refine oA rfl (oZ (tN (hK4 _ _ (wpF_ret (thenF_ret (postF_ret (fn := Tryd.f43) _ rfl [NI 0] (NI 0) rfl ⟨rfl, trivial⟩ ?_))))))
 exact ⟨rfl, hE⟩

theorem take_y (w : World) (bf : Nat) (vf : Value) (fs : List Int) (hbf : w.heap[bf]? = some (.cells ([vf]).toArray 37 (0, 0))) (hrf : RG 1 enI w vf fs) (hap : OB vf bf) (m : Nat) (hm : m < 4611686018427387904) (hf : 0 < fs.length) :
  Calls Tryd.prog 43 #[NI m, PQ bf 0] w fun e w' => ∃ v', e = .returned (NI (Int.emod (fs.getD 0 0) ((m + 1 : Nat) : Int)).toNat) ∧ w'.heap[bf]? = some (.cells ([v']).toArray 37 (0, 0)) ∧ RG 1 enI w' v' (fs.drop 1) ∧ v'.ownBlock = vf.ownBlock ∧ w.grownBy w' (some bf) := by
 have hbl := (bl hbf)
 have hgr := World.grownBy.refl w (some bf)
 refine calls_of_wpF (args := [NI m, PQ bf 0]) Tryd.func43 rfl 23 rfl (Nat.le_of_ble_eq_true rfl) ?_
 intro ρ0 hb
 have T0 : ρ0 0 = (NI m : Value) := hb.get 0
 have T1 : ρ0 1 = (PQ bf 0 : Value) := hb.get 1
 clear hb
 have hE := Ext.refl w
 refine sk fun K1 hK1 => (wt (oA rfl (oZ (tN (hK1 _ _ (sk fun K2 hK2 => (sk fun K3 hK3 => (wt (oS rfl (Yk.cell1 dwa_ty37 rfl T1 (cellAt hbf (show _ = some (vf : Value) from rfl)) (oS rfl (Yk.lenRG dwa_ty37 (RG.of hrf (vr vf rfl)) (oS rfl (Yk.eqI (a := (fs.length : Nat)) (b := (0 : Nat)) rfl rfl (k_eql _ _ _ _) (oZ (tN (hK3 _ _ (wpF_false (vr (.bool (false)) (congrArg Value.bool (decide_eq_false (by omega)))) (wpF_skip (tN (hK2 _ _ ?_)))))))))))))))))))))
 refine sk fun K4 hK4 => (wt (oS rfl (Yk.cell1 dwa_ty37 rfl T1 (cellAt hbf (show _ = some (vf : Value) from rfl)) ?_)))
 have hl7 : (enI (fs.getD (0) (0 : Int))).length = 1 := (RG.elem hrf (0 : Int) (by omega))
 refine oS rfl (Yk.atRG dwa_ty37 dwa_szg3 (by decide) (0 : Int) (RG.of hrf (vr vf rfl)) (vr (NI 0) rfl) (by omega) fun v5 hp6 => (oS rfl (Yk.loadC dwa_ty3 rfl (PR.cell (PR.of hp6 (vr v5 rfl)) (show _ = some (.int .i64 (fs.getD (0) (0 : Int) : Int) : Value) from rfl)) (oA rfl (oZ ?_)))))
 clear hp6
 refine tN (hK4 _ _ (sk fun K8 hK8 => (wt (oS rfl (Yk.cell1 dwa_ty37 rfl T1 (cellAt hbf (show _ = some (vf : Value) from rfl)) (oS rfl (Yk.sliceLoG (l := 1) dwa_ty37 dwa_sz3 (vr vf rfl) hrf rfl (by omega) fun v9 hr10 hown11 => ?_)))))))
 have hown := hown11
 have hap2 : OB v9 bf := fun e => hap (hown.symm.trans e)
 refine oS rfl (Yk.storeC (i := 0) (v := v9) T1 (vr v9 rfl) hbf (Nat.le_of_ble_eq_true rfl) dwa_isz37 (RG.one hr10).1 (RG.one hr10).2 fun w12 hb13 hg14 hs15 => ?_)
 have hrf := RG.kept hrf hg14 (.inr hap)
 have hgr : w.grownBy w12 (some bf) := grownBy_trans hgr hg14 (fun _ e => .inl e)
 clear hE
 have hr10 := RG.kept hr10 hg14 (.inr hap2)
 clear hbf
 have hbf := hb13; clear hb13
 have hl16 := bl hbf
 refine oZ ?_
 have hbd := tmod_bd (fs.getD 0 0) m
 refine tN (hK8 _ _ (sk fun K17 hK17 => (wt (oM rfl (oM rfl (oS rfl (Yk.bin (xv := NI m) (yv := NI 1) T0 rfl rfl (i64_add _ _ _ (by omega)) (oS rfl (Yk.bin (xv := .int .i64 (fs.getD (0) (0 : Int))) (yv := NI ((m) + (1))) rfl rfl rfl (zi_rem _ (fs.getD (0) (0 : Int)) _ (by omega)) (oM rfl (oS rfl (Yk.bin (xv := .int .i64 ((Int.tmod (fs.getD (0) (0 : Int)) ((m + 1 : Nat) : Int)))) (yv := .int .i64 (((m : Nat) : Int))) rfl T0 rfl (zi_add _ ((Int.tmod (fs.getD (0) (0 : Int)) ((m + 1 : Nat) : Int))) (((m : Nat) : Int)) (by omega)) (oS rfl (Yk.bin (xv := .int .i64 ((((Int.tmod (fs.getD (0) (0 : Int)) ((m + 1 : Nat) : Int))) + (((m : Nat) : Int))))) (yv := .int .i64 (((1 : Nat) : Int))) rfl rfl rfl (zi_add _ ((((Int.tmod (fs.getD (0) (0 : Int)) ((m + 1 : Nat) : Int))) + (((m : Nat) : Int)))) (((1 : Nat) : Int)) (by omega)) (oM rfl (oS rfl (Yk.bin (xv := NI m) (yv := NI 1) T0 rfl rfl (i64_add _ _ _ (by omega)) (oS rfl (Yk.bin (xv := .int .i64 ((((((Int.tmod (fs.getD (0) (0 : Int)) ((m + 1 : Nat) : Int))) + (((m : Nat) : Int)))) + (((1 : Nat) : Int))))) (yv := NI ((m) + (1))) rfl rfl rfl (zi_fate _ (fs.getD 0 0) m _ (by omega)) (oA rfl (oZ (tN (hK17 _ _ ?_)))))))))))))))))))))))
 refine wpF_ret (postF_ret (fn := Tryd.f43) _ rfl [NI ((Int.emod (fs.getD 0 0) ((m + 1 : Nat) : Int)).toNat)] (NI ((Int.emod (fs.getD 0 0) ((m + 1 : Nat) : Int)).toNat)) rfl ⟨rfl, trivial⟩ ?_)
 exact ⟨v9, rfl, hbf, hr10, hown, hgr⟩
open Go.RowKit
set_option linter.unusedVariables false
def leftN (D : Dsk) (n : Nat) : Dir := (D.acts.take n).foldl turnD D.kept
theorem leftN_succ {D : Dsk} {n : Nat} (h : n < D.acts.length) : leftN D (n + 1) = turnD (leftN D n) (D.acts.getD n ⟨[], [], 0⟩) := by
  unfold leftN
  rw [List.take_succ_eq_append_getElem h, List.foldl_append, List.getD_eq_getElem?_getD, List.getElem?_eq_getElem h]
  rfl
theorem leftN_ok {D : Dsk} (h : DOk D) (n : Nat) : DirOk D.files.length (leftN D n) := h.kept.fold fun a ha => h.acts a ((List.take_sublist _ _).subset ha)
theorem leftN_left (D : Dsk) (l : List Int) : leftN D (fateD l 0 (D.acts.length + 1)) = leftD D l := rfl
def cutN (D : Dsk) (l : List Int) (L : Dir) (n : Nat) : List (List UInt8 × Nat) := (L.take n).mapIdx fun i e => cutD D l i e.2
def numN (L : Dir) (n : Nat) : Dir := numD (L.take n)
theorem mapIdx_snoc {α β : Type} (f : Nat → α → β) (l : List α) (a : α) : (l ++ [a]).mapIdx f = l.mapIdx f ++ [f l.length a] := by
  rw [List.mapIdx_append]
  simp
theorem cutN_succ {D : Dsk} {l : List Int} {L : Dir} {n : Nat} (h : n < L.length) : cutN D l L (n + 1) = cutN D l L n ++ [cutD D l n (L.getD n ([], 0)).2] := by
  unfold cutN
  rw [List.take_succ_eq_append_getElem h, mapIdx_snoc, List.length_take, Nat.min_eq_left (by omega), List.getD_eq_getElem?_getD, List.getElem?_eq_getElem h]
  rfl
theorem numN_succ {L : Dir} {n : Nat} (h : n < L.length) : numN L (n + 1) = numN L n ++ [((L.getD n ([], 0)).1, n)] := by
  unfold numN numD
  rw [List.take_succ_eq_append_getElem h, mapIdx_snoc, List.length_take, Nat.min_eq_left (by omega), List.getD_eq_getElem?_getD, List.getElem?_eq_getElem h]
  rfl
theorem cutN_len (D : Dsk) (l : List Int) (L : Dir) {n : Nat} (h : n ≤ L.length) : (cutN D l L n).length = n := by
  unfold cutN
  rw [List.length_mapIdx, List.length_take]
  omega
theorem numN_look {L : Dir} (hs : SortD L) {n : Nat} (h : n < L.length) : lookD (numN L n) (L.getD n ([], 0)).1 = none := by
  refine look_none.2 fun e he q => ?_
  have h1 : e.1 ∈ (numN L n).map Prod.fst := List.mem_map_of_mem he
  unfold numN at h1
  rw [numD_fst] at h1
  obtain ⟨x, hx, hxe⟩ := List.mem_map.1 h1
  obtain ⟨j, hj, hjx⟩ := List.mem_iff_getElem.1 hx
  rw [List.length_take] at hj
  rw [List.getElem_take] at hjx
  have h2 := List.pairwise_iff_getElem.1 hs j n (by omega) h (by omega)
  rw [List.getD_eq_getElem?_getD, List.getElem?_eq_getElem h, Option.getD_some] at q
  rw [hjx, hxe, q, bl_irrefl] at h2
  cases h2
theorem numN_fun {L : Dir} (hs : SortD L) {n : Nat} (h : n < L.length) : updM (lookD (numN L n)) (L.getD n ([], 0)).1 (some n) = lookD (numN L (n + 1)) := by
  funext t
  rw [numN_succ h, look_app]
  unfold updM
  by_cases ht : t = (L.getD n ([], 0)).1
  · rw [if_pos ht, ht, numN_look hs h]
    show _ = lookD [_] _
    rw [look_cons, if_pos rfl]
  · rw [if_neg ht]
    rw [look_cons, if_neg (fun q => ht q.symm)]
    show _ = (lookD (numN L n) t).or none
    rw [Option.or_none]
theorem crash_eq (D : Dsk) (l : List Int) : crashD D l = { quota := D.quota, files := cutN D l (leftD D l) (leftD D l).length, now := numN (leftD D l) (leftD D l).length, kept := numN (leftD D l) (leftD D l).length, acts := [], refused := D.refused, arm := 0, down := false } := by
  unfold crashD cutN numN
  rw [List.take_length]
theorem numN_lt {L : Dir} {n : Nat} {s : List UInt8} {k : Nat} (h : lookD (numN L n) s = some k) : k < n := by
  have := look_mem h
  unfold numN numD at this
  obtain ⟨i, hi, he⟩ := List.mem_mapIdx.1 this
  rw [List.length_take] at hi
  cases he
  omega
theorem FilesAt.snoc {base : Nat} {w : World} {F : Nat → Nat} {V : Nat → Value} {fs : List (List UInt8 × Nat)} (h : FilesAt base w F V fs) {f : Nat} {v : Value} {x : List UInt8 × Nat} (hf : FileAt base w f v x) (h1 : ∀ k, k < fs.length → F k ≠ f) (h2 : ∀ k, k < fs.length → ∀ i, (V k).ownBlock = some i → v.ownBlock ≠ some i) :
    FilesAt base w (updF F fs.length f) (updF V fs.length v) (fs ++ [x]) := by
  refine ⟨fun k hk => ?_, fun i j hi hj e => ?_, fun i j hi hj hne y hy => ?_⟩
  · rw [List.length_append, List.length_singleton] at hk
    by_cases e : k = fs.length
    · subst e
      rw [updF_eq, updF_eq, getD_last]
      exact hf
    · have hk' : k < fs.length := by omega
      rw [updF_lt _ _ hk', updF_lt _ _ hk', getD_left hk']
      exact h.at_ k hk'
  · rw [List.length_append, List.length_singleton] at hi hj
    by_cases ei : i = fs.length <;> by_cases ej : j = fs.length
    · omega
    · rw [ei, updF_eq, updF_lt _ _ (by omega : j < fs.length)] at e
      exact absurd e.symm (h1 j (by omega))
    · rw [ej, updF_eq, updF_lt _ _ (by omega : i < fs.length)] at e
      exact absurd e (h1 i (by omega))
    · rw [updF_lt _ _ (by omega : i < fs.length), updF_lt _ _ (by omega : j < fs.length)] at e
      exact h.inj i j (by omega) (by omega) e
  · rw [List.length_append, List.length_singleton] at hi hj
    by_cases ei : i = fs.length
    · rw [ei, updF_eq] at hy
      rw [updF_lt _ _ (by omega : j < fs.length)]
      exact fun q => h2 j (by omega) y q hy
    · rw [updF_lt _ _ (by omega : i < fs.length)] at hy
      by_cases ej : j = fs.length
      · rw [ej, updF_eq]
        exact h2 i (by omega) y hy
      · rw [updF_lt _ _ (by omega : j < fs.length)]
        exact h.apart i j (by omega) (by omega) hne y hy
open Go.RowKit
set_option linter.unusedVariables false
section
variable {base : Nat} {w w' : World} {H : Dk} {D : Dsk}
theorem FilesAt.setT {F : Nat → Nat} {V : Nat → Value} {fs : List (List UInt8 × Nat)} (h : FilesAt base w F V fs) {g x : Nat} (hg : w.grownBy w' (some g)) (ht : tagW w g = some x) (h1 : x ≠ 71 + 1) (h2 : x ≠ 5 + 1) : FilesAt base w' F V fs :=
  h.chg (B := fun i => i = g) (Chg.ofGrown hg fun i e => .inl (Option.some.inj e).symm) fun k hk =>
    ⟨fun e => tag_ne (tag_cells (h.at_ k hk).blk) ht (fun q => h1 q.symm) e, fun i hi e => tag_ne (tag_own (h.at_ k hk).row hi) ht (fun q => h2 q.symm) e⟩
theorem FilesAt.keep {F : Nat → Nat} {V : Nat → Value} {fs : List (List UInt8 × Nat)} (h : FilesAt base w F V fs) (hE : Ext w w') : FilesAt base w' F V fs := FilesAt.chg h (B := fun _ => False) (Chg.ofExt hE) fun _ _ => ⟨fun q => q, fun _ _ q => q⟩
theorem FilesAt.low {F : Nat → Nat} {V : Nat → Value} {fs : List (List UInt8 × Nat)} (h : FilesAt base w F V fs) {b' : Nat} (hb : b' ≤ base) : FilesAt b' w F V fs := ⟨fun k hk => ⟨(h.at_ k hk).blk, ownsRow_base (h.at_ k hk).row hb, Nat.le_trans hb (h.at_ k hk).lo⟩, h.inj, h.apart⟩
theorem FilesAt.nil (F : Nat → Nat) (V : Nat → Value) : FilesAt base w F V [] := ⟨fun k hk => absurd hk (Nat.not_lt_zero _), fun i j hi => absurd hi (Nat.not_lt_zero _), fun i j hi => absurd hi (Nat.not_lt_zero _)⟩
theorem DkS.crashed (h : DkS base w H D) {l : List Int} {F' : Nat → Nat} {V' : Nat → Value} {na nb : Nat} (h0 : base ≤ w.heap.size) (hc : Chg (fun i => i = H.g) w w') (hb : w'.heap[H.g]? = some (.cells (dkC D.quota na nb (.slice none 0 0) D.refused 0 false).toArray 55 (0, 0)))
    (ha : MapF St (pF F') Nm w' na (lookD (numN (leftD D l) (leftD D l).length))) (hk : MapF St (pF F') Nm w' nb (lookD (numN (leftD D l) (leftD D l).length))) (hne : na ≠ nb) (hna : w.heap.size ≤ na) (hnb : w.heap.size ≤ nb)
    (hf : FilesAt w.heap.size w' F' V' (cutN D l (leftD D l) (leftD D l).length)) : DkT base w H D w' ⟨H.g, na, nb, .slice none 0 0, F', V'⟩ (crashD D l) := by
  have hok := h.ok.crash l
  have hl : (crashD D l).files.length = (cutN D l (leftD D l) (leftD D l).length).length := by rw [crash_eq]
  refine ⟨⟨by rw [crash_eq]; exact hb, by rw [crash_eq]; exact ha, by rw [crash_eq]; exact hk, hne, ⟨[], World.ownsRow_nil _ _ _ 1, rfl, fun i hi => absurd hi (Nat.not_lt_zero _)⟩, by rw [crash_eq]; exact hf.low h0, hok, ⟨h.lo.1, Nat.le_trans h0 hna, Nat.le_trans h0 hnb⟩⟩, rfl, hc.mono fun i _ e => .inl e, fun i hi => ?_⟩
  rcases hi with e | e | e | e | ⟨k, hk', e⟩
  · exact .inl (.inl e)
  · exact .inr ((show i = na from e) ▸ hna)
  · exact .inr ((show i = nb from e) ▸ hnb)
  · cases (show (none : Option Nat) = some i from e)
  · rw [hl] at hk'
    rcases e with e | e
    · exact .inr ((show i = F' k from e) ▸ (hf.at_ k hk').lo)
    · exact .inr (((hf.at_ k hk').row.lt i e).1)
end
def FAt (n0 : Nat) (w : World) (v : Value) (l : List Int) : Prop := RG 1 (fun n : Int => [Value.int .i64 n]) w v l ∧ (l = [] ∨ ∃ b, v.ownBlock = some b ∧ b < n0)
theorem rg_nil_any {α : Type} {k : Nat} {enc : α → List Value} {w w' : World} {v : Value} (h : RG k enc w v ([] : List α)) : RG k enc w' v [] := by
  obtain ⟨h0, h1, ao, cap, rfl, h2, h3, h4, h5⟩ := h
  exact ⟨h0, h1, ao, cap, rfl, h2, h3, h4, fun a _ j u hu => by simp at hu⟩
theorem FAt.keep {n0 : Nat} {w w' : World} {v : Value} {l : List Int} (h : FAt n0 w v l) (hE : Ext w w') : FAt n0 w' v l := ⟨h.1.keep hE, h.2⟩
theorem FAt.of {w : World} {v : Value} {l : List Int} (h : RG 1 (fun n : Int => [Value.int .i64 n]) w v l) : FAt w.heap.size w v l := by
  refine ⟨h, ?_⟩
  cases l with
  | nil => exact .inl rfl
  | cons x r =>
    obtain ⟨-, h1, ao, cap, rfl, h2, h3, h4, h5⟩ := id h
    cases ao with
    | none => exact absurd (h4 rfl).1 (by simp)
    | some a =>
      have hc := h5 a rfl 0 (.int .i64 x) (by simp)
      have hl := World.block_lt_of_cell? w _ hc
      refine .inr ⟨a.block, rfl, ?_⟩
      have e : (a.add 0).block = a.block := by unfold Addr.add; split <;> rfl
      rwa [e] at hl
theorem getD_take {α : Type} {l : List α} {n i : Nat} {d : α} (h : i < n) : (l.take n).getD i d = l.getD i d := by
  rw [List.getD_eq_getElem?_getD, List.getElem?_take_of_lt h, ← List.getD_eq_getElem?_getD]
theorem getD_map {l : Dir} {j : Nat} (h : j < l.length) : (l.map Prod.fst).getD j [] = (l.getD j ([], 0)).1 := by
  rw [List.getD_eq_getElem?_getD, List.getD_eq_getElem?_getD, List.getElem?_map, List.getElem?_eq_getElem h]
  rfl
theorem fold_len : ∀ (acs : List ActD) (l : Dir), (acs.foldl turnD l).length ≤ l.length + acs.length
  | [], l => Nat.le_refl _
  | a :: r, l => by
    have h1 := fold_len r (turnD l a)
    have h2 := turn_len l a
    rw [List.foldl_cons, List.length_cons]
    omega
theorem left_len (D : Dsk) (fs : List Int) : (leftD D fs).length ≤ D.kept.length + D.acts.length := by
  have h := fold_len (D.acts.take (fateD fs 0 (D.acts.length + 1))) D.kept
  rw [List.length_take] at h
  unfold leftD
  omega
open Go.RowKit
def floatBI (l : List Oper) (fs : List (Nat × Tmp)) (cs : List Nat) : Bool :=
  (List.range l.length).all (fun i => (fs.map Prod.fst).contains i || cs.contains i) &&
  ((ndB (fs.map Prod.snd) && (pairB (masks l []) cs &&
  (fs.all (fun p => match l[p.1]? with
    | some o => (o.guard.isNone && !cs.contains p.1) && (o.dst == some p.2 && (((List.range (p.1 + 1)).all (fun j => match l[j]? with | some q => !(q.looksAt l.toArray).contains p.2 | none => true)) && ((List.range l.length).all (fun j => Nat.beq j p.1 || dstOf l j != some p.2) && cs.all (fun c => match dstOf l c with | some d => !(o.looksAt l.toArray).contains d | none => true))))
    | none => false) &&
  (cs.all (fun c => match l[c]? with | some o => o.guard.isNone | none => false) &&
   l.all (fun o => match o.op with | .select .. => false | _ => true))))))
def chainI (P : Program) (l : List Oper) (I : World → Prop) (K : Slots → World → Prop) : List Nat → Slots → World → Prop
  | [], ρ, w => K ρ w
  | i :: r, ρ, w => match l[i]? with
    | none => False
    | some o => Yk P (fun v w' => I w' ∧ chainI P l I K r (updO ρ o.dst v) w') ((execOp (evalR ρ) o).run P w)
theorem chI_step {P : Program} {l : List Oper} {I : World → Prop} {K : Slots → World → Prop} {i : Nat} {r : List Nat} {ρ : Slots} {w : World} {o : Oper} (ho : l[i]? = some o)
    (h : Yk P (fun v w' => I w' ∧ chainI P l I K r (updO ρ o.dst v) w') ((execOp (evalR ρ) o).run P w)) : chainI P l I K (i :: r) ρ w := by
  unfold chainI
  rw [ho]
  exact h
theorem chI_nil {P : Program} {l : List Oper} {I : World → Prop} {K : Slots → World → Prop} {ρ : Slots} {w : World} (h : K ρ w) : chainI P l I K [] ρ w := h
theorem FloatsO.get {P : Program} {l : List Oper} {I : World → Prop} {ρ : Slots} {fs : List (Nat × Tmp × Value)} (h : FloatsO P l I ρ fs) (p : Nat × Tmp × Value) (hp : p ∈ fs) (o : Oper) (ho : l[p.1]? = some o) (w : World) (hI : I w) : Yk P (fun x w' => x = p.2.2 ∧ w = w') ((execOp (evalR ρ) o).run P w) := FloatsX.get (FloatsO.toX h) p hp o ho w hI
section
variable {P : Program} {n : Nat} {ρ : Slots} {w : World} {Q : PostF} {l : List Oper} {fs : List (Nat × Tmp × Value)} {cs : List Nat} {I : World → Prop}
structure FInvI (l : List Oper) (fs : List (Nat × Tmp × Value)) (cs : List Nat) (I : World → Prop) (n : Nat) (ρf ρc : Slots) (rest : List Nat) (listed : Array Bool) (a : Act) (w : World) : Prop where
  size : listed.size = l.length
  closed : ∀ i o, l[i]? = some o → On listed i → ∀ e ∈ o.after, Region.binds .any e = true → On listed e.on
  tmps : a.tmps.size = n
  defers : a.defers = []
  suffix : ∃ u, cs = u ++ rest ∧ (∀ c ∈ u, On listed c) ∧ ∀ c ∈ rest, ¬ On listed c
  agree : ∀ t, (∀ p ∈ fs, ¬ On listed p.1 → p.2.1 ≠ t) → a.tmps.getD t undef = ρc t
  ghost : ∀ t, (∀ c ∈ cs, dstOf l c ≠ some t) → ρc t = ρf t
  inv : I w
theorem float_anyI (hg : goodB l n = true) (hb : floatBI l (fs.map fun p => (p.1, p.2.1)) cs = true) (hf : FloatsO P l I (floatsF fs ρ) fs) :
    ∀ (fuel : Nat) (listed : Array Bool) (a : Act) (w : World) (ρc : Slots) (rest : List Nat), (listed.toList.filter (!·)).length = fuel → FInvI l fs cs I n (floatsF fs ρ) ρc rest listed a w → chainI P l I (fun ρ w => Q .normal ρ w) rest ρc w →
      wpAny P .any l.toArray (fun e a' w' => ∃ ρ', Fits n ρ' a' ∧ Q e ρ' w') fuel listed a w := by
  have g := good_of hg
  unfold floatBI at hb
  simp only [Bool.and_eq_true] at hb
  obtain ⟨hcov, hnd, hpair, hfl, hcg, hsel⟩ := hb
  have hcov' : ∀ i, i < l.length → (∃ p ∈ fs, p.1 = i) ∨ i ∈ cs := fun i hi => by
    have := List.all_eq_true.1 hcov i (by simpa using hi)
    rw [Bool.or_eq_true] at this
    rcases this with h | h
    · left
      have := List.contains_iff_mem.1 h
      simp at this
      obtain ⟨d, v, h⟩ := this
      exact ⟨_, h, rfl⟩
    · exact .inr (List.contains_iff_mem.1 h)
  have hfl' : ∀ p ∈ fs, ∃ o, l[p.1]? = some o ∧ o.guard = none ∧ p.1 ∉ cs ∧ o.dst = some p.2.1 ∧ (∀ j q, j ≤ p.1 → l[j]? = some q → p.2.1 ∉ q.looksAt l.toArray) ∧ (∀ j, j < l.length → j ≠ p.1 → dstOf l j ≠ some p.2.1) ∧ ∀ c ∈ cs, ∀ d, dstOf l c = some d → d ∉ o.looksAt l.toArray := fun p hp => by
    have := List.all_eq_true.1 hfl (p.1, p.2.1) (List.mem_map.2 ⟨p, hp, rfl⟩)
    dsimp only at this
    cases ho : l[p.1]? with
    | none => rw [ho] at this; cases this
    | some o =>
      rw [ho] at this
      simp only [Bool.and_eq_true] at this
      obtain ⟨⟨h1, h1c⟩, h2, h5, h3, h4⟩ := this
      refine ⟨o, rfl, by simpa using h1, fun hc => ?_, by simpa using h2, fun j q hj hq hx => ?_, fun j hj hne e => ?_, fun c hc d hd hx => ?_⟩
      · rw [List.contains_iff_mem.2 hc] at h1c; cases h1c
      · have := List.all_eq_true.1 h5 j (by simp; omega)
        rw [hq] at this
        simp only at this
        rw [List.contains_iff_mem.2 hx] at this
        cases this
      · have := List.all_eq_true.1 h3 j (by simpa using hj)
        rw [Bool.or_eq_true] at this
        rcases this with h | h
        · exact hne (Nat.eq_of_beq_eq_true h)
        · rw [e] at h; simp at h
      · have := List.all_eq_true.1 h4 c hc
        rw [hd] at this
        simp only at this
        rw [List.contains_iff_mem.2 hx] at this
        cases this
  have hcg' : ∀ c ∈ cs, ∃ o, l[c]? = some o ∧ o.guard = none := fun c hc => by
    have := List.all_eq_true.1 hcg c hc
    cases ho : l[c]? with
    | none => rw [ho] at this; cases this
    | some o => rw [ho] at this; exact ⟨o, rfl, by simpa using this⟩
  have hsel' : ∀ (i : Nat) (o : Oper), l[i]? = some o → ∀ cs b, o.op ≠ Op.select cs b := fun i o ho cs b e => by
    have := List.all_eq_true.1 hsel o (List.mem_of_getElem? ho)
    rw [e] at this
    cases this
  have hnew : ∀ p ∈ fs, floatsF fs ρ p.2.1 = p.2.2 := floatsF_new fs ρ (by
    have := ndB_nodup hnd
    rw [List.map_map] at this
    exact this)
  have hlt : ∀ (i : Nat) (o : Oper), l[i]? = some o → i < l.length := fun i o ho => (List.getElem?_eq_some_iff.1 ho).1
  -- all are done
  have fin : ∀ (listed : Array Bool) (a : Act) (w : World) (ρc : Slots) (rest : List Nat), FInvI l fs cs I n (floatsF fs ρ) ρc rest listed a w → chainI P l I (fun ρ w => Q .normal ρ w) rest ρc w → (∀ i, i < l.length → On listed i) → ∃ ρ', Fits n ρ' a ∧ Q .normal ρ' w := fun listed a w ρc rest h hc hall => by
    obtain ⟨u, hu, hu1, hu2⟩ := h.suffix
    cases rest with
    | nil => exact ⟨ρc, ⟨h.tmps, h.defers, fun t => h.agree t (fun p hp hno => by
        obtain ⟨o, ho, -⟩ := hfl' p hp
        exact absurd (hall p.1 (hlt _ _ ho)) hno)⟩, hc⟩
    | cons c r =>
      obtain ⟨o, ho, -⟩ := hcg' c (by rw [hu]; simp)
      exact absurd (hall c (hlt _ _ ho)) (hu2 c (by simp))
  intro fuel
  induction fuel with
  | zero =>
    intro listed a w ρc rest hfu h hc
    have full : ∀ i, i < l.length → On listed i := fun i hi => by
      have := count_zero _ hfu i (by rw [Array.length_toList, h.size]; omega)
      unfold On
      simp at this
      simp [this]
    refine ⟨?_, fin listed a w ρc rest h hc full⟩
    cases hr : Region.ready .any l.toArray listed with
    | nil => rfl
    | cons x xs =>
      exfalso
      have hmem : x ∈ Region.ready .any l.toArray listed := by rw [hr]; simp
      obtain ⟨h1, o, ho, _⟩ := mem_ready.1 hmem
      have hx : x < l.length := by simpa using (Array.getElem?_eq_some_iff.1 ho).1
      have h2 := full x hx
      have hx' : x < listed.size := h2.lt
      unfold On at h2
      simp [hx'] at h1 h2
      rw [h1] at h2
      cases h2
  | succ fuel ih =>
    intro listed a w ρc rest hfu h hc
    refine ⟨fun hr => fin listed a w ρc rest h hc fun i => ?_, fun i hi => ?_⟩
    · induction i using Nat.strongRecOn with
      | _ i ih2 =>
        intro hi
        refine Classical.byContradiction fun hno => ?_
        have ho : l[i]? = some l[i] := List.getElem?_eq_getElem hi
        have : i ∈ Region.ready .any l.toArray listed := by
          refine mem_ready.2 ⟨?_, l[i], by rw [List.getElem?_toArray]; exact ho, fun e he hb => ?_⟩
          · have hi' : i < listed.size := by rw [h.size]; exact hi
            unfold On at hno
            simp [hi'] at hno ⊢
            exact hno
          · have hlt := g.back i _ ho e he hb
            exact ih2 e.on hlt (by omega)
        rw [hr] at this
        cases this
    · obtain ⟨h1, o, ho, hall0⟩ := mem_ready.1 hi
      have ho' : l[i]? = some o := by simpa using ho
      have hilt : i < l.length := hlt i o ho'
      have hil : i < listed.size := by rw [h.size]; exact hilt
      have hno : ¬ On listed i := by
        unfold On
        simp [hil] at h1 ⊢
        exact h1
      have hall : ∀ e ∈ o.after, Region.binds .any e = true → On listed e.on := fun e he hb => hall0 e he hb
      have hI : Inv l (fun _ => []) (fun _ _ => True) (fun _ _ => True) (fun _ _ _ => True) a listed a w :=
        ⟨h.size, h.closed, rfl, rfl, fun _ _ _ => trivial, trivial, fun _ _ => rfl, fun _ _ _ _ _ _ _ _ => trivial⟩
      have hmr : ∀ k, ((masks l []).getD i 0).testBit k = true → On listed k := fun k hk => hI.maskReady ho' hall hk
      have hcnt : ((listed.setIfInBounds i true).toList.filter (!·)).length = fuel := by
        rw [Array.toList_setIfInBounds]
        have := count_set listed.toList i (by
          simp [hil] at h1
          simp [hil, h1])
        omega
      have hcl : ∀ j oj, l[j]? = some oj → On (listed.setIfInBounds i true) j → ∀ e ∈ oj.after, Region.binds .any e = true → On (listed.setIfInBounds i true) e.on := fun j oj hj hon e he hb => by
        rcases (on_set hil).1 hon with rfl | hon
        · obtain rfl : o = oj := by rw [ho'] at hj; exact Option.some.inj hj
          exact (on_set hil).2 (.inr (hall e he hb))
        · exact (on_set hil).2 (.inr (h.closed j oj hj hon e he hb))
      have hF : Fits n (fun t => a.tmps.getD t undef) a := ⟨h.tmps, h.defers, fun t => rfl⟩
      have hroom : ∀ t, o.dst = some t → t < n := fun t ht => g.room i o t ho' ht
      -- what it looks at is as in the frame in order
      have hlook : ∀ t ∈ o.looksAt l.toArray, a.tmps.getD t undef = ρc t := fun t ht => h.agree t fun q hq hnq e => by
        subst e
        obtain ⟨oq, hoq, -, -, hdq, hearly, -⟩ := hfl' q hq
        by_cases hqi : i ≤ q.1
        · exact hearly i o hqi ho' ht
        · exact hnq (hmr q.1 (g.tied i o q.1 oq q.2.1 ho' hoq (by omega) (.inl ⟨hdq, List.mem_append_right _ ht⟩)))
      unfold wpOp
      simp only [List.getElem?_toArray, ho']
      obtain ⟨u, hu, hu1, hu2⟩ := h.suffix
      have hguard : o.guard = none := by
        rcases hcov' i hilt with ⟨p, hp, rfl⟩ | hic
        · obtain ⟨o2, ho2, h2, -⟩ := hfl' p hp
          rw [ho'] at ho2
          cases ho2
          exact h2
        · obtain ⟨o2, ho2, h2⟩ := hcg' i hic
          rw [ho'] at ho2
          cases ho2
          exact h2
      have hw : Region.wanted o (yielded l.toArray a.tmps) = true := by unfold Region.wanted; rw [hguard]
      rw [if_pos hw]
      rcases hcov' i hilt with ⟨p, hp, rfl⟩ | hic
      · refine .inl (wp_of_yields ?_)
        rw [hF.eval]
        obtain ⟨o2, ho2, h2, hpc, hpd, hearly, huniq, hpl⟩ := hfl' p hp
        rw [ho'] at ho2
        cases ho2
        have hghost : ∀ t ∈ o.looksAt l.toArray, a.tmps.getD t undef = floatsF fs ρ t := fun t ht => (hlook t ht).trans (h.ghost t fun c hc e => hpl c hc t e ht)
        rw [exec_agree (ρ := floatsF fs ρ) (hsel' _ _ ho') hghost]
        have hIw : I w := h.inv
        refine Yk.mono (hf.get p hp o ho' w hIw) ?_
        rintro v w' ⟨rfl, rfl⟩
        refine ih _ _ _ ρc rest hcnt ⟨by simpa using h.size, hcl, (hF.put o.dst hroom _).size, (hF.put o.dst hroom _).defers, ⟨u, hu, fun c hc => (on_set hil).2 (.inr (hu1 c hc)), fun c hc hx => ?_⟩, fun t ht => ?_, h.ghost, hIw⟩ hc
        · rcases (on_set hil).1 hx with rfl | hx
          · exact hpc (by rw [hu]; exact List.mem_append_right _ hc)
          · exact hu2 c hc hx
        · rw [(hF.put o.dst hroom _).get t, hpd]
          by_cases e : t = p.2.1
          · subst e
            rw [updO_some, upd_eq, h.ghost _ (fun c hc e => ?_), hnew p hp]
            obtain ⟨oc, hoc, -⟩ := hcg' c hc
            exact huniq c (hlt _ _ hoc) (fun x => hpc (x ▸ hc)) e
          · rw [updO_some, upd_ne e]
            refine h.agree t fun q hq hnq => ?_
            by_cases hqi : q.1 = p.1
            · obtain ⟨oq, hoq, -, -, hdq, -⟩ := hfl' q hq
              rw [hqi, ho'] at hoq
              cases hoq
              rw [hpd] at hdq
              exact fun x => e (x.symm.trans (Option.some.inj hdq).symm)
            · exact ht q hq (fun x => by
                rcases (on_set hil).1 x with x | x
                · exact hqi x
                · exact hnq x)
      · have hir : i ∈ rest := by
          rw [hu] at hic
          rcases List.mem_append.1 hic with x | x
          · exact absurd (hu1 i x) hno
          · exact x
        cases rest with
        | nil => cases hir
        | cons b r =>
          have hib : i = b := by
            refine Classical.byContradiction fun hne => ?_
            rcases List.mem_cons.1 hir with x | x
            · exact hne x
            · exact hu2 b (by simp) (hmr b (pairB_get hpair b i u r hu x))
          subst hib
          have hc' : Yk P (fun v w' => I w' ∧ chainI P l I (fun ρ w => Q .normal ρ w) r (updO ρc o.dst v) w') ((execOp (evalR ρc) o).run P w) := by
            unfold chainI at hc
            rw [ho'] at hc
            exact hc
          refine .inl (wp_of_yields ?_)
          rw [hF.eval]
          rw [exec_agree (ρ := ρc) (hsel' _ _ ho') hlook]
          refine Yk.mono hc' ?_
          rintro v w' ⟨hIw, hcr⟩
          refine ih _ _ _ _ r hcnt ⟨by simpa using h.size, hcl, (hF.put o.dst hroom _).size, (hF.put o.dst hroom _).defers, ⟨u ++ [i], by rw [hu]; simp, fun c hcm => ?_, fun c hcm hx => ?_⟩, fun t ht => ?_, fun t ht => ?_, hIw⟩ hcr
          · rcases List.mem_append.1 hcm with x | x
            · exact (on_set hil).2 (.inr (hu1 c x))
            · exact (on_set hil).2 (.inl (List.mem_singleton.1 x))
          · rcases (on_set hil).1 hx with rfl | hx
            · exact hno (hmr c (pairB_get hpair c c u r hu hcm))
            · exact hu2 c (by simp [hcm]) hx
          · rw [(hF.put o.dst hroom _).get t]
            cases hd : o.dst with
            | none =>
              exact h.agree t fun q hq hnq => ht q hq (fun x => by
                rcases (on_set hil).1 x with x | x
                · obtain ⟨_, _, _, hpc, _⟩ := hfl' q hq
                  exact hpc (x ▸ hic)
                · exact hnq x)
            | some d =>
              rw [updO_some, updO_some]
              by_cases e : t = d
              · subst e; rw [upd_eq, upd_eq]
              · rw [upd_ne e, upd_ne e]
                exact h.agree t fun q hq hnq => ht q hq (fun x => by
                  rcases (on_set hil).1 x with x | x
                  · obtain ⟨_, _, _, hpc, _⟩ := hfl' q hq
                    exact hpc (x ▸ hic)
                  · exact hnq x)
          · have hne := ht i hic
            unfold dstOf at hne
            rw [ho'] at hne
            simp only [Option.bind_some] at hne
            cases hd : o.dst with
            | none => exact h.ghost t ht
            | some d =>
              rw [hd] at hne
              rw [updO_some, upd_ne (fun e => hne (by rw [e]))]
              exact h.ghost t ht
theorem wpF_floatI (fs : List (Nat × Tmp × Value)) (cs : List Nat) (I : World → Prop) {id : Nat} (hm : P.follows .mixedOrders = true) (hg : goodB l n = true) (hb : floatBI l (fs.map fun p => (p.1, p.2.1)) cs = true) (hI : I w.drew) (hf : FloatsO P l I (floatsF fs ρ) fs)
    (hc : chainI P l I (fun ρ w => Q .normal ρ w) cs (floatsF fs ρ) w.drew) : wpF P n (.region id l.toArray true) Q ρ w := by
  intro a ha
  exact wp_region_any hm (float_anyI (ρ := ρ) hg hb hf _ _ _ _ (floatsF fs ρ) cs (by simp) ⟨by simp, fun i o _ h => absurd h On.not_replicate, ha.size, ha.defers, ⟨[], rfl, (fun c hc => by cases hc), fun c _ h => On.not_replicate h⟩, fun t ht => (ha.get t).trans (floatsF_old fs ρ t (fun p hp => ht p hp On.not_replicate)).symm, fun t _ => rfl, hI⟩ hc)
end
open Go.RowKit
set_option maxRecDepth 100000
set_option linter.unusedVariables false
set_option linter.unusedSimpArgs false
theorem FAt.set {n0 : Nat} {w w' : World} {v : Value} {l : List Int} (h : FAt n0 w v l) {g : Nat} (hg : w.grownBy w' (some g)) (hn : n0 ≤ g) : FAt n0 w' v l := by
 rcases h.2 with rfl | ⟨b, hb, hl⟩
 ·exact ⟨rg_nil_any h.1, .inl rfl⟩
 ·exact ⟨h.1.kept hg (.inr (fun e => by have := Option.some.inj (hb.symm.trans e); omega)), .inr ⟨b, hb, hl⟩⟩
theorem take_any (w : World) (n0 bf : Nat) (hn : n0 ≤ bf) (vf : Value) (fs : List Int) (i : Nat) (hbf : w.heap[bf]? = some (.cells ([vf]).toArray 37 (0, 0))) (hF : FAt n0 w vf (fs.drop i)) (m : Nat) (hm : m < 4611686018427387904) :
  Calls Tryd.prog 43 #[NI m, PQ bf 0] w fun e w' => ∃ v', e = .returned (NI (fateD fs i (m + 1))) ∧ w'.heap[bf]? = some (.cells ([v']).toArray 37 (0, 0)) ∧ FAt n0 w' v' (fs.drop (i + 1)) ∧ w.grownBy w' (some bf) := by
 by_cases hi : i < fs.length
 ·have hl : 0 < (fs.drop i).length := by rw [List.length_drop]; omega
  rcases hF.2 with h0 | ⟨b, hb, hlt⟩
  ·rw [h0] at hl; exact absurd hl (Nat.lt_irrefl _)
  ·refine (take_y w bf vf (fs.drop i) hbf hF.1 (fun e => by have := Option.some.inj (hb.symm.trans e); omega) m hm hl).mono fun e w' q => ?_
   obtain ⟨v', h1, h2, h3, h4, h5⟩ := q
   refine ⟨v', ?_, h2, ⟨by rw [List.drop_drop] at h3; exact h3, .inr ⟨b, h4.trans hb, hlt⟩⟩, h5⟩
   rw [h1]
   unfold fateD
   rw [if_pos hi, List.getD_eq_getElem?_getD, List.getElem?_drop, Nat.add_zero, ← List.getD_eq_getElem?_getD]
 ·have h0 : fs.drop i = [] := List.drop_eq_nil_of_le (by omega)
  have h1 : fs.drop (i + 1) = [] := List.drop_eq_nil_of_le (by omega)
  rw [h0] at hF
  refine (take_n w bf vf [] hbf hF.1 m hm rfl).mono fun e w' q => ?_
  obtain ⟨he, hE⟩ := q
  exact ⟨vf, by rw [he]; unfold fateD; rw [if_neg hi], (eb hE hbf), by rw [h1]; exact hF.keep hE, grownBy_trans (World.grownBy.refl w (some bf)) hE.grown (fun _ e => by cases e)⟩
theorem dwb_ty23 : Tryd.prog.underlying 23 = some (.pointer 55) := by kernel_rfl
theorem dwb_fo55_2 : FieldOff Tryd.prog 55 2 2 := fun b o w => by simp [go_sem]
theorem dwb_ty52 : Tryd.prog.underlying 52 = some (.map 9 69) := by kernel_rfl
theorem dwb_pl44 : Plain Tryd.prog 44 := fun _ _ => by kernel_rfl
theorem dwb_fo55_3 : FieldOff Tryd.prog 55 3 3 := fun b o w => by simp [go_sem]
theorem dwb_ty53 : Tryd.prog.underlying 53 = some (.slice 73) := by kernel_rfl
theorem dwb_pl43 : Plain Tryd.prog 43 := fun _ _ => by kernel_rfl
theorem dwb_sz73 : ∀ w' : World, (sizeOf 73).run Tryd.prog w' = .ok 1 w' := fun _ => by kernel_rfl
theorem dwb_szg73 : ∀ w' : World, (sizeOf 73).run Tryd.prog w' = .ok 1 w' := fun _ => by kernel_rfl
theorem dwb_ty73 : Tryd.prog.underlying 73 = some (.func #[52] #[] false) := by kernel_rfl
theorem dwb_pl46 : Plain Tryd.prog 46 := fun _ _ => by kernel_rfl
theorem dwb_pl45 : Plain Tryd.prog 45 := fun _ _ => by kernel_rfl
theorem dwb_ty64 : Tryd.prog.underlying 64 = some (.slice 9) := by kernel_rfl
theorem dwb_szg9 : ∀ w' : World, (sizeOf 9).run Tryd.prog w' = .ok 1 w' := fun _ => by kernel_rfl
theorem dwb_ty9 : Tryd.prog.underlying 9 = some (.string) := by kernel_rfl
theorem dwb_fo71_1 : FieldOff Tryd.prog 71 1 1 := fun b o w => by simp [go_sem]
theorem dwb_ty3 : Tryd.prog.underlying 3 = some (.int .i64) := by kernel_rfl
theorem dwb_fo71_0 : FieldOff Tryd.prog 71 0 0 := fun b o w => by simp [go_sem]
theorem dwb_ty22 : Tryd.prog.underlying 22 = some (.slice 5) := by kernel_rfl
theorem dwb_sz5 : ∀ w' : World, (sizeOf 5).run Tryd.prog w' = .ok 1 w' := fun _ => by kernel_rfl
theorem dwb_pl47 : Plain Tryd.prog 47 := fun _ _ => by kernel_rfl
theorem dwb_bf (ao : Option Addr) (n c : Nat) (z : Int) (w : World) : (Instr.build 71 #[(0, .slice ao n c), (1, .int .i64 z)]).run Tryd.prog w = .ok (.agg #[.slice ao n c, .int .i64 z]) w := by kernel_rfl
theorem dwb_fo55_1 : FieldOff Tryd.prog 55 1 1 := fun b o w => by simp [go_sem]
theorem dwb_isz52 : (Tryd.prog.info? 52).map (·.size) = some 1 := by kernel_rfl
theorem dwb_isz53 : (Tryd.prog.info? 53).map (·.size) = some 1 := by kernel_rfl
theorem dwb_fo55_5 : FieldOff Tryd.prog 55 5 5 := fun b o w => by simp [go_sem]
theorem dwb_isz3 : (Tryd.prog.info? 3).map (·.size) = some 1 := by kernel_rfl
theorem dwb_fo55_6 : FieldOff Tryd.prog 55 6 6 := fun b o w => by simp [go_sem]
theorem dwb_isz4 : (Tryd.prog.info? 4).map (·.size) = some 1 := by kernel_rfl
set_option maxHeartbeats 1600000
theorem crash_at (w0 w : World) (hE0 : Ext w0 w) (H : Dk) (D : Dsk) (hS : DkS w0.heap.size w H D) (vf : Value) (fs : List Int) (hrf : RG 1 (fun n : Int => [Value.int .i64 n]) w vf fs) (hL : DLt D) :
  Calls Tryd.prog 19 #[PQ H.g 0, vf] w fun e w' => ∃ H', e = .returned (.tuple #[]) ∧ DkT w0.heap.size w H D w' H' (crashD D fs) := by
 have hb := hS.blk
 have hgl := (bl hb)
 have hgl0 := hS.lo.1
 have hsz0 := hE0.size
 have hS0 := hS
 have hE00 := hE0
 obtain ⟨vs, hvs⟩ := hS.acts
 have hvl := hvs.len
 have hva : RG 1 enV w H.va vs := RG.ofOwn (⟨fun _ _ => rfl, by rw [enV_flat]; exact hvs.row⟩ : OG w0.heap.size 73 1 enV w H.va vs)
 have hFA := FAt.of hrf
 have hact := hL.acts
 refine calls_of_wpF (args := [PQ H.g 0, vf]) Tryd.func19 rfl 102 rfl (Nat.le_of_ble_eq_true rfl) ?_
 intro ρ0 hb
 have T0 : ρ0 0 = (PQ H.g 0 : Value) := hb.get 0
 have T1 : ρ0 1 = (vf : Value) := hb.get 1
 clear hb
 have hE := Ext.refl w
 refine sk fun K1 hK1 => (wt (oS rfl (Yk.box1 T1 (RG.one (hrf.keep hE)).1 fun n2 w3 hn4 hb5 hx6 hs7 => ?_)))
 have hA8 := Ext.refl w
 have hea9 := hE
 have hea10 := hE0
 have hz11 := hE.size
 have hz12 := hE0.size
 have hE := hE.trans hx6
 have hA8 := hA8.trans hx6
 have hb13 := hb5; clear hb5
 have hl14 : n2 < w3.heap.size := by omega
 refine oZ ?_
 have hFA : FAt w.heap.size w3 vf (fs.drop 0) := (hFA.keep hA8)
 have hbfw : w.heap.size ≤ n2 := by omega
 have hbfl : n2 < w3.heap.size := (bl hb13)
 refine tN (hK1 _ _ (sk fun K15 hK15 => (sk fun K16 hK16 => (wt (oM rfl (oS rfl (Yk.eqlNil dwb_ty23 T0 (oZ (tN (hK16 _ _ (wpF_false (vr (.bool (false)) (congrArg Value.bool (rfl))) (wpF_skip (tN (hK15 _ _ (sk fun K17 hK17 => (wt (oS rfl (Yk.mkFunc (vs := #[PQ n2 0]) (by simp only [List.map_toArray, List.map_cons, List.map_nil]; exact congrArg List.toArray (list1 (vr (PQ n2 0) rfl))) (oA rfl (oZ ?_))))))))))))))))))))
 refine tN (hK17 _ _ (sk fun K18 hK18 => (wt (oM rfl (oS rfl (Yk.nilCheck T0 (oS rfl (Yk.fieldAt dwb_fo55_2 (vr (PQ H.g 0) rfl) (oS rfl (Yk.cell1 dwb_ty52 rfl (vr (PQ H.g 2) rfl) (cellAt (eb hE hb) (show _ = some (.map (some (H.ml)) : Value) from rfl)) (oS rfl (Yk.callA1 dwb_pl44 (vr (.map (some (H.ml))) rfl) ((clone_map _ (hS.keep hE).kept).mono ?_)))))))))))))
 rintro e w20 ⟨nl, rfl, hnl, hml, hx19⟩
 refine ⟨_, rfl, ?_⟩
 have hFA : FAt w.heap.size w20 vf (fs.drop 0) := (hFA.keep hx19)
 have hE := hE.trans hx19
 have hA8 := hA8.trans hx19
 have hb13 := eb hx19 hb13
 have hnlw : w.heap.size ≤ nl := by have := hE.size; omega
 have hnb : n2 ≠ nl := by omega
 have hml : MapF St (pF H.F) Nm w20 nl (lookD (leftN D 0)) := hml
 have hnll := hml.lt
 refine oA rfl (oZ (tN (hK18 _ _ (sk fun K21 hK21 => (sk fun K22 hK22 => ?_)))))
 have hx23 : Ext w20 (World.drew w20) := (Below.refl _ _).drew
 have hFA : FAt w.heap.size (World.drew w20) vf (fs.drop 0) := (hFA.keep hx23)
 have hE := hE.trans hx23
 have hA8 := hA8.trans hx23
 have hb13 := eb hx23 hb13
 have hml := hml.keep hx23
 refine wpF_floatI [(0, 21, PQ H.g 0), (1, 22, PQ H.g 0), (2, 23, PQ H.g 3), (3, 24, H.va), (4, 25, .func (.func 43) #[] #[PQ n2 0]), (5, 26, PQ H.g 0), (6, 27, PQ H.g 0), (7, 28, PQ H.g 3), (8, 29, H.va), (9, 30, NI vs.length), (13, 34, NI 0)] [10, 11, 12] (fun wz => Ext w wz ∧ MapF St (pF H.F) Nm wz nl (lookD (leftN D 0)) ∧ True) (by kernel_rfl) (by kernel_rfl) (by kernel_rfl) ⟨hE, hml, trivial⟩ ⟨fun w24 ⟨hE, hml, _⟩ => Yk.move T0 ⟨rfl, rfl⟩, fun w24 ⟨hE, hml, _⟩ => Yk.nilCheck (vr (PQ H.g 0) rfl) ⟨rfl, rfl⟩, fun w24 ⟨hE, hml, _⟩ => Yk.fieldAt dwb_fo55_3 (vr (PQ H.g 0) rfl) ⟨rfl, rfl⟩, fun w24 ⟨hE, hml, _⟩ => Yk.cell1 dwb_ty53 rfl (vr (PQ H.g 3) rfl) (cellAt (eb hE hb) (show _ = some (H.va : Value) from rfl)) ⟨rfl, rfl⟩, fun w24 ⟨hE, hml, _⟩ => Yk.move (vr (.func (.func 43) #[] #[PQ n2 0]) rfl) ⟨rfl, rfl⟩, fun w24 ⟨hE, hml, _⟩ => Yk.move T0 ⟨rfl, rfl⟩, fun w24 ⟨hE, hml, _⟩ => Yk.nilCheck (vr (PQ H.g 0) rfl) ⟨rfl, rfl⟩, fun w24 ⟨hE, hml, _⟩ => Yk.fieldAt dwb_fo55_3 (vr (PQ H.g 0) rfl) ⟨rfl, rfl⟩, fun w24 ⟨hE, hml, _⟩ => Yk.cell1 dwb_ty53 rfl (vr (PQ H.g 3) rfl) (cellAt (eb hE hb) (show _ = some (H.va : Value) from rfl)) ⟨rfl, rfl⟩, fun w24 ⟨hE, hml, _⟩ => Yk.lenRG dwb_ty53 (RG.of (hva.keep hE) (vr H.va rfl)) ⟨rfl, rfl⟩, fun w24 ⟨hE, hml, _⟩ => Yk.move (vr (NI 0) rfl) ⟨rfl, rfl⟩, trivial⟩ ?_
 have htb := tag_cells hb13
 refine chI_step rfl (Yk.clo dwb_pl43 (caps := #[PQ n2 0]) (vr (.func (.func 43) #[] #[PQ n2 0]) rfl) #[NI vs.length, PQ n2 0] (by simp only [List.map_toArray, List.map_cons, List.map_nil, List.append_toArray, List.cons_append, List.nil_append]; exact congrArg List.toArray (list2 (vr (NI vs.length) rfl) rfl)) ((take_any _ w.heap.size n2 hbfw vf fs (0) hb13 hFA (vs.length) (by omega)).mono ?_))
 rintro e w29 ⟨v28, rfl, hb25, hF26, hg27⟩
 refine ⟨_, rfl, ?_⟩
 have hE := row_fresh hE hg27 (Nat.le_trans (Nat.le_refl _) (by omega))
 have hA8 := row_fresh hA8 hg27 (Nat.le_trans (Nat.le_refl _) (by omega))
 have hml := MapF.other hml hg27 (some_ne (by omega))
 clear hFA
 clear hb13
 have hb13 := hb25; clear hb25
 have hFA := hF26; clear hF26
 have hl30 := bl hb13
 refine ⟨⟨hE, hml, trivial⟩, ?_⟩
 have hnf : fateD fs (0) (vs.length + 1) ≤ vs.length := by have := fateD_lt fs 0 (n := vs.length + 1) (Nat.succ_pos _); omega
 refine chI_step rfl (Yk.sliceHiG (n := fateD fs (0) (vs.length + 1)) dwb_ty53 dwb_sz73 (vr H.va rfl) (hva.keep hE) (vr (NI (fateD fs (0) (vs.length + 1))) rfl) hnf fun v31 hr32 hown33 => ?_)
 have hvt := hr32
 have hvb : Value.ownBlock v31 = H.va.ownBlock := hown33
 have hvnl : OB v31 nl := fun e => by have h := hvb.symm.trans e; have := (hvs.row.lt _ h).2; omega
 refine ⟨⟨hE, hml, trivial⟩, ?_⟩
 refine chI_step rfl (Yk.lenRG dwb_ty53 (RG.of hvt (vr v31 rfl)) ?_)
 refine ⟨⟨hE, hml, trivial⟩, ?_⟩
 refine chI_nil (tN (hK22 _ _ (wpF_block (wpF_loop (fun (ρ : Slots) (wz : World) => ∃ i : Nat, ρ 0 = (PQ H.g 0 : Value) ∧ ρ 1 = (vf : Value) ∧ ρ 3 = (PQ n2 0 : Value) ∧ ρ 4 = (.func (.func 43) #[] #[PQ n2 0] : Value) ∧ ρ 5 = (.map (some nl) : Value) ∧ ρ 14 = (.bool (false) : Value) ∧ ρ 32 = (v31 : Value) ∧ ρ 33 = (NI (((vs.take (fateD fs (0) (vs.length + 1)))).length) : Value) ∧ ρ 34 = (NI i : Value) ∧ Ext w wz ∧ Ext w wz ∧ wz.heap[n2]? = some (.cells ([v28]).toArray 37 (0, 0)) ∧ FAt w.heap.size wz v28 (fs.drop (1)) ∧ RG 1 (enV) wz v31 (vs.take (fateD fs (0) (vs.length + 1))) ∧ MapF St (pF H.F) Nm wz nl (lookD (leftN D i)) ∧ (i ≤ fateD fs (0) (vs.length + 1)) ∧ True) (fun ρ _ => (fateD fs (0) (vs.length + 1)) - (intOf (ρ 34)).toNat) ⟨0, T0, T1, rfl, rfl, rfl, (congrArg Value.bool (rfl)), rfl, rfl, rfl, hE, hA8, hb13, hFA, hvt, hml, Nat.zero_le _, trivial⟩ ?_))))
 clear hml
 clear hE hA8 hb13 hFA hvt
 rintro ρ34 w35 ⟨i, T0, T1, T3, T4, T5, T14, T32, T33, T34, hE, hA8, hb13, hFA, hvt, hml, hi, -⟩
 have q34 := T34
 refine sk fun K36 hK36 => (wt (oS rfl (Yk.eqI (a := (i : Nat)) (b := (((vs.take (fateD fs (0) (vs.length + 1)))).length : Nat)) T34 T33 (k_lss _ _ _ _) (oZ (tN (hK36 _ _ (sk fun K37 hK37 => ?_)))))))
 refine wpF_cond ((i) < (((vs.take (fateD fs (0) (vs.length + 1)))).length)) (vr (.bool (decide ((i) < (((vs.take (fateD fs (0) (vs.length + 1)))).length)))) rfl) (fun hc1 => ?_) (fun hc1 => ?_)
 ·have hlt : i < fateD fs (0) (vs.length + 1) := by have h := hc1; rw [List.length_take] at h; omega
  have hia : i < D.acts.length := by have := fateD_lt fs 0 (n := vs.length + 1) (Nat.succ_pos _); omega
  have hhE := hE
  have hat : ActAt w35 H.F ((vs.take (fateD fs (0) (vs.length + 1))).getD i undef) (D.acts.getD i ⟨[], [], 0⟩) := by rw [getD_take hlt]; exact (hvs.at_ i hia).chg (B := fun _ => False) (Chg.ofExt hhE) (fun _ _ q => q.elim) rfl
  have haok := hS0.ok.acts _ (getD_mem_ (d := ⟨[], [], 0⟩) hia)
  obtain ⟨f, caps, hve, hpl, hcl⟩ := act_call hat hml (leftN_ok hS0.ok i) haok
  refine wpF_skip (tN (hK37 _ _ (sk fun K38 hK38 => (wpF_block (sk fun K39 hK39 => (wt ?_))))))
  have hl42 : (enV (((vs.take (fateD fs (0) (vs.length + 1)))).getD (i) undef)).length = 1 := (RG.elem hvt undef (by omega))
  refine oS rfl (Yk.atRG dwb_ty53 dwb_szg73 (by decide) undef (RG.of hvt T32) T34 (by omega) fun v40 hp41 => (oS rfl (Yk.loadC dwb_ty73 rfl (PR.cell (PR.of hp41 (vr v40 rfl)) (show _ = some (((vs.take (fateD fs (0) (vs.length + 1)))).getD (i) undef : Value) from rfl)) (oA rfl (oZ ?_)))))
  clear hp41
  refine tN (hK39 _ _ (wt (oM rfl (oM rfl (oS rfl (Yk.cloT hpl (vr (((vs.take (fateD fs (0) (vs.length + 1)))).getD (i) undef) rfl) hve T5 hcl fun w43 hR44 => ?_))))))
  have hE := row_fresh hE hR44.2 (Nat.le_trans (Nat.le_refl _) (by omega))
  have hA8 := row_fresh hA8 hR44.2 (Nat.le_trans (Nat.le_refl _) (by omega))
  have hb13 := kb hR44.2 hb13 (by omega)
  have hFA : FAt w.heap.size w43 v28 (fs.drop (1)) := FAt.set hFA hR44.2 (by omega)
  have hvt := RG.kept hvt hR44.2 (.inr hvnl)
  clear hml
  have hml := hR44.1
  rw [← leftN_succ hia] at hml
  have hnll := hml.lt
  refine oZ (bN (tN (hK38 _ _ (wt (oS rfl (Yk.bin (xv := NI i) (yv := NI 1) T34 rfl rfl (i64_add _ _ _ (by omega)) (oM rfl (oL_ [(0, PQ H.g 0), (1, vf), (3, PQ n2 0), (4, .func (.func 43) #[] #[PQ n2 0]), (5, .map (some nl)), (7, ((vs.take (fateD fs (0) (vs.length + 1)))).getD (i) undef), (14, .bool (false)), (32, v31), (33, NI (((vs.take (fateD fs (0) (vs.length + 1)))).length)), (34, NI ((i) + (1)))] ⟨T0, T1, T3, T4, T5, rfl, T14, T32, T33, rfl, trivial⟩ fun ρ45 ⟨T0, T1, T3, T4, T5, T7, T14, T32, T33, T34, _⟩ => (tN (And.intro ⟨i + 1, T0, T1, T3, T4, T5, T14, T32, T33, T34, hE, hA8, hb13, hFA, hvt, hml, by omega, trivial⟩ ?_))))))))))
  show (fateD fs (0) (vs.length + 1)) - (intOf (ρ45 34)).toNat < (fateD fs (0) (vs.length + 1)) - (intOf (ρ34 34)).toNat
  rw [T34, q34]
  simp only [intOf, Int.toNat_natCast]; omega
 have hie : i = fateD fs (0) (vs.length + 1) := by have h := hc1; rw [List.length_take] at h; omega
 rw [hie, hvl, leftN_left] at hml
 have hLok := hS0.ok.left fs
 have hLs := hLok.sort
 have hLl : (leftD D fs).length < 1099511627776 := Nat.lt_of_le_of_lt (left_len D fs) hL.kept
 refine wpF_exit (thenF_exit (thenF_exit (inBlockF_hit (tN (hK21 _ _ (sk fun K46 hK46 => (wt ?_)))))))
 have hzc := hE.size
 have hnlc := MapF.lt hml
 have hbfc := (bl hb13)
 refine oS rfl (Yk.mkMap St (pF (fun _ => 0)) Nm fun na w47 hn48 hm49 hx50 hs51 => ?_)
 have hE := hE.trans hx50
 have hA8 := hA8.trans hx50
 have hb13 := eb hx50 hb13
 have hFA : FAt w.heap.size w47 v28 (fs.drop (1)) := (hFA.keep hx50)
 have hvt := hvt.keep hx50
 have hml := hml.keep hx50
 have hnaw : w.heap.size ≤ na := by omega
 have hnan : na ≠ nl := by omega
 have hnab : na ≠ n2 := by omega
 have hnag : na ≠ H.g := by omega
 have hma : MapF St (pF (fun _ => 0)) Nm w47 na (lookD (numN (leftD D fs) 0)) := hm49
 have hnal := hma.lt
 refine oA rfl (oZ (tN (hK46 _ _ (sk fun K52 hK52 => (sk fun K53 hK53 => (wt (oM rfl ?_)))))))
 have hm1 := hml
 refine oS rfl (Yk.callA1 dwb_pl46 T5 ((keys_map _ _).mono ?_))
 rintro e w54 ⟨rfl, hwk⟩
 refine ⟨_, rfl, ?_⟩
 have hxk : Ext w47 w54 := by rw [hwk]; exact (Below.refl _ _).alloc (Nat.le_refl _) _
 have hE := hE.trans hxk
 have hA8 := hA8.trans hxk
 have hb13 := eb hxk hb13
 have hFA : FAt w.heap.size w54 v28 (fs.drop (1)) := (hFA.keep hxk)
 have hvt := hvt.keep hxk
 have hml := hml.keep hxk
 have hma := hma.keep hxk
 have hzk := hE.size
 refine oS rfl (Yk.callA1 dwb_pl45 (vr (.func (.func 65) #[] #[PQ w47.heap.size 0]) rfl) ((sorted_map w47 w54 hwk hm1 hLok hLl).mono ?_))
 rintro e w56 ⟨vn, rfl, hnr0, hx55⟩
 refine ⟨_, rfl, ?_⟩
 have hE := hE.trans hx55
 have hA8 := hA8.trans hx55
 have hb13 := eb hx55 hb13
 have hFA : FAt w.heap.size w56 v28 (fs.drop (1)) := (hFA.keep hx55)
 have hvt := hvt.keep hx55
 have hml := hml.keep hx55
 have hma := hma.keep hx55
 have hnr : OG w.heap.size 9 1 enS w56 vn ((leftD D fs).map Prod.fst) := OG.low hnr0 (by have := hE.size; omega)
 have hnrb : OB vn n2 := fun e => tag_ne (tag_own hnr.2 e) (tag_cells hb13) (by decide) rfl
 have hnra : OB vn na := fun e => tag_ne (tag_own hnr.2 e) (MapF.tag hma) (by decide) rfl
 refine oS rfl (Yk.lenRG dwb_ty64 (RG.of (RG.ofOwn hnr) (vr vn rfl)) (oM rfl (oL_ [(0, PQ H.g 0), (1, vf), (3, PQ n2 0), (4, .func (.func 43) #[] #[PQ n2 0]), (5, .map (some nl)), (8, .map (some na)), (14, .bool (false)), (32, v31), (33, NI (((vs.take (fateD fs (0) (vs.length + 1)))).length)), (34, NI i), (45, vn), (46, NI ((((leftD D fs).map Prod.fst)).length)), (47, NI 0)] ⟨T0, T1, T3, T4, T5, rfl, T14, T32, T33, T34, rfl, rfl, rfl, trivial⟩ fun ρ57 ⟨T0, T1, T3, T4, T5, T8, T14, T32, T33, T34, T45, T46, T47, _⟩ => (tN (hK53 _ _ (wpF_block (wpF_loop (fun (ρ : Slots) (wz : World) => ∃ j : Nat, ∃ vb : Value, ∃ F1 : Nat → Nat, ∃ V1 : Nat → Value, ρ 0 = (PQ H.g 0 : Value) ∧ ρ 1 = (vf : Value) ∧ ρ 3 = (PQ n2 0 : Value) ∧ ρ 4 = (.func (.func 43) #[] #[PQ n2 0] : Value) ∧ ρ 5 = (.map (some nl) : Value) ∧ ρ 8 = (.map (some na) : Value) ∧ ρ 14 = (.bool (false) : Value) ∧ ρ 32 = (v31 : Value) ∧ ρ 33 = (NI (((vs.take (fateD fs (0) (vs.length + 1)))).length) : Value) ∧ ρ 34 = (NI i : Value) ∧ ρ 45 = (vn : Value) ∧ ρ 46 = (NI ((((leftD D fs).map Prod.fst)).length) : Value) ∧ ρ 47 = (NI j : Value) ∧ Ext w wz ∧ Ext w wz ∧ MapF St (pF H.F) Nm wz nl (lookD (leftD D fs)) ∧ OG w.heap.size 9 1 (enS) wz vn ((leftD D fs).map Prod.fst) ∧ wz.heap[n2]? = some (.cells ([vb]).toArray 37 (0, 0)) ∧ FAt w.heap.size wz vb (fs.drop (j + 1)) ∧ MapF St (pF F1) Nm wz na (lookD (numN (leftD D fs) j)) ∧ FilesAt w.heap.size wz F1 V1 (cutN D fs (leftD D fs) j) ∧ (j ≤ (leftD D fs).length) ∧ True) (fun ρ _ => (leftD D fs).length - (intOf (ρ 47)).toNat) ⟨0, v28, (fun _ => 0), (fun _ => .slice none 0 0), T0, T1, T3, T4, T5, T8, T14, T32, T33, T34, T45, T46, T47, hE, hA8, hml, hnr, hb13, hFA, hma, FilesAt.nil _ _, Nat.zero_le _, trivial⟩ ?_)))))))
 clear hb13
 clear hFA
 clear hvt
 clear hma
 clear hE hA8 hml hnr
 rintro ρ58 w59 ⟨j, vb, F1, V1, T0, T1, T3, T4, T5, T8, T14, T32, T33, T34, T45, T46, T47, hE, hA8, hml, hnr, hbv, hFA, hma, hfi, hj, -⟩
 have q47 := T47
 have hbfl2 := (bl hbv)
 have hnal2 := hma.lt
 refine sk fun K60 hK60 => (wt (oS rfl (Yk.eqI (a := (j : Nat)) (b := ((((leftD D fs).map Prod.fst)).length : Nat)) T47 T46 (k_lss _ _ _ _) (oZ (tN (hK60 _ _ (sk fun K61 hK61 => ?_)))))))
 refine wpF_cond ((j) < ((((leftD D fs).map Prod.fst)).length)) (vr (.bool (decide ((j) < ((((leftD D fs).map Prod.fst)).length)))) rfl) (fun hc2 => ?_) (fun hc2 => ?_)
 ·have hlt : j < (leftD D fs).length := by have h := hc2; rw [List.length_map] at h; exact h
  have hhE := hE
  have hnm : ((leftD D fs).map Prod.fst).getD j [] = ((leftD D fs).getD j ([], 0)).1 := getD_map hlt
  obtain ⟨k, hk⟩ : ∃ k, k = ((leftD D fs).getD j ([], 0)).2 := ⟨_, rfl⟩
  have hmemj := getD_mem_ (d := ([], 0)) hlt
  have hlk : lookD (leftD D fs) (((leftD D fs).map Prod.fst).getD j []) = some k := by rw [hnm, hk]; exact look_of hLs hmemj
  have hkl : k < D.files.length := hk ▸ hLok.num _ hmemj
  have hmj : mayD (((leftD D fs).map Prod.fst).getD j []) = true := by rw [hnm]; exact hLok.may _ hmemj
  have hfa := hS0.files.at_ k hkl
  have hfb := hfa.blk
  have hfr : RB w (H.V k) (D.files.getD k ([], 0)).1 := RB.ofOwn hfa.row
  have hfl := hL.files _ (getD_mem_ (d := ([], 0)) hkl)
  have hsy := hS0.ok.syn _ (getD_mem_ (d := ([], 0)) hkl)
  refine wpF_skip (tN (hK61 _ _ (sk fun K62 hK62 => (wpF_block (sk fun K63 hK63 => (wt ?_))))))
  have hl66 : (enS ((((leftD D fs).map Prod.fst)).getD (j) ([] : List UInt8))).length = 1 := (RG.elem (RG.ofOwn hnr) ([] : List UInt8) (by omega))
  refine oS rfl (Yk.atRG dwb_ty64 dwb_szg9 (by decide) ([] : List UInt8) (RG.of (RG.ofOwn hnr) T45) T47 (by omega) fun v64 hp65 => (oS rfl (Yk.loadC dwb_ty9 rfl (PR.cell (PR.of hp65 (vr v64 rfl)) (show _ = some (St ((((leftD D fs).map Prod.fst)).getD (j) ([] : List UInt8)) : Value) from rfl)) (oA rfl (oZ ?_)))))
  clear hp65
  refine tN (hK63 _ _ (sk fun K67 hK67 => (wt (oM rfl (oM rfl (oS rfl (Yk.lookMS kStr isStr (fun _ _ => st_inj) dwb_ty52 zFile T5 (vr (St ((((leftD D fs).map Prod.fst)).getD (j) ([] : List UInt8))) rfl) hml (mayD_pos hmj).2 hlk (oA rfl (oZ ?_)))))))))
  have hfi_j0 := hfi
  refine tN (hK67 _ _ (sk fun K68 hK68 => ?_))
  have hx69 : Ext w59 (World.drew w59) := (Below.refl _ _).drew
  have hE := hE.trans hx69
  have hA8 := hA8.trans hx69
  have hml := hml.keep hx69
  have hnr := hnr.keep hx69
  have hbv := eb hx69 hbv
  have hFA : FAt w.heap.size (World.drew w59) vb (fs.drop (j + 1)) := (hFA.keep hx69)
  have hma := hma.keep hx69
  have hfi : FilesAt w.heap.size (World.drew w59) F1 V1 (cutN D fs (leftD D fs) j) := (hfi.keep hx69)
  refine wpF_float [(0, 54, .pointer (some ⟨(H.F k), 0, none⟩)), (1, 55, .pointer (some ⟨(H.F k), 0, none⟩)), (2, 56, .pointer (some ⟨(H.F k), 1, none⟩)), (3, 57, NI ((D.files.getD k ([], 0)).2)), (4, 58, .func (.func 43) #[] #[PQ n2 0]), (5, 59, .pointer (some ⟨(H.F k), 0, none⟩)), (6, 60, .pointer (some ⟨(H.F k), 0, none⟩)), (7, 61, .pointer (some ⟨(H.F k), 0, none⟩)), (8, 62, (H.V k)), (9, 63, NI (((D.files.getD k ([], 0)).1 : List UInt8).length)), (10, 64, .pointer (some ⟨(H.F k), 0, none⟩)), (11, 65, .pointer (some ⟨(H.F k), 0, none⟩)), (12, 66, .pointer (some ⟨(H.F k), 1, none⟩)), (13, 67, NI ((D.files.getD k ([], 0)).2)), (14, 68, NI ((((D.files.getD k ([], 0)).1 : List UInt8).length) - ((D.files.getD k ([], 0)).2)))] [15, 16, 17] (fun wz => Ext w wz ∧ True) (by kernel_rfl) (by kernel_rfl) (by kernel_rfl) ⟨hE, trivial⟩ ⟨fun w70 ⟨hE, _⟩ => Yk.move (vr (.pointer (some ⟨(H.F k), 0, none⟩)) rfl) ⟨rfl, rfl⟩, fun w70 ⟨hE, _⟩ => Yk.nilCheck (vr (.pointer (some ⟨(H.F k), 0, none⟩)) rfl) ⟨rfl, rfl⟩, fun w70 ⟨hE, _⟩ => Yk.fieldAt dwb_fo71_1 (vr (.pointer (some ⟨(H.F k), 0, none⟩)) rfl) ⟨rfl, rfl⟩, fun w70 ⟨hE, _⟩ => Yk.cell1 dwb_ty3 rfl (vr (.pointer (some ⟨(H.F k), 1, none⟩)) rfl) (cellAt (eb hE hfb) (show _ = some (NI ((D.files.getD k ([], 0)).2) : Value) from rfl)) ⟨rfl, rfl⟩, fun w70 ⟨hE, _⟩ => Yk.move T4 ⟨rfl, rfl⟩, fun w70 ⟨hE, _⟩ => Yk.move (vr (.pointer (some ⟨(H.F k), 0, none⟩)) rfl) ⟨rfl, rfl⟩, fun w70 ⟨hE, _⟩ => Yk.nilCheck (vr (.pointer (some ⟨(H.F k), 0, none⟩)) rfl) ⟨rfl, rfl⟩, fun w70 ⟨hE, _⟩ => Yk.fieldAt dwb_fo71_0 (vr (.pointer (some ⟨(H.F k), 0, none⟩)) rfl) ⟨rfl, rfl⟩, fun w70 ⟨hE, _⟩ => Yk.cell1 dwb_ty22 rfl (vr (.pointer (some ⟨(H.F k), 0, none⟩)) rfl) (cellAt (eb hE hfb) (show _ = some ((H.V k) : Value) from rfl)) ⟨rfl, rfl⟩, fun w70 ⟨hE, _⟩ => Yk.lenRB dwb_ty22 (RB.of (hfr.keep hE) (vr (H.V k) rfl)) ⟨rfl, rfl⟩, fun w70 ⟨hE, _⟩ => Yk.move (vr (.pointer (some ⟨(H.F k), 0, none⟩)) rfl) ⟨rfl, rfl⟩, fun w70 ⟨hE, _⟩ => Yk.nilCheck (vr (.pointer (some ⟨(H.F k), 0, none⟩)) rfl) ⟨rfl, rfl⟩, fun w70 ⟨hE, _⟩ => Yk.fieldAt dwb_fo71_1 (vr (.pointer (some ⟨(H.F k), 0, none⟩)) rfl) ⟨rfl, rfl⟩, fun w70 ⟨hE, _⟩ => Yk.cell1 dwb_ty3 rfl (vr (.pointer (some ⟨(H.F k), 1, none⟩)) rfl) (cellAt (eb hE hfb) (show _ = some (NI ((D.files.getD k ([], 0)).2) : Value) from rfl)) ⟨rfl, rfl⟩, fun w70 ⟨hE, _⟩ => Yk.bin (xv := NI (((D.files.getD k ([], 0)).1 : List UInt8).length)) (yv := NI ((D.files.getD k ([], 0)).2)) rfl rfl rfl (i64_sub _ _ _ (by omega) (by omega)) ⟨rfl, rfl⟩, trivial⟩ ?_
  have htb := tag_cells hbv
  refine chF_step rfl (Yk.clo dwb_pl43 (caps := #[PQ n2 0]) (vr (.func (.func 43) #[] #[PQ n2 0]) rfl) #[NI ((((D.files.getD k ([], 0)).1 : List UInt8).length) - ((D.files.getD k ([], 0)).2)), PQ n2 0] (by simp only [List.map_toArray, List.map_cons, List.map_nil, List.append_toArray, List.cons_append, List.nil_append]; exact congrArg List.toArray (list2 (vr (NI ((((D.files.getD k ([], 0)).1 : List UInt8).length) - ((D.files.getD k ([], 0)).2))) rfl) rfl)) ((take_any _ w.heap.size n2 hbfw vb fs (j + 1) hbv hFA ((((D.files.getD k ([], 0)).1 : List UInt8).length) - ((D.files.getD k ([], 0)).2)) (by omega)).mono ?_))
  rintro e w75 ⟨v74, rfl, hb71, hF72, hg73⟩
  refine ⟨_, rfl, ?_⟩
  have hE := row_fresh hE hg73 (Nat.le_trans (Nat.le_refl _) (by omega))
  have hA8 := row_fresh hA8 hg73 (Nat.le_trans (Nat.le_refl _) (by omega))
  have hml := MapF.other hml hg73 (some_ne (by omega))
  have hnr := OG.kept hnr hg73 hnrb
  have hma := MapF.other hma hg73 (some_ne (by omega))
  have hfi : FilesAt w.heap.size w75 F1 V1 (cutN D fs (leftD D fs) j) := FilesAt.setT hfi hg73 htb (by decide) (by decide)
  clear hbv
  clear hFA
  have hbv := hb71; clear hb71
  have hFA := hF72; clear hF72
  have hl76 := bl hbv
  refine ⟨.inr ⟨hE, trivial⟩, ?_⟩
  refine chF_step rfl (Yk.bin (xv := NI ((D.files.getD k ([], 0)).2)) (yv := NI (fateD fs (j + 1) ((((D.files.getD k ([], 0)).1 : List UInt8).length) - ((D.files.getD k ([], 0)).2) + 1))) rfl rfl rfl (i64_add _ _ _ (by have h := (cutD_len hS0.ok fs j k).2; change (cutD D fs j k).2 ≤ (D.files.getD k ([], 0)).1.length at h; show (cutD D fs j k).2 < _; omega)) ?_)
  refine ⟨.inr ⟨hE, trivial⟩, ?_⟩
  refine chF_step rfl (Yk.assign (vr (NI (((D.files.getD k ([], 0)).2) + ((fateD fs (j + 1) ((((D.files.getD k ([], 0)).1 : List UInt8).length) - ((D.files.getD k ([], 0)).2) + 1))))) rfl) ?_)
  refine ⟨.inl rfl, ?_⟩
  refine chF_nil ?_
  have hcut := cutD_len hS0.ok fs j k
  refine tN (hK68 _ _ (wt (oM rfl (oM rfl (oM rfl (oS rfl (Yk.nilCheck (vr (.pointer (some ⟨(H.F k), 0, none⟩)) rfl) (oS rfl (Yk.fieldAt dwb_fo71_0 (vr (.pointer (some ⟨(H.F k), 0, none⟩)) rfl) (oS rfl (Yk.cell1 dwb_ty22 rfl (vr (.pointer (some ⟨(H.F k), 0, none⟩)) rfl) (cellAt (eb hE hfb) (show _ = some ((H.V k) : Value) from rfl)) (oM rfl (oS rfl (Yk.sliceHi (xs := (D.files.getD k ([], 0)).1) (n := ((D.files.getD k ([], 0)).2) + ((fateD fs (j + 1) ((((D.files.getD k ([], 0)).1 : List UInt8).length) - ((D.files.getD k ([], 0)).2) + 1)))) dwb_ty22 dwb_sz5 (vr (H.V k) rfl) (hfr.keep hE) (vr (NI (((D.files.getD k ([], 0)).2) + ((fateD fs (j + 1) ((((D.files.getD k ([], 0)).1 : List UInt8).length) - ((D.files.getD k ([], 0)).2) + 1))))) rfl) (by exact (cutD_len hS0.ok fs j k).2) fun v77 hr78 ha79 => ?_))))))))))))))
  have hfi_c := hfi
  refine oS rfl (Yk.callA1 dwb_pl47 (vr v77 rfl) ((clone_any _ v77 (((D.files.getD k ([], 0)).1 : List UInt8).take (((D.files.getD k ([], 0)).2) + ((fateD fs (j + 1) ((((D.files.getD k ([], 0)).1 : List UInt8).length) - ((D.files.getD k ([], 0)).2) + 1))))) hr78 (by simp only [List.length_take]; omega)).mono ?_))
  rintro e w82 ⟨v80, rfl, hN81⟩
  refine ⟨_, rfl, ?_⟩
  have hA83 := Ext.refl w75
  have hea84 := hE
  have hea85 := hA8
  have hz86 := hE.size
  have hz87 := hA8.size
  have hap88 : OB v80 nl := own_older hN81.own hml.lt
  have hap89 : OB v80 na := own_older hN81.own hma.lt
  have hap90 : OB v80 n2 := own_older hN81.own (bl hbv)
  have hap91 : ApartV vn v80 := apartv_new hnr.2 hN81.own
  have hap92 : ApartV v80 vn := apartv_new' hnr.2 hN81.own
  have hE := hE.trans hN81.ext
  have hA8 := hA8.trans hN81.ext
  have hml := hml.keep hN81.ext
  have hnr := hnr.keep hN81.ext
  have hma := hma.keep hN81.ext
  have hbv := eb hN81.ext hbv
  have hA83 := hA83.trans hN81.ext
  have ho93 := hN81.own; clear hN81
  refine oM rfl ?_
  obtain ⟨ao_, n_, c_, hsl_⟩ : ∃ ao n c, v80 = .slice ao n c := RB.slice (RB.ofOwn ho93)
  refine oS rfl (Yk.build2 (v := .agg ([v80, NI (((D.files.getD k ([], 0)).2) + ((fateD fs (j + 1) ((((D.files.getD k ([], 0)).1 : List UInt8).length) - ((D.files.getD k ([], 0)).2) + 1))))] : List Value).toArray) (vr v80 rfl) (vr (NI (((D.files.getD k ([], 0)).2) + ((fateD fs (j + 1) ((((D.files.getD k ([], 0)).1 : List UInt8).length) - ((D.files.getD k ([], 0)).2) + 1))))) rfl) (fun w => by rw [hsl_]; exact dwb_bf _ _ _ _ w) ?_)
  have hzb := hE.size
  have hfi_j := (hfi.keep hA83)
  refine oS rfl (Yk.box (cs := ([v80, NI ((D.files.getD k ([], 0)).2 + (fateD fs (j + 1) ((D.files.getD k ([], 0)).1.length - (D.files.getD k ([], 0)).2 + 1)))] : List Value).toArray) (vr (.agg ([v80, NI (((D.files.getD k ([], 0)).2) + ((fateD fs (j + 1) ((((D.files.getD k ([], 0)).1 : List UInt8).length) - ((D.files.getD k ([], 0)).2) + 1))))] : List Value).toArray) rfl) fun n94 w95 hn96 hb97 hx98 hs99 => ?_)
  have hA100 := Ext.refl w82
  have hea101 := hE
  have hea102 := hA8
  have hea103 := hA83
  have hz104 := hE.size
  have hz105 := hA8.size
  have hz106 := hA83.size
  have hlt107 := lte hml.lt hn96
  have hlt108 := lte hma.lt hn96
  have hlt109 := lte (bl hbv) hn96
  have hap110 : OB vn n94 := own_newer hnr.2 (by omega)
  have hap111 : OB v80 n94 := own_newer ho93 (by omega)
  have hE := hE.trans hx98
  have hA8 := hA8.trans hx98
  have hml := hml.keep hx98
  have hnr := hnr.keep hx98
  have hma := hma.keep hx98
  have hbv := eb hx98 hbv
  have hA83 := hA83.trans hx98
  have ho93 := Stab.own _ _ _ _ _ _ _ _ ho93 hx98
  have hA100 := hA100.trans hx98
  have hb112 := hb97; clear hb97
  have hl113 : n94 < w95.heap.size := by omega
  have hgfw : w.heap.size ≤ n94 := by omega
  have hmc := MapF.congr (ev' := pF (updF F1 j n94)) hma (fun a y hy => by show PQ (updF _ _ _ _) 0 = _; rw [updF_lt _ _ (numN_lt hy)])
  have htm := MapF.tag hmc
  have hfi2 : FilesAt w.heap.size w95 (updF F1 j n94) (updF V1 j v80) (cutN D fs (leftD D fs) (j + 1)) := by
    have hl := cutN_len D fs (leftD D fs) hj
    have h := FilesAt.snoc (hfi.keep hA83) (f := n94) (v := v80) (x := cutD D fs j ((leftD D fs).getD j ([], 0)).2) ⟨by rw [← hk]; exact hb112, by rw [← hk]; exact ownsRow_base ho93 (by omega), hgfw⟩ (fun q hq e => by have := (bl (hfi_j.at_ q hq).blk); rw [e] at this; exact absurd this (by omega)) (fun q hq i hi e => by have h1 := ((hfi_c.at_ q hq).row.lt i hi).2; have h2 := (World.ownsRow.lt ho93 i e).1; omega)
    rw [hl] at h
    rw [cutN_succ hlt]
    exact h
  refine oS rfl (Yk.putM (ev := pF (updF F1 j n94)) (c := j) kStr isStr dwb_ty52 T8 (vr (St ((((leftD D fs).map Prod.fst)).getD (j) ([] : List UInt8))) rfl) (Eq.trans ((vr (PQ n94 0) rfl)) (by show _ = PQ (updF F1 j n94 j) 0; rw [updF_eq])) hmc (mayD_pos hmj).2 fun w114 hM115 hg116 hs117 => ?_)
  have hFA := (hFA.keep hA83)
  have hfi := hfi2
  have hE := row_fresh hE hg116 (Nat.le_trans (Nat.le_refl _) (by omega))
  have hA8 := row_fresh hA8 hg116 (Nat.le_trans (Nat.le_refl _) (by omega))
  have hml := MapF.other hml hg116 (some_ne (by omega))
  have hnr := OG.kept hnr hg116 hnra
  have hfi : FilesAt w.heap.size w114 (updF F1 j n94) (updF V1 j v80) (cutN D fs (leftD D fs) (j + 1)) := FilesAt.setT hfi hg116 htm (by decide) (by decide)
  have hbv := kb hg116 hbv (by omega)
  have hFA : FAt w.heap.size w114 v74 (fs.drop (j + 1 + 1)) := FAt.set hFA hg116 (by omega)
  clear hA83
  have ho93 := own_kept ho93 hg116 hap89
  clear hA100
  have hb112 := kb hg116 hb112 (by omega)
  clear hma
  have hma := hM115
  rw [hnm, numN_fun hLs hlt] at hma
  refine oZ (bN (tN (hK62 _ _ (wt (oS rfl (Yk.bin (xv := NI j) (yv := NI 1) T47 rfl rfl (i64_add _ _ _ (by omega)) (oM rfl (oL_ [(0, PQ H.g 0), (1, vf), (3, PQ n2 0), (4, .func (.func 43) #[] #[PQ n2 0]), (5, .map (some nl)), (8, .map (some na)), (10, St ((((leftD D fs).map Prod.fst)).getD (j) ([] : List UInt8))), (11, .pointer (some ⟨(H.F k), 0, none⟩)), (12, NI (((D.files.getD k ([], 0)).2) + ((fateD fs (j + 1) ((((D.files.getD k ([], 0)).1 : List UInt8).length) - ((D.files.getD k ([], 0)).2) + 1))))), (14, .bool (false)), (32, v31), (33, NI (((vs.take (fateD fs (0) (vs.length + 1)))).length)), (34, NI i), (45, vn), (46, NI ((((leftD D fs).map Prod.fst)).length)), (47, NI ((j) + (1)))] ⟨T0, T1, T3, T4, T5, T8, rfl, rfl, rfl, T14, T32, T33, T34, T45, T46, rfl, trivial⟩ fun ρ118 ⟨T0, T1, T3, T4, T5, T8, T10, T11, T12, T14, T32, T33, T34, T45, T46, T47, _⟩ => (tN (And.intro ⟨j + 1, v74, (updF F1 j n94), (updF V1 j v80), T0, T1, T3, T4, T5, T8, T14, T32, T33, T34, T45, T46, T47, hE, hA8, hml, hnr, hbv, hFA, hma, hfi, by omega, trivial⟩ ?_))))))))))
  show (leftD D fs).length - (intOf (ρ118 47)).toNat < (leftD D fs).length - (intOf (ρ58 47)).toNat
  rw [T47, q47]
  simp only [intOf, Int.toNat_natCast]; omega
 have hje : j = (leftD D fs).length := by have h := hc2; rw [List.length_map] at h; omega
 rw [hje] at hma hfi
 have hb17 := (eb hE hb)
 have hgl17 := (bl hb17)
 refine wpF_exit (thenF_exit (thenF_exit (inBlockF_hit (tN (hK52 _ _ (sk fun K119 hK119 => (wt (oM rfl (oM rfl (oM rfl (oM rfl (oM rfl ?_))))))))))))
 have hz17 := hE.size
 have hnal17 := MapF.lt hma
 refine oS rfl (Yk.callA1 dwb_pl44 T8 ((clone_map _ hma).mono ?_))
 rintro e w121 ⟨nb, rfl, hnbl, hmb17, hx120⟩
 refine ⟨_, rfl, ?_⟩
 have hE := hE.trans hx120
 have hA8 := hA8.trans hx120
 have hml := hml.keep hx120
 have hnr := hnr.keep hx120
 have hbv := eb hx120 hbv
 have hFA : FAt w.heap.size w121 vb (fs.drop (j + 1)) := (hFA.keep hx120)
 have hma := hma.keep hx120
 have hfi : FilesAt w.heap.size w121 F1 V1 (cutN D fs (leftD D fs) (leftD D fs).length) := (hfi.keep hx120)
 have hb17 := eb hx120 hb17
 have hfi17 := hfi
 have hma17 := hma
 have hhE17 := hE
 have htd17 := tag_cells hb17
 have hnbw : w.heap.size ≤ nb := by omega
 have hnabn : na ≠ nb := by omega
 have hgnb : H.g ≠ nb := by omega
 have hC2 : Chg (fun i => i = H.g) w121 w121 := Chg.refl _ _
 refine oS rfl (Yk.nilCheck T0 (oS rfl (Yk.fieldAt dwb_fo55_1 (vr (PQ H.g 0) rfl) (oS rfl (Yk.storeC (i := 1) (v := .map (some na)) (vr (PQ H.g 1) rfl) T8 hb17 (Nat.le_of_ble_eq_true rfl) dwb_isz52 rfl rfl fun w122 hb123 hg124 hs125 => ?_)))))
 clear hA8
 clear hnr
 have hbv := kb hg124 hbv (by omega)
 have hC2 : Chg (fun i => i = H.g) w121 w122 := Chg.set hC2 hg124 (.inl rfl)
 clear hb17
 have hb17 := hb123; clear hb123
 have hl126 := bl hb17
 refine oS rfl (Yk.nilCheck T0 (oS rfl (Yk.fieldAt dwb_fo55_2 (vr (PQ H.g 0) rfl) (oS rfl (Yk.storeC (i := 2) (v := .map (some nb)) (vr (PQ H.g 2) rfl) (vr (.map (some nb)) rfl) hb17 (Nat.le_of_ble_eq_true rfl) dwb_isz52 rfl rfl fun w127 hb128 hg129 hs130 => ?_)))))
 have hbv := kb hg129 hbv (by omega)
 have hC2 : Chg (fun i => i = H.g) w121 w127 := Chg.set hC2 hg129 (.inl rfl)
 clear hb17
 have hb17 := hb128; clear hb128
 have hl131 := bl hb17
 refine oS rfl (Yk.nilCheck T0 (oS rfl (Yk.fieldAt dwb_fo55_3 (vr (PQ H.g 0) rfl) (oS rfl (Yk.storeC (i := 3) (v := (Value.slice none 0 0)) (vr (PQ H.g 3) rfl) (vr (Value.slice none 0 0) rfl) hb17 (Nat.le_of_ble_eq_true rfl) dwb_isz53 rfl rfl fun w132 hb133 hg134 hs135 => ?_)))))
 have hbv := kb hg134 hbv (by omega)
 have hC2 : Chg (fun i => i = H.g) w121 w132 := Chg.set hC2 hg134 (.inl rfl)
 clear hb17
 have hb17 := hb133; clear hb133
 have hl136 := bl hb17
 refine oZ (tN (hK119 _ _ (wt (oM rfl (oM rfl (oS rfl (Yk.nilCheck T0 (oS rfl (Yk.fieldAt dwb_fo55_5 (vr (PQ H.g 0) rfl) (oS rfl (Yk.storeC (i := 5) (v := NI 0) (vr (PQ H.g 5) rfl) (vr (NI 0) rfl) hb17 (Nat.le_of_ble_eq_true rfl) dwb_isz3 rfl rfl fun w137 hb138 hg139 hs140 => ?_)))))))))))
 have hbv := kb hg139 hbv (by omega)
 have hC2 : Chg (fun i => i = H.g) w121 w137 := Chg.set hC2 hg139 (.inl rfl)
 clear hb17
 have hb17 := hb138; clear hb138
 have hl141 := bl hb17
 refine oS rfl (Yk.nilCheck T0 (oS rfl (Yk.fieldAt dwb_fo55_6 (vr (PQ H.g 0) rfl) (oS rfl (Yk.storeC (i := 6) (v := .bool (false)) (vr (PQ H.g 6) rfl) (vr (.bool (false)) rfl) hb17 (Nat.le_of_ble_eq_true rfl) dwb_isz4 rfl rfl fun w142 hb143 hg144 hs145 => ?_)))))
 have hbv := kb hg144 hbv (by omega)
 have hC2 : Chg (fun i => i = H.g) w121 w142 := Chg.set hC2 hg144 (.inl rfl)
 clear hb17
 have hb17 := hb143; clear hb143
 have hl146 := bl hb17
 refine oZ (postF_end (fn := Tryd.f19) [] rfl [] (.tuple #[]) rfl trivial ?_)
 have hCt := (Chg.ofExt hhE17 : Chg (fun i => i = H.g) w _).trans hC2 (fun i e => .inl e)
 have hTf := hS0.crashed (l := fs) hE00.size hCt hb17 (hma17.chg hC2 (fun e => hnag e)) (hmb17.chg hC2 (fun e => hgnb e.symm)) hnabn hnaw hnbw (hfi17.chg hC2 (fun k hk => ⟨fun e => tag_ne (tag_cells (hfi17.at_ k hk).blk) htd17 (by decide) e, fun i hi e => tag_ne (tag_own (hfi17.at_ k hk).row hi) htd17 (by decide) e⟩))
 exact ⟨_, rfl, hTf⟩
abbrev Bs := List UInt8
open Go.RowKit
set_option maxRecDepth 100000
theorem take1 {l : List Value} {n : Nat} {v : Value} (h : l[n]? = some v) : (l.drop n).take 1 = [v] := by
  obtain ⟨hn, e⟩ := List.getElem?_eq_some_iff.1 h
  rw [List.drop_eq_getElem_cons hn, e]
  rfl
theorem PR.pcell {c v : Value} {w : World} (h : PR [c] v w) : PCell c v w := by
  obtain ⟨b, o, rfl, h⟩ := h
  exact ⟨_, rfl, h 0 c rfl⟩
open Go.RowKit
set_option linter.unusedVariables false
structure DBd (n : Nat) (D : Dsk) : Prop where
  quota : D.quota ≤ 1073741824
  refused : D.refused ≤ n
  arm : D.arm ≤ 9223372036854775807
  acts : D.kept.length + D.acts.length ≤ n
  now : D.now.length ≤ n
  files : ∀ x ∈ D.files, x.1.length ≤ 300 * n
theorem DBd.file {n : Nat} {D : Dsk} (h : DBd n D) (k : Nat) : (fileD D k).1.length ≤ 300 * n := by
  by_cases hk : k < D.files.length
  · exact h.files _ (fileD_mem hk)
  · unfold fileD
    rw [List.getD_eq_getElem?_getD, List.getElem?_eq_none (by omega)]
    exact Nat.zero_le _
theorem sum_le_mul {l : List Nat} {m : Nat} (h : ∀ x ∈ l, x ≤ m) : l.sum ≤ l.length * m := by
  induction l with
  | nil => simp
  | cons a r ih =>
    have h1 := h a List.mem_cons_self
    have h2 := ih fun x hx => h x (List.mem_cons_of_mem _ hx)
    rw [List.sum_cons, List.length_cons, Nat.succ_mul]
    omega
theorem DBd.used {n : Nat} {D : Dsk} (h : DBd n D) : usedD D ≤ n * (300 * n) := by
  unfold usedD
  have h1 := sum_le_mul (l := D.now.map fun e => (fileD D e.2).1.length) (m := 300 * n) fun x hx => by
    obtain ⟨e, _, rfl⟩ := List.mem_map.1 hx
    exact h.file e.2
  rw [List.length_map] at h1
  exact Nat.le_trans h1 (Nat.mul_le_mul_right _ h.now)
theorem DBd.lt {n : Nat} {D : Dsk} (h : DBd n D) (hn : n ≤ 100000) : DLt D := by
  have h1 := h.used
  have h2 : n * (300 * n) ≤ 100000 * (300 * 100000) := Nat.mul_le_mul hn (Nat.mul_le_mul_left _ hn)
  have h3 := h.acts
  have h4 := h.now
  have h5 := h.refused
  have h6 := h.arm
  exact ⟨h.quota, by omega, by omega, by omega, by omega, by omega, by omega, fun x hx => by have := h.files x hx; omega⟩
theorem DBd.mono {n m : Nat} {D : Dsk} (h : DBd n D) (hn : n ≤ m) : DBd m D :=
  ⟨h.quota, Nat.le_trans h.refused hn, h.arm, Nat.le_trans h.acts hn, Nat.le_trans h.now hn, fun x hx => Nat.le_trans (h.files x hx) (Nat.mul_le_mul_left _ hn)⟩
theorem DBd.new {q : Nat} (hq : q ≤ 1073741824) : DBd 0 (newD q) := ⟨hq, Nat.le_refl _, Nat.zero_le _, Nat.le_refl _, Nat.le_refl _, fun x h => by cases h⟩
theorem DBd.armed {n : Nat} {D : Dsk} (h : DBd n D) : DBd n (armD D).1 := by
  unfold armD
  split
  · exact h
  · have := h.arm
    exact ⟨h.quota, h.refused, by show D.arm - 1 ≤ _; omega, h.acts, h.now, h.files⟩
theorem DBd.turned {n : Nat} {D : Dsk} (h : DBd n D) (a : ActD) : DBd (n + 1) (turnedD D a) := by
  have h1 := turn_len D.now a
  have h2 := h.acts
  have h3 := h.now
  refine ⟨h.quota, Nat.le_succ_of_le h.refused, h.arm, ?_, ?_, fun x hx => Nat.le_trans (h.files x hx) (Nat.mul_le_mul_left _ (Nat.le_succ n))⟩
  · show D.kept.length + (D.acts ++ [a]).length ≤ n + 1
    rw [List.length_append, List.length_singleton]
    omega
  · show (turnD D.now a).length ≤ n + 1
    omega
theorem DBd.add {n : Nat} {D : Dsk} (h : DBd n D) (s : List UInt8) {b : List UInt8} (hb : b.length ≤ 300) : DBd (n + 1) (addD D s b) := by
  unfold addD
  split
  · rename_i k _
    refine ⟨h.quota, Nat.le_succ_of_le h.refused, h.arm, Nat.le_succ_of_le h.acts, Nat.le_succ_of_le h.now, fun x hx => ?_⟩
    rcases List.mem_or_eq_of_mem_set hx with hx | rfl
    · have := h.files x hx
      omega
    · have := h.file k
      show ((fileD D k).1 ++ b).length ≤ _
      rw [List.length_append]
      omega
  · have h1 := h.turned ⟨[], s, D.files.length⟩
    refine ⟨h1.quota, h1.refused, h1.arm, h1.acts, h1.now, fun x hx => ?_⟩
    rcases List.mem_append.1 hx with hx | hx
    · have := h.files x hx
      omega
    · rw [List.mem_singleton.1 hx]
      show b.length ≤ _
      omega
theorem DBd.did {n : Nat} {D : Dsk} (h : DBd n D) {f : Dsk → Dsk} (hf : ∀ E, DBd n E → DBd (n + 1) (f E)) : DBd (n + 1) (doD D f).1 := by
  unfold doD
  split
  · exact h.armed.mono (Nat.le_succ n)
  · exact hf _ h.armed
theorem DBd.append {n : Nat} {D : Dsk} (h : DBd n D) (s : List UInt8) {b : List UInt8} (hb : b.length ≤ 300) : DBd (n + 1) (appendD D s b).1 := by
  unfold appendD
  split
  · exact h.mono (Nat.le_succ n)
  · split
    · exact ⟨h.quota, Nat.succ_le_succ h.refused, h.arm, Nat.le_succ_of_le h.acts, Nat.le_succ_of_le h.now, fun x hx => Nat.le_trans (h.files x hx) (Nat.mul_le_mul_left _ (Nat.le_succ n))⟩
    · exact h.did (f := fun d => addD d s b) fun E hE => hE.add s hb
theorem DBd.sync {n : Nat} {D : Dsk} (h : DBd n D) (s : List UInt8) : DBd (n + 1) (syncD D s).1 := by
  unfold syncD
  split
  · exact h.mono (Nat.le_succ n)
  · rename_i k _
    refine h.did fun E hE => ⟨hE.quota, Nat.le_succ_of_le hE.refused, hE.arm, ?_, Nat.le_succ_of_le hE.now, fun x hx => ?_⟩
    · have := hE.now
      show E.now.length + 0 ≤ _
      omega
    · rcases List.mem_or_eq_of_mem_set hx with hx | rfl
      · have := hE.files x hx
        omega
      · have := hE.file k
        show (fileD E k).1.length ≤ _
        omega
theorem DBd.drop {n : Nat} {D : Dsk} (h : DBd n D) (s : List UInt8) : DBd (n + 1) (dropD D s).1 := by
  unfold dropD
  split
  · exact h.mono (Nat.le_succ n)
  · exact h.did fun E hE => hE.turned _
section
variable {base : Nat} {w w' wb : World} {g : Nat} {H H' : Dk} {D D' : Dsk}
theorem DkS.low (h : DkS base w H D) {b' : Nat} (hb : b' ≤ base) : DkS b' w H D := by
  obtain ⟨vs, hv⟩ := h.acts
  exact ⟨h.blk, h.now, h.kept, h.ne, ⟨vs, ownsRow_base hv.row hb, hv.len, hv.at_⟩, h.files.low hb, h.ok, ⟨Nat.le_trans hb h.lo.1, Nat.le_trans hb h.lo.2.1, Nat.le_trans hb h.lo.2.2⟩⟩
structure DkG (wb w : World) (g : Nat) (H : Dk) (D : Dsk) : Prop where
  ext : Ext wb w
  st : DkS wb.heap.size w H D
  hg : H.g = g
theorem DkG.keep (h : DkG wb w g H D) (k : Ext w w') : DkG wb w' g H D := ⟨h.ext.trans k, h.st.keep k, h.hg⟩
theorem DkG.step (h : DkG wb w g H D) (k : DkT wb.heap.size w H D w' H' D') : DkG wb w' g H' D' := ⟨k.chg.ext h.ext (fun i q => (h.st.foot q).2.2), k.st, k.g.trans h.hg⟩
theorem rb_own {v : Value} {l : List UInt8} (h : RB w v l) : l = [] ∨ ∃ b, v.ownBlock = some b ∧ b < w.heap.size := by
  cases l with
  | nil => exact .inl rfl
  | cons x r =>
    obtain ⟨h1, ao, cap, rfl, h2, h3, h4, h5⟩ := id h
    cases ao with
    | none => exact absurd (h4 rfl).1 (by simp)
    | some a =>
      have hc := h5 a rfl 0 _ (show _ = some (B8 x) from rfl)
      have hl := World.block_lt_of_cell? w _ hc
      refine .inr ⟨a.block, rfl, ?_⟩
      have e : (a.add 0).block = a.block := by unfold Addr.add; split <;> rfl
      rwa [e] at hl
theorem DkG.off (h : DkG wb w g H D) {v : Value} {l : List UInt8} (hr : RB wb v l) : l = [] ∨ ∀ i, v.ownBlock = some i → ¬ Foot H D.files.length i := by
  refine (rb_own hr).imp id fun ⟨b, hb, hl⟩ i hi q => ?_
  have := (h.st.foot q).2.2
  rw [hb] at hi
  cases hi
  omega
theorem DkG.box (h : DkG wb w g H D) (hc : Chg (Foot H D.files.length) w w') {b : Nat} {cs : Array Value} {t : TypeId} {fr : Nat × Nat} (hb : w.heap[b]? = some (.cells cs t fr)) (h1 : t ≠ 55) (h2 : t ≠ 71) (h3 : t ≠ 5) (h4 : t ≠ 73) : w'.heap[b]? = some (.cells cs t fr) :=
  (hc.blk b (bl hb) (h.st.offT hb h1 h2 h3 h4)).trans hb
theorem DkG.arm (h : DkG wb w g H D) (n : Int) :
    Calls Tryd.prog 20 #[PQ g 0, .int .i64 n] w fun e w' => ∃ H', e = .returned (.tuple #[]) ∧ DkG wb w' g H' { D with arm := n.toNat } ∧ Chg (Foot H D.files.length) w w' := by
  rw [← h.hg]
  exact (arm_at wb w h.ext H D h.st n).mono fun e w' ⟨he, hT⟩ => ⟨H, he, by rw [h.hg]; exact h.step hT, hT.chg⟩
theorem DkG.crash (h : DkG wb w g H D) (vf : Value) (fs : List Int) (hrf : RG 1 enI w vf fs) (hL : DLt D) :
    Calls Tryd.prog 19 #[PQ g 0, vf] w fun e w' => ∃ H', e = .returned (.tuple #[]) ∧ DkG wb w' g H' (crashD D fs) ∧ Chg (Foot H D.files.length) w w' := by
  rw [← h.hg]
  exact (crash_at wb w h.ext H D h.st vf fs hrf hL).mono fun e w' ⟨H', he, hT⟩ => ⟨H', he, by rw [h.hg]; exact h.step hT, hT.chg⟩
theorem DkG.read (h : DkG wb w g H D) (s : List UInt8) (hL : DLt D) :
    Calls Tryd.prog 23 #[PQ g 0, St s] w fun e w' => ∃ v, e = .returned (.tuple #[v, NI (readD D s).2]) ∧ w'.ownsRow w.heap.size 5 1 v (readD D s).1.length (Lib.byteCells (readD D s).1) ∧ Ext w w' := by
  rw [← h.hg]
  exact read_at wb w H D h.st s hL
theorem DkG.list (h : DkG wb w g H D) (hL : DLt D) :
    Calls Tryd.prog 32 #[PQ g 0] w fun e w' => ∃ v, e = .returned v ∧ OG w.heap.size 9 1 enS w' v (listD D) ∧ Ext w w' := by
  rw [← h.hg]
  exact list_at _ w H D h.st hL.now
theorem DkG.down (h : DkG wb w g H D) :
    Calls Tryd.prog 18 #[PQ g 0] w fun e w' => e = .returned (.bool D.down) ∧ Ext w w' := by
  rw [← h.hg]
  exact tdown_at _ w H D h.st
theorem new_g (wb w : World) (hE : Ext wb w) (q : Nat) (hq : q ≤ 1073741824) :
    Calls Tryd.prog 6 #[NI q] w fun e w' => ∃ g H, e = .returned (PQ g 0) ∧ DkG wb w' g H (newD q) ∧ Ext w w' :=
  (new_ok w q hq).mono fun e w' ⟨H, he, hS, hx⟩ => ⟨H.g, H, he, ⟨hE.trans hx, hS.low hE.size, rfl⟩, hx⟩
end
open Go.RowKit
set_option linter.unusedVariables false
section
variable {base : Nat} {w w' wb : World} {g : Nat} {H H' : Dk} {D D' : Dsk}
structure DkW (wb w : World) (g : Nat) (H : Dk) (D : Dsk) (w' : World) (H' : Dk) (D' : Dsk) : Prop where
  g : DkG wb w' g H' D'
  chg : Chg (Foot H D.files.length) w w'
  foot : ∀ i, Foot H' D'.files.length i → Foot H D.files.length i ∨ w.heap.size ≤ i
theorem DkG.stepW (h : DkG wb w g H D) (k : DkT wb.heap.size w H D w' H' D') : DkW wb w g H D w' H' D' := ⟨h.step k, k.chg, k.foot⟩
theorem DkG.appendW (h : DkG wb w g H D) (s : List UInt8) (vb : Value) (b : List UInt8) (hrb : RB w vb b) (hoff : b = [] ∨ ∀ i, vb.ownBlock = some i → ¬ Foot H D.files.length i) (hbl : b.length < 1099511627776) (hL : DLt D) :
    Calls Tryd.prog 12 #[PQ g 0, St s, vb] w fun e w' => ∃ H', e = .returned (NI (appendD D s b).2) ∧ DkW wb w g H D w' H' (appendD D s b).1 := by
  rw [← h.hg]
  exact (append_at wb w h.ext H D h.st s vb b hrb hoff hbl hL).mono fun e w' ⟨H', he, hT⟩ => ⟨H', he, by rw [h.hg]; exact h.stepW hT⟩
theorem DkG.syncW (h : DkG wb w g H D) (s : List UInt8) (hL : DLt D) :
    Calls Tryd.prog 25 #[PQ g 0, St s] w fun e w' => ∃ H', e = .returned (NI (syncD D s).2) ∧ DkW wb w g H D w' H' (syncD D s).1 := by
  rw [← h.hg]
  exact (sync_at wb w h.ext H D h.st s hL).mono fun e w' ⟨H', he, hT⟩ => ⟨H', he, by rw [h.hg]; exact h.stepW hT⟩
theorem DkG.dropW (h : DkG wb w g H D) (s : List UInt8) (hL : DLt D) :
    Calls Tryd.prog 26 #[PQ g 0, St s] w fun e w' => ∃ H', e = .returned (NI (dropD D s).2) ∧ DkW wb w g H D w' H' (dropD D s).1 := by
  rw [← h.hg]
  exact (drop_at wb w h.ext H D h.st s hL).mono fun e w' ⟨H', he, hT⟩ => ⟨H', he, by rw [h.hg]; exact h.stepW hT⟩
theorem ActAt.setT {F : Nat → Nat} {v : Value} {a : ActD} {g : Nat} {cs : Array Value} {t : TypeId} {fr : Nat × Nat} (h : ActAt w F v a) (hc : Chg (fun i => i = g) w w') (hb : w.heap[g]? = some (.cells cs t fr)) (h1 : t ≠ 69) (h2 : t ≠ 9) : ActAt w' F v a := by
  have k : ∀ {b : Nat} {cs' : Array Value} {t' : TypeId} {fr' : Nat × Nat}, w.heap[b]? = some (.cells cs' t' fr') → t' ≠ t → w'.heap[b]? = some (.cells cs' t' fr') := fun e hne => (hc.blk _ (bl e) fun q => by rw [q, hb] at e; cases e; exact hne rfl).trans e
  rcases h with ⟨bf, bn, e, q1, q2, q3, q4⟩ | ⟨hm, bs, bf, bn, e, q1, q2, q3, q4⟩ | ⟨bn, e, q1, q2⟩
  · exact .inl ⟨bf, bn, e, k q1 (Ne.symm h1), k q2 (Ne.symm h2), q3, q4⟩
  · exact .inr (.inl ⟨hm, bs, bf, bn, e, k q1 (Ne.symm h2), k q2 (Ne.symm h1), k q3 (Ne.symm h2), q4⟩)
  · exact .inr (.inr ⟨bn, e, k q1 (Ne.symm h2), q2⟩)
theorem DkS.setT (h : DkS base w H D) {g : Nat} {cs : Array Value} {t : TypeId} {fr : Nat × Nat} (hg : w.grownBy w' (some g)) (hb : w.heap[g]? = some (.cells cs t fr)) (h1 : t ≠ 55) (h2 : t ≠ 71) (h3 : t ≠ 5) (h4 : t ≠ 73) (h5 : t ≠ 69) (h6 : t ≠ 9) : DkS base w' H D := by
  have hc : Chg (fun i => i = g) w w' := Chg.ofGrown hg fun i e => .inl (Option.some.inj e).symm
  have hB : ∀ i, Foot H D.files.length i → ¬ i = g := fun i q e => h.offT hb h1 h2 h3 h4 (e ▸ q)
  obtain ⟨vs, hv⟩ := h.acts
  exact ⟨(hc.blk _ (bl h.blk) (hB _ (.inl rfl))).trans h.blk, h.now.chg hc (hB _ (.inr (.inl rfl))), h.kept.chg hc (hB _ (.inr (.inr (.inl rfl)))), h.ne,
    ⟨vs, ownsRow_chg hc hv.row (fun i hi => hB i (.inr (.inr (.inr (.inl hi))))), hv.len, fun i hi => (hv.at_ i hi).setT hc hb h5 h6⟩,
    h.files.chg hc (fun k hk => ⟨hB _ (.inr (.inr (.inr (.inr ⟨k, hk, .inl rfl⟩)))), fun i hi => hB i (.inr (.inr (.inr (.inr ⟨k, hk, .inr hi⟩))))⟩), h.ok, h.lo⟩
theorem DkG.setT (h : DkG wb w g H D) {b : Nat} {cs : Array Value} {t : TypeId} {fr : Nat × Nat} (hg : w.grownBy w' (some b)) (hb : w.heap[b]? = some (.cells cs t fr)) (hw : wb.heap.size ≤ b) (h1 : t ≠ 55) (h2 : t ≠ 71) (h3 : t ≠ 5) (h4 : t ≠ 73) (h5 : t ≠ 69) (h6 : t ≠ 9) : DkG wb w' g H D :=
  ⟨(show Chg (fun i => i = b) w w' from Chg.ofGrown hg fun i e => .inl (Option.some.inj e).symm).ext h.ext (fun i q => by have q : i = b := q; omega), h.st.setT hg hb h1 h2 h3 h4 h5 h6, h.hg⟩
end
open Go.RowKit
def BAt (w w0 : World) (b : Nat) (l : List UInt8) : Prop := w0.heap.size ≤ b ∧ ∃ p v, (p = .pointer none ∨ p = .pointer (some ⟨b, 0, none⟩)) ∧ w.heap[b]? = some (.cells ([p, v] : List Value).toArray 107 (0, 0)) ∧ w.ownsRow w0.heap.size 5 1 v l.length (Lib.byteCells l) ∧ v.ownBlock ≠ some b
theorem BAt.fresh {w w0 : World} {b : Nat} (h0 : w0.heap.size ≤ b) (h : w.heap[b]? = some (.cells ([.pointer none, (.slice none 0 0)] : List Value).toArray 107 (0, 0))) : BAt w w0 b [] :=
  ⟨h0, _, _, .inl rfl, h, World.ownsRow_nil w _ _ 1, by simp [Value.ownBlock]⟩
theorem BAt.lib {w w0 : World} {b : Nat} {l : List UInt8} (h : BAt w w0 b l) : Lib.IsBuilder 107 5 w0.heap.size b (Lib.byteCells l) w := by
  obtain ⟨h0, p, v, h1, h2, h3, h4⟩ := h
  have h3' : w.ownsRow w0.heap.size 5 1 v (Lib.byteCells l).length (Lib.byteCells l) := by rw [Lib.byteCells_length]; exact h3
  rcases h1 with rfl | rfl
  · exact .inl ⟨h0, v, h2, h3', h4⟩
  · exact .inr ⟨h0, v, h2, h3', h4⟩
section
variable {P : Program} {K : Value → World → Prop} {ρ : Slots} {w : World} {d : Option Tmp} {ty : TypeId} {pos : String} {af : Array Edge} {gd : Option (Nat × Bool)}
theorem info_of {t n : Nat} (hi : (P.info? t).map (·.size) = some n) : ∃ j, P.info? t = some j ∧ j.size = n := by
  cases h : P.info? t with
  | none => simp [h] at hi
  | some j => exact ⟨j, rfl, by simpa [h] using hi⟩
theorem Yk.toUnsafe {src dst t e : TypeId} {n : Nat} (hs : P.underlying src = some (.pointer t)) (hd : P.underlying dst = some .unsafePointer) (hi : (P.info? t).map (·.size) = some n) (hn : n ≠ 0) {x : Operand} {b o : Nat} {cs : Array Value} {fr : Nat × Nat} (hx : evalR ρ x = .pointer (some ⟨b, o, none⟩)) (hb : w.heap[b]? = some (.cells cs e fr)) (ho : o < cs.size)
    (hk : K (.pointer (some ⟨b, o, none⟩)) w) : Yk P K ((execOp (evalR ρ) ⟨d, .convert src dst x, ty, pos, af, gd⟩).run P w) := by
  obtain ⟨j, h1, h2⟩ := info_of hi
  have hr := Lib.run_to_unsafe (P := P) w (⟨b, o, none⟩ : Addr) hs hd h1 (by omega) (by show w.shape? b = _; unfold World.shape?; rw [hb]) ho
  refine Yk.value (v := .pointer (some ⟨b, o, none⟩)) (w' := w) ?_ hk
  unfold execOp
  simp only [hx, hr, Sem.run_bind, Sem.run_pure, Result.andThen_ok]
theorem Yk.fromUnsafe {src dst u e : TypeId} {n m : Nat} (hs : P.underlying src = some .unsafePointer) (hd : P.underlying dst = some (.pointer u)) (hi : (P.info? u).map (·.size) = some n) {x : Operand} {b o : Nat} {cs : Array Value} {fr : Nat × Nat} (hx : evalR ρ x = .pointer (some ⟨b, o, none⟩)) (hb : w.heap[b]? = some (.cells cs e fr)) (hm : cs.size = m) (hl : liesAt P P.depth e (m / P.cellsOf e) o u 1 = true)
    (hk : K (.pointer (some ⟨b, o, none⟩)) w) : Yk P K ((execOp (evalR ρ) ⟨d, .convert src dst x, ty, pos, af, gd⟩).run P w) := by
  obtain ⟨j, h1, h2⟩ := info_of hi
  have hr := Lib.run_from_unsafe (P := P) w (cells := m) (⟨b, o, none⟩ : Addr) hs hd h1 (by show w.shape? b = _; unfold World.shape?; rw [hb]; simp [hm]) hl
  refine Yk.value (v := .pointer (some ⟨b, o, none⟩)) (w' := w) ?_ hk
  unfold execOp
  simp only [hx, hr, Sem.run_bind, Sem.run_pure, Result.andThen_ok]
theorem Yk.neqSame {t e ty2 : TypeId} {n : Nat} (ht : P.underlying t = some (.pointer e)) (hi : (P.info? e).map (·.size) = some n) {x y : Operand} {a : Addr} (hx : evalR ρ x = .pointer (some a)) (hy : evalR ρ y = .pointer (some a)) (hk : K (.bool false) w) : Yk P K ((execOp (evalR ρ) ⟨d, .binOp .neq t x y ty2, ty, pos, af, gd⟩).run P w) := by
  obtain ⟨j, h1, h2⟩ := info_of hi
  have hr := Lib.run_neq_ptr_same (P := P) w a ht h1
  refine Yk.value (v := .bool false) (w' := w) ?_ hk
  unfold execOp
  simp only [hx, hy]
  simp [eqGuard, hr]
end
open Go.RowKit
set_option maxRecDepth 100000
theorem leb6_tyU132 : Tryd.prog.underlying 132 = some .unsafePointer := by kernel_rfl
theorem leb6_ne (a : Option Addr) (w : World) : (callFunc 92 #[.pointer a]).run Tryd.prog w = .ok (.value (.pointer a)) w := by kernel_rfl
theorem leb6_li : liesAt Tryd.prog Tryd.prog.depth 107 (2 / Tryd.prog.cellsOf 107) 0 107 1 = true := by kernel_rfl
theorem leb6_fo107_0 : FieldOff Tryd.prog 107 0 0 := fun b o w => by simp [go_sem]
theorem leb6_ty105 : Tryd.prog.underlying 105 = some (.pointer 107) := by kernel_rfl
theorem leb6_isz107 : (Tryd.prog.info? 107).map (·.size) = some 2 := by kernel_rfl
theorem leb6_isz105 : (Tryd.prog.info? 105).map (·.size) = some 1 := by kernel_rfl
theorem leb6_pl77 : Plain Tryd.prog 77 := fun _ _ => by kernel_rfl
theorem leb6_fo107_1 : FieldOff Tryd.prog 107 1 1 := fun b o w => by simp [go_sem]
theorem leb6_ty22 : Tryd.prog.underlying 22 = some (.slice 5) := by kernel_rfl
theorem leb6_l1_22 (z : Int) (w : World) : (Instr.buildSlice 22 1 #[(0, .int .u8 z)]).run Tryd.prog w = .ok (.slice (some ⟨w.heap.size, 0, none⟩) 1 1) (w.alloc (.cells #[.int .u8 z] 5)) := by kernel_rfl
theorem leb6_inf5 : (Tryd.prog.info? 5).map (fun i => (i.zero, i.size, i.bytes)) = some (some (.int .u8 0), 1, 1) := by kernel_rfl
theorem leb6_isz22 : (Tryd.prog.info? 22).map (·.size) = some 1 := by kernel_rfl
theorem copyCheck_none (w : World) (b : Nat) (v : Value) (hb : w.heap[b]? = some (.cells ([.pointer none, v] : List Value).toArray 107 (0, 0))) :
  Calls Tryd.prog 77 #[PQ b 0] w fun e w' => e = .returned (.tuple #[]) ∧ w'.heap[b]? = some (.cells ([PQ b 0, v] : List Value).toArray 107 (0, 0)) ∧ w.grownBy w' (some b) := by
 have hgr : w.grownBy w (some b) := World.grownBy.refl _ _
 refine calls_of_wpF (args := [PQ b 0]) Tryd.func77 rfl 20 rfl (Nat.le_of_ble_eq_true rfl) ?_
 intro ρ0 hb
 have T0 : ρ0 0 = (PQ b 0 : Value) := hb.get 0
 clear hb
 refine sk fun K1 hK1 => (wt (oM rfl (oS rfl (Yk.nilCheck T0 (oS rfl (Yk.fieldAt leb6_fo107_0 (vr (PQ b 0) rfl) (oS rfl (Yk.cell1 leb6_ty105 rfl (vr (PQ b 0) rfl) (cellAt hb (show _ = some (.pointer none : Value) from rfl)) (oS rfl (Yk.eqlNil leb6_ty105 (vr (.pointer none) rfl) (oZ (tN (hK1 _ _ (wpF_true (vr (.bool (true)) rfl) (wt (oM rfl (oM rfl (oS rfl (Yk.toUnsafe leb6_ty105 leb6_tyU132 leb6_isz107 (by decide) T0 hb (Nat.le_of_ble_eq_true rfl) (oS rfl (Yk.extern1 (vr (PQ b 0) rfl) (leb6_ne _ _) (oS rfl (Yk.fromUnsafe leb6_tyU132 leb6_ty105 leb6_isz107 (vr (PQ b 0) rfl) hb (m := 2) rfl leb6_li ?_)))))))))))))))))))))))
 refine oS rfl (Yk.nilCheck T0 (oS rfl (Yk.fieldAt leb6_fo107_0 (vr (PQ b 0) rfl) (oS rfl (Yk.storeC (i := 0) (v := PQ b 0) (vr (PQ b 0) rfl) (vr (PQ b 0) rfl) hb (Nat.le_of_ble_eq_true rfl) leb6_isz105 rfl rfl fun w2 hb3 hg4 hs5 => ?_)))))
 have hgr : w.grownBy w2 (some b) := grownBy_trans hgr hg4 (fun _ e => .inl e)
 clear hb
 have hb := hb3; clear hb3
 have hl6 := bl hb
 refine oZ (postF_end (fn := Tryd.f77) [] rfl [] (.tuple #[]) rfl trivial ?_)
 exact ⟨rfl, hb, hgr⟩

theorem copyCheck_some (w : World) (b : Nat) (v : Value) (hb : w.heap[b]? = some (.cells ([PQ b 0, v] : List Value).toArray 107 (0, 0))) :
  Calls Tryd.prog 77 #[PQ b 0] w fun e w' => e = .returned (.tuple #[]) ∧ w'.heap[b]? = some (.cells ([PQ b 0, v] : List Value).toArray 107 (0, 0)) ∧ w.grownBy w' (some b) := by
 have hgr : w.grownBy w (some b) := World.grownBy.refl _ _
 refine calls_of_wpF (args := [PQ b 0]) Tryd.func77 rfl 20 rfl (Nat.le_of_ble_eq_true rfl) ?_
 intro ρ0 hb
 have T0 : ρ0 0 = (PQ b 0 : Value) := hb.get 0
 clear hb
 refine sk fun K1 hK1 => (wt (oM rfl (oS rfl (Yk.nilCheck T0 (oS rfl (Yk.fieldAt leb6_fo107_0 (vr (PQ b 0) rfl) (oS rfl (Yk.cell1 leb6_ty105 rfl (vr (PQ b 0) rfl) (cellAt hb (show _ = some (PQ b 0 : Value) from rfl)) (oS rfl (Yk.eqlNil leb6_ty105 (vr (PQ b 0) rfl) (oZ (tN (hK1 _ _ (wpF_false (vr (.bool (false)) rfl) (sk fun K2 hK2 => (wt (oM rfl (oS rfl (Yk.nilCheck T0 (oS rfl (Yk.fieldAt leb6_fo107_0 (vr (PQ b 0) rfl) (oS rfl (Yk.cell1 leb6_ty105 rfl (vr (PQ b 0) rfl) (cellAt hb (show _ = some (PQ b 0 : Value) from rfl)) ?_)))))))))))))))))))))))
 refine oM rfl (oS rfl (Yk.neqSame leb6_ty105 leb6_isz107 (vr (PQ b 0) rfl) T0 (oZ (tN (hK2 _ _ (wpF_false (vr (.bool (false)) rfl) (wpF_skip (postF_end (fn := Tryd.f77) [] rfl [] (.tuple #[]) rfl trivial ?_))))))))
 exact ⟨rfl, hb, hgr⟩

theorem copyCheck_any (w : World) (b : Nat) (p v : Value) (hp : p = .pointer none ∨ p = PQ b 0) (hb : w.heap[b]? = some (.cells ([p, v] : List Value).toArray 107 (0, 0))) :
  Calls Tryd.prog 77 #[PQ b 0] w fun e w' => e = .returned (.tuple #[]) ∧ w'.heap[b]? = some (.cells ([PQ b 0, v] : List Value).toArray 107 (0, 0)) ∧ w.grownBy w' (some b) := by
 rcases hp with rfl | rfl
 ·exact copyCheck_none w b v hb
 ·exact copyCheck_some w b v hb

theorem writeByte_any (w0 w : World) (h0 : Ext w0 w) (b : Nat) (l : List UInt8) (hB : BAt w w0 b l) (c : UInt8) (hl : l.length < 140737488355328) :
  Calls Tryd.prog 66 #[PQ b 0, B8 c] w fun e w' => e = .returned .nilIface ∧ BAt w' w0 b (l ++ [c]) ∧ Ext w0 w' := by
 obtain ⟨hb0, p, v, hp, hb, ho, hne⟩ := hB
 refine calls_of_wpF (args := [PQ b 0, B8 (c)]) Tryd.func66 rfl 17 rfl (Nat.le_of_ble_eq_true rfl) ?_
 intro ρ0 hb
 have T0 : ρ0 0 = (PQ b 0 : Value) := hb.get 0
 have T1 : ρ0 1 = (B8 (c) : Value) := hb.get 1
 clear hb
 refine sk fun K1 hK1 => (wt (oA rfl (oZ (tN (hK1 _ _ (sk fun K2 hK2 => (wt (oM rfl (oS rfl (Yk.callA1 leb6_pl77 T0 ((copyCheck_any _ b p v hp hb).mono ?_)))))))))))
 rintro e w3 ⟨rfl, hb1, hg1⟩
 refine ⟨_, rfl, ?_⟩
 have h0 := row_fresh h0 hg1 (Nat.le_trans (Nat.le_refl _) hb0)
 have ho := own_kept ho hg1 hne
 clear hb
 have hb := hb1; clear hb1
 refine oZ (tN (hK2 _ _ (sk fun K4 hK4 => (wt (oM rfl (oM rfl (oS rfl (Yk.nilCheck T0 (oS rfl (Yk.fieldAt leb6_fo107_1 (vr (PQ b 0) rfl) (oS rfl (Yk.cell1 leb6_ty22 rfl (vr (PQ b 1) rfl) (cellAt hb (show _ = some (v : Value) from rfl)) (oM rfl (oS rfl (Yk.lit1 (b := c) leb6_l1_22 T1 fun v5 w6 hN7 => ?_)))))))))))))))
 have hA8 := Ext.refl w3
 have hea9 := h0
 have hz10 := h0.size
 have hap11 : OB v5 b := own_older hN7.own (bl hb)
 have hap12 : ApartV v v5 := apartv_new ho hN7.own
 have hap13 : ApartV v5 v := apartv_new' ho hN7.own
 have h0 := h0.trans hN7.ext
 have ho := Stab.own _ _ _ _ _ _ _ _ ho hN7.ext
 have hb := eb hN7.ext hb
 have hA8 := hA8.trans hN7.ext
 have ho14 := hN7.own; clear hN7
 refine oS rfl (Yk.appendRB _ _ w0.heap.size (.int .u8 0) leb6_ty22 leb6_inf5 rfl leb6_ty22 (l) ([(c : UInt8)]) (own_of ho (vr v rfl)) (RB.of (RB.ofOwn ho14) (vr v5 rfl)) (by simp; omega) h0.size fun v15 w16 ho17 hg18 => ?_)
 have hg18 : Grew w6 w16 v v15 := hg18
 have hap19 : OB v15 b := apart_grew hg18 hne (bl hb)
 have hap20 : ApartV v15 v5 := apartv_grew hg18 hap12 ho14
 have hap21 : ApartV v5 v15 := fun k h1 h2 => hap20 k h2 h1
 have h0 := ext_grew h0 hg18 ho (Nat.le_refl _)
 have hb := blk_grew hb hg18 hne
 clear hA8
 have ho14 := own_grew ho14 hg18 hap12
 clear ho
 refine oS rfl (Yk.nilCheck T0 (oS rfl (Yk.fieldAt leb6_fo107_1 (vr (PQ b 0) rfl) (oS rfl (Yk.storeC (i := 1) (v := v15) (vr (PQ b 1) rfl) (vr v15 rfl) hb (Nat.le_of_ble_eq_true rfl) leb6_isz22 (own_one ho17).1 (own_one ho17).2 fun w22 hb23 hg24 hs25 => ?_)))))
 have h0 := row_fresh h0 hg24 (Nat.le_trans (Nat.le_refl _) (by omega))
 have ho14 := own_kept ho14 hg24 hap11
 have ho17 := own_kept ho17 hg24 hap19
 clear hb
 have hb := hb23; clear hb23
 have hl26 := bl hb
 refine oZ (tN (hK4 _ _ (sk fun K27 hK27 => (wt (oA rfl (oZ (tN (hK27 _ _ (wpF_ret (postF_ret (fn := Tryd.f66) _ rfl [(Value.nilIface)] ((Value.nilIface)) rfl ⟨rfl, trivial⟩ ?_))))))))))
 exact ⟨rfl, ⟨hb0, _, _, .inr rfl, hb, ho17, hap19⟩, h0⟩
def digs : List UInt8 := [48, 49, 50, 51, 52, 53, 54, 55, 56, 57, 97, 98, 99, 100, 101, 102]
def hexB (b : UInt8) : List UInt8 := [digs.getD (b.toNat / 16) 0, digs.getD (b.toNat % 16) 0]
def hexOf (id : List UInt8) : List UInt8 := id.flatMap hexB
theorem hexOf_take (id : List UInt8) (i : Nat) (hi : i < id.length) : hexOf (id.take (i + 1)) = hexOf (id.take i) ++ hexB (id.getD i 0) := by
  rw [List.take_succ_eq_append_getElem hi, hexOf, List.flatMap_append]
  simp [hexOf, hi]
theorem hexOf_length : ∀ id : List UInt8, (hexOf id).length = 2 * id.length
  | [] => rfl
  | b :: id => by
    have := hexOf_length id
    simp only [hexOf, List.flatMap_cons, List.length_append, List.length_cons] at *
    simp only [hexB, List.length_cons, List.length_nil]
    omega
def dg (c : UInt8) : Option Nat := if 48 ≤ c.toNat ∧ c.toNat ≤ 57 then some (c.toNat - 48) else if 97 ≤ c.toNat ∧ c.toNat ≤ 102 then some (c.toNat - 87) else none
def dgI (c : UInt8) : Int := match dg c with | some n => (n : Int) | none => -1
theorem dg_lt {c : UInt8} {n : Nat} (h : dg c = some n) : n < 16 := by
  unfold dg at h
  split at h
  · cases h; omega
  · split at h
    · cases h; omega
    · cases h
theorem index_fin : ∀ n : Fin 256, Lib.indexByte digs (UInt8.ofNat n.val) = dgI (UInt8.ofNat n.val) := by decide +kernel
theorem index_dg (c : UInt8) : Lib.indexByte digs c = dgI c := by
  have := index_fin ⟨c.toNat, c.toNat_lt⟩
  simpa using this
def okAt (s : List UInt8) (j : Nat) : Bool := (dg (s.getD (2 * j) 0)).isSome && (dg (s.getD (2 * j + 1) 0)).isSome
def byteAt (s : List UInt8) (j : Nat) : UInt8 := UInt8.ofNat (16 * (dg (s.getD (2 * j) 0)).getD 0 + (dg (s.getD (2 * j + 1) 0)).getD 0)
def unhex (s : List UInt8) : List UInt8 × Bool := if s.length = 64 ∧ (List.range 32).all (okAt s) = true then ((List.range 32).map (byteAt s), true) else (List.replicate 32 0, false)
theorem unhex_length (s : List UInt8) : (unhex s).1.length = 32 := by
  unfold unhex
  split <;> simp
theorem unhex_no {s : List UInt8} (h : ¬ (s.length = 64 ∧ (List.range 32).all (okAt s) = true)) : unhex s = (List.replicate 32 0, false) := if_neg h
theorem unhex_yes {s : List UInt8} (h1 : s.length = 64) (h2 : ∀ j, j < 32 → okAt s j = true) : unhex s = ((List.range 32).map (byteAt s), true) := if_pos ⟨h1, by
  rw [List.all_eq_true]
  intro j hj
  exact h2 j (by simpa using hj)⟩
def pre (s : List UInt8) (i : Nat) : List UInt8 := (List.range i).map (byteAt s) ++ List.replicate (32 - i) 0
theorem pre_length (s : List UInt8) (i : Nat) (hi : i ≤ 32) : (pre s i).length = 32 := by
  unfold pre
  simp
  omega
theorem pre_step (s : List UInt8) (i : Nat) (hi : i < 32) : (pre s i).set i (byteAt s i) = pre s (i + 1) := by
  unfold pre
  rw [List.set_append_right _ _ (by simp), List.range_succ, List.map_append]
  simp only [List.length_map, List.length_range, Nat.sub_self, List.map_cons, List.map_nil, List.append_assoc]
  congr 1
  obtain ⟨k, hk⟩ : ∃ k, 32 - i = k + 1 := ⟨32 - i - 1, by omega⟩
  rw [hk, List.replicate_succ, List.set_cons_zero, show 32 - (i + 1) = k by omega]
  rfl
theorem pre_all (s : List UInt8) : pre s 32 = (List.range 32).map (byteAt s) := by simp [pre]
/-! ### There and back -/
theorem dg_fin : ∀ n : Fin 16, dg (digs.getD n.val 0) = some n.val := by decide +kernel
theorem dg_digs (n : Nat) (h : n < 16) : dg (digs.getD n 0) = some n := dg_fin ⟨n, h⟩
theorem hexOf_get : ∀ (id : List UInt8) (j : Nat), j < id.length → (hexOf id).getD (2 * j) 0 = digs.getD ((id.getD j 0).toNat / 16) 0 ∧ (hexOf id).getD (2 * j + 1) 0 = digs.getD ((id.getD j 0).toNat % 16) 0
  | [], j, h => by simp at h
  | b :: id, 0, _ => ⟨rfl, rfl⟩
  | b :: id, j + 1, h => by
    have := hexOf_get id j (by simpa using h)
    have e : hexOf (b :: id) = digs.getD (b.toNat / 16) 0 :: digs.getD (b.toNat % 16) 0 :: hexOf id := rfl
    rw [e, show 2 * (j + 1) = 2 * j + 1 + 1 by omega]
    exact this
theorem unhex_hexOf (id : List UInt8) (h : id.length = 32) : unhex (hexOf id) = (id, true) := by
  have hg := fun j (hj : j < 32) => hexOf_get id j (by omega)
  have hlt := fun j => (id.getD j 0).toNat_lt
  have hd : ∀ j, j < 32 → dg ((hexOf id).getD (2 * j) 0) = some ((id.getD j 0).toNat / 16) ∧ dg ((hexOf id).getD (2 * j + 1) 0) = some ((id.getD j 0).toNat % 16) := fun j hj => by
    rw [(hg j hj).1, (hg j hj).2]
    exact ⟨dg_digs _ (by have := hlt j; omega), dg_digs _ (by omega)⟩
  rw [unhex_yes (by rw [hexOf_length, h]) (fun j hj => by unfold okAt; rw [(hd j hj).1, (hd j hj).2]; rfl)]
  congr 1
  apply List.ext_getElem (by simp [h])
  intro j h1 h2
  have hj : j < 32 := by simpa using h1
  simp only [List.getElem_map, List.getElem_range, byteAt]
  rw [(hd j hj).1, (hd j hj).2]
  simp only [Option.getD_some]
  rw [Nat.div_add_mod]
  simp [h2]
open Go.Shelf Go.RowKit
def laysB_ren : Go.Shelf.Ren := ⟨fun | 169 => 67 | n => n, fun | 70 => 105 | 9 => 9 | 0 => 0 | 72 => 107 | 37 => 22 | 127 => 120 | 3 => 3 | 5 => 5 | n => n, fun | n => n⟩
theorem laysB : Go.Proofs.Lays.n169 Tryd.prog laysB_ren := {
  mixed := by kernel_rfl
  f169 := Tryd.func67.trans (congrArg some (by kernel_rfl))
  t0 := Tryd.underlying0
  a0 := Tryd.isAgg0
  z0 := Tryd.sizeOf0
  v0 := Tryd.zeroValue0
  t3 := Tryd.underlying3
  a3 := Tryd.isAgg3
  z3 := Tryd.sizeOf3
  v3 := Tryd.zeroValue3
  t9 := Tryd.underlying9
  a9 := Tryd.isAgg9
  z9 := Tryd.sizeOf9
  v9 := Tryd.zeroValue9
  t37 := Tryd.underlying22
  a37 := Tryd.isAgg22
  z37 := Tryd.sizeOf22
  v37 := Tryd.zeroValue22
  t70 := Tryd.underlying105
  a70 := Tryd.isAgg105
  z70 := Tryd.sizeOf105
  v70 := Tryd.zeroValue105
  t72 := Tryd.underlying107
  a72 := Tryd.isAgg107
  z72 := Tryd.sizeOf107
  v72 := Tryd.zeroValue107
  t127 := Tryd.underlying120
  a127 := Tryd.isAgg120
  z127 := Tryd.sizeOf120
  v127 := Tryd.zeroValue120 }
theorem laysB_extra : Builder.Extra Tryd.prog laysB_ren := {
  sizeBuilder := by kernel_rfl
  liesBuilder := by kernel_rfl
  t5 := Tryd.underlying5
  a5 := Tryd.isAgg5
  z5 := Tryd.sizeOf5
  v5 := Tryd.zeroValue5
  infoByte := by kernel_rfl
  cellsByte := by kernel_rfl
  sizeByte := by kernel_rfl
  neB5 := by decide }
theorem shelf_Builder_String (B b : Nat) (l : List UInt8) (w : World) (h : Lib.IsBuilder 107 5 B b (Lib.byteCells l) w) (hBw : B ≤ w.heap.size) :
    Calls Tryd.prog 67 #[.pointer (some ⟨b, 0, none⟩)] w fun e w' => e = .returned (.string ⟨l.toArray⟩) ∧ Below B w w' := Any.Builder_String_any laysB laysB_extra B b l w h hBw
open Go.RowKit
set_option maxRecDepth 100000
theorem u8_and15 (t : TypeId) (c : UInt8) : Go.binOp .and t (.int .u8 ((c.toNat : Nat) : Int)) (.int .u8 ((15 : Nat) : Int)) = pure (.int .u8 ((c.toNat % 16 : Nat) : Int)) := by
 rw [u8_and t _ _ c.toNat_lt (by decide), Nat.and_two_pow_sub_one_eq_mod _ 4]
theorem hexB_app (l : List UInt8) (b : UInt8) : (l ++ [([48, 49, 50, 51, 52, 53, 54, 55, 56, 57, 97, 98, 99, 100, 101, 102] : List UInt8).getD (b.toNat / 2 ^ 4) 0]) ++ [([48, 49, 50, 51, 52, 53, 54, 55, 56, 57, 97, 98, 99, 100, 101, 102] : List UInt8).getD (b.toNat % 16) 0] = l ++ hexB b := by
 rw [List.append_assoc]
 rfl
theorem hexK_isz26 : (Tryd.prog.info? 26).map (·.size) = some 32 := by kernel_rfl
theorem hexK_al107 {d : Option Tmp} {ty : TypeId} {pos : String} {af : Array Edge} {gd : Option (Nat × Bool)} (σ : Operand → Value) (w : World) : (execOp σ ⟨d, .alloc 107, ty, pos, af, gd⟩).run Tryd.prog w = .ok (.value (PQ w.heap.size 0)) (w.alloc (.cells ([.pointer none, (Value.slice none 0 0)]).toArray 107)) := by kernel_rfl
theorem hexK_ty26 : Tryd.prog.underlying 26 = some (.array 32 5) := by kernel_rfl
theorem hexK_ty5 : Tryd.prog.underlying 5 = some (.int .u8) := by kernel_rfl
theorem hexK_sz5 : ∀ w' : World, (sizeOf 5).run Tryd.prog w' = .ok 1 w' := fun _ => by kernel_rfl
theorem hexK_ty9 : Tryd.prog.underlying 9 = some (.string) := by kernel_rfl
theorem hexK_pl66 : Plain Tryd.prog 66 := fun _ _ => by kernel_rfl
theorem hexK_pl67 : Plain Tryd.prog 67 := fun _ _ => by kernel_rfl
theorem hex_any (w : World) (id : List UInt8) (hid : id.length = 32) :
  Calls Tryd.prog 48 #[AB id] w fun e w' => e = .returned (St (hexOf id)) ∧ Ext w w' := by
 refine calls_of_wpF (args := [AB id]) Tryd.func48 rfl 20 rfl (Nat.le_of_ble_eq_true rfl) ?_
 intro ρ0 hb
 have T0 : ρ0 0 = (AB id : Value) := hb.get 0
 clear hb
 have hE := Ext.refl w
 refine sk fun K1 hK1 => (wt (oS rfl (Yk.box (cs := (Lib.byteCells id : List Value).toArray) T0 fun n2 w3 hn4 hb5 hx6 hs7 => ?_)))
 have hE := hE.trans hx6
 have hb8 := hb5; clear hb5
 have hl9 : n2 < w3.heap.size := by omega
 refine oA rfl (oZ (tN (hK1 _ _ (sk fun K10 hK10 => (wt (oS rfl (Yk.alloc (cs := ([.pointer none, (Value.slice none 0 0)]).toArray) hexK_al107 fun n11 w12 hn13 hb14 hx15 hs16 => ?_)))))))
 have hA17 := Ext.refl w3
 have hea18 := hE
 have hz19 := hE.size
 have hlt20 := lte (bl hb8) hn13
 have hE := hE.trans hx15
 have hb8 := eb hx15 hb8
 have hA17 := hA17.trans hx15
 have hb21 := hb14; clear hb14
 have hl22 : n11 < w12.heap.size := by omega
 refine oZ ?_
 have hB0 : BAt w12 w3 n11 [] := BAt.fresh (by omega) hb21
 refine tN (hK10 _ _ (sk fun K23 hK23 => (sk fun K24 hK24 => (wt (oS rfl (Yk.loadAll (vr (PQ n2 0) rfl) hb8 hexK_ty26 rfl (by rw [List.size_toArray, Lib.byteCells_length, hid]; exact hexK_isz26) (oM rfl (oL_ [(0, AB id), (1, PQ n2 0), (2, St (([] : List UInt8))), (3, PQ n11 0), (6, AB id), (7, NI 0)] ⟨T0, rfl, rfl, rfl, rfl, rfl, trivial⟩ fun ρ25 ⟨T0, T1, T2, T3, T6, T7, _⟩ => (tN (hK24 _ _ (wpF_block (wpF_loop (fun (ρ : Slots) (wz : World) => ∃ i : Nat, ρ 0 = (AB id : Value) ∧ ρ 1 = (PQ n2 0 : Value) ∧ ρ 2 = (St (([] : List UInt8)) : Value) ∧ ρ 3 = (PQ n11 0 : Value) ∧ ρ 6 = (AB id : Value) ∧ ρ 7 = (NI i : Value) ∧ Ext w wz ∧ Ext w3 wz ∧ BAt wz w3 n11 (hexOf (id.take i)) ∧ (i ≤ 32) ∧ True) (fun ρ _ => 32 - (intOf (ρ 7)).toNat) ⟨0, T0, T1, T2, T3, T6, T7, hE, hA17, hB0, Nat.zero_le _, trivial⟩ ?_))))))))))))
 clear hb8
 clear hB0
 clear hE hA17
 rintro ρ26 w27 ⟨i, T0, T1, T2, T3, T6, T7, hE, hA17, hBi, hi, -⟩
 have q7 := T7
 have hlt := (id.getD i 0).toNat_lt
 refine sk fun K28 hK28 => (wt (oS rfl (Yk.eqI (a := (i : Nat)) (b := (32 : Nat)) T7 rfl (k_lss _ _ _ _) (oZ (tN (hK28 _ _ (sk fun K29 hK29 => ?_)))))))
 refine wpF_cond ((i) < (32)) (vr (.bool (decide ((i) < (32)))) rfl) (fun hc0 => ?_) (fun hc0 => ?_)
 ·refine wpF_skip (tN (hK29 _ _ (sk fun K30 hK30 => (wpF_block (sk fun K31 hK31 => (wt (oS rfl (Yk.idxB (l := id) (i := i) hexK_ty26 hexK_ty5 rfl hexK_sz5 T6 T7 (by omega) (hid) (oA rfl (oZ (tN (hK31 _ _ (sk fun K32 hK32 => (wt (oM rfl (oS rfl (Yk.bin (xv := .int .u8 (((id.getD (i) 0).toNat : Nat) : Int)) (yv := .int .u64 ((4 : Nat) : Int)) rfl rfl rfl (u8_shr _ _ _ _ (by omega)) (oS rfl (Yk.idxSt (l := ([48, 49, 50, 51, 52, 53, 54, 55, 56, 57, 97, 98, 99, 100, 101, 102] : List UInt8)) (i := ((id.getD (i) 0).toNat) / 2 ^ (4)) hexK_ty9 (vr (St (([48, 49, 50, 51, 52, 53, 54, 55, 56, 57, 97, 98, 99, 100, 101, 102] : List UInt8))) rfl) (vr (.int .u8 ((((id.getD (i) 0).toNat) / 2 ^ (4) : Nat) : Int)) rfl) (by show _ < 16; omega) (oS rfl (Yk.callA2 hexK_pl66 T3 (vr (B8 ((([48, 49, 50, 51, 52, 53, 54, 55, 56, 57, 97, 98, 99, 100, 101, 102] : List UInt8) : List UInt8).getD (((id.getD (i) 0).toNat) / 2 ^ (4)) 0)) rfl) ?_)))))))))))))))))))))
  refine (writeByte_any w3 _ hA17 n11 (hexOf (id.take i)) hBi ((([48, 49, 50, 51, 52, 53, 54, 55, 56, 57, 97, 98, 99, 100, 101, 102] : List UInt8) : List UInt8).getD (((id.getD (i) 0).toNat) / 2 ^ (4)) 0) (by have := hexOf_length (id.take i); simp at this ⊢; omega)).mono ?_
  rintro e w35 ⟨rfl, hB33, hv34⟩
  refine ⟨_, rfl, ?_⟩
  have hE := hea18.trans hv34
  have hA17 := hv34
  clear hBi
  refine oZ (tN (hK32 _ _ (wt (oM rfl (oS rfl (Yk.bin (xv := .int .u8 (((id.getD (i) 0).toNat : Nat) : Int)) (yv := .int .u8 ((15 : Nat) : Int)) rfl rfl rfl (u8_and15 _ (id.getD (i) 0)) (oS rfl (Yk.idxSt (l := ([48, 49, 50, 51, 52, 53, 54, 55, 56, 57, 97, 98, 99, 100, 101, 102] : List UInt8)) (i := (id.getD (i) 0).toNat % 16) hexK_ty9 (vr (St (([48, 49, 50, 51, 52, 53, 54, 55, 56, 57, 97, 98, 99, 100, 101, 102] : List UInt8))) rfl) (vr (.int .u8 (((id.getD (i) 0).toNat % 16 : Nat) : Int)) rfl) (by show _ < 16; omega) (oS rfl (Yk.callA2 hexK_pl66 T3 (vr (B8 ((([48, 49, 50, 51, 52, 53, 54, 55, 56, 57, 97, 98, 99, 100, 101, 102] : List UInt8) : List UInt8).getD ((id.getD (i) 0).toNat % 16) 0)) rfl) ((writeByte_any w3 _ hA17 n11 ((hexOf (id.take i) : List UInt8) ++ [(([48, 49, 50, 51, 52, 53, 54, 55, 56, 57, 97, 98, 99, 100, 101, 102] : List UInt8) : List UInt8).getD (((id.getD (i) 0).toNat) / 2 ^ (4)) 0]) hB33 ((([48, 49, 50, 51, 52, 53, 54, 55, 56, 57, 97, 98, 99, 100, 101, 102] : List UInt8) : List UInt8).getD ((id.getD (i) 0).toNat % 16) 0) (by have := hexOf_length (id.take i); simp at this ⊢; omega)).mono ?_)))))))))))
  rintro e w38 ⟨rfl, hB36, hv37⟩
  refine ⟨_, rfl, ?_⟩
  have hE := hea18.trans hv37
  have hA17 := hv37
  clear hB33
  refine oZ (bN (tN (hK30 _ _ (wt (oS rfl (Yk.bin (xv := NI i) (yv := NI 1) T7 rfl rfl (i64_add _ _ _ (by omega)) (oM rfl (oL_ [(0, AB id), (1, PQ n2 0), (2, St (([] : List UInt8))), (3, PQ n11 0), (5, B8 (id.getD (i) 0)), (6, AB id), (7, NI ((i) + (1)))] ⟨T0, T1, T2, T3, rfl, T6, rfl, trivial⟩ fun ρ39 ⟨T0, T1, T2, T3, T5, T6, T7, _⟩ => (tN (And.intro ⟨i + 1, T0, T1, T2, T3, T6, T7, hE, hA17, (show BAt _ _ _ _ from by rw [hexOf_take id i (by omega), ← hexB_app]; exact hB36), by omega, trivial⟩ ?_))))))))))
  show 32 - (intOf (ρ39 7)).toNat < 32 - (intOf (ρ26 7)).toNat
  rw [T7, q7]
  simp only [intOf, Int.toNat_natCast]; omega
 have e32 : id.take i = id := List.take_of_length_le (by omega)
 refine wpF_exit (thenF_exit (thenF_exit (inBlockF_hit (tN (hK23 _ _ (sk fun K40 hK40 => (wt (oS rfl (Yk.callA1 hexK_pl67 T3 ((shelf_Builder_String _ n11 (hexOf (id.take i)) _ (BAt.lib hBi) hA17.size).mono ?_))))))))))
 rintro e w42 ⟨rfl, hv41⟩
 refine ⟨_, rfl, ?_⟩
 have hv41t := Below.trans hA17 hv41
 have hE := hea18.trans hv41t
 have hA17 := hv41t
 clear hBi
 refine oA rfl (oZ (tN (hK40 _ _ (wpF_ret (postF_ret (fn := Tryd.f48) _ rfl [St (hexOf (id.take i))] (St (hexOf (id.take i))) rfl ⟨rfl, trivial⟩ ?_)))))
 exact ⟨by rw [e32], hE⟩
open Go.RowKit
set_option maxRecDepth 100000
set_option linter.unusedVariables false
set_option linter.unusedSimpArgs false
def cutP (p s : List UInt8) : List UInt8 × Bool := if p.length ≤ s.length ∧ s.take p.length = p then (s.drop p.length, true) else (s, false)
theorem cut_no {p s : List UInt8} (h : ¬ (p.length ≤ s.length ∧ s.take p.length = p)) : (cutP p s).2 = false := by unfold cutP; rw [if_neg h]
theorem cut_has {p s : List UInt8} (h : p.length ≤ s.length) : (cutP p s).2 = decide ((s.drop 0).take (p.length - 0) = p) := by
 unfold cutP
 rw [List.drop_zero, Nat.sub_zero]
 by_cases q : s.take p.length = p
 ·rw [if_pos ⟨h, q⟩, decide_eq_true q]
 ·rw [if_neg (fun x => q x.2), decide_eq_false q]
theorem cut_f {p s : List UInt8} (h : (cutP p s).2 = false) : cutP p s = (s, false) := by
 unfold cutP at h ⊢
 split
 ·rename_i q; rw [if_pos q] at h; cases h
 ·rfl
theorem cut_t {p s : List UInt8} (h : (cutP p s).2 = true) : cutP p s = ((s.drop p.length).take (s.length - p.length), true) := by
 unfold cutP at h ⊢
 split
 ·rw [List.take_of_length_le (by rw [List.length_drop]; exact Nat.le_refl _)]
 ·rename_i q; rw [if_neg q] at h; cases h
theorem cut_len {p s : List UInt8} (h : (cutP p s).2 = true) : p.length ≤ s.length := by
 unfold cutP at h
 split at h
 ·rename_i q; exact q.1
 ·cases h
def nmO (id : List UInt8) : List UInt8 := [111, 45] ++ hexOf id
theorem nmO_len {id : List UInt8} (h : id.length = 32) : (nmO id).length = 66 := by unfold nmO; rw [List.length_append, hexOf_length, h]; rfl
theorem ls1_ty9 : Tryd.prog.underlying 9 = some (.string) := by kernel_rfl
theorem ls1_pl68 : Plain Tryd.prog 68 := fun _ _ => by kernel_rfl
theorem ls1_pl54 : Plain Tryd.prog 54 := fun _ _ => by kernel_rfl
theorem ls1_ty26 : Tryd.prog.underlying 26 = some (.array 32 5) := by kernel_rfl
theorem ls1_pl48 : Plain Tryd.prog 48 := fun _ _ => by kernel_rfl
set_option maxHeartbeats 1600000
theorem hasPrefix_any (w : World) (s p : List UInt8) (hs : s.length ≤ 9223372036854775807) :
  Calls Tryd.prog 68 #[St s, St p] w fun e w' => e = .returned (.bool (cutP p s).2) ∧ Ext w w' := by
 refine calls_of_wpF (args := [St (s), St (p)]) Tryd.func68 rfl 18 rfl (Nat.le_of_ble_eq_true rfl) ?_
 intro ρ0 hb
 have T0 : ρ0 0 = (St (s) : Value) := hb.get 0
 have T1 : ρ0 1 = (St (p) : Value) := hb.get 1
 clear hb
 have hE := Ext.refl w
 refine sk fun K1 hK1 => (wt (oA rfl (oZ ?_)))
 by_cases hl : p.length ≤ s.length
 ·refine tN (hK1 _ _ (sk fun K2 hK2 => (wt (oM rfl (oS rfl (Yk.lenSt (l := s) ls1_ty9 T0 (oM rfl (oS rfl (Yk.lenSt (l := p) ls1_ty9 T1 (oS rfl (Yk.eqI (a := (s.length : Nat)) (b := (p.length : Nat)) rfl rfl (k_geq _ _ _ _) (oM rfl (oY (d := 10) rfl rfl (vr (.bool (true)) (congrArg Value.bool (decide_eq_true (hl)))) (Yk.move T0 (oY (d := 10) rfl rfl (vr (.bool (true)) (congrArg Value.bool (decide_eq_true (hl)))) (Yk.move T1 (oY (d := 10) rfl rfl (vr (.bool (true)) (congrArg Value.bool (decide_eq_true (hl)))) (Yk.lenSt (l := p) ls1_ty9 (vr (St (p)) rfl) (oY (d := 10) rfl rfl (vr (.bool (true)) (congrArg Value.bool (decide_eq_true (hl)))) (Yk.sliceSt (l := s) ls1_ty9 (0) (p.length) (vr (St (s)) rfl) (.inl ⟨rfl, rfl⟩) (.inr ⟨.i64, congrArg some (vr (NI p.length) rfl)⟩) (by omega) (by omega) (oY (d := 10) rfl rfl (vr (.bool (true)) (congrArg Value.bool (decide_eq_true (hl)))) (Yk.move T1 (oY (d := 10) rfl rfl (vr (.bool (true)) (congrArg Value.bool (decide_eq_true (hl)))) (Yk.eqSt (l := (s.drop (0)).take ((p.length) - (0))) (m := p) (.inl rfl) (vr (St ((s.drop (0)).take ((p.length) - (0)))) rfl) (vr (St (p)) rfl) (decide ((s.drop (0)).take ((p.length) - (0)) = p)) rfl (oS rfl (Yk.pickT (vr (.bool (true)) (congrArg Value.bool (decide_eq_true (hl)))) (vr (.bool (decide ((s.drop (0)).take ((p.length) - (0)) = p))) rfl) ?_))))))))))))))))))))))))))
  refine oA rfl (oZ (tN (hK2 _ _ (wpF_ret (postF_ret (fn := Tryd.f68) _ rfl [.bool (decide ((s.drop (0)).take ((p.length) - (0)) = p))] (.bool (decide ((s.drop (0)).take ((p.length) - (0)) = p))) rfl ⟨rfl, trivial⟩ ?_)))))
  exact ⟨by rw [cut_has hl], hE⟩
 refine tN (hK1 _ _ (sk fun K3 hK3 => (wt (oM rfl (oS rfl (Yk.lenSt (l := s) ls1_ty9 T0 (oM rfl (oS rfl (Yk.lenSt (l := p) ls1_ty9 T1 (oS rfl (Yk.eqI (a := (s.length : Nat)) (b := (p.length : Nat)) rfl rfl (k_geq _ _ _ _) (oM rfl (oN (d := 10) rfl rfl rfl (vr (.bool (false)) (congrArg Value.bool (decide_eq_false (hl)))) rfl (oN (d := 10) rfl rfl rfl (vr (.bool (false)) (congrArg Value.bool (decide_eq_false (hl)))) rfl (oN (d := 10) rfl rfl rfl (vr (.bool (false)) (congrArg Value.bool (decide_eq_false (hl)))) rfl (oN (d := 10) rfl rfl rfl (vr (.bool (false)) (congrArg Value.bool (decide_eq_false (hl)))) rfl (oN (d := 10) rfl rfl rfl (vr (.bool (false)) (congrArg Value.bool (decide_eq_false (hl)))) rfl (oN (d := 10) rfl rfl rfl (vr (.bool (false)) (congrArg Value.bool (decide_eq_false (hl)))) rfl (oS rfl (Yk.pickF (vr (.bool (false)) (congrArg Value.bool (decide_eq_false (hl)))) (vr (.bool (false)) rfl) ?_))))))))))))))))))))
 refine oA rfl (oZ (tN (hK3 _ _ (wpF_ret (postF_ret (fn := Tryd.f68) _ rfl [.bool (false)] (.bool (false)) rfl ⟨rfl, trivial⟩ ?_)))))
 exact ⟨by rw [show (cutP p s).2 = false from cut_no (fun q => hl q.1)], hE⟩

theorem cutPrefix_any0 (w : World) (s p : List UInt8) (hs : s.length ≤ 9223372036854775807) :
  Calls Tryd.prog 54 #[St s, St p] w fun e w' => e = .returned (.tuple #[St (cutP p s).1, .bool (cutP p s).2]) ∧ Ext w w' := by
 refine calls_of_wpF (args := [St (s), St (p)]) Tryd.func54 rfl 15 rfl (Nat.le_of_ble_eq_true rfl) ?_
 intro ρ0 hb
 have T0 : ρ0 0 = (St (s) : Value) := hb.get 0
 have T1 : ρ0 1 = (St (p) : Value) := hb.get 1
 clear hb
 have hE := Ext.refl w
 refine sk fun K1 hK1 => (wt (oA rfl (oA rfl (oZ (tN (hK1 _ _ (sk fun K2 hK2 => (sk fun K3 hK3 => (wt (oM rfl (oM rfl (oS rfl (Yk.callA2 ls1_pl68 T0 T1 ((hasPrefix_any _ s p hs).mono ?_))))))))))))))
 rintro e w5 ⟨rfl, hx4⟩
 refine ⟨_, rfl, ?_⟩
 have hE := hE.trans hx4
 refine oS rfl (Yk.notB (vr (.bool ((cutP p s).2)) rfl) (oZ (tN (hK3 _ _ ?_))))
 refine wpF_condB (!((cutP p s).2)) (vr (.bool (!((cutP p s).2))) rfl) (fun hc0 => ?_) (fun hc0 => ?_)
 ·have hc : (cutP p s).2 = false := by simpa using hc0
  refine sk fun K6 hK6 => (wt (oM rfl (oA rfl (oA rfl (oZ (tN (hK6 _ _ (wpF_ret (thenF_ret (postF_ret (fn := Tryd.f54) _ rfl [St (s), .bool (false)] (.tuple #[St (s), .bool (false)]) rfl ⟨T0, rfl, trivial⟩ ?_))))))))))
  exact ⟨by rw [cut_f hc], hE⟩
 have hc : (cutP p s).2 = true := by simpa using hc0
 have hpl := cut_len hc
 refine wpF_skip (tN (hK2 _ _ (sk fun K7 hK7 => (wt (oM rfl (oM rfl (oS rfl (Yk.lenSt (l := p) ls1_ty9 T1 (oS rfl (Yk.sliceSt (l := s) ls1_ty9 (p.length) (s.length) T0 (.inr ⟨.i64, congrArg some (vr (NI p.length) rfl)⟩) (.inl ⟨rfl, rfl⟩) (by omega) (by omega) (oA rfl (oA rfl (oZ (tN (hK7 _ _ (wpF_ret (postF_ret (fn := Tryd.f54) _ rfl [St ((s.drop (p.length)).take ((s.length) - (p.length))), .bool (true)] (.tuple #[St ((s.drop (p.length)).take ((s.length) - (p.length))), .bool (true)]) rfl ⟨rfl, rfl, trivial⟩ ?_)))))))))))))))))
 exact ⟨by rw [cut_t hc], hE⟩

theorem cutPrefix_any (w : World) (s p : List UInt8) (hs : s.length ≤ 9223372036854775807) :
  Calls Tryd.prog 30 #[St s, St p] w fun e w' => e = .returned (.tuple #[St (cutP p s).1, .bool (cutP p s).2]) ∧ Ext w w' := by
 refine calls_of_wpF (args := [St (s), St (p)]) Tryd.func30 rfl 11 rfl (Nat.le_of_ble_eq_true rfl) ?_
 intro ρ0 hb
 have T0 : ρ0 0 = (St (s) : Value) := hb.get 0
 have T1 : ρ0 1 = (St (p) : Value) := hb.get 1
 clear hb
 have hE := Ext.refl w
 refine sk fun K1 hK1 => (wt (oA rfl (oA rfl (oZ (tN (hK1 _ _ (sk fun K2 hK2 => (wt (oM rfl (oM rfl (oS rfl (Yk.callA2 ls1_pl54 T0 T1 ((cutPrefix_any0 _ s p hs).mono ?_)))))))))))))
 rintro e w4 ⟨rfl, hx3⟩
 refine ⟨_, rfl, ?_⟩
 have hE := hE.trans hx3
 refine oS rfl (Yk.extract (vs := [St ((cutP p s).1), .bool ((cutP p s).2)]) (vr (.tuple #[St ((cutP p s).1), .bool ((cutP p s).2)]) rfl) (show _ = some (St ((cutP p s).1) : Value) from rfl) (oS rfl (Yk.extract (vs := [St ((cutP p s).1), .bool ((cutP p s).2)]) (vr (.tuple #[St ((cutP p s).1), .bool ((cutP p s).2)]) rfl) (show _ = some (.bool ((cutP p s).2) : Value) from rfl) (oA rfl (oA rfl (oZ (tN (hK2 _ _ (wpF_ret (postF_ret (fn := Tryd.f30) _ rfl [St ((cutP p s).1), .bool ((cutP p s).2)] (.tuple #[St ((cutP p s).1), .bool ((cutP p s).2)]) rfl ⟨rfl, rfl, trivial⟩ ?_))))))))))
 exact ⟨rfl, hE⟩

theorem name_any (w : World) (id : List UInt8) (hid : id.length = 32) :
  Calls Tryd.prog 21 #[AB id] w fun e w' => e = .returned (St (nmO id)) ∧ Ext w w' := by
 refine calls_of_wpF (args := [AB id]) Tryd.func21 rfl 6 rfl (Nat.le_of_ble_eq_true rfl) ?_
 intro ρ0 hb
 have T0 : ρ0 0 = (AB id : Value) := hb.get 0
 clear hb
 have hE := Ext.refl w
 refine sk fun K1 hK1 => (wt (oS rfl (Yk.box (cs := (Lib.byteCells id : List Value).toArray) T0 fun n2 w3 hn4 hb5 hx6 hs7 => ?_)))
 have hE := hE.trans hx6
 have hb8 := hb5; clear hb5
 have hl9 : n2 < w3.heap.size := by omega
 refine oA rfl (oZ (tN (hK1 _ _ (sk fun K10 hK10 => (wt (oS rfl (Yk.loadAll (vr (PQ n2 0) rfl) hb8 ls1_ty26 rfl (by exact sizeId_of hid) (oS rfl (Yk.callA1 ls1_pl48 (vr (AB id) rfl) ((hex_any _ id hid).mono ?_))))))))))
 rintro e w12 ⟨rfl, hx11⟩
 refine ⟨_, rfl, ?_⟩
 have hE := hE.trans hx11
 have hb8 := eb hx11 hb8
 refine oS rfl (Yk.catSt (l := ([111, 45] : List UInt8)) (m := hexOf id) (vr (St (([111, 45] : List UInt8))) rfl) (vr (St (hexOf id)) rfl) (by rw [hexOf_length, hid]; simp) (oA rfl (oZ (tN (hK10 _ _ (wpF_ret (postF_ret (fn := Tryd.f21) _ rfl [St ((([111, 45] : List UInt8) : List UInt8) ++ (hexOf id : List UInt8))] (St ((([111, 45] : List UInt8) : List UInt8) ++ (hexOf id : List UInt8))) rfl ⟨rfl, trivial⟩ ?_)))))))
 exact ⟨rfl, hE⟩
open Go.RowKit
theorem Sha.be64_take (n i : Nat) (h : i < 8) : (Sha.be64 n).take (i + 1) = (Sha.be64 n).take i ++ [UInt8.ofNat (n / 2 ^ (56 - 8 * i))] := by
 unfold Sha.be64
 rw [List.take_succ_eq_append_getElem (by simp; omega)]
 simp
theorem sha5_isz95 : (Tryd.prog.info? 95).map (·.size) = some 64 := by kernel_rfl
theorem sha5_al95 {d : Option Tmp} {ty : TypeId} {pos : String} {af : Array Edge} {gd : Option (Nat × Bool)} (σ : Operand → Value) (w : World) : (execOp σ ⟨d, .alloc 95, ty, pos, af, gd⟩).run Tryd.prog w = .ok (.value (PQ w.heap.size 0)) (w.alloc (.cells ((List.replicate 64 0).map fun x => U x).toArray 95)) := by kernel_rfl
theorem sha5_ty95 : Tryd.prog.underlying 95 = some (.array 64 93) := by kernel_rfl
theorem sha5_sz93 : ∀ w' : World, (sizeOf 93).run Tryd.prog w' = .ok 1 w' := fun _ => by kernel_rfl
theorem sha5_ty93 : Tryd.prog.underlying 93 = some (.int .u32) := by kernel_rfl
theorem sha5_l0_22 (w : World) : (Instr.buildSlice 22 0 #[]).run Tryd.prog w = .ok (.slice (some ⟨w.heap.size, 0, none⟩) 0 0) (w.alloc (.cells #[] 5)) := by kernel_rfl
theorem sha5_ty22 : Tryd.prog.underlying 22 = some (.slice 5) := by kernel_rfl
theorem sha5_inf5 : (Tryd.prog.info? 5).map (fun i => (i.zero, i.size, i.bytes)) = some (some (.int .u8 0), 1, 1) := by kernel_rfl
theorem sha5_l1_22 (z : Int) (w : World) : (Instr.buildSlice 22 1 #[(0, .int .u8 z)]).run Tryd.prog w = .ok (.slice (some ⟨w.heap.size, 0, none⟩) 1 1) (w.alloc (.cells #[.int .u8 z] 5)) := by kernel_rfl
theorem sha5_ty3 : Tryd.prog.underlying 3 = some (.int .i64) := by kernel_rfl
theorem sha5_ty102 : Tryd.prog.underlying 102 = some (.int .u64) := by kernel_rfl
theorem sha5_ty74 : Tryd.prog.underlying 74 = some (.int .u64) := by kernel_rfl
theorem sha5_ty5 : Tryd.prog.underlying 5 = some (.int .u8) := by kernel_rfl
set_option maxRecDepth 100000
theorem rot_any (w : World) (x : UInt32) (n : Nat) (h0 : 0 < n) (h1 : n < 32) :
  Calls Tryd.prog 59 #[U x, .int .u64 (n : Int)] w fun e w' => e = .returned (U (Sha.rotr x n)) ∧ Ext w w' := by
 refine calls_of_wpF (args := [U (x), .int .u64 ((n : Nat) : Int)]) Tryd.func59 rfl 13 rfl (Nat.le_of_ble_eq_true rfl) ?_
 intro ρ0 hb
 have T0 : ρ0 0 = (U (x) : Value) := hb.get 0
 have T1 : ρ0 1 = (.int .u64 ((n : Nat) : Int) : Value) := hb.get 1
 clear hb
 have hE := Ext.refl w
 refine sk fun K1 hK1 => (wt (oA rfl (oZ (tN (hK1 _ _ (sk fun K2 hK2 => (wt (oM rfl (oM rfl (oS rfl (Yk.bin (yv := .int .u64 ((n : Nat) : Int)) T0 T1 rfl (u_shr _ _ _ (n) (by omega)) (oM rfl (oM rfl (oS rfl (Yk.bin (xv := .int .u64 ((32 : Nat) : Int)) (yv := .int .u64 ((n : Nat) : Int)) rfl T1 rfl (u64_sub _ _ _ (by omega) (by omega)) (oS rfl (Yk.bin (yv := .int .u64 (((32) - (n) : Nat) : Int)) T0 (vr (.int .u64 (((32) - (n) : Nat) : Int)) rfl) rfl (u_shl _ _ _ ((32) - (n)) (by omega)) (oS rfl (Yk.bin (vr (U ((x) >>> UInt32.ofNat (n))) rfl) (vr (U ((x) <<< UInt32.ofNat ((32) - (n)))) rfl) rfl (u_or _ _ _) (oA rfl ?_))))))))))))))))))))
 refine oZ (tN (hK2 _ _ (wpF_ret (postF_ret (fn := Tryd.f59) _ rfl [U (((x) >>> UInt32.ofNat (n)) ||| ((x) <<< UInt32.ofNat ((32) - (n))))] (U (((x) >>> UInt32.ofNat (n)) ||| ((x) <<< UInt32.ofNat ((32) - (n))))) rfl ⟨rfl, trivial⟩ ?_))))
 exact ⟨by unfold Sha.rotr; rw [UInt32.or_comm], hE⟩

theorem key_any (w : World) (t : Nat) (ht : t < 64) :
  Calls Tryd.prog 60 #[NI t] w fun e w' => e = .returned (U (Sha.words.getD t 0)) ∧ Ext w w' := by
 refine calls_of_wpF (args := [NI t]) Tryd.func60 rfl 8 rfl (Nat.le_of_ble_eq_true rfl) ?_
 intro ρ0 hb
 have T0 : ρ0 0 = (NI t : Value) := hb.get 0
 clear hb
 have hE := Ext.refl w
 refine sk fun K1 hK1 => (wt (oA rfl (oZ (tN (hK1 _ _ (sk fun K2 hK2 => (wt (oS rfl (Yk.run (v := .agg (Sha.words.map fun x => U x).toArray) (by kernel_rfl) (oS rfl (Yk.alloc (cs := ((List.replicate 64 0).map fun x => U x).toArray) sha5_al95 fun n3 w4 hn5 hb6 hx7 hs8 => ?_)))))))))))
 have hE := hE.trans hx7
 have hb9 := hb6; clear hb6
 have hl10 : n3 < w4.heap.size := by omega
 refine oS rfl (Yk.storeAll (vr (PQ n3 0) rfl) (vr (.agg (Sha.words.map fun x => U x).toArray) rfl) hb9 (rfl) (sha5_isz95) (cellsU_one _) fun w11 hb12 hg13 hs14 => ?_)
 have hE := row_fresh hE hg13 (Nat.le_trans (Nat.le_refl _) (by omega))
 clear hb9
 have hb9 := hb12; clear hb12
 have hl15 := bl hb9
 refine oZ (tN (hK2 _ _ (sk fun K16 hK16 => (wt (oM rfl (oS rfl (Yk.atArr0 (i := t) sha5_ty95 sha5_sz93 (vr (PQ n3 0) rfl) T0 (by omega) (oS rfl (Yk.cell1 sha5_ty93 rfl (vr (PQ n3 t) rfl) (cellAt hb9 (word_at (i := t) (by show _ < 64; omega))) (oA rfl (oZ (tN (hK16 _ _ (wpF_ret (postF_ret (fn := Tryd.f60) _ rfl [U ((Sha.words).getD (t) 0)] (U ((Sha.words).getD (t) 0)) rfl ⟨rfl, trivial⟩ ?_)))))))))))))))
 exact ⟨rfl, hE⟩

theorem padded_any (w : World) (v : Value) (l : List UInt8) (hr : RB w v l) (hl : l.length ≤ 70368744177664) :
  Calls Tryd.prog 58 #[v] w fun e w' => ∃ v', e = .returned v' ∧ NewB 5 w w' v' (l ++ Sha.tail l.length) := by
 refine calls_of_wpF (args := [v]) Tryd.func58 rfl 38 rfl (Nat.le_of_ble_eq_true rfl) ?_
 intro ρ0 hb
 have T0 : ρ0 0 = (v : Value) := hb.get 0
 clear hb
 have hE := Ext.refl w
 refine sk fun K1 hK1 => (wt (oA rfl (oZ (tN (hK1 _ _ (sk fun K2 hK2 => (wt (oS rfl (Yk.lit0 sha5_l0_22 fun v3 w4 hN5 => ?_)))))))))
 have hE := hE.trans hN5.ext
 have ho6 := hN5.own; clear hN5
 refine oM rfl (oS rfl (Yk.appendRB _ _ w.heap.size (.int .u8 0) sha5_ty22 sha5_inf5 rfl sha5_ty22 (([] : List UInt8)) (l) (own_of ho6 (vr v3 rfl)) (RB.of (hr.keep hE) T0) (by simp; omega) hE.size fun v7 w8 ho9 hg10 => ?_))
 have hg10 : Grew w4 w8 v3 v7 := hg10
 have hE := ext_grew hE hg10 ho6 (Nat.le_refl _)
 clear ho6
 refine oA rfl (oZ (tN (hK2 _ _ (sk fun K11 hK11 => (wt (oM rfl (oS rfl (Yk.lit1 (b := 128) sha5_l1_22 (vr (B8 (128)) rfl) fun v12 w13 hN14 => ?_))))))))
 have hA15 := Ext.refl w8
 have hea16 := hE
 have hz17 := hE.size
 have hap18 : ApartV v7 v12 := apartv_new ho9 hN14.own
 have hap19 : ApartV v12 v7 := apartv_new' ho9 hN14.own
 have hE := hE.trans hN14.ext
 have ho9 := Stab.own _ _ _ _ _ _ _ _ ho9 hN14.ext
 have hA15 := hA15.trans hN14.ext
 have ho20 := hN14.own; clear hN14
 refine oS rfl (Yk.appendRB _ _ w.heap.size (.int .u8 0) sha5_ty22 sha5_inf5 rfl sha5_ty22 (([] : List UInt8) ++ l) ([(128 : UInt8)]) (own_of ho9 (vr v7 rfl)) (RB.of (RB.ofOwn ho20) (vr v12 rfl)) (by simp; omega) hE.size fun v21 w22 ho23 hg24 => ?_)
 have hg24 : Grew w13 w22 v7 v21 := hg24
 have hap25 : ApartV v21 v12 := apartv_grew hg24 hap18 ho20
 have hap26 : ApartV v12 v21 := fun k h1 h2 => hap25 k h2 h1
 have hE := ext_grew hE hg24 ho9 (Nat.le_refl _)
 clear hA15
 have ho20 := own_grew ho20 hg24 hap18
 clear ho9
 refine oA rfl (oL_ [(0, v), (2, (Value.slice none 0 0)), (3, v21)] ⟨T0, rfl, rfl, trivial⟩ fun ρ27 ⟨T0, T2, T3, _⟩ => (tN (hK11 _ _ (sk fun K28 hK28 => (wpF_block (wpF_loop (fun (ρ : Slots) (wz : World) => ∃ k : Nat, ∃ v3 : Value, ρ 0 = (v : Value) ∧ ρ 2 = ((Value.slice none 0 0) : Value) ∧ ρ 3 = (v3 : Value) ∧ Ext w wz ∧ wz.ownsRow w.heap.size 5 1 v3 (l ++ 128 :: List.replicate k 0 : List UInt8).length (Lib.byteCells (l ++ 128 :: List.replicate k 0)) ∧ (k ≤ (119 - l.length % 64) % 64) ∧ True) (fun ρ _ => l.length + 65 - sliceLen (ρ 3)) ⟨0, v21, T0, T2, T3, hE, own_eq ho23 (by simp), Nat.zero_le _, trivial⟩ ?_))))))
 clear ho20
 clear ho23
 clear hE
 rintro ρ29 w30 ⟨k, v3, T0, T2, T3, hE, ho_v3, hk, -⟩
 have q3 := T3
 have ql3 := own_sliceLen ho_v3
 refine sk fun K31 hK31 => (sk fun K32 hK32 => (wt (oM rfl (oS rfl (Yk.lenRB sha5_ty22 (RB.of (RB.ofOwn ho_v3) T3) (oS rfl (Yk.bin (xv := NI ((l ++ 128 :: List.replicate k 0 : List UInt8).length)) (yv := NI 64) rfl rfl rfl (i64_rem _ _ _ (by omega)) (oS rfl (Yk.eqI (a := (((l ++ 128 :: List.replicate k 0 : List UInt8).length) % (64) : Nat)) (b := (56 : Nat)) rfl rfl (k_neq _ _ _ _) (oZ (tN (hK32 _ _ ?_))))))))))))
 refine wpF_cond ((((l ++ 128 :: List.replicate k 0 : List UInt8).length) % (64) : Nat) ≠ (56)) (vr (.bool (decide ((((l ++ 128 :: List.replicate k 0 : List UInt8).length) % (64) : Nat) ≠ (56)))) rfl) (fun hc0 => ?_) (fun hc0 => ?_)
 ·refine wpF_skip (tN (hK31 _ _ (wpF_block (wt (oM rfl (oS rfl (Yk.lit1 (b := 0) sha5_l1_22 (vr (B8 (0)) rfl) fun v33 w34 hN35 => ?_)))))))
  have hA36 := Ext.refl w30
  have hea37 := hE
  have hz38 := hE.size
  have hap39 : ApartV v3 v33 := apartv_new ho_v3 hN35.own
  have hap40 : ApartV v33 v3 := apartv_new' ho_v3 hN35.own
  have hE := hE.trans hN35.ext
  have ho_v3 := Stab.own _ _ _ _ _ _ _ _ ho_v3 hN35.ext
  have hA36 := hA36.trans hN35.ext
  have ho41 := hN35.own; clear hN35
  refine oS rfl (Yk.appendRB _ _ w.heap.size (.int .u8 0) sha5_ty22 sha5_inf5 rfl sha5_ty22 (l ++ 128 :: List.replicate k 0) ([(0 : UInt8)]) (own_of ho_v3 T3) (RB.of (RB.ofOwn ho41) (vr v33 rfl)) (by simp; omega) hE.size fun v42 w43 ho44 hg45 => ?_)
  have hg45 : Grew w34 w43 v3 v42 := .eqv T3 hg45
  have hap46 : ApartV v42 v33 := apartv_grew hg45 hap39 ho41
  have hap47 : ApartV v33 v42 := fun k h1 h2 => hap46 k h2 h1
  have hE := ext_grew hE hg45 ho_v3 (Nat.le_refl _)
  clear hA36
  have ho41 := own_grew ho41 hg45 hap39
  clear ho_v3
  refine oA rfl (oL_ [(0, v), (2, (Value.slice none 0 0)), (3, v42)] ⟨T0, T2, rfl, trivial⟩ fun ρ48 ⟨T0, T2, T3, _⟩ => (bN (tN (And.intro ⟨k + 1, v42, T0, T2, T3, hE, own_eq ho44 (by simp [List.replicate_succ']), by simp at hc0; omega, trivial⟩ ?_))))
  show l.length + 65 - sliceLen (ρ48 3) < l.length + 65 - sliceLen (ρ29 3)
  rw [T3, q3]
  have qn := own_sliceLen ho44
  rw [qn, ql3]
  simp
  omega
 refine wpF_exit (thenF_exit (thenF_exit (inBlockF_hit (tN (hK28 _ _ (sk fun K49 hK49 => (wt (oM rfl (oS rfl (Yk.lenRB sha5_ty22 (RB.of (hr.keep hE) T0) (oS rfl (Yk.convI sha5_ty3 sha5_ty102 (vr (NI l.length) rfl) (wrap_u64 (l.length) (by omega)) (oS rfl (Yk.bin (xv := .int .u64 ((l.length : Nat) : Int)) (yv := .int .u64 ((8 : Nat) : Int)) rfl rfl rfl (u64_mul _ _ _ (by omega)) (oA rfl (oZ ?_))))))))))))))))
 obtain ⟨Z, hZ⟩ : ∃ Z, Z = l ++ 128 :: List.replicate k 0 := ⟨_, rfl⟩
 have ho_v3 : w30.ownsRow w.heap.size 5 1 v3 (Z : List UInt8).length (Lib.byteCells (Z)) := (hZ.symm : l ++ 128 :: List.replicate k 0 = Z) ▸ ho_v3
 have hZl : Z.length = l.length + 1 + k := by rw [hZ]; simp; omega
 refine tN (hK49 _ _ (sk fun K50 hK50 => (sk fun K51 hK51 => (wt (oA rfl (oL_ [(0, v), (2, (Value.slice none 0 0)), (3, v3), (4, .int .u64 (((l.length) * (8) : Nat) : Int)), (5, NI 0)] ⟨T0, T2, T3, rfl, rfl, trivial⟩ fun ρ52 ⟨T0, T2, T3, T4, T5, _⟩ => (tN (hK51 _ _ (wpF_block (wpF_loop (fun (ρ : Slots) (wz : World) => ∃ i : Nat, ∃ v4 : Value, ρ 0 = (v : Value) ∧ ρ 2 = ((Value.slice none 0 0) : Value) ∧ ρ 4 = (.int .u64 (((l.length) * (8) : Nat) : Int) : Value) ∧ ρ 5 = (NI i : Value) ∧ ρ 3 = (v4 : Value) ∧ Ext w wz ∧ wz.ownsRow w.heap.size 5 1 v4 (Z ++ (Sha.be64 (8 * l.length)).take i : List UInt8).length (Lib.byteCells (Z ++ (Sha.be64 (8 * l.length)).take i)) ∧ (i ≤ 8) ∧ True) (fun ρ _ => 8 - (intOf (ρ 5)).toNat) ⟨0, v3, T0, T2, T4, T5, T3, hE, own_eq ho_v3 (by simp), by omega, trivial⟩ ?_))))))))))
 clear ho_v3
 clear hE
 rintro ρ53 w54 ⟨i, v4, T0, T2, T4, T5, T3, hE, ho4, hi, -⟩
 have q5 := T5
 have ql3 := own_sliceLen ho4
 refine sk fun K55 hK55 => (sk fun K56 hK56 => (wt (oM rfl (oS rfl (Yk.eqI (a := (i : Nat)) (b := (8 : Nat)) T5 rfl (k_lss _ _ _ _) (oZ (tN (hK56 _ _ ?_))))))))
 refine wpF_cond ((i) < (8)) (vr (.bool (decide ((i) < (8)))) rfl) (fun hc1 => ?_) (fun hc1 => ?_)
 ·refine wpF_skip (tN (hK55 _ _ (sk fun K57 hK57 => (wpF_block (wt (oM rfl (oM rfl (oM rfl (oS rfl (Yk.bin (xv := NI 8) (yv := NI i) rfl T5 rfl (i64_mul _ _ _ (by omega)) (oS rfl (Yk.bin (xv := NI 56) (yv := NI ((8) * (i))) rfl rfl rfl (i64_sub _ _ _ (by omega) (by omega)) (oS rfl (Yk.convI sha5_ty3 sha5_ty74 (vr (NI ((56) - ((8) * (i)))) rfl) (wrap_u64 ((56) - ((8) * (i))) (by omega)) (oS rfl (Yk.bin (xv := .int .u64 (((l.length) * (8) : Nat) : Int)) (yv := .int .u64 (((56) - ((8) * (i)) : Nat) : Int)) T4 rfl rfl (u64_shr _ _ _ _ (by omega)) (oS rfl (Yk.convI sha5_ty102 sha5_ty5 (vr (.int .u64 ((((l.length) * (8)) / 2 ^ ((56) - ((8) * (i))) : Nat) : Int)) rfl) (toByte (((l.length) * (8)) / 2 ^ ((56) - ((8) * (i))))) (oS rfl (Yk.lit1 (b := UInt8.ofNat (((l.length) * (8)) / 2 ^ ((56) - ((8) * (i))))) sha5_l1_22 (vr (B8 (UInt8.ofNat (((l.length) * (8)) / 2 ^ ((56) - ((8) * (i)))))) rfl) fun v58 w59 hN60 => ?_))))))))))))))))))))
  have hA61 := Ext.refl w54
  have hea62 := hE
  have hz63 := hE.size
  have hap64 : ApartV v4 v58 := apartv_new ho4 hN60.own
  have hap65 : ApartV v58 v4 := apartv_new' ho4 hN60.own
  have hE := hE.trans hN60.ext
  have ho4 := Stab.own _ _ _ _ _ _ _ _ ho4 hN60.ext
  have hA61 := hA61.trans hN60.ext
  have ho66 := hN60.own; clear hN60
  refine oS rfl (Yk.appendRB _ _ w.heap.size (.int .u8 0) sha5_ty22 sha5_inf5 rfl sha5_ty22 (Z ++ (Sha.be64 (8 * l.length)).take i) ([(UInt8.ofNat (((l.length) * (8)) / 2 ^ ((56) - ((8) * (i)))) : UInt8)]) (own_of ho4 T3) (RB.of (RB.ofOwn ho66) (vr v58 rfl)) (by simp [Sha.be64]; omega) hE.size fun v67 w68 ho69 hg70 => ?_)
  have hg70 : Grew w59 w68 v4 v67 := .eqv T3 hg70
  have hap71 : ApartV v67 v58 := apartv_grew hg70 hap64 ho66
  have hap72 : ApartV v58 v67 := fun k h1 h2 => hap71 k h2 h1
  have hE := ext_grew hE hg70 ho4 (Nat.le_refl _)
  clear hA61
  have ho66 := own_grew ho66 hg70 hap64
  clear ho4
  refine oA rfl (oZ (bN (tN (hK57 _ _ (wt (oM rfl (oS rfl (Yk.bin (xv := NI i) (yv := NI 1) T5 rfl rfl (i64_add _ _ _ (by omega)) (oA rfl (oL_ [(0, v), (2, (Value.slice none 0 0)), (3, v67), (4, .int .u64 (((l.length) * (8) : Nat) : Int)), (5, NI ((i) + (1)))] ⟨T0, T2, rfl, T4, rfl, trivial⟩ fun ρ73 ⟨T0, T2, T3, T4, T5, _⟩ => (tN (And.intro ⟨i + 1, v67, T0, T2, T4, T5, T3, hE, own_eq ho69 (by rw [Sha.be64_take _ _ hc1, List.append_assoc, Nat.mul_comm l.length 8]), by omega, trivial⟩ ?_))))))))))))
  show 8 - (intOf (ρ73 5)).toNat < 8 - (intOf (ρ53 5)).toNat
  rw [T5, q5]
  simp only [intOf, Int.toNat_natCast]; omega
 refine wpF_exit (thenF_exit (thenF_exit (inBlockF_hit (tN (hK50 _ _ (sk fun K74 hK74 => (wt (oM rfl (oA rfl (oZ (tN (hK74 _ _ (wpF_ret (postF_ret (fn := Tryd.f58) _ rfl [v4] (v4) rfl ⟨T3, trivial⟩ ?_))))))))))))))
 exact ⟨_, rfl, own_eq ho4 (by simp at hc0; rw [hZ, show i = 8 by omega, show k = (119 - l.length % 64) % 64 by omega, List.take_of_length_le (by simp [Sha.be64])]; simp [Sha.tail]), Ext.grown hE⟩
open Go.RowKit
set_option maxRecDepth 100000
def HashAt (w : World) (g : Nat) (p : List UInt8) : Prop := ∃ s r, Sha.At p s r ∧ w.heap[g]? = some (.cells (hashL s r (p.length % 64) p.length).toArray 100 (0, 0))
theorem HashAt.keep {w w' : World} {g : Nat} {p : List UInt8} (h : HashAt w g p) (k : Ext w w') : HashAt w' g p := by
  obtain ⟨s, r, h1, h2⟩ := h
  exact ⟨s, r, h1, eb k h2⟩
theorem sha6_ty94 : Tryd.prog.underlying 94 = some (.array 8 93) := by kernel_rfl
theorem sha6_isz94 : (Tryd.prog.info? 94).map (·.size) = some 8 := by kernel_rfl
theorem sha6_ty76 : Tryd.prog.underlying 76 = some (.pointer 100) := by kernel_rfl
theorem sha6_fo100_3 : FieldOff Tryd.prog 100 3 73 := fun b o w => by simp [go_sem]
theorem sha6_ty3 : Tryd.prog.underlying 3 = some (.int .i64) := by kernel_rfl
theorem sha6_ty22 : Tryd.prog.underlying 22 = some (.slice 5) := by kernel_rfl
theorem sha6_isz3 : (Tryd.prog.info? 3).map (·.size) = some 1 := by kernel_rfl
theorem sha6_fo100_1 : FieldOff Tryd.prog 100 1 8 := fun b o w => by simp [go_sem]
theorem sha6_fo100_2 : FieldOff Tryd.prog 100 2 72 := fun b o w => by simp [go_sem]
theorem sha6_ty98 : Tryd.prog.underlying 98 = some (.array 64 5) := by kernel_rfl
theorem sha6_sz5 : ∀ w' : World, (sizeOf 5).run Tryd.prog w' = .ok 1 w' := fun _ => by kernel_rfl
theorem sha6_isz5 : (Tryd.prog.info? 5).map (·.size) = some 1 := by kernel_rfl
theorem sha6_fo100_0 : FieldOff Tryd.prog 100 0 0 := fun b o w => by simp [go_sem]
theorem sha6_pl61 : Plain Tryd.prog 61 := fun _ _ => by kernel_rfl
theorem new_any (w : World) (hG : Laid w) :
    Calls Tryd.prog 39 #[] w fun e w' => ∃ g, e = .returned (PQ g 0) ∧ w.heap.size ≤ g ∧ HashAt w' g [] ∧ Ext w w' := by
  obtain ⟨tF, fF, hF0⟩ := hG.first
  refine calls_of_wpF (args := []) Tryd.func39 rfl 4 rfl (Nat.le_of_ble_eq_true rfl) ?_
  intro ρ0 hb
  clear hb
  have hE := Ext.refl w
  refine sk fun K1 hK1 => (wt (oA rfl (oZ (tN (hK1 _ _ (sk fun K2 hK2 => (wt (oS rfl (Yk.loadAll (vr (PQ 0 0) rfl) (eb hE hF0) sha6_ty94 rfl sha6_isz94 (oS rfl (Yk.run (v := .agg (hashL Sha.first (List.replicate 64 0) 0 0).toArray) (by kernel_rfl) (oS rfl (Yk.box (cs := (hashL Sha.first (List.replicate 64 0) 0 0 : List Value).toArray) (vr (.agg (hashL Sha.first (List.replicate 64 0) 0 0).toArray) rfl) fun n3 w4 hn5 hb6 hx7 hs8 => ?_)))))))))))))
  have hE := hE.trans hx7
  have hb9 := hb6; clear hb6
  have hl10 : n3 < w4.heap.size := by omega
  refine oA rfl (oZ (tN (hK2 _ _ (wpF_ret (postF_ret (fn := Tryd.f39) _ rfl [PQ n3 0] (PQ n3 0) rfl ⟨rfl, trivial⟩ ?_)))))
  exact ⟨_, rfl, by omega, ⟨_, _, Sha.at_nil, hb9⟩, hE⟩

theorem write_any (w : World) (hG : Laid w) (g : Nat) (hh : 1 < g) (p : List UInt8) (hH : HashAt w g p) (v : Value) (c : List UInt8) (hc : RB w v c) (hv : v.ownBlock ≠ some g) (hb : p.length + c.length < 4611686018427387904) :
    Calls Tryd.prog 40 #[PQ g 0, v] w fun e w' => e = .returned (.tuple #[]) ∧ HashAt w' g (p ++ c) ∧ w.grownBy w' (some g) := by
  obtain ⟨s, r, hat, hb0⟩ := hH
  have hs := hat.slen
  have hr := hat.len
  obtain ⟨f, hf⟩ : ∃ f, f = p.length % 64 := ⟨_, rfl⟩
  rw [← hf] at hb0
  obtain ⟨N, hN⟩ : ∃ N, p.length + c.length = N := ⟨_, rfl⟩
  have hgr : w.grownBy w (some g) := World.grownBy.refl _ _
  refine calls_of_wpF (args := [PQ g 0, v]) Tryd.func40 rfl 60 rfl (Nat.le_of_ble_eq_true rfl) ?_
  intro ρ0 hb
  have T0 : ρ0 0 = (PQ g 0 : Value) := hb.get 0
  have T1 : ρ0 1 = (v : Value) := hb.get 1
  clear hb
  refine sk fun K1 hK1 => (sk fun K2 hK2 => (wt (oM rfl (oS rfl (Yk.eqlNil sha6_ty76 T0 (oZ (tN (hK2 _ _ (wpF_false (vr (.bool (false)) rfl) (wpF_skip (tN (hK1 _ _ (sk fun K3 hK3 => (wt (oM rfl (oS rfl (Yk.nilCheck T0 (oS rfl (Yk.fieldAt sha6_fo100_3 (vr (PQ g 0) rfl) (oS rfl (Yk.cell1 sha6_ty3 rfl (vr (PQ g 73) rfl) (cellAt hb0 (hashL_size hs hr)) ?_)))))))))))))))))))))
  refine oM rfl (oS rfl (Yk.lenRB sha6_ty22 (RB.of hc T1) (oS rfl (Yk.bin (xv := NI p.length) (yv := NI c.length) rfl rfl rfl (i64_add _ _ _ (by omega)) (oS rfl (Yk.nilCheck T0 (oS rfl (Yk.fieldAt sha6_fo100_3 (vr (PQ g 0) rfl) (oS rfl (Yk.storeC (i := 73) (v := NI ((p.length) + (c.length))) (vr (PQ g 73) rfl) (vr (NI ((p.length) + (c.length))) rfl) hb0 (by rw [hashL_length hs hr]; omega) sha6_isz3 rfl rfl fun w4 hb5 hg6 hs7 => ?_))))))))))
  have hc := RB.kept hc hg6 (.inr hv)
  have hG : Laid w4 := Laid.kept hG hg6 hh
  have hgr : w.grownBy w4 (some g) := grownBy_trans hgr hg6 (fun _ e => .inl e)
  clear hb0
  have hb0 := hb5; clear hb5
  have hl8 := bl hb0
  refine oL_ [(0, PQ g 0), (1, v), (6, .bool (false))] ⟨T0, T1, rfl, trivial⟩ fun ρ9 ⟨T0, T1, T6, _⟩ => ?_
  have hb0 : w4.heap[g]? = some (.cells (hashL s r f N).toArray 100 (0, 0)) := blk_eq hb0 (by rw [hashL_setSize hs hr, hN])
  refine tN (hK3 _ _ (wpF_block (wpF_loop (fun (ρ : Slots) (wz : World) => ∃ m : Nat, ∃ s1 : List UInt32, ∃ r1 : List UInt8, ∃ f1 : Nat, ∃ v1 : Value, ρ 0 = (PQ g 0 : Value) ∧ ρ 6 = (.bool (false) : Value) ∧ ρ 1 = (v1 : Value) ∧ Laid wz ∧ w.grownBy wz (some g) ∧ RB wz v1 (c.drop m) ∧ wz.heap[g]? = some (.cells (hashL s1 r1 f1 N).toArray 100 (0, 0)) ∧ (m ≤ c.length) ∧ (Sha.At (p ++ c.take m) s1 r1) ∧ (f1 = (p ++ c.take m).length % 64) ∧ (OB v1 g) ∧ True) (fun ρ _ => sliceLen (ρ 1)) ⟨0, s, r, f, v, T0, T6, T1, hG, hgr, hc, blk_eq hb0 (rfl), by omega, by simpa using hat, by simpa using hf, hv, trivial⟩ ?_)))
  clear hc
  clear hb0
  clear hG hgr
  rintro ρ10 w11 ⟨m, s1, r1, f1, v1, T0, T6, T1, hG, hgr, hc1, hb0l, hm, hat1, hf1, hv1, -⟩
  have q1 := T1
  have ql1 := hc1.sliceLen
  have hs1 := hat1.slen
  have hr1 := hat1.len
  have hf64 : f1 < 64 := by omega
  refine sk fun K12 hK12 => (sk fun K13 hK13 => (wt (oM rfl (oS rfl (Yk.lenRB sha6_ty22 (RB.of hc1 T1) (oS rfl (Yk.eqI (a := ((c.drop m : List UInt8).length : Nat)) (b := (0 : Nat)) rfl rfl (k_gtr _ _ _ _) (oZ (tN (hK13 _ _ ?_))))))))))
  refine wpF_cond ((0) < ((c.drop m : List UInt8).length)) (vr (.bool (decide ((0) < ((c.drop m : List UInt8).length)))) rfl) (fun hc1' => ?_) (fun hc1' => ?_)
  · obtain ⟨X, hX⟩ : ∃ X, X = (c.drop m).take (64 - f1) := ⟨_, rfl⟩
    obtain ⟨n, hn⟩ : ∃ n, n = X.length := ⟨_, rfl⟩
    have hxl : X.length = n := hn.symm
    have hcl : (c.drop m).length = c.length - m := List.length_drop
    have hnm : Nat.min (c.drop m).length (64 - f1) = n := by rw [hn, hX, List.length_take]; exact Nat.min_comm _ _
    have hn1 : 0 < n := by rw [← hnm]; exact Nat.lt_min.2 ⟨hc1', by omega⟩
    have hn2 : f1 + n ≤ 64 := by have : n ≤ 64 - f1 := by rw [← hnm]; exact Nat.min_le_right _ _
                                 omega
    have hn3 : n ≤ (c.drop m).length := by rw [← hnm]; exact Nat.min_le_left _ _
    have hXn : X = (c.drop m).take n := by rw [hX, ← hnm]; simp [List.take_eq_take_iff]; exact Nat.min_comm _ _
    have htk : (p ++ c.take m) ++ X = p ++ c.take (m + n) := by rw [List.append_assoc, hXn, List.take_add]
    
    refine wpF_skip (tN (hK12 _ _ (wpF_block (sk fun K14 hK14 => ?_))))
    refine wpF_draw_mid 9 [Is (PQ g 0), Is (PQ g 0), Is (PQ g 8), Is (PQ g 0), Is (PQ g 0), Is (PQ g 72), Is (NI f1), Is (.slice (some ⟨g, 8 + f1, none⟩) (64 - f1) (64 - f1)), Is (v1), fun x w' => x = NI n ∧ w'.heap[g]? = some (.cells (hashL s1 (r1.take f1 ++ X ++ r1.drop (f1 + n)) f1 N).toArray 100 (0, 0)) ∧ w11.grownBy w' (some g), fun x w' => x = NI n ∧ w'.heap[g]? = some (.cells (hashL s1 (r1.take f1 ++ X ++ r1.drop (f1 + n)) f1 N).toArray 100 (0, 0)) ∧ w11.grownBy w' (some g)] (by kernel_rfl) [19, 20, 21, 22, 23, 24, 25, 26, 27, 28, 4] (by kernel_rfl) (by kernel_rfl) (by kernel_rfl) rfl (si9 ⟨(fun _ _ _ hp he => ⟨hp.1, eb he hp.2.1, grownBy_trans hp.2.2 he.grown (fun _ e => by cases e)⟩), (fun _ _ _ hp he => ⟨hp.1, eb he hp.2.1, grownBy_trans hp.2.2 he.grown (fun _ e => by cases e)⟩), trivial⟩) (si9 trivial) ?hs1003 ?hQ1003
    case hs1003 =>
      refine ⟨?_, ?_, ?_, ?_, ?_, ?_, ?_, ?_, ?_, ?_, ?_, trivial⟩
      · refine stepN rfl fun σ w1 hC h => ?_
        have e0 := (eqo (h 0 (by decide))).trans T0
        have hC : Ext _ w1 := hC
        exact Yk.move e0 ⟨Ext.refl _, rfl⟩
      · refine stepN rfl fun σ w1 hC h => ?_
        have e19 := eqo (h 19 (by decide))
        have hC : Ext _ w1 := hC
        exact Yk.nilCheck e19 ⟨Ext.refl _, rfl⟩
      · refine stepN rfl fun σ w1 hC h => ?_
        have e20 := eqo (h 20 (by decide))
        have hC : Ext _ w1 := hC
        exact Yk.fieldAt sha6_fo100_1 e20 ⟨Ext.refl _, rfl⟩
      · refine stepN rfl fun σ w1 hC h => ?_
        have e0 := (eqo (h 0 (by decide))).trans T0
        have hC : Ext _ w1 := hC
        exact Yk.move e0 ⟨Ext.refl _, rfl⟩
      · refine stepN rfl fun σ w1 hC h => ?_
        have e22 := eqo (h 22 (by decide))
        have hC : Ext _ w1 := hC
        exact Yk.nilCheck e22 ⟨Ext.refl _, rfl⟩
      · refine stepN rfl fun σ w1 hC h => ?_
        have e23 := eqo (h 23 (by decide))
        have hC : Ext _ w1 := hC
        exact Yk.fieldAt sha6_fo100_2 e23 ⟨Ext.refl _, rfl⟩
      · refine stepN rfl fun σ w1 hC h => ?_
        have e24 := eqo (h 24 (by decide))
        have hC : Ext _ w1 := hC
        exact Yk.cell1 sha6_ty3 rfl e24 (cellAt (eb hC hb0l) (hashL_fill hs1 hr1)) ⟨Ext.refl _, rfl⟩
      · refine stepN rfl fun σ w1 hC h => ?_
        have e21 := eqo (h 21 (by decide))
        have e25 := eqo (h 25 (by decide))
        have hC : Ext _ w1 := hC
        exact Yk.sliceArrL sha6_ty98 sha6_sz5 e21 e25 (by omega) ⟨Ext.refl _, rfl⟩
      · refine stepN rfl fun σ w1 hC h => ?_
        have e1 := (eqo (h 1 (by decide))).trans T1
        have hC : Ext _ w1 := hC
        exact Yk.move e1 ⟨Ext.refl _, rfl⟩
      · refine stepN rfl fun σ w1 hC h => ?_
        have e26 := eqo (h 26 (by decide))
        have e27 := eqo (h 27 (by decide))
        have hC : Ext _ w1 := hC
        refine Yk.copyB (.tmp 26) (.tmp 27) (o := 8 + f1) sha6_ty22 sha6_isz5 e26 (l := c.drop m) (by show RB w1 (σ 27) _; rw [e27]; exact hc1.keep hC) (eb hC hb0l) (by rw [hnm]; simp only [List.size_toArray, hashL_length hs1 hr1]; omega) ?_
        refine ⟨trivial, by rw [hnm]; rfl, ?_, ?_⟩
        · rw [hnm, ← hX, ← hxl]
          have := hashL_rest (f := f1) (n := N) (at_ := f1) (x := X) hs1 hr1 (by omega)
          rw [this]
          exact setRow_heap w1 g _ _ _ _ (eb hC hb0l)
        · exact grownBy_trans (row_none hC.grown (some g)) ⟨rfl, rfl, rfl, by simp, fun k _ hk => setRow_other w1 g k _ (fun e => hk (by rw [e]))⟩ (fun _ e => .inl e)
      · refine stepN rfl fun σ w1 hC h => ?_
        have e28 : (fun x w' => x = NI n ∧ w'.heap[g]? = some (.cells (hashL s1 (r1.take f1 ++ X ++ r1.drop (f1 + n)) f1 N).toArray 100 (0, 0)) ∧ w11.grownBy w' (some g)) (σ 28) w1 := h 28 (by decide)
        exact Yk.assign rfl ⟨Ext.refl _, e28⟩
    intro ρ15 w16 he hf
    obtain ⟨-, -, -, -, -, -, -, -, -, -, k4, -⟩ := hf
    obtain ⟨T0, T1, T6, -⟩ := he.hold [(0, _), (1, _), (6, _)] ⟨T0, T1, T6, trivial⟩ rfl
    clear he
    have k4 : (fun x w' => x = NI n ∧ w'.heap[g]? = some (.cells (hashL s1 (r1.take f1 ++ X ++ r1.drop (f1 + n)) f1 N).toArray 100 (0, 0)) ∧ w11.grownBy w' (some g)) (ρ15 4) w16 := k4
    obtain ⟨v18, T4⟩ : ∃ v, ρ15 4 = v := ⟨_, rfl⟩
    rw [T4] at k4
    have hk19 := k4; clear k4
    obtain ⟨hv4, hb4, hg4⟩ := hk19
    rw [hv4] at T4
    have hG : Laid w16 := Laid.kept hG hg4 hh
    have hgr : w.grownBy w16 (some g) := grownBy_trans hgr hg4 (fun _ e => .inl e)
    have hc1 := RB.kept hc1 hg4 (.inr hv1)
    clear hb0l
    have hb20 := hb4; clear hb4
    obtain ⟨r2, hr2⟩ : ∃ r2, r2 = r1.take f1 ++ X ++ r1.drop (f1 + n) := ⟨_, rfl⟩
    have hr2l : r2.length = 64 := by rw [hr2]; simp only [List.length_append, List.length_take, List.length_drop]; omega
    have hb20 : w16.heap[g]? = some (.cells (hashL s1 r2 f1 N).toArray 100 (0, 0)) := blk_eq hb20 (by rw [← hr2])
    refine tN (hK14 _ _ (sk fun K21 hK21 => (wt (oM rfl (oS rfl (Yk.nilCheck T0 (oS rfl (Yk.fieldAt sha6_fo100_2 (vr (PQ g 0) rfl) (oS rfl (Yk.cell1 sha6_ty3 rfl (vr (PQ g 72) rfl) (cellAt hb20 (hashL_fill hs1 hr2l)) (oM rfl (oS rfl (Yk.bin (xv := NI f1) (yv := NI n) rfl T4 rfl (i64_add _ _ _ (by omega)) (oS rfl (Yk.nilCheck T0 (oS rfl (Yk.fieldAt sha6_fo100_2 (vr (PQ g 0) rfl) (oS rfl (Yk.storeC (i := 72) (v := NI ((f1) + (n))) (vr (PQ g 72) rfl) (vr (NI ((f1) + (n))) rfl) hb20 (by rw [hashL_length hs1 hr2l]; omega) sha6_isz3 rfl rfl fun w22 hb23 hg24 hs25 => ?_)))))))))))))))))))
    have hG : Laid w22 := Laid.kept hG hg24 hh
    have hgr : w.grownBy w22 (some g) := grownBy_trans hgr hg24 (fun _ e => .inl e)
    have hc1 := RB.kept hc1 hg24 (.inr hv1)
    clear hb20
    have hb20 := hb23; clear hb23
    have hl26 := bl hb20
    refine oZ ?_
    have hb20 : w22.heap[g]? = some (.cells (hashL s1 r2 (f1 + n) N).toArray 100 (0, 0)) := blk_eq hb20 (hashL_setFill hs1 hr2l)
    refine tN (hK21 _ _ (sk fun K27 hK27 => (wt (oM rfl (oM rfl (oS rfl (Yk.sliceLo (xs := c.drop m) (l := n) sha6_ty22 sha6_sz5 T1 hc1 T4 (hn3) fun v28 hr29 ha30 => ?_)))))))
    have hap31 : OB v28 g := fun e => hv1 (ha30.symm.trans e)
    refine oA rfl (oZ (tN (hK27 _ _ (sk fun K32 hK32 => (wt (oM rfl (oS rfl (Yk.nilCheck T0 (oS rfl (Yk.fieldAt sha6_fo100_2 (vr (PQ g 0) rfl) (oS rfl (Yk.cell1 sha6_ty3 rfl (vr (PQ g 72) rfl) (cellAt hb20 (hashL_fill hs1 hr2l)) (oS rfl (Yk.eqI (a := ((f1 + n) : Nat)) (b := (64 : Nat)) rfl rfl (k_eql _ _ _ _) (oZ (tN (hK32 _ _ ?_)))))))))))))))))
    refine wpF_cond (((f1 + n) : Nat) = (64)) (vr (.bool (decide (((f1 + n) : Nat) = (64)))) rfl) (fun hc2 => ?_) (fun hc2 => ?_)
    · have hr2f : r2 = r1.take f1 ++ X := by rw [hr2, List.drop_of_length_le (by omega), List.append_nil]
      obtain ⟨R, hR⟩ : ∃ R, R = Sha.rounds s1 r2 := ⟨_, rfl⟩
      have HRl : R.length = 8 := by rw [hR, Sha.rounds_length _ _ hs1]
      have hatF : Sha.At ((p ++ c.take m) ++ X) R r2 := by rw [hR, hr2f, hf1]; exact hat1.fill X (by omega)
      have hfF : 0 = ((p ++ c.take m) ++ X).length % 64 := by rw [List.length_append]; omega
      refine sk fun K33 hK33 => ?_
      refine wpF_draw_store 12 (fun (a_ b_ : World) => b_.heap[g]? = some (.cells ((cellsU R).toList ++ (hashL s1 r2 (f1 + n) N).drop (cellsU R).size).toArray 100 (0, 0)) ∧ a_.grownBy b_ (some g) ∧ b_.heap.size = a_.heap.size) [Is (PQ g 0), Is (PQ g 0), Is (PQ g 0), Is (PQ g 0), Is (.agg (cellsU s1)), Is (PQ g 0), Is (PQ g 0), Is (PQ g 8), Is (.slice (some ⟨g, 8, none⟩) 64 64), Is (.agg (cellsU R)), Is (PQ g 0), Is (PQ g 0), (fun _ _ => True)] (by kernel_rfl) [45, 46, 47, 48, 49, 50, 51, 52, 53, 54, 55, 56] (by kernel_rfl) (by kernel_rfl) (by kernel_rfl) rfl (si12 ⟨Stab.any, trivial⟩) (si12 ⟨Stab.any, trivial⟩) ?hs2007 ?hQ2007
      case hs2007 =>
        refine ⟨?_, ?_, ?_, ?_, ?_, ?_, ?_, ?_, ?_, ?_, ?_, ?_, ?_, trivial⟩
        · refine stepN rfl fun σ w1 hC h => ?_
          have e0 := (eqo (h 0 (by decide))).trans T0
          have hC : Ext _ w1 := hC
          exact Yk.move e0 ⟨Ext.refl _, rfl⟩
        · refine stepN rfl fun σ w1 hC h => ?_
          have e0 := (eqo (h 0 (by decide))).trans T0
          have hC : Ext _ w1 := hC
          exact Yk.move e0 ⟨Ext.refl _, rfl⟩
        · refine stepN rfl fun σ w1 hC h => ?_
          have e46 := eqo (h 46 (by decide))
          have hC : Ext _ w1 := hC
          exact Yk.nilCheck e46 ⟨Ext.refl _, rfl⟩
        · refine stepN rfl fun σ w1 hC h => ?_
          have e47 := eqo (h 47 (by decide))
          have hC : Ext _ w1 := hC
          exact Yk.fieldAt sha6_fo100_0 e47 ⟨Ext.refl _, rfl⟩
        · refine stepN rfl fun σ w1 hC h => ?_
          have e48 := eqo (h 48 (by decide))
          have hC : Ext _ w1 := hC
          exact Yk.loadPart (cs := s1.map fun x => U x) e48 (range_state (eb hC hb20)) sha6_ty94 rfl (by rw [List.length_map, hs1]; exact sha6_isz94) ⟨Ext.refl _, rfl⟩
        · refine stepN rfl fun σ w1 hC h => ?_
          have e0 := (eqo (h 0 (by decide))).trans T0
          have hC : Ext _ w1 := hC
          exact Yk.move e0 ⟨Ext.refl _, rfl⟩
        · refine stepN rfl fun σ w1 hC h => ?_
          have e50 := eqo (h 50 (by decide))
          have hC : Ext _ w1 := hC
          exact Yk.nilCheck e50 ⟨Ext.refl _, rfl⟩
        · refine stepN rfl fun σ w1 hC h => ?_
          have e51 := eqo (h 51 (by decide))
          have hC : Ext _ w1 := hC
          exact Yk.fieldAt sha6_fo100_1 e51 ⟨Ext.refl _, rfl⟩
        · refine stepN rfl fun σ w1 hC h => ?_
          have e52 := eqo (h 52 (by decide))
          have hC : Ext _ w1 := hC
          exact Yk.sliceArr sha6_ty98 sha6_sz5 e52 ⟨Ext.refl _, rfl⟩
        · refine stepN rfl fun σ w1 hC h => ?_
          have e49 := eqo (h 49 (by decide))
          have e53 := eqo (h 53 (by decide))
          have hC : Ext _ w1 := hC
          refine Yk.callA2 sha6_pl61 e49 e53 ((rounds_any _ (hG.keep hC) s1 hs1 _ r2 (rb_rest hs1 hr2l (eb hC hb20)) hr2l).mono ?_)
          rintro e w2 ⟨rfl, hx⟩
          exact ⟨_, rfl, hx, by rw [hR]; rfl⟩
        · refine stepN rfl fun σ w1 hC h => ?_
          have e45 := eqo (h 45 (by decide))
          have hC : Ext _ w1 := hC
          exact Yk.nilCheck e45 ⟨Ext.refl _, rfl⟩
        · refine stepN rfl fun σ w1 hC h => ?_
          have e55 := eqo (h 55 (by decide))
          have hC : Ext _ w1 := hC
          exact Yk.fieldAt sha6_fo100_0 e55 ⟨Ext.refl _, rfl⟩
        · refine stepN rfl fun σ w1 hC h => ?_
          have e56 := eqo (h 56 (by decide))
          have e54 := eqo (h 54 (by decide))
          have hC : Ext _ w1 := hC
          exact Yk.storeHd e56 e54 (eb hC hb20) (by rw [cellsU_size, HRl, hashL_length hs1 hr2l]; omega) (by rw [cellsU_size, HRl]; exact sha6_isz94) (cellsU_one _) fun w2 h1 h2 h3 => ⟨⟨h1, h2, h3⟩, trivial⟩
      intro ρ34 w37 w35 hx36 hS38 he hf
      obtain ⟨-, -, -, -, -, -, -, -, -, -, -, -, -⟩ := hf
      obtain ⟨T0, T1, T4, T6, -⟩ := he.hold [(0, _), (1, v28), (4, _), (6, _)] ⟨T0, rfl, T4, T6, trivial⟩ rfl
      clear he
      have hG : Laid w37 := (hG.keep hx36)
      have hgr : w.grownBy w37 (some g) := grownBy_trans hgr hx36.grown (fun _ e => by cases e)
      have hc1 := hc1.keep hx36
      have hb20 := eb hx36 hb20
      have hr29 := hr29.keep hx36
      obtain ⟨hb39, hg40, hs41⟩ := hS38
      have hG : Laid w35 := Laid.kept hG hg40 hh
      have hgr : w.grownBy w35 (some g) := grownBy_trans hgr hg40 (fun _ e => .inl e)
      have hc1 := RB.kept hc1 hg40 (.inr hv1)
      have hr29 := RB.kept hr29 hg40 (.inr hap31)
      clear hb20
      have hb20 := hb39; clear hb39
      have hb20 : w35.heap[g]? = some (.cells (hashL R r2 (f1 + n) N).toArray 100 (0, 0)) := blk_eq hb20 (by rw [cellsU_size, HRl]; exact hashL_state hs1)
      refine tN (hK33 _ _ (wt (oM rfl (oS rfl (Yk.nilCheck T0 (oS rfl (Yk.fieldAt sha6_fo100_2 (vr (PQ g 0) rfl) (oS rfl (Yk.storeC (i := 72) (v := NI 0) (vr (PQ g 72) rfl) (vr (NI 0) rfl) hb20 (by rw [hashL_length HRl hr2l]; omega) sha6_isz3 rfl rfl fun w42 hb43 hg44 hs45 => ?_)))))))))
      have hG : Laid w42 := Laid.kept hG hg44 hh
      have hgr : w.grownBy w42 (some g) := grownBy_trans hgr hg44 (fun _ e => .inl e)
      have hc1 := RB.kept hc1 hg44 (.inr hv1)
      have hr29 := RB.kept hr29 hg44 (.inr hap31)
      clear hb20
      have hb20 := hb43; clear hb43
      have hl46 := bl hb20
      refine oL_ [(0, PQ g 0), (1, v28), (4, NI n), (6, .bool (false))] ⟨T0, T1, T4, T6, trivial⟩ fun ρ47 ⟨T0, T1, T4, T6, _⟩ => ?_
      have hb20 : w42.heap[g]? = some (.cells (hashL R r2 0 N).toArray 100 (0, 0)) := blk_eq hb20 (hashL_setFill HRl hr2l)
      refine bN (tN (And.intro ⟨m + n, R, r2, 0, v28, T0, T6, T1, hG, hgr, (show RB _ _ _ from (by rw [← List.drop_drop]; exact hr29)), blk_eq hb20 (rfl), by omega, by rw [← htk]; exact hatF, by rw [← htk]; exact hfF, hap31, trivial⟩ ?_))
      show sliceLen (ρ47 1) < sliceLen (ρ10 1)
      rw [T1, q1]
      have q3 := hr29.sliceLen
      have q4 := ql1
      rw [q3, q4]
      simp only [List.length_drop]
      omega
    have hatP : Sha.At ((p ++ c.take m) ++ X) s1 r2 := by rw [hr2, ← hxl, hf1]; exact hat1.put X (by omega)
    have hfP : f1 + n = ((p ++ c.take m) ++ X).length % 64 := by rw [List.length_append]; omega
    refine wpF_skip (bN (frame_named [(0, PQ g 0), (1, v28), (4, NI n), (6, .bool (false))] ⟨T0, rfl, T4, T6, trivial⟩ fun ρ48 ⟨T0, T1, T4, T6, _⟩ => (tN (And.intro ⟨m + n, s1, r2, f1 + n, v28, T0, T6, T1, hG, hgr, (show RB _ _ _ from (by rw [← List.drop_drop]; exact hr29)), blk_eq hb20 (rfl), by omega, by rw [← htk]; exact hatP, by rw [← htk]; exact hfP, hap31, trivial⟩ ?_))))
    show sliceLen (ρ48 1) < sliceLen (ρ10 1)
    rw [T1, q1]
    have q3 := hr29.sliceLen
    have q4 := ql1
    rw [q3, q4]
    simp only [List.length_drop]
    omega
  have hcF := hc1'
  refine wpF_exit (thenF_exit (thenF_exit (inBlockF_hit (postF_end (fn := Tryd.f40) [] rfl [] (.tuple #[]) rfl trivial ?_))))
  have hml : m = c.length := by have := hcF; simp at this; omega
  subst hml
  refine ⟨rfl, ⟨s1, r1, by simpa using hat1, ?_⟩, hgr⟩
  have e1 : f1 = (p ++ c).length % 64 := by simpa using hf1
  have e2 : N = (p ++ c).length := by rw [← hN, List.length_append]
  rw [← e1, ← e2]
  exact hb0l
open Go.RowKit
set_option maxRecDepth 100000
theorem hashL_one (s : List UInt32) (r : List UInt8) (f n : Nat) : ∀ v ∈ (hashL s r f n).toArray.toList, v.oneCell' = true := by
 intro v hv
 simp [hashL, Lib.byteCells] at hv
 rcases hv with ⟨_, _, rfl⟩ | ⟨_, _, rfl⟩ | rfl | rfl <;> rfl
namespace Sha
def outs (s : List UInt32) (i : Nat) : List UInt8 := (out s).take (4 * i) ++ List.replicate (32 - 4 * i) 0
theorem out_length : ∀ s : List UInt32, (out s).length = 4 * s.length
 | [] => rfl
 | x :: s => by
  have := out_length s
  unfold out at *
  rw [List.flatMap_cons, List.length_append, this]
  simp
  omega
theorem outs_length (s : List UInt32) (hs : s.length = 8) (i : Nat) (hi : i ≤ 8) : (outs s i).length = 32 := by
 unfold outs
 rw [List.length_append, List.length_take, List.length_replicate, out_length, hs]
 omega
theorem outs_all (s : List UInt32) (hs : s.length = 8) : outs s 8 = out s := by
 unfold outs
 rw [List.take_of_length_le (by rw [out_length, hs]; exact Nat.le_refl _)]
 simp
theorem outs_step (s : List UInt32) (hs : s.length = 8) (i : Nat) (hi : i < 8) :
  ((((outs s i).set (4 * i) (s.getD i 0 >>> 24).toUInt8).set (4 * i + 1) (s.getD i 0 >>> 16).toUInt8).set (4 * i + 2) (s.getD i 0 >>> 8).toUInt8).set (4 * i + 3) (s.getD i 0).toUInt8 = outs s (i + 1) := by
 match s, hs with
 | [a, b, c, d, e, f, g, h], _ =>
  have : i = 0 ∨ i = 1 ∨ i = 2 ∨ i = 3 ∨ i = 4 ∨ i = 5 ∨ i = 6 ∨ i = 7 := by omega
  rcases this with rfl | rfl | rfl | rfl | rfl | rfl | rfl | rfl <;> rfl
theorem sum_length (p : List UInt8) : (sum p).length = 32 := by
 unfold sum
 rw [out_length, blocks_length _ _ _ rfl]
end Sha
theorem sha7_isz100 : (Tryd.prog.info? 100).map (·.size) = some 74 := by kernel_rfl
theorem sha7_isz26 : (Tryd.prog.info? 26).map (·.size) = some 32 := by kernel_rfl
theorem sha7_al26 {d : Option Tmp} {ty : TypeId} {pos : String} {af : Array Edge} {gd : Option (Nat × Bool)} (σ : Operand → Value) (w : World) : (execOp σ ⟨d, .alloc 26, ty, pos, af, gd⟩).run Tryd.prog w = .ok (.value (PQ w.heap.size 0)) (w.alloc (.cells (Lib.byteCells (List.replicate 32 0)).toArray 26)) := by kernel_rfl
theorem sha7_ty76 : Tryd.prog.underlying 76 = some (.pointer 100) := by kernel_rfl
theorem sha7_ty100 : ∃ fs, Tryd.prog.underlying 100 = some (.struct fs) := struct_of (by kernel_rfl)
theorem sha7_al100 {d : Option Tmp} {ty : TypeId} {pos : String} {af : Array Edge} {gd : Option (Nat × Bool)} (σ : Operand → Value) (w : World) : (execOp σ ⟨d, .alloc 100, ty, pos, af, gd⟩).run Tryd.prog w = .ok (.value (PQ w.heap.size 0)) (w.alloc (.cells (hashL (List.replicate 8 0) (List.replicate 64 0) 0 0).toArray 100)) := by kernel_rfl
theorem sha7_l1_22 (z : Int) (w : World) : (Instr.buildSlice 22 1 #[(0, .int .u8 z)]).run Tryd.prog w = .ok (.slice (some ⟨w.heap.size, 0, none⟩) 1 1) (w.alloc (.cells #[.int .u8 z] 5)) := by kernel_rfl
theorem sha7_fo100_3 : FieldOff Tryd.prog 100 3 73 := fun b o w => by simp [go_sem]
theorem sha7_ty3 : Tryd.prog.underlying 3 = some (.int .i64) := by kernel_rfl
theorem sha7_ty22 : Tryd.prog.underlying 22 = some (.slice 5) := by kernel_rfl
theorem sha7_inf5 : (Tryd.prog.info? 5).map (fun i => (i.zero, i.size, i.bytes)) = some (some (.int .u8 0), 1, 1) := by kernel_rfl
theorem sha7_ty102 : Tryd.prog.underlying 102 = some (.int .u64) := by kernel_rfl
theorem sha7_ty5 : Tryd.prog.underlying 5 = some (.int .u8) := by kernel_rfl
theorem sha7_pl40 : Plain Tryd.prog 40 := fun _ _ => by kernel_rfl
theorem sha7_fo100_0 : FieldOff Tryd.prog 100 0 0 := fun b o w => by simp [go_sem]
theorem sha7_ty94 : Tryd.prog.underlying 94 = some (.array 8 93) := by kernel_rfl
theorem sha7_isz94 : (Tryd.prog.info? 94).map (·.size) = some 8 := by kernel_rfl
theorem sha7_ty93 : Tryd.prog.underlying 93 = some (.int .u32) := by kernel_rfl
theorem sha7_sz93 : ∀ w' : World, (sizeOf 93).run Tryd.prog w' = .ok 1 w' := fun _ => by kernel_rfl
theorem sha7_ty26 : Tryd.prog.underlying 26 = some (.array 32 5) := by kernel_rfl
theorem sha7_sz5 : ∀ w' : World, (sizeOf 5).run Tryd.prog w' = .ok 1 w' := fun _ => by kernel_rfl
theorem sha7_isz5 : (Tryd.prog.info? 5).map (·.size) = some 1 := by kernel_rfl
theorem sumAt_any (w : World) (hG : Laid w) (g : Nat) (p : List UInt8) (hH : HashAt w g p) (hp : p.length < 1152921504606846976) :
  Calls Tryd.prog 41 #[PQ g 0] w fun e w' => e = .returned (AB (Sha.sum p)) ∧ Ext w w' := by
 obtain ⟨s, r, hat, hb0⟩ := hH
 have hs := hat.slen
 have hr := hat.len
 obtain ⟨f, hf⟩ : ∃ f, f = p.length % 64 := ⟨_, rfl⟩
 obtain ⟨N, hN⟩ : ∃ N, p.length = N := ⟨_, rfl⟩
 rw [← hf, hN] at hb0
 have hw2 : 1 < w.heap.size := hG.two
 refine calls_of_wpF (args := [PQ g 0]) Tryd.func41 rfl 85 rfl (Nat.le_of_ble_eq_true rfl) ?_
 intro ρ0 hb
 have T0 : ρ0 0 = (PQ g 0 : Value) := hb.get 0
 clear hb
 have hE := Ext.refl w
 refine sk fun K1 hK1 => (wt (oS rfl (Yk.alloc (cs := (Lib.byteCells (List.replicate 32 0)).toArray) sha7_al26 fun n2 w3 hn4 hb5 hx6 hs7 => ?_)))
 have hlt8 := lte (bl hb0) hn4
 have hb0 := eb hx6 hb0
 have hE := hE.trans hx6
 have hb9 := hb5; clear hb5
 have hl10 : n2 < w3.heap.size := by omega
 refine oZ (tN (hK1 _ _ (sk fun K11 hK11 => (sk fun K12 hK12 => (wt (oM rfl (oS rfl (Yk.eqlNil sha7_ty76 T0 (oZ (tN (hK12 _ _ (wpF_false (vr (.bool (false)) rfl) (wpF_skip (tN (hK11 _ _ (sk fun K13 hK13 => (wt (oM rfl (oS rfl (Yk.nilCheck T0 ?_))))))))))))))))))))
 refine oS rfl (Yk.loadAll (vr (PQ g 0) rfl) hb0 (sha7_ty100).choose_spec rfl (by rw [List.size_toArray, hashL_length hs hr]; exact sha7_isz100) (oS rfl (Yk.alloc (cs := (hashL (List.replicate 8 0) (List.replicate 64 0) 0 0).toArray) sha7_al100 fun n14 w15 hn16 hb17 hx18 hs19 => ?_)))
 have hA20 := Ext.refl w3
 have hea21 := hE
 have hz22 := hE.size
 have hlt23 := lte (bl hb0) hn16
 have hlt24 := lte (bl hb9) hn16
 have hb0 := eb hx18 hb0
 have hE := hE.trans hx18
 have hb9 := eb hx18 hb9
 have hA20 := hA20.trans hx18
 have hb25 := hb17; clear hb17
 have hl26 : n14 < w15.heap.size := by omega
 refine oS rfl (Yk.storeAll (vr (PQ n14 0) rfl) (vr (.agg (hashL s r f N).toArray) rfl) hb25 (by rw [List.size_toArray, List.size_toArray, hashL_length hs hr]; rfl) (by rw [List.size_toArray, hashL_length hs hr]; exact sha7_isz100) (hashL_one s r f N) fun w27 hb28 hg29 hs30 => ?_)
 have hb0 := kb hg29 hb0 (by omega)
 have hE := row_fresh hE hg29 (Nat.le_trans hz22 (by omega))
 have hb9 := kb hg29 hb9 (by omega)
 have hA20 := row_fresh hA20 hg29 (Nat.le_trans (Nat.le_refl _) (by omega))
 clear hb25
 have hb25 := hb28; clear hb28
 have hl31 := bl hb25
 refine oZ (tN (hK13 _ _ (sk fun K32 hK32 => (wt (oS rfl (Yk.lit1 (b := 128) sha7_l1_22 (vr (B8 (128)) rfl) fun v33 w34 hN35 => ?_))))))
 have hA36 := Ext.refl w27
 have hea37 := hE
 have hea38 := hA20
 have hz39 := hE.size
 have hz40 := hA20.size
 have hap41 : OB v33 g := own_older hN35.own (bl hb0)
 have hap42 : OB v33 n2 := own_older hN35.own (bl hb9)
 have hap43 : OB v33 n14 := own_older hN35.own (bl hb25)
 have hb0 := eb hN35.ext hb0
 have hE := hE.trans hN35.ext
 have hb9 := eb hN35.ext hb9
 have hA20 := hA20.trans hN35.ext
 have hb25 := eb hN35.ext hb25
 have hA36 := hA36.trans hN35.ext
 have ho44 := hN35.own; clear hN35
 refine oA rfl (oL_ [(0, PQ g 0), (2, PQ n2 0), (3, PQ n14 0), (4, v33), (11, .bool (false))] ⟨T0, rfl, rfl, rfl, rfl, trivial⟩ fun ρ45 ⟨T0, T2, T3, T4, T11, _⟩ => (tN (hK32 _ _ (sk fun K46 hK46 => (wpF_block (wpF_loop (fun (ρ : Slots) (wz : World) => ∃ k : Nat, ∃ v4 : Value, ρ 0 = (PQ g 0 : Value) ∧ ρ 2 = (PQ n2 0 : Value) ∧ ρ 3 = (PQ n14 0 : Value) ∧ ρ 11 = (.bool (false) : Value) ∧ ρ 4 = (v4 : Value) ∧ wz.heap[g]? = some (.cells (hashL s r f N).toArray 100 (0, 0)) ∧ Ext w wz ∧ wz.heap[n2]? = some (.cells (Lib.byteCells (List.replicate 32 0)).toArray 26 (0, 0)) ∧ Ext w3 wz ∧ wz.heap[n14]? = some (.cells (hashL s r f N).toArray 100 (0, 0)) ∧ Ext w27 wz ∧ wz.ownsRow w27.heap.size 5 1 v4 (128 :: List.replicate k 0 : List UInt8).length (Lib.byteCells (128 :: List.replicate k 0)) ∧ (k ≤ (119 - N % 64) % 64) ∧ (OB v4 g) ∧ (OB v4 n2) ∧ (OB v4 n14) ∧ True) (fun ρ _ => 65 - sliceLen (ρ 4)) ⟨0, v33, T0, T2, T3, T11, T4, hb0, hE, hb9, hA20, hb25, hA36, own_eq ho44 (rfl), Nat.zero_le _, hap41, hap42, hap43, trivial⟩ ?_))))))
 clear ho44
 clear hb0 hE hb9 hA20 hb25 hA36
 rintro ρ47 w48 ⟨k, v4, T0, T2, T3, T11, T4, hb0, hE, hb9, hA20, hb25, hA36, ho_v4, hk, hap_v4_g, hap_v4_n2, hap_v4_n14, -⟩
 have q4 := T4
 have ql4 := own_sliceLen ho_v4
 refine sk fun K49 hK49 => (sk fun K50 hK50 => (wt (oM rfl (oS rfl (Yk.nilCheck T0 (oS rfl (Yk.fieldAt sha7_fo100_3 (vr (PQ g 0) rfl) (oS rfl (Yk.cell1 sha7_ty3 rfl (vr (PQ g 73) rfl) (cellAt hb0 (hashL_size hs hr)) (oM rfl (oS rfl (Yk.lenRB sha7_ty22 (RB.of (RB.ofOwn ho_v4) T4) (oS rfl (Yk.bin (xv := NI N) (yv := NI ((128 :: List.replicate k 0 : List UInt8).length)) rfl rfl rfl (i64_add _ _ _ (by simp; omega)) (oS rfl (Yk.bin (xv := NI ((N) + ((128 :: List.replicate k 0 : List UInt8).length))) (yv := NI 64) rfl rfl rfl (i64_rem _ _ _ (by omega)) (oS rfl (Yk.eqI (a := (((N) + ((128 :: List.replicate k 0 : List UInt8).length)) % (64) : Nat)) (b := (56 : Nat)) rfl rfl (k_neq _ _ _ _) (oZ (tN (hK50 _ _ ?_)))))))))))))))))))))
 refine wpF_cond ((((N) + ((128 :: List.replicate k 0 : List UInt8).length)) % (64) : Nat) ≠ (56)) (vr (.bool (decide ((((N) + ((128 :: List.replicate k 0 : List UInt8).length)) % (64) : Nat) ≠ (56)))) rfl) (fun hc1 => ?_) (fun hc1 => ?_)
 ·refine wpF_skip (tN (hK49 _ _ (wpF_block (wt (oM rfl (oS rfl (Yk.lit1 (b := 0) sha7_l1_22 (vr (B8 (0)) rfl) fun v51 w52 hN53 => ?_)))))))
  have hA54 := Ext.refl w48
  have hea55 := hE
  have hea56 := hA20
  have hea57 := hA36
  have hz58 := hE.size
  have hz59 := hA20.size
  have hz60 := hA36.size
  have hap61 : OB v51 g := own_older hN53.own (bl hb0)
  have hap62 : OB v51 n2 := own_older hN53.own (bl hb9)
  have hap63 : OB v51 n14 := own_older hN53.own (bl hb25)
  have hap64 : ApartV v4 v51 := apartv_new ho_v4 hN53.own
  have hap65 : ApartV v51 v4 := apartv_new' ho_v4 hN53.own
  have hb0 := eb hN53.ext hb0
  have hE := hE.trans hN53.ext
  have hb9 := eb hN53.ext hb9
  have hA20 := hA20.trans hN53.ext
  have hb25 := eb hN53.ext hb25
  have hA36 := hA36.trans hN53.ext
  have ho_v4 := Stab.own _ _ _ _ _ _ _ _ ho_v4 hN53.ext
  have hA54 := hA54.trans hN53.ext
  have ho66 := hN53.own; clear hN53
  refine oS rfl (Yk.appendRB _ _ w27.heap.size (.int .u8 0) sha7_ty22 sha7_inf5 rfl sha7_ty22 (128 :: List.replicate k 0) ([(0 : UInt8)]) (own_of ho_v4 T4) (RB.of (RB.ofOwn ho66) (vr v51 rfl)) (by simp; omega) hA36.size fun v67 w68 ho69 hg70 => ?_)
  have hg70 : Grew w52 w68 v4 v67 := .eqv T4 hg70
  have hap71 : OB v67 g := apart_grew hg70 hap_v4_g (bl hb0)
  have hap72 : OB v67 n2 := apart_grew hg70 hap_v4_n2 (bl hb9)
  have hap73 : OB v67 n14 := apart_grew hg70 hap_v4_n14 (bl hb25)
  have hap74 : ApartV v67 v51 := apartv_grew hg70 hap64 ho66
  have hap75 : ApartV v51 v67 := fun k h1 h2 => hap74 k h2 h1
  have hb0 := blk_grew hb0 hg70 hap_v4_g
  have hE := ext_grew hE hg70 ho_v4 hz39
  have hb9 := blk_grew hb9 hg70 hap_v4_n2
  have hA20 := ext_grew hA20 hg70 ho_v4 hz40
  have hb25 := blk_grew hb25 hg70 hap_v4_n14
  have hA36 := ext_grew hA36 hg70 ho_v4 (Nat.le_refl _)
  clear hA54
  have ho66 := own_grew ho66 hg70 hap64
  clear ho_v4
  refine oA rfl (oL_ [(0, PQ g 0), (2, PQ n2 0), (3, PQ n14 0), (4, v67), (11, .bool (false))] ⟨T0, T2, T3, rfl, T11, trivial⟩ fun ρ76 ⟨T0, T2, T3, T4, T11, _⟩ => (bN (tN (And.intro ⟨k + 1, v67, T0, T2, T3, T11, T4, hb0, hE, hb9, hA20, hb25, hA36, own_eq ho69 (by simp [List.replicate_succ']), by simp at hc1; omega, hap71, hap72, hap73, trivial⟩ ?_))))
  show 65 - sliceLen (ρ76 4) < 65 - sliceLen (ρ47 4)
  rw [T4, q4]
  have qn := own_sliceLen ho69
  rw [qn, ql4]
  simp
  omega
 refine wpF_exit (thenF_exit (thenF_exit (inBlockF_hit (tN (hK46 _ _ (sk fun K77 hK77 => (wt (oM rfl (oS rfl (Yk.nilCheck T0 (oS rfl (Yk.fieldAt sha7_fo100_3 (vr (PQ g 0) rfl) (oS rfl (Yk.cell1 sha7_ty3 rfl (vr (PQ g 73) rfl) (cellAt hb0 (hashL_size hs hr)) (oS rfl (Yk.convI sha7_ty3 sha7_ty102 (vr (NI N) rfl) (wrap_u64 (N) (by omega)) (oS rfl (Yk.bin (xv := .int .u64 ((N : Nat) : Int)) (yv := .int .u64 ((8 : Nat) : Int)) rfl rfl rfl (u64_mul _ _ _ (by omega)) (oA rfl (oZ ?_))))))))))))))))))))
 obtain ⟨Z, hZ⟩ : ∃ Z, Z = (128 : UInt8) :: List.replicate k 0 := ⟨_, rfl⟩
 have ho_v4 : w48.ownsRow w27.heap.size 5 1 v4 (Z : List UInt8).length (Lib.byteCells (Z)) := (hZ.symm : 128 :: List.replicate k 0 = Z) ▸ ho_v4
 have hZl : Z.length = 1 + k := by rw [hZ]; simp; omega
 refine tN (hK77 _ _ (sk fun K78 hK78 => (sk fun K79 hK79 => (wt (oM rfl (oL_ [(0, PQ g 0), (2, PQ n2 0), (3, PQ n14 0), (4, v4), (5, .int .u64 (((N) * (8) : Nat) : Int)), (11, .bool (false)), (36, NI 0)] ⟨T0, T2, T3, T4, rfl, T11, rfl, trivial⟩ fun ρ80 ⟨T0, T2, T3, T4, T5, T11, T36, _⟩ => (tN (hK79 _ _ (wpF_block (wpF_loop (fun (ρ : Slots) (wz : World) => ∃ i : Nat, ∃ v5 : Value, ρ 0 = (PQ g 0 : Value) ∧ ρ 2 = (PQ n2 0 : Value) ∧ ρ 3 = (PQ n14 0 : Value) ∧ ρ 5 = (.int .u64 (((N) * (8) : Nat) : Int) : Value) ∧ ρ 11 = (.bool (false) : Value) ∧ ρ 36 = (NI i : Value) ∧ ρ 4 = (v5 : Value) ∧ wz.heap[g]? = some (.cells (hashL s r f N).toArray 100 (0, 0)) ∧ Ext w wz ∧ wz.heap[n2]? = some (.cells (Lib.byteCells (List.replicate 32 0)).toArray 26 (0, 0)) ∧ Ext w3 wz ∧ wz.heap[n14]? = some (.cells (hashL s r f N).toArray 100 (0, 0)) ∧ Ext w27 wz ∧ wz.ownsRow w27.heap.size 5 1 v5 (Z ++ (Sha.be64 (8 * N)).take i : List UInt8).length (Lib.byteCells (Z ++ (Sha.be64 (8 * N)).take i)) ∧ (i ≤ 8) ∧ (OB v5 g) ∧ (OB v5 n2) ∧ (OB v5 n14) ∧ True) (fun ρ _ => 8 - (intOf (ρ 36)).toNat) ⟨0, v4, T0, T2, T3, T5, T11, T36, T4, hb0, hE, hb9, hA20, hb25, hA36, own_eq ho_v4 (by simp), by omega, hap_v4_g, hap_v4_n2, hap_v4_n14, trivial⟩ ?_))))))))))
 clear ho_v4
 clear hb0 hE hb9 hA20 hb25 hA36
 rintro ρ81 w82 ⟨i, v5, T0, T2, T3, T5, T11, T36, T4, hb0, hE, hb9, hA20, hb25, hA36, ho5, hi, hap_v5_g, hap_v5_n2, hap_v5_n14, -⟩
 have q36 := T36
 have ql4 := own_sliceLen ho5
 refine sk fun K83 hK83 => (wt (oS rfl (Yk.eqI (a := (i : Nat)) (b := (8 : Nat)) T36 rfl (k_lss _ _ _ _) (oZ (tN (hK83 _ _ (sk fun K84 hK84 => ?_)))))))
 refine wpF_cond ((i) < (8)) (vr (.bool (decide ((i) < (8)))) rfl) (fun hc2 => ?_) (fun hc2 => ?_)
 ·refine wpF_skip (tN (hK84 _ _ (sk fun K85 hK85 => (wpF_block (sk fun K86 hK86 => (wt (oM rfl (oA rfl (oZ (tN (hK86 _ _ (wt (oM rfl (oM rfl (oM rfl (oS rfl (Yk.bin (xv := NI 8) (yv := NI i) rfl T36 rfl (i64_mul _ _ _ (by omega)) (oS rfl (Yk.bin (xv := NI 56) (yv := NI ((8) * (i))) rfl rfl rfl (i64_sub _ _ _ (by omega) (by omega)) ?_)))))))))))))))))))
  refine oS rfl (Yk.bin (xv := .int .u64 (((N) * (8) : Nat) : Int)) (yv := NI ((56) - ((8) * (i)))) T5 rfl rfl (u64_shr _ _ _ _ (by omega)) (oS rfl (Yk.convI sha7_ty102 sha7_ty5 (vr (.int .u64 ((((N) * (8)) / 2 ^ ((56) - ((8) * (i))) : Nat) : Int)) rfl) (toByte (((N) * (8)) / 2 ^ ((56) - ((8) * (i))))) (oS rfl (Yk.lit1 (b := UInt8.ofNat (((N) * (8)) / 2 ^ ((56) - ((8) * (i))))) sha7_l1_22 (vr (B8 (UInt8.ofNat (((N) * (8)) / 2 ^ ((56) - ((8) * (i)))))) rfl) fun v87 w88 hN89 => ?_)))))
  have hA90 := Ext.refl w82
  have hea91 := hE
  have hea92 := hA20
  have hea93 := hA36
  have hz94 := hE.size
  have hz95 := hA20.size
  have hz96 := hA36.size
  have hap97 : OB v87 g := own_older hN89.own (bl hb0)
  have hap98 : OB v87 n2 := own_older hN89.own (bl hb9)
  have hap99 : OB v87 n14 := own_older hN89.own (bl hb25)
  have hap100 : ApartV v5 v87 := apartv_new ho5 hN89.own
  have hap101 : ApartV v87 v5 := apartv_new' ho5 hN89.own
  have hb0 := eb hN89.ext hb0
  have hE := hE.trans hN89.ext
  have hb9 := eb hN89.ext hb9
  have hA20 := hA20.trans hN89.ext
  have hb25 := eb hN89.ext hb25
  have hA36 := hA36.trans hN89.ext
  have ho5 := Stab.own _ _ _ _ _ _ _ _ ho5 hN89.ext
  have hA90 := hA90.trans hN89.ext
  have ho102 := hN89.own; clear hN89
  refine oS rfl (Yk.appendRB _ _ w27.heap.size (.int .u8 0) sha7_ty22 sha7_inf5 rfl sha7_ty22 (Z ++ (Sha.be64 (8 * N)).take i) ([(UInt8.ofNat (((N) * (8)) / 2 ^ ((56) - ((8) * (i)))) : UInt8)]) (own_of ho5 T4) (RB.of (RB.ofOwn ho102) (vr v87 rfl)) (by simp [Sha.be64]; omega) hA36.size fun v103 w104 ho105 hg106 => ?_)
  have hg106 : Grew w88 w104 v5 v103 := .eqv T4 hg106
  have hap107 : OB v103 g := apart_grew hg106 hap_v5_g (bl hb0)
  have hap108 : OB v103 n2 := apart_grew hg106 hap_v5_n2 (bl hb9)
  have hap109 : OB v103 n14 := apart_grew hg106 hap_v5_n14 (bl hb25)
  have hap110 : ApartV v103 v87 := apartv_grew hg106 hap100 ho102
  have hap111 : ApartV v87 v103 := fun k h1 h2 => hap110 k h2 h1
  have hb0 := blk_grew hb0 hg106 hap_v5_g
  have hE := ext_grew hE hg106 ho5 hz39
  have hb9 := blk_grew hb9 hg106 hap_v5_n2
  have hA20 := ext_grew hA20 hg106 ho5 hz40
  have hb25 := blk_grew hb25 hg106 hap_v5_n14
  have hA36 := ext_grew hA36 hg106 ho5 (Nat.le_refl _)
  clear hA90
  have ho102 := own_grew ho102 hg106 hap100
  clear ho5
  refine oA rfl (oZ (bN (tN (hK85 _ _ (wt (oS rfl (Yk.bin (xv := NI i) (yv := NI 1) T36 rfl rfl (i64_add _ _ _ (by omega)) (oM rfl (oL_ [(0, PQ g 0), (2, PQ n2 0), (3, PQ n14 0), (4, v103), (5, .int .u64 (((N) * (8) : Nat) : Int)), (6, NI i), (11, .bool (false)), (36, NI ((i) + (1)))] ⟨T0, T2, T3, rfl, T5, T36, T11, rfl, trivial⟩ fun ρ112 ⟨T0, T2, T3, T4, T5, T6, T11, T36, _⟩ => (tN (And.intro ⟨i + 1, v103, T0, T2, T3, T5, T11, T36, T4, hb0, hE, hb9, hA20, hb25, hA36, own_eq ho105 (by rw [Sha.be64_take _ _ hc2, List.append_assoc, Nat.mul_comm N 8]), by omega, hap107, hap108, hap109, trivial⟩ ?_)))))))))))
  show 8 - (intOf (ρ112 36)).toNat < 8 - (intOf (ρ81 36)).toNat
  rw [T36, q36]
  simp only [intOf, Int.toNat_natCast]; omega
 obtain ⟨Q, hQ⟩ : ∃ Q, Q = Z ++ (Sha.be64 (8 * N)).take i := ⟨_, rfl⟩
 have ho5 : w82.ownsRow w27.heap.size 5 1 v5 (Q : List UInt8).length (Lib.byteCells (Q)) := (hQ.symm : Z ++ (Sha.be64 (8 * N)).take i = Q) ▸ ho5
 have hQt : Q = Sha.tail p.length := by simp at hc1; rw [hQ, hZ, show i = 8 by omega, show k = (119 - p.length % 64) % 64 by omega, List.take_of_length_le (by simp [Sha.be64]), ← hN]; simp [Sha.tail]
 have hQl : Q.length ≤ 100 := by rw [hQ]; simp [Sha.be64]; omega
 refine wpF_exit (thenF_exit (thenF_exit (inBlockF_hit (tN (hK78 _ _ (sk fun K113 hK113 => (wt (oM rfl (oS rfl (Yk.callA2 sha7_pl40 T3 T4 ((write_any _ (hG.keep hE) n14 (by omega) p ⟨s, r, hat, by rw [← hf, hN]; exact hb25⟩ v5 Q (RB.ofOwn ho5) hap_v5_n14 (by omega)).mono ?_)))))))))))
 rintro e w115 ⟨rfl, ⟨s2, r2, hat2, hb3⟩, hg114⟩
 refine ⟨_, rfl, ?_⟩
 have hb0 := kb hg114 hb0 (by omega)
 have hE := row_fresh hE hg114 (Nat.le_trans hz22 (by omega))
 have hb9 := kb hg114 hb9 (by omega)
 have hA20 := row_fresh hA20 hg114 (Nat.le_trans (Nat.le_refl _) (by omega))
 clear hA36
 have ho5 := own_kept ho5 hg114 hap_v5_n14
 clear hb25
 have hs2 := hat2.slen
 have hr2 := hat2.len
 refine oZ (tN (hK113 _ _ (sk fun K116 hK116 => (wt (oS rfl (Yk.alloc (cs := (Lib.byteCells (List.replicate 32 0)).toArray) sha7_al26 fun n117 w118 hn119 hb120 hx121 hs122 => ?_))))))
 have hA123 := Ext.refl w115
 have hea124 := hE
 have hea125 := hA20
 have hz126 := hE.size
 have hz127 := hA20.size
 have hlt128 := lte (bl hb0) hn119
 have hlt129 := lte (bl hb9) hn119
 have hlt130 := lte (bl hb3) hn119
 have hap131 : OB v5 n117 := own_newer ho5 (by omega)
 have hb0 := eb hx121 hb0
 have hE := hE.trans hx121
 have hb9 := eb hx121 hb9
 have hA20 := hA20.trans hx121
 have ho5 := Stab.own _ _ _ _ _ _ _ _ ho5 hx121
 have hb3 := eb hx121 hb3
 have hA123 := hA123.trans hx121
 have hb132 := hb120; clear hb120
 have hl133 : n117 < w118.heap.size := by omega
 refine oZ (tN (hK116 _ _ (sk fun K134 hK134 => (sk fun K135 hK135 => (wt (oS rfl (Yk.fieldAt sha7_fo100_0 T3 (oS rfl (Yk.loadPart (cs := s2.map fun x => U x) (vr (PQ n14 0) rfl) (range_state hb3) sha7_ty94 rfl (by rw [List.length_map, hs2]; exact sha7_isz94) (oM rfl (oL_ [(0, PQ g 0), (2, PQ n2 0), (3, PQ n14 0), (4, v5), (5, .int .u64 (((N) * (8) : Nat) : Int)), (7, PQ n117 0), (11, .bool (false)), (36, NI i), (52, .agg (s2.map fun x => U x).toArray), (53, NI 0)] ⟨T0, T2, T3, T4, T5, rfl, T11, T36, rfl, rfl, trivial⟩ fun ρ136 ⟨T0, T2, T3, T4, T5, T7, T11, T36, T52, T53, _⟩ => (tN (hK135 _ _ (wpF_block (wpF_loop (fun (ρ : Slots) (wz : World) => ∃ j : Nat, ρ 0 = (PQ g 0 : Value) ∧ ρ 2 = (PQ n2 0 : Value) ∧ ρ 3 = (PQ n14 0 : Value) ∧ ρ 4 = (v5 : Value) ∧ ρ 5 = (.int .u64 (((N) * (8) : Nat) : Int) : Value) ∧ ρ 7 = (PQ n117 0 : Value) ∧ ρ 11 = (.bool (false) : Value) ∧ ρ 36 = (NI i : Value) ∧ ρ 52 = (.agg (s2.map fun x => U x).toArray : Value) ∧ ρ 53 = (NI j : Value) ∧ wz.heap[g]? = some (.cells (hashL s r f N).toArray 100 (0, 0)) ∧ Ext w wz ∧ wz.heap[n2]? = some (.cells (Lib.byteCells (List.replicate 32 0)).toArray 26 (0, 0)) ∧ Ext w3 wz ∧ wz.ownsRow w27.heap.size 5 1 v5 (Q : List UInt8).length (Lib.byteCells (Q)) ∧ wz.heap[n14]? = some (.cells (hashL s2 r2 ((p ++ Q).length % 64) (p ++ Q).length).toArray 100 (0, 0)) ∧ Ext w115 wz ∧ wz.heap[n117]? = some (.cells (Lib.byteCells (Sha.outs s2 j)).toArray 26 (0, 0)) ∧ (j ≤ 8) ∧ True) (fun ρ _ => 8 - (intOf (ρ 53)).toNat) ⟨0, T0, T2, T3, T4, T5, T7, T11, T36, T52, T53, hb0, hE, hb9, hA20, ho5, hb3, hA123, blk_eq hb132 (rfl), by omega, trivial⟩ ?_)))))))))))))))
 clear hb132
 clear hb0 hE hb9 hA20 ho5 hb3 hA123
 rintro ρ137 w138 ⟨j, T0, T2, T3, T4, T5, T7, T11, T36, T52, T53, hb0, hE, hb9, hA20, ho5, hb3, hA123, hb132l, hj, -⟩
 have q53 := T53
 refine sk fun K139 hK139 => (wt (oS rfl (Yk.eqI (a := (j : Nat)) (b := (8 : Nat)) T53 rfl (k_lss _ _ _ _) (oZ (tN (hK139 _ _ (sk fun K140 hK140 => ?_)))))))
 refine wpF_cond ((j) < (8)) (vr (.bool (decide ((j) < (8)))) rfl) (fun hc3 => ?_) (fun hc3 => ?_)
 ·refine wpF_skip (tN (hK140 _ _ (sk fun K141 hK141 => (wpF_block (sk fun K142 hK142 => (wt (oM rfl (oS rfl (Yk.idxU (l := s2) (i := j) sha7_ty94 sha7_ty93 rfl sha7_sz93 T52 T53 (by omega) (hs2) (oA rfl (oA rfl (oZ (tN (hK142 _ _ (wt (oM rfl (oS rfl (Yk.bin (xv := NI 4) (yv := NI j) rfl T53 rfl (i64_mul _ _ _ (by omega)) (oM rfl ?_)))))))))))))))))))
  refine oS rfl (Yk.bin (xv := NI 4) (yv := NI j) rfl T53 rfl (i64_mul _ _ _ (by omega)) (oS rfl (Yk.bin (xv := NI ((4) * (j))) (yv := NI 1) rfl rfl rfl (i64_add _ _ _ (by omega)) (oM rfl (oS rfl (Yk.bin (xv := NI 4) (yv := NI j) rfl T53 rfl (i64_mul _ _ _ (by omega)) (oS rfl (Yk.bin (xv := NI ((4) * (j))) (yv := NI 2) rfl rfl rfl (i64_add _ _ _ (by omega)) (oM rfl (oS rfl (Yk.bin (xv := NI 4) (yv := NI j) rfl T53 rfl (i64_mul _ _ _ (by omega)) (oS rfl (Yk.bin (xv := NI ((4) * (j))) (yv := NI 3) rfl rfl rfl (i64_add _ _ _ (by omega)) (oM rfl (oS rfl (Yk.bin (vr (U (s2.getD (j) 0)) rfl) (vr (.int .u64 ((24 : Nat) : Int)) rfl) rfl (u_shr _ _ _ 24 (by decide)) (oS rfl (Yk.narrow sha7_ty93 sha7_ty5 (vr (U ((s2.getD (j) 0) >>> 24)) rfl) (oM rfl (oS rfl (Yk.bin (vr (U (s2.getD (j) 0)) rfl) (vr (.int .u64 ((16 : Nat) : Int)) rfl) rfl (u_shr _ _ _ 16 (by decide)) (oS rfl (Yk.narrow sha7_ty93 sha7_ty5 (vr (U ((s2.getD (j) 0) >>> 16)) rfl) (oM rfl (oS rfl (Yk.bin (vr (U (s2.getD (j) 0)) rfl) (vr (.int .u64 ((8 : Nat) : Int)) rfl) rfl (u_shr _ _ _ 8 (by decide)) ?_))))))))))))))))))))))))))
  refine oS rfl (Yk.narrow sha7_ty93 sha7_ty5 (vr (U ((s2.getD (j) 0) >>> 8)) rfl) (oM rfl (oS rfl (Yk.narrow sha7_ty93 sha7_ty5 (vr (U (s2.getD (j) 0)) rfl) (oS rfl (Yk.atArr0 (i := (4) * (j)) sha7_ty26 sha7_sz5 T7 (vr (NI ((4) * (j))) rfl) (by omega) (oS rfl (Yk.storeB8 (i := (4) * (j)) (v := ((s2.getD (j) 0) >>> 24).toUInt8) (vr (.pointer (some ⟨n117, (4) * (j), none⟩)) rfl) (vr (B8 (((s2.getD (j) 0) >>> 24).toUInt8)) rfl) hb132l (by rw [Sha.outs_length _ hs2 _ (by omega)]; omega) sha7_isz5 fun w143 hb144 hg145 hs146 => ?_))))))))
  have hb0 := kb hg145 hb0 (by omega)
  have hE := row_fresh hE hg145 (Nat.le_trans hz126 (by omega))
  have hb9 := kb hg145 hb9 (by omega)
  have hA20 := row_fresh hA20 hg145 (Nat.le_trans hz127 (by omega))
  have ho5 := own_kept ho5 hg145 hap131
  have hb3 := kb hg145 hb3 (by omega)
  have hA123 := row_fresh hA123 hg145 (Nat.le_trans (Nat.le_refl _) (by omega))
  clear hb132l
  have hb132l := hb144; clear hb144
  have hl147 := bl hb132l
  refine oS rfl (Yk.atArr0 (i := ((4) * (j)) + (1)) sha7_ty26 sha7_sz5 T7 (vr (NI (((4) * (j)) + (1))) rfl) (by omega) (oS rfl (Yk.storeB8 (i := ((4) * (j)) + (1)) (v := ((s2.getD (j) 0) >>> 16).toUInt8) (vr (.pointer (some ⟨n117, ((4) * (j)) + (1), none⟩)) rfl) (vr (B8 (((s2.getD (j) 0) >>> 16).toUInt8)) rfl) hb132l (by rw [List.length_set, Sha.outs_length _ hs2 _ (by omega)]; omega) sha7_isz5 fun w148 hb149 hg150 hs151 => ?_)))
  have hb0 := kb hg150 hb0 (by omega)
  have hE := row_fresh hE hg150 (Nat.le_trans hz126 (by omega))
  have hb9 := kb hg150 hb9 (by omega)
  have hA20 := row_fresh hA20 hg150 (Nat.le_trans hz127 (by omega))
  have ho5 := own_kept ho5 hg150 hap131
  have hb3 := kb hg150 hb3 (by omega)
  have hA123 := row_fresh hA123 hg150 (Nat.le_trans (Nat.le_refl _) (by omega))
  clear hb132l
  have hb132l := hb149; clear hb149
  have hl152 := bl hb132l
  refine oS rfl (Yk.atArr0 (i := ((4) * (j)) + (2)) sha7_ty26 sha7_sz5 T7 (vr (NI (((4) * (j)) + (2))) rfl) (by omega) (oS rfl (Yk.storeB8 (i := ((4) * (j)) + (2)) (v := ((s2.getD (j) 0) >>> 8).toUInt8) (vr (.pointer (some ⟨n117, ((4) * (j)) + (2), none⟩)) rfl) (vr (B8 (((s2.getD (j) 0) >>> 8).toUInt8)) rfl) hb132l (by rw [List.length_set, List.length_set, Sha.outs_length _ hs2 _ (by omega)]; omega) sha7_isz5 fun w153 hb154 hg155 hs156 => ?_)))
  have hb0 := kb hg155 hb0 (by omega)
  have hE := row_fresh hE hg155 (Nat.le_trans hz126 (by omega))
  have hb9 := kb hg155 hb9 (by omega)
  have hA20 := row_fresh hA20 hg155 (Nat.le_trans hz127 (by omega))
  have ho5 := own_kept ho5 hg155 hap131
  have hb3 := kb hg155 hb3 (by omega)
  have hA123 := row_fresh hA123 hg155 (Nat.le_trans (Nat.le_refl _) (by omega))
  clear hb132l
  have hb132l := hb154; clear hb154
  have hl157 := bl hb132l
  refine oS rfl (Yk.atArr0 (i := ((4) * (j)) + (3)) sha7_ty26 sha7_sz5 T7 (vr (NI (((4) * (j)) + (3))) rfl) (by omega) (oS rfl (Yk.storeB8 (i := ((4) * (j)) + (3)) (v := (s2.getD (j) 0).toUInt8) (vr (.pointer (some ⟨n117, ((4) * (j)) + (3), none⟩)) rfl) (vr (B8 ((s2.getD (j) 0).toUInt8)) rfl) hb132l (by rw [List.length_set, List.length_set, List.length_set, Sha.outs_length _ hs2 _ (by omega)]; omega) sha7_isz5 fun w158 hb159 hg160 hs161 => ?_)))
  have hb0 := kb hg160 hb0 (by omega)
  have hE := row_fresh hE hg160 (Nat.le_trans hz126 (by omega))
  have hb9 := kb hg160 hb9 (by omega)
  have hA20 := row_fresh hA20 hg160 (Nat.le_trans hz127 (by omega))
  have ho5 := own_kept ho5 hg160 hap131
  have hb3 := kb hg160 hb3 (by omega)
  have hA123 := row_fresh hA123 hg160 (Nat.le_trans (Nat.le_refl _) (by omega))
  clear hb132l
  have hb132l := hb159; clear hb159
  have hl162 := bl hb132l
  refine oZ (bN (tN (hK141 _ _ (wt (oS rfl (Yk.bin (xv := NI j) (yv := NI 1) T53 rfl rfl (i64_add _ _ _ (by omega)) (oM rfl (oL_ [(0, PQ g 0), (2, PQ n2 0), (3, PQ n14 0), (4, v5), (5, .int .u64 (((N) * (8) : Nat) : Int)), (7, PQ n117 0), (8, NI j), (9, U (s2.getD (j) 0)), (11, .bool (false)), (36, NI i), (52, .agg (s2.map fun x => U x).toArray), (53, NI ((j) + (1)))] ⟨T0, T2, T3, T4, T5, T7, T53, rfl, T11, T36, T52, rfl, trivial⟩ fun ρ163 ⟨T0, T2, T3, T4, T5, T7, T8, T9, T11, T36, T52, T53, _⟩ => (tN (And.intro ⟨j + 1, T0, T2, T3, T4, T5, T7, T11, T36, T52, T53, hb0, hE, hb9, hA20, ho5, hb3, hA123, blk_eq hb132l (congrArg Lib.byteCells (Sha.outs_step s2 hs2 j hc3)), by omega, trivial⟩ ?_))))))))))
  show 8 - (intOf (ρ163 53)).toNat < 8 - (intOf (ρ137 53)).toNat
  rw [T53, q53]
  simp only [intOf, Int.toNat_natCast]; omega
 refine wpF_exit (thenF_exit (thenF_exit (inBlockF_hit (tN (hK134 _ _ (sk fun K164 hK164 => (wt (oS rfl (Yk.loadAll T7 hb132l sha7_ty26 rfl (by rw [List.size_toArray, Lib.byteCells_length, Sha.outs_length _ hs2 _ (by omega)]; exact sha7_isz26) (oS rfl (Yk.storeAll T2 (vr (AB (Sha.outs s2 j)) rfl) hb9 (by rw [List.size_toArray, Lib.byteCells_length, Sha.outs_length _ hs2 _ (by omega)]; rfl) (by rw [List.size_toArray, Lib.byteCells_length, Sha.outs_length _ hs2 _ (by omega)]; exact sha7_isz26) (byteCells_one _) fun w165 hb166 hg167 hs168 => ?_)))))))))))
 have hb0 := kb hg167 hb0 (by omega)
 have hE := row_fresh hE hg167 (Nat.le_trans (Nat.le_refl _) (by omega))
 clear hA20
 have ho5 := own_kept ho5 hg167 hap_v5_n2
 have hb3 := kb hg167 hb3 (by omega)
 clear hA123
 have hb132l := kb hg167 hb132l (by omega)
 clear hb9
 have hb9 := hb166; clear hb166
 have hl169 := bl hb9
 refine oZ (tN (hK164 _ _ (wpF_ret (postF_ret (fn := Tryd.f41) _ rfl [AB (Sha.outs s2 j)] (AB (Sha.outs s2 j)) rfl ⟨ResF.row T2 hb9 sha7_ty26 rfl (by rw [List.size_toArray, Lib.byteCells_length, Sha.outs_length _ hs2 _ (by omega)]; exact sha7_isz26), trivial⟩ ?_))))
 refine ⟨?_, hE⟩
 have e : Sha.outs s2 j = Sha.sum p := by rw [show j = 8 by omega, Sha.outs_all s2 hs2, hat2.state, hQt]; rfl
 rw [e]

open Go.RowKit
set_option maxRecDepth 100000
theorem HashAt.other {w w' : World} {g b : Nat} {p : List UInt8} (h : HashAt w g p) (hg : w.grownBy w' (some b)) (hne : g ≠ b) : HashAt w' g p := by
 obtain ⟨s, r, h1, h2⟩ := h
 exact ⟨s, r, h1, (hg.block g (bl h2) (by simpa using hne)).trans h2⟩
theorem flatten_take (ls : List (List UInt8)) (i : Nat) (hi : i < ls.length) : (ls.take (i + 1)).flatten = (ls.take i).flatten ++ ls.getD i [] := by
 rw [List.take_succ_eq_append_getElem hi, List.flatten_append]
 simp [hi]
theorem flatten_take_le (ls : List (List UInt8)) (i : Nat) (hi : i < ls.length) : (ls.take i).flatten.length + (ls.getD i []).length ≤ ls.flatten.length := by
 have h1 := flatten_take ls i hi
 have h2 : ls.flatten = (ls.take (i + 1)).flatten ++ (ls.drop (i + 1)).flatten := by rw [← List.flatten_append, List.take_append_drop]
 rw [h2, h1]
 simp only [List.length_append]
 omega
theorem sha8_ty76 : Tryd.prog.underlying 76 = some (.pointer 100) := by kernel_rfl
theorem sha8_fo100_3 : FieldOff Tryd.prog 100 3 73 := fun b o w => by simp [go_sem]
theorem sha8_ty3 : Tryd.prog.underlying 3 = some (.int .i64) := by kernel_rfl
theorem sha8_ty22 : Tryd.prog.underlying 22 = some (.slice 5) := by kernel_rfl
theorem sha8_isz3 : (Tryd.prog.info? 3).map (·.size) = some 1 := by kernel_rfl
theorem sha8_isz26 : (Tryd.prog.info? 26).map (·.size) = some 32 := by kernel_rfl
theorem sha8_al26 {d : Option Tmp} {ty : TypeId} {pos : String} {af : Array Edge} {gd : Option (Nat × Bool)} (σ : Operand → Value) (w : World) : (execOp σ ⟨d, .alloc 26, ty, pos, af, gd⟩).run Tryd.prog w = .ok (.value (PQ w.heap.size 0)) (w.alloc (.cells (Lib.byteCells (List.replicate 32 0)).toArray 26)) := by kernel_rfl
theorem sha8_pl39 : Plain Tryd.prog 39 := fun _ _ => by kernel_rfl
theorem sha8_ty75 : Tryd.prog.underlying 75 = some (.slice 22) := by kernel_rfl
theorem sha8_sz22 : ∀ w' : World, (sizeOf 22).run Tryd.prog w' = .ok 1 w' := fun _ => by kernel_rfl
theorem sha8_pl40 : Plain Tryd.prog 40 := fun _ _ => by kernel_rfl
theorem sha8_pl41 : Plain Tryd.prog 41 := fun _ _ => by kernel_rfl
theorem sha8_ty26 : Tryd.prog.underlying 26 = some (.array 32 5) := by kernel_rfl
theorem writeEmpty_any (w : World) (g : Nat) (p : List UInt8) (hH : HashAt w g p) (v : Value) (hc : RB w v []) (hb : p.length < 4611686018427387904) :
  Calls Tryd.prog 40 #[PQ g 0, v] w fun e w' => e = .returned (.tuple #[]) ∧ HashAt w' g p ∧ w.grownBy w' (some g) := by
 obtain ⟨s, r, hat, hb0⟩ := hH
 have hs := hat.slen
 have hr := hat.len
 obtain ⟨f, hf⟩ : ∃ f, f = p.length % 64 := ⟨_, rfl⟩
 rw [← hf] at hb0
 have hgr : w.grownBy w (some g) := World.grownBy.refl _ _
 refine calls_of_wpF (args := [PQ g 0, v]) Tryd.func40 rfl 60 rfl (Nat.le_of_ble_eq_true rfl) ?_
 intro ρ0 hb
 have T0 : ρ0 0 = (PQ g 0 : Value) := hb.get 0
 have T1 : ρ0 1 = (v : Value) := hb.get 1
 clear hb
 refine sk fun K1 hK1 => (sk fun K2 hK2 => (wt (oM rfl (oS rfl (Yk.eqlNil sha8_ty76 T0 (oZ (tN (hK2 _ _ (wpF_false (vr (.bool (false)) rfl) (wpF_skip (tN (hK1 _ _ (sk fun K3 hK3 => (wt (oM rfl (oS rfl (Yk.nilCheck T0 (oS rfl (Yk.fieldAt sha8_fo100_3 (vr (PQ g 0) rfl) (oS rfl (Yk.cell1 sha8_ty3 rfl (vr (PQ g 73) rfl) (cellAt hb0 (hashL_size hs hr)) ?_)))))))))))))))))))))
 refine oM rfl (oS rfl (Yk.lenRB sha8_ty22 (RB.of hc T1) (oS rfl (Yk.bin (xv := NI p.length) (yv := NI ((([] : List UInt8) : List UInt8).length)) rfl rfl rfl (i64_add _ _ _ (by simp; omega)) (oS rfl (Yk.nilCheck T0 (oS rfl (Yk.fieldAt sha8_fo100_3 (vr (PQ g 0) rfl) (oS rfl (Yk.storeC (i := 73) (v := NI ((p.length) + ((([] : List UInt8) : List UInt8).length))) (vr (PQ g 73) rfl) (vr (NI ((p.length) + ((([] : List UInt8) : List UInt8).length))) rfl) hb0 (by rw [hashL_length hs hr]; omega) sha8_isz3 rfl rfl fun w4 hb5 hg6 hs7 => ?_))))))))))
 have hc : RB w4 v ([] : List UInt8) := RB.nilAny hc
 have hgr : w.grownBy w4 (some g) := grownBy_trans hgr hg6 (fun _ e => .inl e)
 clear hb0
 have hb0 := hb5; clear hb5
 have hl8 := bl hb0
 refine oL_ [(0, PQ g 0), (1, v), (6, .bool (false))] ⟨T0, T1, rfl, trivial⟩ fun ρ9 ⟨T0, T1, T6, _⟩ => ?_
 have hb0 : w4.heap[g]? = some (.cells (hashL s r f p.length).toArray 100 (0, 0)) := blk_eq hb0 (hashL_setSize hs hr)
 refine tN (hK3 _ _ (wpF_block (wpF_loop (fun (ρ : Slots) (wz : World) => ρ 0 = (PQ g 0 : Value) ∧ ρ 6 = (.bool (false) : Value) ∧ ρ 1 = (v : Value) ∧ RB wz v ([] : List UInt8) ∧ w.grownBy wz (some g) ∧ wz.heap[g]? = some (.cells (hashL s r f p.length).toArray 100 (0, 0)) ∧ True) (fun ρ _ => 0) ⟨T0, T6, T1, hc, hgr, hb0, trivial⟩ ?_)))
 clear hc hgr hb0
 rintro ρ10 w11 ⟨T0, T6, T1, hc, hgr, hb0, -⟩
 refine sk fun K12 hK12 => (sk fun K13 hK13 => (wt (oM rfl (oS rfl (Yk.lenRB sha8_ty22 (RB.of hc T1) (oS rfl (Yk.eqI (a := ((([] : List UInt8) : List UInt8).length : Nat)) (b := (0 : Nat)) rfl rfl (k_gtr _ _ _ _) (oL_ [(0, PQ g 0), (1, v), (6, .bool (false)), (18, .bool (decide ((0) < ((([] : List UInt8) : List UInt8).length))))] ⟨T0, T1, T6, rfl, trivial⟩ fun ρ14 ⟨T0, T1, T6, T18, _⟩ => (tN (hK13 _ _ (wpF_false (show _ = Value.bool false from (T18).trans (congrArg Value.bool (decide_eq_false (by simp)))) (wpF_exit (thenF_exit (thenF_exit (inBlockF_hit (postF_end (fn := Tryd.f40) [] rfl [] (.tuple #[]) rfl trivial ?_))))))))))))))))
 exact ⟨rfl, ⟨s, r, hat, by rw [← hf]; exact hb0⟩, hgr⟩

theorem write_all (w : World) (hG : Laid w) (g : Nat) (hh : 1 < g) (p : List UInt8) (hH : HashAt w g p) (v : Value) (c : List UInt8) (hc : RB w v c) (hv : 0 < c.length → v.ownBlock ≠ some g) (hb : p.length + c.length < 4611686018427387904) :
  Calls Tryd.prog 40 #[PQ g 0, v] w fun e w' => e = .returned (.tuple #[]) ∧ HashAt w' g (p ++ c) ∧ w.grownBy w' (some g) := by
 by_cases h0 : 0 < c.length
 ·exact write_any w hG g hh p hH v c hc (hv h0) hb
 ·have : c = [] := List.eq_nil_of_length_eq_zero (by omega)
  subst this
  rw [List.append_nil]
  exact writeEmpty_any w g p hH v hc (by simpa using hb)

theorem sum_any (w : World) (hG : Laid w) (v : Value) (ls : List (List UInt8)) (hls : RBs w v ls) (hb : ls.flatten.length < 1152921504606846976) (hlen : ls.length < 1152921504606846976) :
    Calls Tryd.prog 14 #[v] w fun e w' => e = .returned (AB (Sha.sum ls.flatten)) ∧ Ext w w' := by
 have hw2 : 1 < w.heap.size := hG.two
 refine calls_of_wpF (args := [v]) Tryd.func14 rfl 19 rfl (Nat.le_of_ble_eq_true rfl) ?_
 intro ρ0 hb
 have T0 : ρ0 0 = (v : Value) := hb.get 0
 clear hb
 have hE := Ext.refl w
 refine sk fun K1 hK1 => (wt (oS rfl (Yk.alloc (cs := (Lib.byteCells (List.replicate 32 0)).toArray) sha8_al26 fun n2 w3 hn4 hb5 hx6 hs7 => ?_)))
 have hE := hE.trans hx6
 have hb8 := hb5; clear hb5
 have hl9 : n2 < w3.heap.size := by omega
 refine oZ (tN (hK1 _ _ (sk fun K10 hK10 => (wt (oS rfl (Yk.callA0 sha8_pl39  ((new_any _ (hG.keep hE)).mono ?_)))))))
 rintro e w14 ⟨gH, rfl, hn13, hH12, hx11⟩
 refine ⟨_, rfl, ?_⟩
 have hA15 := Ext.refl w3
 have hea16 := hE
 have hz17 := hE.size
 have hlt18 : n2 < gH := by have := (bl hb8); omega
 have hE := hE.trans hx11
 have hb8 := eb hx11 hb8
 have hA15 := hA15.trans hx11
 refine oA rfl (oZ (tN (hK10 _ _ (sk fun K19 hK19 => (sk fun K20 hK20 => (wt (oM rfl (oS rfl (Yk.lenRBs sha8_ty75 (RBs.of (hls.keep hE) T0) (oM rfl (oL_ [(0, v), (2, PQ n2 0), (3, PQ gH 0), (7, v), (8, NI ls.length), (9, NI 0)] ⟨T0, rfl, rfl, T0, rfl, rfl, trivial⟩ fun ρ21 ⟨T0, T2, T3, T7, T8, T9, _⟩ => (tN (hK20 _ _ (wpF_block (wpF_loop (fun (ρ : Slots) (wz : World) => ∃ i : Nat, ρ 0 = (v : Value) ∧ ρ 2 = (PQ n2 0 : Value) ∧ ρ 3 = (PQ gH 0 : Value) ∧ ρ 7 = (v : Value) ∧ ρ 8 = (NI ls.length : Value) ∧ ρ 9 = (NI i : Value) ∧ Ext w wz ∧ wz.heap[n2]? = some (.cells (Lib.byteCells (List.replicate 32 0)).toArray 26 (0, 0)) ∧ Ext w3 wz ∧ HashAt wz gH ((ls.take i).flatten) ∧ (i ≤ ls.length) ∧ True) (fun ρ _ => ls.length - (intOf (ρ 9)).toNat) ⟨0, T0, T2, T3, T7, T8, T9, hE, hb8, hA15, by simpa using hH12, Nat.zero_le _, trivial⟩ ?_)))))))))))))))
 clear hH12
 clear hE hb8 hA15
 rintro ρ22 w23 ⟨i, T0, T2, T3, T7, T8, T9, hE, hb8, hA15, hHi, hi, -⟩
 have q9 := T9
 refine sk fun K24 hK24 => (wt (oS rfl (Yk.eqI (a := (i : Nat)) (b := (ls.length : Nat)) T9 T8 (k_lss _ _ _ _) (oZ (tN (hK24 _ _ (sk fun K25 hK25 => ?_)))))))
 refine wpF_cond ((i) < (ls.length)) (vr (.bool (decide ((i) < (ls.length)))) rfl) (fun hi3 => ?_) (fun hi3 => ?_)
 ·refine wpF_skip (tN (hK25 _ _ (sk fun K26 hK26 => (wpF_block (sk fun K27 hK27 => (wt (oS rfl (Yk.atRBs0 (ls := ls) (i := i) hE sha8_ty75 sha8_sz22 hls T7 T9 (hi3) fun v28 u29 hp30 hr31 => (oS rfl (Yk.loadC sha8_ty22 rfl (PCell.of hp30 (vr v28 rfl)) (oA rfl (oZ ?_))))))))))))
  clear hp30
  refine tN (hK27 _ _ (wt (oM rfl (oM rfl (oS rfl (Yk.callA2 sha8_pl40 T3 (vr u29 rfl) ((write_all _ (hG.keep hE) gH (by omega) ((ls.take i).flatten) hHi u29 (ls.getD (i) []) (hr31.keep hE) (fun h0 hb => by have := RB.lt hr31 h0 hb; omega) (by have := flatten_take_le ls i hi3; omega)).mono ?_)))))))
  rintro e w34 ⟨rfl, hH32, hg33⟩
  refine ⟨_, rfl, ?_⟩
  have hE := row_fresh hE hg33 (Nat.le_trans hz17 hn13)
  have hb8 := kb hg33 hb8 (by omega)
  have hA15 := row_fresh hA15 hg33 (Nat.le_trans (Nat.le_refl _) hn13)
  clear hHi
  refine oZ (bN (tN (hK26 _ _ (wt (oS rfl (Yk.bin (xv := NI i) (yv := NI 1) T9 rfl rfl (i64_add _ _ _ (by have := hlen; omega)) (oM rfl (oL_ [(0, v), (2, PQ n2 0), (3, PQ gH 0), (5, u29), (7, v), (8, NI ls.length), (9, NI ((i) + (1)))] ⟨T0, T2, T3, rfl, T7, T8, rfl, trivial⟩ fun ρ35 ⟨T0, T2, T3, T5, T7, T8, T9, _⟩ => (tN (And.intro ⟨i + 1, T0, T2, T3, T7, T8, T9, hE, hb8, hA15, (show HashAt _ _ _ from by rw [flatten_take ls i hi3]; exact hH32), by omega, trivial⟩ ?_))))))))))
  show ls.length - (intOf (ρ35 9)).toNat < ls.length - (intOf (ρ22 9)).toNat
  rw [T9, q9]
  simp only [intOf, Int.toNat_natCast]; omega
 have hfl : (ls.take i).flatten = ls.flatten := by rw [List.take_of_length_le (by omega)]
 have hfl2 := congrArg List.length hfl
 refine wpF_exit (thenF_exit (thenF_exit (inBlockF_hit (tN (hK19 _ _ (sk fun K36 hK36 => (wt (oM rfl (oS rfl (Yk.callA1 sha8_pl41 T3 ((sumAt_any _ (hG.keep hE) gH ((ls.take i).flatten) hHi (by omega)).mono ?_)))))))))))
 rintro e w38 ⟨rfl, hx37⟩
 refine ⟨_, rfl, ?_⟩
 have hE := hE.trans hx37
 have hb8 := eb hx37 hb8
 have hA15 := hA15.trans hx37
 have hHi := hHi.keep hx37
 refine oS rfl (Yk.storeAll T2 (vr (AB (Sha.sum ((ls.take i).flatten))) rfl) hb8 (by rw [List.size_toArray, Lib.byteCells_length, Sha.sum_length]; rfl) (by rw [List.size_toArray, Lib.byteCells_length, Sha.sum_length]; exact sha8_isz26) (byteCells_one _) fun w39 hb40 hg41 hs42 => ?_)
 have hE := row_fresh hE hg41 (Nat.le_trans (Nat.le_refl _) (by omega))
 clear hA15
 have hHi := HashAt.other hHi hg41 (by omega)
 clear hb8
 have hb8 := hb40; clear hb40
 have hl43 := bl hb8
 refine oZ (tN (hK36 _ _ (wpF_ret (postF_ret (fn := Tryd.f14) _ rfl [AB (Sha.sum ((ls.take i).flatten))] (AB (Sha.sum ((ls.take i).flatten))) rfl ⟨ResF.row T2 hb8 sha8_ty26 rfl (by rw [List.size_toArray, Lib.byteCells_length, Sha.sum_length]; exact sha8_isz26), trivial⟩ ?_))))
 rw [hfl]
 exact ⟨rfl, hE⟩
end Go.Proofs.YtejpjjhkjdpeaaaDoor
