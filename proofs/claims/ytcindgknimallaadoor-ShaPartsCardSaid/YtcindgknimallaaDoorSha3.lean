/- sha.rounds. -/
import Derived.Test.YtcindgknimallaaDoorSha2
namespace Go.Proofs.YtcindgknimallaaDoor
open Go.RowKit
theorem plainSchedule : Plain Tryd.prog 20 := fun _ _ => by kernel_rfl
theorem buildA8 (a b c d e f g h : UInt32) (w : World) : (Instr.build 41 #[(0, U a), (1, U b), (2, U c), (3, U d), (4, U e), (5, U f), (6, U g), (7, U h)]).run Tryd.prog w = .ok (.agg (cellsU [a, b, c, d, e, f, g, h])) w := by kernel_rfl
theorem alloc41 (ρ : Operand → Value) (d : Option Tmp) (ty : TypeId) (pos : String) (af : Array Edge) (w : World) : (execOp ρ ⟨d, .alloc 41, ty, pos, af, none⟩).run Tryd.prog w = .ok (.value (.pointer (some ⟨w.heap.size, 0, none⟩))) (w.alloc (.cells (cellsU (List.replicate 8 0)) 41)) := by kernel_rfl
/-- The package's variables as they are laid. -/
structure Laid (w : World) : Prop where
  first : ∃ t fr, w.heap[0]? = some (.cells (cellsU Sha.first) t fr)
  words : ∃ t fr, w.heap[1]? = some (.cells (cellsU Sha.words) t fr)
theorem Laid.keep {w w' : World} (h : Laid w) (k : Ext w w') : Laid w' := ⟨by obtain ⟨t, fr, h1⟩ := h.first; exact ⟨t, fr, k.blk' h1⟩, by obtain ⟨t, fr, h1⟩ := h.words; exact ⟨t, fr, k.blk' h1⟩⟩
theorem Laid.two {w : World} (h : Laid w) : 1 < w.heap.size := by
  obtain ⟨t, fr, h1⟩ := h.words
  exact (Array.getElem?_eq_some_iff.1 h1).1
/-- The state while it is added. -/
def Sha.adding (v s : List UInt32) : Nat → List UInt32
  | 0 => v
  | i + 1 => (Sha.adding v s i).set i ((Sha.adding v s i).getD i 0 + s.getD i 0)
theorem Sha.adding_length (v s : List UInt32) : ∀ i, (Sha.adding v s i).length = v.length
  | 0 => rfl
  | i + 1 => by simp [Sha.adding, Sha.adding_length v s i]
theorem Sha.adding_get (v s : List UInt32) (h : s.length = v.length) : ∀ i j, j < v.length → (Sha.adding v s i).getD j 0 = if j < i then v.getD j 0 + s.getD j 0 else v.getD j 0
  | 0, j, _ => by simp [Sha.adding]
  | i + 1, j, hj => by
    have ih := Sha.adding_get v s h i
    unfold Sha.adding
    by_cases hij : i = j
    · subst hij
      have hl : i < (Sha.adding v s i).length := by rw [Sha.adding_length]; exact hj
      rw [List.getD_eq_getElem?_getD, List.getElem?_set_self hl, Option.getD_some, ih i hj, if_neg (Nat.lt_irrefl _), if_pos (Nat.lt_succ_self _)]
    · rw [List.getD_eq_getElem?_getD, List.getElem?_set_ne hij, ← List.getD_eq_getElem?_getD, ih j hj]
      by_cases h1 : j < i
      · rw [if_pos h1, if_pos (by omega)]
      · rw [if_neg h1, if_neg (by omega)]
theorem Sha.adding_all (v s : List UInt32) (h : s.length = v.length) : Sha.adding v s v.length = Sha.added v s := by
  apply List.ext_getElem (by simp [Sha.adding_length, Sha.added, h])
  intro j h1 h2
  have hj : j < v.length := by rw [Sha.adding_length] at h1; exact h1
  have := Sha.adding_get v s h v.length j hj
  rw [if_pos hj] at this
  have hs : j < s.length := by omega
  simp [List.getD_eq_getElem?_getD, h1, hj, hs] at this
  rw [this]
  simp [Sha.added]

set_option maxRecDepth 100000 in
set_option maxHeartbeats 2000000 in
theorem rounds_any (w : World) (hG : Laid w) (s : List UInt32) (hs : s.length = 8) (v : Value) (b : List UInt8) (hb : RB w v b) (hl : b.length = 64) : Calls Tryd.prog 19 #[.agg (cellsU s), v] w fun e w' => e = .returned (.agg (cellsU (Sha.rounds s b))) ∧ Ext w w' := by
  obtain ⟨tG, fG, hGw⟩ := hG.words
  obtain ⟨R, hR⟩ : ∃ R, R = Sha.rounds s b := ⟨_, rfl⟩
  have HRl : R.length = 8 := by rw [hR, Sha.rounds_length _ _ hs]
  rw [← hR]
  unfold Sha.rounds at hR
  obtain ⟨F, hF⟩ : ∃ F, F = Sha.sched b 64 := ⟨_, rfl⟩
  rw [← hF] at hR
  obtain ⟨T, hT⟩ : ∃ T, T = Sha.turned s F 64 := ⟨_, rfl⟩
  have HTl : T.length = 8 := by rw [hT, Sha.turned_length _ _ hs]
  rw [← hT] at hR
  have HFl : F.length = 64 := by rw [hF, Sha.sched_length]
  have HF := Lib.hid hF
  have HT := Lib.hid hT
  have HR := Lib.hid hR
  clear hF hT hR
  have HB0 := Lib.hid hb
  clear hb
  have HS := Lib.hid (size41_of hs)
  obtain ⟨Z, hZ⟩ : ∃ Z, Z = cellsU (List.replicate 8 0) := ⟨_, rfl⟩
  have hZs : Z.size = 8 := by rw [hZ]; rfl
  have HA := Lib.hid alloc41
  rw [← hZ] at HA
  clear hZ
  go_enter Tryd.func19, Tryd.ntmps19
  go_wp2_with (first
    | (guard_target =~ wpList _ _ _ (⟨some 2, _, _, _, _, _⟩ :: _) _ _; refine wpList_fresh rfl (cellsU s) _ (run_execBox rfl) ?_; intro n2 w2 hn2 hb2 hs2 he2)
    | (guard_target =~ wpList _ _ _ (⟨some 4, _, _, _, _, _⟩ :: _) _ _; refine wpList_fresh rfl _ _ (HA.out _ _ _ _ _ _) ?_; intro n4 w4 hn4 hb4 hs4 he4)
    | (guard_target =~ wpList _ _ _ (⟨some 14, _, _, _, _, _⟩ :: _) _ _; refine wpList_load_row rfl _ _ rfl n2 (by kernel_rfl) _ _ _ _ (he4.blk' hb2) tyA8 rfl HS.out ?_)
    | (guard_target =~ wpList _ _ _ (⟨some 5, _, _, _, _, _⟩ :: _) _ _; refine wpList_fresh rfl _ _ (HA.out _ _ _ _ _ _) ?_; intro n5 w5 hn5 hb5 hs5 he5)
    | (guard_target =~ wpList _ _ _ (⟨none, .store _ _ _, _, _, _, _⟩ :: _) _ _; refine wpList_store_row' rfl _ _ _ rfl n5 (by kernel_rfl) (cellsU s) Z _ (by kernel_rfl) hb5 (by rw [cellsU_size, hs, hZs]) HS.out (cellsU_one _) ?_; intro w6 hb6 hg6 hs6))
  have hE6 : Below n2 w w6 := by
    rw [← hn2]
    exact Below.grown ((he2.trans he4).trans he5) hg6 (by omega) (fun k e => by cases e; omega)
  have hb26 : w6.heap[n2]? = some (.cells (cellsU s) 41 (0, 0)) := (hg6.block n2 (by omega) (by simp; omega)).trans (he5.blk' (he4.blk' hb2))
  have hb46 : w6.heap[n4]? = some (.cells Z 41 (0, 0)) := (hg6.block n4 (by omega) (by simp; omega)).trans (he5.blk' hb4)
  have hn1 : 1 < n2 := by rw [← hn2]; exact (Array.getElem?_eq_some_iff.1 hGw).1
  have hsch := schedule_any w6 v b (HB0.out.keep (by rw [← hn2] at hE6; exact hE6)) hl
  rw [← HF.out] at hsch
  have HSC := Lib.hid hsch
  clear hsch he2 he4 he5 hb2 hb4 hb5 hg6 HB0 HA
  refine HSC.out.mono ?_
  rintro e w7 ⟨rfl, h7⟩
  have hb7 := h7.blk' hb6
  have hb27 := h7.blk' hb26
  have hb47 := h7.blk' hb46
  have hE7 := hE6.trans (h7.mono (by omega))
  clear h7 hE6 hb6 hb26 hb46 HSC
  go_wp2_with fail
  go_loopw [17] (fun v17 wr => ∃ t : Nat, v17 = NI t ∧ t ≤ 64 ∧ Below n2 w wr ∧ wr.heap[n2]? = some (.cells (cellsU s) 41 (0, 0)) ∧ wr.heap[n4]? = some (.cells Z 41 (0, 0)) ∧ wr.heap[n5]? = some (.cells (cellsU (Sha.turned s F t)) 41 (0, 0)))
    (fun v17 _ => 64 - (intOf v17).toNat)
  case atStart => exact ⟨0, rfl, by omega, hE7, hb27, hb47, hb7⟩
  case round =>
    clear hE7 hb27 hb47 hb7
    obtain ⟨t, rfl, ht, hbl, h2, h4, h5⟩ := hrel
    by_cases h64 : t < 64
    · have HG := Lib.hid ((hbl.block 1 hn1).trans hGw)
      obtain ⟨V, hV⟩ : ∃ V, V = Sha.turned s F t := ⟨_, rfl⟩
      have HVl : V.length = 8 := by rw [hV, Sha.turned_length _ _ hs]
      rw [← hV] at h5
      have H5 := Lib.hid h5
      have HV := Lib.hid hV
      clear hV
      have hd : decide ((t : Int) < 64) = true := by simp; omega
      clear h5
      obtain ⟨x, hx⟩ : ∃ x, x = F.getD t 0 := ⟨_, rfl⟩
      have HX := Lib.hid hx
      clear hx
      go_wp2_with (guard_target =~ wpList _ _ _ (⟨some 20, _, _, _, _, _⟩ :: _) _ _; refine wpList_value rfl (U x) _ (by rw [HX.out]; exact run_idxU (i := t) (k := .i64) (l := F) (n := 64) tyA64 uU rfl sizeU (by kernel_rfl) (by kernel_rfl) h64 HFl) ?_)
      refine wp_region_ext [Is (.pointer (some ⟨n5, 4, none⟩)), Is (U (V.getD 4 0)), Is (U (Sha.rotr (V.getD 4 0) 6)), Is (.pointer (some ⟨n5, 4, none⟩)), Is (U (V.getD 4 0)), Is (U (Sha.rotr (V.getD 4 0) 11)), Is (U ((Sha.rotr (V.getD 4 0) 6) ^^^ (Sha.rotr (V.getD 4 0) 11))), Is (.pointer (some ⟨n5, 4, none⟩)), Is (U (V.getD 4 0)), Is (U (Sha.rotr (V.getD 4 0) 25)), Is (U (((Sha.rotr (V.getD 4 0) 6) ^^^ (Sha.rotr (V.getD 4 0) 11)) ^^^ (Sha.rotr (V.getD 4 0) 25))), Is (U (((Sha.rotr (V.getD 4 0) 6) ^^^ (Sha.rotr (V.getD 4 0) 11)) ^^^ (Sha.rotr (V.getD 4 0) 25)))]
        (by kernel_rfl) _ _ (by kernel_rfl) [21, 22, 23, 24, 25, 26, 27, 28, 29, 30, 31, 8] (by kernel_rfl) ⟨Stab.is _, Stab.is _, Stab.is _, Stab.is _, Stab.is _, Stab.is _, Stab.is _, Stab.is _, Stab.is _, Stab.is _, Stab.is _, Stab.is _, trivial⟩ ?hs5 ?hQ5
      case hs5 =>
        refine ⟨?_, ?_, ?_, ?_, ?_, ?_, ?_, ?_, ?_, ?_, ?_, ?_, trivial⟩
        · refine stepNone rfl fun ρ w1 hC h => ?_    -- 21 := Op.indexAddr 41 t5 (const (4:i64))
          have h5 : ρ 5 = .pointer (some ⟨n5, 0, none⟩) := h 5 (by decide)
          exact YieldsK.atArr (i := 4) tyA8 sizeU h5 rfl (by omega) ⟨Ext.refl _, rfl⟩
        · refine stepNone rfl fun ρ w1 hC h => ?_    -- 22 := Op.load 40 t21
          have h21 : ρ 21 = .pointer (some ⟨n5, 4, none⟩) := h 21 (by decide)
          exact YieldsK.cell1 uU rfl h21 (hC.cell (cellU_at (H5.out) (by omega))) ⟨Ext.refl _, rfl⟩
        · refine stepNone rfl fun ρ w1 hC h => ?_    -- 23 := Op.call { value (Operand.func 21), args := #[t22, const (6:i64)], argTypes := #[40, 3] }
          have h22 : ρ 22 = U (V.getD 4 0) := h 22 (by decide)
          refine YieldsK.call plainTurn ?_
          show Calls _ _ #[ρ 22, NI 6] _ _
          rw [h22]
          refine (turn_any w1 _ 6 (by decide)).mono ?_
          rintro e w2 ⟨rfl, hx⟩
          exact ⟨_, rfl, hx, rfl⟩
        · refine stepNone rfl fun ρ w1 hC h => ?_    -- 24 := Op.indexAddr 41 t5 (const (4:i64))
          have h5 : ρ 5 = .pointer (some ⟨n5, 0, none⟩) := h 5 (by decide)
          exact YieldsK.atArr (i := 4) tyA8 sizeU h5 rfl (by omega) ⟨Ext.refl _, rfl⟩
        · refine stepNone rfl fun ρ w1 hC h => ?_    -- 25 := Op.load 40 t24
          have h24 : ρ 24 = .pointer (some ⟨n5, 4, none⟩) := h 24 (by decide)
          exact YieldsK.cell1 uU rfl h24 (hC.cell (cellU_at (H5.out) (by omega))) ⟨Ext.refl _, rfl⟩
        · refine stepNone rfl fun ρ w1 hC h => ?_    -- 26 := Op.call { value (Operand.func 21), args := #[t25, const (11:i64)], argTypes := #[40, 3] }
          have h25 : ρ 25 = U (V.getD 4 0) := h 25 (by decide)
          refine YieldsK.call plainTurn ?_
          show Calls _ _ #[ρ 25, NI 11] _ _
          rw [h25]
          refine (turn_any w1 _ 11 (by decide)).mono ?_
          rintro e w2 ⟨rfl, hx⟩
          exact ⟨_, rfl, hx, rfl⟩
        · refine stepNone rfl fun ρ w1 hC h => ?_    -- 27 := Op.binOp BinOp.xor 40 t23 t26 40
          have h23 : ρ 23 = U (Sha.rotr (V.getD 4 0) 6) := h 23 (by decide)
          have h26 : ρ 26 = U (Sha.rotr (V.getD 4 0) 11) := h 26 (by decide)
          exact YieldsK.bin h23 h26 rfl (u_xor _ _ _) ⟨Ext.refl _, rfl⟩
        · refine stepNone rfl fun ρ w1 hC h => ?_    -- 28 := Op.indexAddr 41 t5 (const (4:i64))
          have h5 : ρ 5 = .pointer (some ⟨n5, 0, none⟩) := h 5 (by decide)
          exact YieldsK.atArr (i := 4) tyA8 sizeU h5 rfl (by omega) ⟨Ext.refl _, rfl⟩
        · refine stepNone rfl fun ρ w1 hC h => ?_    -- 29 := Op.load 40 t28
          have h28 : ρ 28 = .pointer (some ⟨n5, 4, none⟩) := h 28 (by decide)
          exact YieldsK.cell1 uU rfl h28 (hC.cell (cellU_at (H5.out) (by omega))) ⟨Ext.refl _, rfl⟩
        · refine stepNone rfl fun ρ w1 hC h => ?_    -- 30 := Op.call { value (Operand.func 21), args := #[t29, const (25:i64)], argTypes := #[40, 3] }
          have h29 : ρ 29 = U (V.getD 4 0) := h 29 (by decide)
          refine YieldsK.call plainTurn ?_
          show Calls _ _ #[ρ 29, NI 25] _ _
          rw [h29]
          refine (turn_any w1 _ 25 (by decide)).mono ?_
          rintro e w2 ⟨rfl, hx⟩
          exact ⟨_, rfl, hx, rfl⟩
        · refine stepNone rfl fun ρ w1 hC h => ?_    -- 31 := Op.binOp BinOp.xor 40 t27 t30 40
          have h27 : ρ 27 = U ((Sha.rotr (V.getD 4 0) 6) ^^^ (Sha.rotr (V.getD 4 0) 11)) := h 27 (by decide)
          have h30 : ρ 30 = U (Sha.rotr (V.getD 4 0) 25) := h 30 (by decide)
          exact YieldsK.bin h27 h30 rfl (u_xor _ _ _) ⟨Ext.refl _, rfl⟩
        · refine stepNone rfl fun ρ w1 hC h => ?_    -- 8 := Op.assign t31
          have h31 : ρ 31 = U (((Sha.rotr (V.getD 4 0) 6) ^^^ (Sha.rotr (V.getD 4 0) 11)) ^^^ (Sha.rotr (V.getD 4 0) 25)) := h 31 (by decide)
          exact ⟨Ext.refl _, h31⟩
      intro u_5 w5 hC5 hE
      obtain ⟨-, -, -, -, -, -, -, -, -, -, -, k8, -⟩ := hE
      have u8 : u_5 8 = U (((Sha.rotr (V.getD 4 0) 6) ^^^ (Sha.rotr (V.getD 4 0) 11)) ^^^ (Sha.rotr (V.getD 4 0) 25)) := k8
      clear k8
      simp only [wrote, List.foldl_cons, List.foldl_nil, List.setIfInBounds_toArray, List.set_cons_zero, List.set_cons_succ, u8]
      rename_i K5 hK5
      refine hK5 _ _ ?_
      clear hK5 K5
      apply wp_seq_k
      intro K6 hK6
      refine wp_region_ext_text [Is (.pointer (some ⟨n5, 4, none⟩)), Is (U (V.getD 4 0)), Is (.pointer (some ⟨n5, 5, none⟩)), Is (U (V.getD 5 0)), Is (U ((V.getD 4 0) &&& (V.getD 5 0))), Is (.pointer (some ⟨n5, 4, none⟩)), Is (U (V.getD 4 0)), Is (U (~~~(V.getD 4 0))), Is (.pointer (some ⟨n5, 6, none⟩)), Is (U (V.getD 6 0)), Is (U ((~~~(V.getD 4 0)) &&& (V.getD 6 0))), Is (U (((V.getD 4 0) &&& (V.getD 5 0)) ^^^ ((~~~(V.getD 4 0)) &&& (V.getD 6 0)))), Is (U (((V.getD 4 0) &&& (V.getD 5 0)) ^^^ ((~~~(V.getD 4 0)) &&& (V.getD 6 0))))]
         _ _ (by kernel_rfl) [32, 33, 34, 35, 36, 37, 38, 39, 40, 41, 42, 43, 9] (by kernel_rfl) ⟨Stab.is _, Stab.is _, Stab.is _, Stab.is _, Stab.is _, Stab.is _, Stab.is _, Stab.is _, Stab.is _, Stab.is _, Stab.is _, Stab.is _, Stab.is _, trivial⟩ ?hs6 ?hQ6
      case hs6 =>
        refine ⟨?_, ?_, ?_, ?_, ?_, ?_, ?_, ?_, ?_, ?_, ?_, ?_, ?_, trivial⟩
        · refine stepNone rfl fun ρ w1 hC h => ?_    -- 32 := Op.indexAddr 41 t5 (const (4:i64))
          have h5 : ρ 5 = .pointer (some ⟨n5, 0, none⟩) := h 5 (by decide)
          exact YieldsK.atArr (i := 4) tyA8 sizeU h5 rfl (by omega) ⟨Ext.refl _, rfl⟩
        · refine stepNone rfl fun ρ w1 hC h => ?_    -- 33 := Op.load 40 t32
          have h32 : ρ 32 = .pointer (some ⟨n5, 4, none⟩) := h 32 (by decide)
          exact YieldsK.cell1 uU rfl h32 (hC.cell (cellU_at ((hC5).blk' H5.out) (by omega))) ⟨Ext.refl _, rfl⟩
        · refine stepNone rfl fun ρ w1 hC h => ?_    -- 34 := Op.indexAddr 41 t5 (const (5:i64))
          have h5 : ρ 5 = .pointer (some ⟨n5, 0, none⟩) := h 5 (by decide)
          exact YieldsK.atArr (i := 5) tyA8 sizeU h5 rfl (by omega) ⟨Ext.refl _, rfl⟩
        · refine stepNone rfl fun ρ w1 hC h => ?_    -- 35 := Op.load 40 t34
          have h34 : ρ 34 = .pointer (some ⟨n5, 5, none⟩) := h 34 (by decide)
          exact YieldsK.cell1 uU rfl h34 (hC.cell (cellU_at ((hC5).blk' H5.out) (by omega))) ⟨Ext.refl _, rfl⟩
        · refine stepNone rfl fun ρ w1 hC h => ?_    -- 36 := Op.binOp BinOp.and 40 t33 t35 40
          have h33 : ρ 33 = U (V.getD 4 0) := h 33 (by decide)
          have h35 : ρ 35 = U (V.getD 5 0) := h 35 (by decide)
          exact YieldsK.bin h33 h35 rfl (u_and _ _ _) ⟨Ext.refl _, rfl⟩
        · refine stepNone rfl fun ρ w1 hC h => ?_    -- 37 := Op.indexAddr 41 t5 (const (4:i64))
          have h5 : ρ 5 = .pointer (some ⟨n5, 0, none⟩) := h 5 (by decide)
          exact YieldsK.atArr (i := 4) tyA8 sizeU h5 rfl (by omega) ⟨Ext.refl _, rfl⟩
        · refine stepNone rfl fun ρ w1 hC h => ?_    -- 38 := Op.load 40 t37
          have h37 : ρ 37 = .pointer (some ⟨n5, 4, none⟩) := h 37 (by decide)
          exact YieldsK.cell1 uU rfl h37 (hC.cell (cellU_at ((hC5).blk' H5.out) (by omega))) ⟨Ext.refl _, rfl⟩
        · refine stepNone rfl fun ρ w1 hC h => ?_    -- 39 := Op.unOp UnOp.xor 40 t38
          have h38 : ρ 38 = U (V.getD 4 0) := h 38 (by decide)
          exact YieldsK.not32 h38 ⟨Ext.refl _, rfl⟩
        · refine stepNone rfl fun ρ w1 hC h => ?_    -- 40 := Op.indexAddr 41 t5 (const (6:i64))
          have h5 : ρ 5 = .pointer (some ⟨n5, 0, none⟩) := h 5 (by decide)
          exact YieldsK.atArr (i := 6) tyA8 sizeU h5 rfl (by omega) ⟨Ext.refl _, rfl⟩
        · refine stepNone rfl fun ρ w1 hC h => ?_    -- 41 := Op.load 40 t40
          have h40 : ρ 40 = .pointer (some ⟨n5, 6, none⟩) := h 40 (by decide)
          exact YieldsK.cell1 uU rfl h40 (hC.cell (cellU_at ((hC5).blk' H5.out) (by omega))) ⟨Ext.refl _, rfl⟩
        · refine stepNone rfl fun ρ w1 hC h => ?_    -- 42 := Op.binOp BinOp.and 40 t39 t41 40
          have h39 : ρ 39 = U (~~~(V.getD 4 0)) := h 39 (by decide)
          have h41 : ρ 41 = U (V.getD 6 0) := h 41 (by decide)
          exact YieldsK.bin h39 h41 rfl (u_and _ _ _) ⟨Ext.refl _, rfl⟩
        · refine stepNone rfl fun ρ w1 hC h => ?_    -- 43 := Op.binOp BinOp.xor 40 t36 t42 40
          have h36 : ρ 36 = U ((V.getD 4 0) &&& (V.getD 5 0)) := h 36 (by decide)
          have h42 : ρ 42 = U ((~~~(V.getD 4 0)) &&& (V.getD 6 0)) := h 42 (by decide)
          exact YieldsK.bin h36 h42 rfl (u_xor _ _ _) ⟨Ext.refl _, rfl⟩
        · refine stepNone rfl fun ρ w1 hC h => ?_    -- 9 := Op.assign t43
          have h43 : ρ 43 = U (((V.getD 4 0) &&& (V.getD 5 0)) ^^^ ((~~~(V.getD 4 0)) &&& (V.getD 6 0))) := h 43 (by decide)
          exact ⟨Ext.refl _, h43⟩
      intro u_6 w6 hC6 hE
      obtain ⟨-, -, -, -, -, -, -, -, -, -, -, -, k9, -⟩ := hE
      have u9 : u_6 9 = U (((V.getD 4 0) &&& (V.getD 5 0)) ^^^ ((~~~(V.getD 4 0)) &&& (V.getD 6 0))) := k9
      clear k9
      simp only [wrote, List.foldl_cons, List.foldl_nil, List.setIfInBounds_toArray, List.set_cons_zero, List.set_cons_succ, u9]
      refine hK6 _ _ ?_
      clear hK6 K6
      apply wp_seq_k
      intro K7 hK7
      refine wp_region_ext [Is (.pointer (some ⟨n5, 7, none⟩)), Is (U (V.getD 7 0)), Is (U (Sha.rotr (V.getD 4 0) 6 ^^^ Sha.rotr (V.getD 4 0) 11 ^^^ Sha.rotr (V.getD 4 0) 25)), Is (U ((V.getD 7 0) + (Sha.rotr (V.getD 4 0) 6 ^^^ Sha.rotr (V.getD 4 0) 11 ^^^ Sha.rotr (V.getD 4 0) 25))), Is (U (V.getD 4 0 &&& V.getD 5 0 ^^^ ~~~(V.getD 4 0) &&& V.getD 6 0)), Is (U (((V.getD 7 0) + (Sha.rotr (V.getD 4 0) 6 ^^^ Sha.rotr (V.getD 4 0) 11 ^^^ Sha.rotr (V.getD 4 0) 25)) + (V.getD 4 0 &&& V.getD 5 0 ^^^ ~~~(V.getD 4 0) &&& V.getD 6 0))), Is (NI (t)), Is (.pointer (some ⟨1, 0 + (t), none⟩)), Is (U (Sha.words.getD (t) 0)), Is (U ((((V.getD 7 0) + (Sha.rotr (V.getD 4 0) 6 ^^^ Sha.rotr (V.getD 4 0) 11 ^^^ Sha.rotr (V.getD 4 0) 25)) + (V.getD 4 0 &&& V.getD 5 0 ^^^ ~~~(V.getD 4 0) &&& V.getD 6 0)) + (Sha.words.getD (t) 0))), Is (U (x)), Is (U (((((V.getD 7 0) + (Sha.rotr (V.getD 4 0) 6 ^^^ Sha.rotr (V.getD 4 0) 11 ^^^ Sha.rotr (V.getD 4 0) 25)) + (V.getD 4 0 &&& V.getD 5 0 ^^^ ~~~(V.getD 4 0) &&& V.getD 6 0)) + (Sha.words.getD (t) 0)) + (x))), Is (U (Sha.up V (Sha.words.getD t 0) x))]
        (by kernel_rfl) _ _ (by kernel_rfl) [44, 45, 46, 47, 48, 49, 50, 51, 52, 53, 54, 55, 10] (by kernel_rfl) ⟨Stab.is _, Stab.is _, Stab.is _, Stab.is _, Stab.is _, Stab.is _, Stab.is _, Stab.is _, Stab.is _, Stab.is _, Stab.is _, Stab.is _, Stab.is _, trivial⟩ ?hs7 ?hQ7
      case hs7 =>
        refine ⟨?_, ?_, ?_, ?_, ?_, ?_, ?_, ?_, ?_, ?_, ?_, ?_, ?_, trivial⟩
        · refine stepNone rfl fun ρ w1 hC h => ?_    -- 44 := Op.indexAddr 41 t5 (const (7:i64))
          have h5 : ρ 5 = .pointer (some ⟨n5, 0, none⟩) := h 5 (by decide)
          exact YieldsK.atArr (i := 7) tyA8 sizeU h5 rfl (by omega) ⟨Ext.refl _, rfl⟩
        · refine stepNone rfl fun ρ w1 hC h => ?_    -- 45 := Op.load 40 t44
          have h44 : ρ 44 = .pointer (some ⟨n5, 7, none⟩) := h 44 (by decide)
          exact YieldsK.cell1 uU rfl h44 (hC.cell (cellU_at ((hC5.trans hC6).blk' H5.out) (by omega))) ⟨Ext.refl _, rfl⟩
        · refine stepNone rfl fun ρ w1 hC h => ?_    -- 46 := Op.move t8
          have h8 : ρ 8 = U (Sha.rotr (V.getD 4 0) 6 ^^^ Sha.rotr (V.getD 4 0) 11 ^^^ Sha.rotr (V.getD 4 0) 25) := h 8 (by decide)
          exact ⟨Ext.refl _, h8⟩
        · refine stepNone rfl fun ρ w1 hC h => ?_    -- 47 := Op.binOp BinOp.add 40 t45 t46 40
          have h45 : ρ 45 = U (V.getD 7 0) := h 45 (by decide)
          have h46 : ρ 46 = U (Sha.rotr (V.getD 4 0) 6 ^^^ Sha.rotr (V.getD 4 0) 11 ^^^ Sha.rotr (V.getD 4 0) 25) := h 46 (by decide)
          exact YieldsK.bin h45 h46 rfl (u_add _ _ _) ⟨Ext.refl _, rfl⟩
        · refine stepNone rfl fun ρ w1 hC h => ?_    -- 48 := Op.move t9
          have h9 : ρ 9 = U (V.getD 4 0 &&& V.getD 5 0 ^^^ ~~~(V.getD 4 0) &&& V.getD 6 0) := h 9 (by decide)
          exact ⟨Ext.refl _, h9⟩
        · refine stepNone rfl fun ρ w1 hC h => ?_    -- 49 := Op.binOp BinOp.add 40 t47 t48 40
          have h47 : ρ 47 = U ((V.getD 7 0) + (Sha.rotr (V.getD 4 0) 6 ^^^ Sha.rotr (V.getD 4 0) 11 ^^^ Sha.rotr (V.getD 4 0) 25)) := h 47 (by decide)
          have h48 : ρ 48 = U (V.getD 4 0 &&& V.getD 5 0 ^^^ ~~~(V.getD 4 0) &&& V.getD 6 0) := h 48 (by decide)
          exact YieldsK.bin h47 h48 rfl (u_add _ _ _) ⟨Ext.refl _, rfl⟩
        · refine stepNone rfl fun ρ w1 hC h => ?_    -- 50 := Op.move t6
          have h6 : ρ 6 = NI (t) := h 6 (by decide)
          exact ⟨Ext.refl _, h6⟩
        · refine stepNone rfl fun ρ w1 hC h => ?_    -- 51 := Op.indexAddr 42 (Operand.global 1) t50
          have h50 : ρ 50 = NI (t) := h 50 (by decide)
          exact YieldsK.atArr (i := t) tyA64 sizeU rfl h50 (by omega) ⟨Ext.refl _, rfl⟩
        · refine stepNone rfl fun ρ w1 hC h => ?_    -- 52 := Op.load 40 t51
          have h51 : ρ 51 = .pointer (some ⟨1, 0 + (t), none⟩) := h 51 (by decide)
          exact YieldsK.cell1 uU rfl h51 (hC.cell (by rw [Nat.zero_add]; exact cellU_at ((hC5.trans hC6).blk' HG.out) (by show _ < 64; omega))) ⟨Ext.refl _, rfl⟩
        · refine stepNone rfl fun ρ w1 hC h => ?_    -- 53 := Op.binOp BinOp.add 40 t49 t52 40
          have h49 : ρ 49 = U (((V.getD 7 0) + (Sha.rotr (V.getD 4 0) 6 ^^^ Sha.rotr (V.getD 4 0) 11 ^^^ Sha.rotr (V.getD 4 0) 25)) + (V.getD 4 0 &&& V.getD 5 0 ^^^ ~~~(V.getD 4 0) &&& V.getD 6 0)) := h 49 (by decide)
          have h52 : ρ 52 = U (Sha.words.getD (t) 0) := h 52 (by decide)
          exact YieldsK.bin h49 h52 rfl (u_add _ _ _) ⟨Ext.refl _, rfl⟩
        · refine stepNone rfl fun ρ w1 hC h => ?_    -- 54 := Op.move t7
          have h7 : ρ 7 = U (x) := h 7 (by decide)
          exact ⟨Ext.refl _, h7⟩
        · refine stepNone rfl fun ρ w1 hC h => ?_    -- 55 := Op.binOp BinOp.add 40 t53 t54 40
          have h53 : ρ 53 = U ((((V.getD 7 0) + (Sha.rotr (V.getD 4 0) 6 ^^^ Sha.rotr (V.getD 4 0) 11 ^^^ Sha.rotr (V.getD 4 0) 25)) + (V.getD 4 0 &&& V.getD 5 0 ^^^ ~~~(V.getD 4 0) &&& V.getD 6 0)) + (Sha.words.getD (t) 0)) := h 53 (by decide)
          have h54 : ρ 54 = U (x) := h 54 (by decide)
          exact YieldsK.bin h53 h54 rfl (u_add _ _ _) ⟨Ext.refl _, rfl⟩
        · refine stepNone rfl fun ρ w1 hC h => ?_    -- 10 := Op.assign t55
          have h55 : ρ 55 = U (((((V.getD 7 0) + (Sha.rotr (V.getD 4 0) 6 ^^^ Sha.rotr (V.getD 4 0) 11 ^^^ Sha.rotr (V.getD 4 0) 25)) + (V.getD 4 0 &&& V.getD 5 0 ^^^ ~~~(V.getD 4 0) &&& V.getD 6 0)) + (Sha.words.getD (t) 0)) + (x)) := h 55 (by decide)
          exact ⟨Ext.refl _, h55⟩
      intro u_7 w7 hC7 hE
      obtain ⟨-, -, -, -, -, -, -, -, -, -, -, -, k10, -⟩ := hE
      have u10 : u_7 10 = U (Sha.up V (Sha.words.getD t 0) x) := k10
      clear k10
      simp only [wrote, List.foldl_cons, List.foldl_nil, List.setIfInBounds_toArray, List.set_cons_zero, List.set_cons_succ, u10]
      refine hK7 _ _ ?_
      clear hK7 K7
      apply wp_seq_k
      intro K8 hK8
      refine wp_region_ext [Is (.pointer (some ⟨n5, 0, none⟩)), Is (U (V.getD 0 0)), Is (U (Sha.rotr (V.getD 0 0) 2)), Is (.pointer (some ⟨n5, 0, none⟩)), Is (U (V.getD 0 0)), Is (U (Sha.rotr (V.getD 0 0) 13)), Is (U ((Sha.rotr (V.getD 0 0) 2) ^^^ (Sha.rotr (V.getD 0 0) 13))), Is (.pointer (some ⟨n5, 0, none⟩)), Is (U (V.getD 0 0)), Is (U (Sha.rotr (V.getD 0 0) 22)), Is (U (((Sha.rotr (V.getD 0 0) 2) ^^^ (Sha.rotr (V.getD 0 0) 13)) ^^^ (Sha.rotr (V.getD 0 0) 22))), Is (U (Sha.two V))]
        (by kernel_rfl) _ _ (by kernel_rfl) [56, 57, 58, 59, 60, 61, 62, 63, 64, 65, 66, 11] (by kernel_rfl) ⟨Stab.is _, Stab.is _, Stab.is _, Stab.is _, Stab.is _, Stab.is _, Stab.is _, Stab.is _, Stab.is _, Stab.is _, Stab.is _, Stab.is _, trivial⟩ ?hs8 ?hQ8
      case hs8 =>
        refine ⟨?_, ?_, ?_, ?_, ?_, ?_, ?_, ?_, ?_, ?_, ?_, ?_, trivial⟩
        · refine stepNone rfl fun ρ w1 hC h => ?_    -- 56 := Op.indexAddr 41 t5 (const (0:i64))
          have h5 : ρ 5 = .pointer (some ⟨n5, 0, none⟩) := h 5 (by decide)
          exact YieldsK.atArr (i := 0) tyA8 sizeU h5 rfl (by omega) ⟨Ext.refl _, rfl⟩
        · refine stepNone rfl fun ρ w1 hC h => ?_    -- 57 := Op.load 40 t56
          have h56 : ρ 56 = .pointer (some ⟨n5, 0, none⟩) := h 56 (by decide)
          exact YieldsK.cell1 uU rfl h56 (hC.cell (cellU_at (((hC5.trans hC6).trans hC7).blk' H5.out) (by omega))) ⟨Ext.refl _, rfl⟩
        · refine stepNone rfl fun ρ w1 hC h => ?_    -- 58 := Op.call { value (Operand.func 21), args := #[t57, const (2:i64)], argTypes := #[40, 3] }
          have h57 : ρ 57 = U (V.getD 0 0) := h 57 (by decide)
          refine YieldsK.call plainTurn ?_
          show Calls _ _ #[ρ 57, NI 2] _ _
          rw [h57]
          refine (turn_any w1 _ 2 (by decide)).mono ?_
          rintro e w2 ⟨rfl, hx⟩
          exact ⟨_, rfl, hx, rfl⟩
        · refine stepNone rfl fun ρ w1 hC h => ?_    -- 59 := Op.indexAddr 41 t5 (const (0:i64))
          have h5 : ρ 5 = .pointer (some ⟨n5, 0, none⟩) := h 5 (by decide)
          exact YieldsK.atArr (i := 0) tyA8 sizeU h5 rfl (by omega) ⟨Ext.refl _, rfl⟩
        · refine stepNone rfl fun ρ w1 hC h => ?_    -- 60 := Op.load 40 t59
          have h59 : ρ 59 = .pointer (some ⟨n5, 0, none⟩) := h 59 (by decide)
          exact YieldsK.cell1 uU rfl h59 (hC.cell (cellU_at (((hC5.trans hC6).trans hC7).blk' H5.out) (by omega))) ⟨Ext.refl _, rfl⟩
        · refine stepNone rfl fun ρ w1 hC h => ?_    -- 61 := Op.call { value (Operand.func 21), args := #[t60, const (13:i64)], argTypes := #[40, 3] }
          have h60 : ρ 60 = U (V.getD 0 0) := h 60 (by decide)
          refine YieldsK.call plainTurn ?_
          show Calls _ _ #[ρ 60, NI 13] _ _
          rw [h60]
          refine (turn_any w1 _ 13 (by decide)).mono ?_
          rintro e w2 ⟨rfl, hx⟩
          exact ⟨_, rfl, hx, rfl⟩
        · refine stepNone rfl fun ρ w1 hC h => ?_    -- 62 := Op.binOp BinOp.xor 40 t58 t61 40
          have h58 : ρ 58 = U (Sha.rotr (V.getD 0 0) 2) := h 58 (by decide)
          have h61 : ρ 61 = U (Sha.rotr (V.getD 0 0) 13) := h 61 (by decide)
          exact YieldsK.bin h58 h61 rfl (u_xor _ _ _) ⟨Ext.refl _, rfl⟩
        · refine stepNone rfl fun ρ w1 hC h => ?_    -- 63 := Op.indexAddr 41 t5 (const (0:i64))
          have h5 : ρ 5 = .pointer (some ⟨n5, 0, none⟩) := h 5 (by decide)
          exact YieldsK.atArr (i := 0) tyA8 sizeU h5 rfl (by omega) ⟨Ext.refl _, rfl⟩
        · refine stepNone rfl fun ρ w1 hC h => ?_    -- 64 := Op.load 40 t63
          have h63 : ρ 63 = .pointer (some ⟨n5, 0, none⟩) := h 63 (by decide)
          exact YieldsK.cell1 uU rfl h63 (hC.cell (cellU_at (((hC5.trans hC6).trans hC7).blk' H5.out) (by omega))) ⟨Ext.refl _, rfl⟩
        · refine stepNone rfl fun ρ w1 hC h => ?_    -- 65 := Op.call { value (Operand.func 21), args := #[t64, const (22:i64)], argTypes := #[40, 3] }
          have h64 : ρ 64 = U (V.getD 0 0) := h 64 (by decide)
          refine YieldsK.call plainTurn ?_
          show Calls _ _ #[ρ 64, NI 22] _ _
          rw [h64]
          refine (turn_any w1 _ 22 (by decide)).mono ?_
          rintro e w2 ⟨rfl, hx⟩
          exact ⟨_, rfl, hx, rfl⟩
        · refine stepNone rfl fun ρ w1 hC h => ?_    -- 66 := Op.binOp BinOp.xor 40 t62 t65 40
          have h62 : ρ 62 = U ((Sha.rotr (V.getD 0 0) 2) ^^^ (Sha.rotr (V.getD 0 0) 13)) := h 62 (by decide)
          have h65 : ρ 65 = U (Sha.rotr (V.getD 0 0) 22) := h 65 (by decide)
          exact YieldsK.bin h62 h65 rfl (u_xor _ _ _) ⟨Ext.refl _, rfl⟩
        · refine stepNone rfl fun ρ w1 hC h => ?_    -- 11 := Op.assign t66
          have h66 : ρ 66 = U (((Sha.rotr (V.getD 0 0) 2) ^^^ (Sha.rotr (V.getD 0 0) 13)) ^^^ (Sha.rotr (V.getD 0 0) 22)) := h 66 (by decide)
          exact ⟨Ext.refl _, h66⟩
      intro u_8 w8 hC8 hE
      obtain ⟨-, -, -, -, -, -, -, -, -, -, -, k11, -⟩ := hE
      have u11 : u_8 11 = U (Sha.two V) := k11
      clear k11
      simp only [wrote, List.foldl_cons, List.foldl_nil, List.setIfInBounds_toArray, List.set_cons_zero, List.set_cons_succ, u11]
      refine hK8 _ _ ?_
      clear hK8 K8
      apply wp_seq_k
      intro K9 hK9
      refine wp_region_ext_text [Is (.pointer (some ⟨n5, 0, none⟩)), Is (U (V.getD 0 0)), Is (.pointer (some ⟨n5, 1, none⟩)), Is (U (V.getD 1 0)), Is (U ((V.getD 0 0) &&& (V.getD 1 0))), Is (.pointer (some ⟨n5, 0, none⟩)), Is (U (V.getD 0 0)), Is (.pointer (some ⟨n5, 2, none⟩)), Is (U (V.getD 2 0)), Is (U ((V.getD 0 0) &&& (V.getD 2 0))), Is (U (((V.getD 0 0) &&& (V.getD 1 0)) ^^^ ((V.getD 0 0) &&& (V.getD 2 0)))), Is (.pointer (some ⟨n5, 1, none⟩)), Is (U (V.getD 1 0)), Is (.pointer (some ⟨n5, 2, none⟩)), Is (U (V.getD 2 0)), Is (U ((V.getD 1 0) &&& (V.getD 2 0))), Is (U ((((V.getD 0 0) &&& (V.getD 1 0)) ^^^ ((V.getD 0 0) &&& (V.getD 2 0))) ^^^ ((V.getD 1 0) &&& (V.getD 2 0)))), Is (U (Sha.most V))]
         _ _ (by kernel_rfl) [67, 68, 69, 70, 71, 72, 73, 74, 75, 76, 77, 78, 79, 80, 81, 82, 83, 12] (by kernel_rfl) ⟨Stab.is _, Stab.is _, Stab.is _, Stab.is _, Stab.is _, Stab.is _, Stab.is _, Stab.is _, Stab.is _, Stab.is _, Stab.is _, Stab.is _, Stab.is _, Stab.is _, Stab.is _, Stab.is _, Stab.is _, Stab.is _, trivial⟩ ?hs9 ?hQ9
      case hs9 =>
        refine ⟨?_, ?_, ?_, ?_, ?_, ?_, ?_, ?_, ?_, ?_, ?_, ?_, ?_, ?_, ?_, ?_, ?_, ?_, trivial⟩
        · refine stepNone rfl fun ρ w1 hC h => ?_    -- 67 := Op.indexAddr 41 t5 (const (0:i64))
          have h5 : ρ 5 = .pointer (some ⟨n5, 0, none⟩) := h 5 (by decide)
          exact YieldsK.atArr (i := 0) tyA8 sizeU h5 rfl (by omega) ⟨Ext.refl _, rfl⟩
        · refine stepNone rfl fun ρ w1 hC h => ?_    -- 68 := Op.load 40 t67
          have h67 : ρ 67 = .pointer (some ⟨n5, 0, none⟩) := h 67 (by decide)
          exact YieldsK.cell1 uU rfl h67 (hC.cell (cellU_at ((((hC5.trans hC6).trans hC7).trans hC8).blk' H5.out) (by omega))) ⟨Ext.refl _, rfl⟩
        · refine stepNone rfl fun ρ w1 hC h => ?_    -- 69 := Op.indexAddr 41 t5 (const (1:i64))
          have h5 : ρ 5 = .pointer (some ⟨n5, 0, none⟩) := h 5 (by decide)
          exact YieldsK.atArr (i := 1) tyA8 sizeU h5 rfl (by omega) ⟨Ext.refl _, rfl⟩
        · refine stepNone rfl fun ρ w1 hC h => ?_    -- 70 := Op.load 40 t69
          have h69 : ρ 69 = .pointer (some ⟨n5, 1, none⟩) := h 69 (by decide)
          exact YieldsK.cell1 uU rfl h69 (hC.cell (cellU_at ((((hC5.trans hC6).trans hC7).trans hC8).blk' H5.out) (by omega))) ⟨Ext.refl _, rfl⟩
        · refine stepNone rfl fun ρ w1 hC h => ?_    -- 71 := Op.binOp BinOp.and 40 t68 t70 40
          have h68 : ρ 68 = U (V.getD 0 0) := h 68 (by decide)
          have h70 : ρ 70 = U (V.getD 1 0) := h 70 (by decide)
          exact YieldsK.bin h68 h70 rfl (u_and _ _ _) ⟨Ext.refl _, rfl⟩
        · refine stepNone rfl fun ρ w1 hC h => ?_    -- 72 := Op.indexAddr 41 t5 (const (0:i64))
          have h5 : ρ 5 = .pointer (some ⟨n5, 0, none⟩) := h 5 (by decide)
          exact YieldsK.atArr (i := 0) tyA8 sizeU h5 rfl (by omega) ⟨Ext.refl _, rfl⟩
        · refine stepNone rfl fun ρ w1 hC h => ?_    -- 73 := Op.load 40 t72
          have h72 : ρ 72 = .pointer (some ⟨n5, 0, none⟩) := h 72 (by decide)
          exact YieldsK.cell1 uU rfl h72 (hC.cell (cellU_at ((((hC5.trans hC6).trans hC7).trans hC8).blk' H5.out) (by omega))) ⟨Ext.refl _, rfl⟩
        · refine stepNone rfl fun ρ w1 hC h => ?_    -- 74 := Op.indexAddr 41 t5 (const (2:i64))
          have h5 : ρ 5 = .pointer (some ⟨n5, 0, none⟩) := h 5 (by decide)
          exact YieldsK.atArr (i := 2) tyA8 sizeU h5 rfl (by omega) ⟨Ext.refl _, rfl⟩
        · refine stepNone rfl fun ρ w1 hC h => ?_    -- 75 := Op.load 40 t74
          have h74 : ρ 74 = .pointer (some ⟨n5, 2, none⟩) := h 74 (by decide)
          exact YieldsK.cell1 uU rfl h74 (hC.cell (cellU_at ((((hC5.trans hC6).trans hC7).trans hC8).blk' H5.out) (by omega))) ⟨Ext.refl _, rfl⟩
        · refine stepNone rfl fun ρ w1 hC h => ?_    -- 76 := Op.binOp BinOp.and 40 t73 t75 40
          have h73 : ρ 73 = U (V.getD 0 0) := h 73 (by decide)
          have h75 : ρ 75 = U (V.getD 2 0) := h 75 (by decide)
          exact YieldsK.bin h73 h75 rfl (u_and _ _ _) ⟨Ext.refl _, rfl⟩
        · refine stepNone rfl fun ρ w1 hC h => ?_    -- 77 := Op.binOp BinOp.xor 40 t71 t76 40
          have h71 : ρ 71 = U ((V.getD 0 0) &&& (V.getD 1 0)) := h 71 (by decide)
          have h76 : ρ 76 = U ((V.getD 0 0) &&& (V.getD 2 0)) := h 76 (by decide)
          exact YieldsK.bin h71 h76 rfl (u_xor _ _ _) ⟨Ext.refl _, rfl⟩
        · refine stepNone rfl fun ρ w1 hC h => ?_    -- 78 := Op.indexAddr 41 t5 (const (1:i64))
          have h5 : ρ 5 = .pointer (some ⟨n5, 0, none⟩) := h 5 (by decide)
          exact YieldsK.atArr (i := 1) tyA8 sizeU h5 rfl (by omega) ⟨Ext.refl _, rfl⟩
        · refine stepNone rfl fun ρ w1 hC h => ?_    -- 79 := Op.load 40 t78
          have h78 : ρ 78 = .pointer (some ⟨n5, 1, none⟩) := h 78 (by decide)
          exact YieldsK.cell1 uU rfl h78 (hC.cell (cellU_at ((((hC5.trans hC6).trans hC7).trans hC8).blk' H5.out) (by omega))) ⟨Ext.refl _, rfl⟩
        · refine stepNone rfl fun ρ w1 hC h => ?_    -- 80 := Op.indexAddr 41 t5 (const (2:i64))
          have h5 : ρ 5 = .pointer (some ⟨n5, 0, none⟩) := h 5 (by decide)
          exact YieldsK.atArr (i := 2) tyA8 sizeU h5 rfl (by omega) ⟨Ext.refl _, rfl⟩
        · refine stepNone rfl fun ρ w1 hC h => ?_    -- 81 := Op.load 40 t80
          have h80 : ρ 80 = .pointer (some ⟨n5, 2, none⟩) := h 80 (by decide)
          exact YieldsK.cell1 uU rfl h80 (hC.cell (cellU_at ((((hC5.trans hC6).trans hC7).trans hC8).blk' H5.out) (by omega))) ⟨Ext.refl _, rfl⟩
        · refine stepNone rfl fun ρ w1 hC h => ?_    -- 82 := Op.binOp BinOp.and 40 t79 t81 40
          have h79 : ρ 79 = U (V.getD 1 0) := h 79 (by decide)
          have h81 : ρ 81 = U (V.getD 2 0) := h 81 (by decide)
          exact YieldsK.bin h79 h81 rfl (u_and _ _ _) ⟨Ext.refl _, rfl⟩
        · refine stepNone rfl fun ρ w1 hC h => ?_    -- 83 := Op.binOp BinOp.xor 40 t77 t82 40
          have h77 : ρ 77 = U (((V.getD 0 0) &&& (V.getD 1 0)) ^^^ ((V.getD 0 0) &&& (V.getD 2 0))) := h 77 (by decide)
          have h82 : ρ 82 = U ((V.getD 1 0) &&& (V.getD 2 0)) := h 82 (by decide)
          exact YieldsK.bin h77 h82 rfl (u_xor _ _ _) ⟨Ext.refl _, rfl⟩
        · refine stepNone rfl fun ρ w1 hC h => ?_    -- 12 := Op.assign t83
          have h83 : ρ 83 = U ((((V.getD 0 0) &&& (V.getD 1 0)) ^^^ ((V.getD 0 0) &&& (V.getD 2 0))) ^^^ ((V.getD 1 0) &&& (V.getD 2 0))) := h 83 (by decide)
          exact ⟨Ext.refl _, h83⟩
      intro u_9 w9 hC9 hE
      obtain ⟨-, -, -, -, -, -, -, -, -, -, -, -, -, -, -, -, -, k12, -⟩ := hE
      have u12 : u_9 12 = U (Sha.most V) := k12
      clear k12
      simp only [wrote, List.foldl_cons, List.foldl_nil, List.setIfInBounds_toArray, List.set_cons_zero, List.set_cons_succ, u12]
      refine hK9 _ _ ?_
      clear hK9 K9
      refine wp_region_store_text 22 (fun a b' => b' = a.setRow n5 (cellsU (Sha.round V (Sha.words.getD t 0) x))) [Is (U (Sha.up V (Sha.words.getD t 0) x)), Is (U (Sha.two V)), Is (U ((Sha.up V (Sha.words.getD t 0) x) + (Sha.two V))), Is (U (Sha.most V)), Is (U (((Sha.up V (Sha.words.getD t 0) x) + (Sha.two V)) + (Sha.most V))), Is (.pointer (some ⟨n5, 0, none⟩)), Is (U (V.getD 0 0)), Is (.pointer (some ⟨n5, 1, none⟩)), Is (U (V.getD 1 0)), Is (.pointer (some ⟨n5, 2, none⟩)), Is (U (V.getD 2 0)), Is (.pointer (some ⟨n5, 3, none⟩)), Is (U (V.getD 3 0)), Is (U (Sha.up V (Sha.words.getD t 0) x)), Is (U ((V.getD 3 0) + (Sha.up V (Sha.words.getD t 0) x))), Is (.pointer (some ⟨n5, 4, none⟩)), Is (U (V.getD 4 0)), Is (.pointer (some ⟨n5, 5, none⟩)), Is (U (V.getD 5 0)), Is (.pointer (some ⟨n5, 6, none⟩)), Is (U (V.getD 6 0)), Is (.agg (cellsU (Sha.round V (Sha.words.getD t 0) x))), (fun _ _ => True)]
         _ _ (by kernel_rfl) (by kernel_rfl) [84, 85, 86, 87, 88, 89, 90, 91, 92, 93, 94, 95, 96, 97, 98, 99, 100, 101, 102, 103, 104, 105] (by kernel_rfl) rfl ⟨Stab.is _, Stab.is _, Stab.is _, Stab.is _, Stab.is _, Stab.is _, Stab.is _, Stab.is _, Stab.is _, Stab.is _, Stab.is _, Stab.is _, Stab.is _, Stab.is _, Stab.is _, Stab.is _, Stab.is _, Stab.is _, Stab.is _, Stab.is _, Stab.is _, Stab.is _, Stab.any, trivial⟩ ⟨Stab.is _, Stab.is _, Stab.is _, Stab.is _, Stab.is _, Stab.is _, Stab.is _, Stab.is _, Stab.is _, Stab.is _, Stab.is _, Stab.is _, Stab.is _, Stab.is _, Stab.is _, Stab.is _, Stab.is _, Stab.is _, Stab.is _, Stab.is _, Stab.is _, Stab.is _, Stab.any, trivial⟩ ?hs10 ?hQ10
      case hs10 =>
        refine ⟨?_, ?_, ?_, ?_, ?_, ?_, ?_, ?_, ?_, ?_, ?_, ?_, ?_, ?_, ?_, ?_, ?_, ?_, ?_, ?_, ?_, ?_, ?_, trivial⟩
        · refine stepNone rfl fun ρ w1 hC h => ?_    -- 84 := Op.move t10
          have h10 : ρ 10 = U (Sha.up V (Sha.words.getD t 0) x) := h 10 (by decide)
          exact ⟨Ext.refl _, h10⟩
        · refine stepNone rfl fun ρ w1 hC h => ?_    -- 85 := Op.move t11
          have h11 : ρ 11 = U (Sha.two V) := h 11 (by decide)
          exact ⟨Ext.refl _, h11⟩
        · refine stepNone rfl fun ρ w1 hC h => ?_    -- 86 := Op.binOp BinOp.add 40 t84 t85 40
          have h84 : ρ 84 = U (Sha.up V (Sha.words.getD t 0) x) := h 84 (by decide)
          have h85 : ρ 85 = U (Sha.two V) := h 85 (by decide)
          exact YieldsK.bin h84 h85 rfl (u_add _ _ _) ⟨Ext.refl _, rfl⟩
        · refine stepNone rfl fun ρ w1 hC h => ?_    -- 87 := Op.move t12
          have h12 : ρ 12 = U (Sha.most V) := h 12 (by decide)
          exact ⟨Ext.refl _, h12⟩
        · refine stepNone rfl fun ρ w1 hC h => ?_    -- 88 := Op.binOp BinOp.add 40 t86 t87 40
          have h86 : ρ 86 = U ((Sha.up V (Sha.words.getD t 0) x) + (Sha.two V)) := h 86 (by decide)
          have h87 : ρ 87 = U (Sha.most V) := h 87 (by decide)
          exact YieldsK.bin h86 h87 rfl (u_add _ _ _) ⟨Ext.refl _, rfl⟩
        · refine stepNone rfl fun ρ w1 hC h => ?_    -- 89 := Op.indexAddr 41 t5 (const (0:i64))
          have h5 : ρ 5 = .pointer (some ⟨n5, 0, none⟩) := h 5 (by decide)
          exact YieldsK.atArr (i := 0) tyA8 sizeU h5 rfl (by omega) ⟨Ext.refl _, rfl⟩
        · refine stepNone rfl fun ρ w1 hC h => ?_    -- 90 := Op.load 40 t89
          have h89 : ρ 89 = .pointer (some ⟨n5, 0, none⟩) := h 89 (by decide)
          exact YieldsK.cell1 uU rfl h89 (hC.cell (cellU_at (((((hC5.trans hC6).trans hC7).trans hC8).trans hC9).blk' H5.out) (by omega))) ⟨Ext.refl _, rfl⟩
        · refine stepNone rfl fun ρ w1 hC h => ?_    -- 91 := Op.indexAddr 41 t5 (const (1:i64))
          have h5 : ρ 5 = .pointer (some ⟨n5, 0, none⟩) := h 5 (by decide)
          exact YieldsK.atArr (i := 1) tyA8 sizeU h5 rfl (by omega) ⟨Ext.refl _, rfl⟩
        · refine stepNone rfl fun ρ w1 hC h => ?_    -- 92 := Op.load 40 t91
          have h91 : ρ 91 = .pointer (some ⟨n5, 1, none⟩) := h 91 (by decide)
          exact YieldsK.cell1 uU rfl h91 (hC.cell (cellU_at (((((hC5.trans hC6).trans hC7).trans hC8).trans hC9).blk' H5.out) (by omega))) ⟨Ext.refl _, rfl⟩
        · refine stepNone rfl fun ρ w1 hC h => ?_    -- 93 := Op.indexAddr 41 t5 (const (2:i64))
          have h5 : ρ 5 = .pointer (some ⟨n5, 0, none⟩) := h 5 (by decide)
          exact YieldsK.atArr (i := 2) tyA8 sizeU h5 rfl (by omega) ⟨Ext.refl _, rfl⟩
        · refine stepNone rfl fun ρ w1 hC h => ?_    -- 94 := Op.load 40 t93
          have h93 : ρ 93 = .pointer (some ⟨n5, 2, none⟩) := h 93 (by decide)
          exact YieldsK.cell1 uU rfl h93 (hC.cell (cellU_at (((((hC5.trans hC6).trans hC7).trans hC8).trans hC9).blk' H5.out) (by omega))) ⟨Ext.refl _, rfl⟩
        · refine stepNone rfl fun ρ w1 hC h => ?_    -- 95 := Op.indexAddr 41 t5 (const (3:i64))
          have h5 : ρ 5 = .pointer (some ⟨n5, 0, none⟩) := h 5 (by decide)
          exact YieldsK.atArr (i := 3) tyA8 sizeU h5 rfl (by omega) ⟨Ext.refl _, rfl⟩
        · refine stepNone rfl fun ρ w1 hC h => ?_    -- 96 := Op.load 40 t95
          have h95 : ρ 95 = .pointer (some ⟨n5, 3, none⟩) := h 95 (by decide)
          exact YieldsK.cell1 uU rfl h95 (hC.cell (cellU_at (((((hC5.trans hC6).trans hC7).trans hC8).trans hC9).blk' H5.out) (by omega))) ⟨Ext.refl _, rfl⟩
        · refine stepNone rfl fun ρ w1 hC h => ?_    -- 97 := Op.move t10
          have h10 : ρ 10 = U (Sha.up V (Sha.words.getD t 0) x) := h 10 (by decide)
          exact ⟨Ext.refl _, h10⟩
        · refine stepNone rfl fun ρ w1 hC h => ?_    -- 98 := Op.binOp BinOp.add 40 t96 t97 40
          have h96 : ρ 96 = U (V.getD 3 0) := h 96 (by decide)
          have h97 : ρ 97 = U (Sha.up V (Sha.words.getD t 0) x) := h 97 (by decide)
          exact YieldsK.bin h96 h97 rfl (u_add _ _ _) ⟨Ext.refl _, rfl⟩
        · refine stepNone rfl fun ρ w1 hC h => ?_    -- 99 := Op.indexAddr 41 t5 (const (4:i64))
          have h5 : ρ 5 = .pointer (some ⟨n5, 0, none⟩) := h 5 (by decide)
          exact YieldsK.atArr (i := 4) tyA8 sizeU h5 rfl (by omega) ⟨Ext.refl _, rfl⟩
        · refine stepNone rfl fun ρ w1 hC h => ?_    -- 100 := Op.load 40 t99
          have h99 : ρ 99 = .pointer (some ⟨n5, 4, none⟩) := h 99 (by decide)
          exact YieldsK.cell1 uU rfl h99 (hC.cell (cellU_at (((((hC5.trans hC6).trans hC7).trans hC8).trans hC9).blk' H5.out) (by omega))) ⟨Ext.refl _, rfl⟩
        · refine stepNone rfl fun ρ w1 hC h => ?_    -- 101 := Op.indexAddr 41 t5 (const (5:i64))
          have h5 : ρ 5 = .pointer (some ⟨n5, 0, none⟩) := h 5 (by decide)
          exact YieldsK.atArr (i := 5) tyA8 sizeU h5 rfl (by omega) ⟨Ext.refl _, rfl⟩
        · refine stepNone rfl fun ρ w1 hC h => ?_    -- 102 := Op.load 40 t101
          have h101 : ρ 101 = .pointer (some ⟨n5, 5, none⟩) := h 101 (by decide)
          exact YieldsK.cell1 uU rfl h101 (hC.cell (cellU_at (((((hC5.trans hC6).trans hC7).trans hC8).trans hC9).blk' H5.out) (by omega))) ⟨Ext.refl _, rfl⟩
        · refine stepNone rfl fun ρ w1 hC h => ?_    -- 103 := Op.indexAddr 41 t5 (const (6:i64))
          have h5 : ρ 5 = .pointer (some ⟨n5, 0, none⟩) := h 5 (by decide)
          exact YieldsK.atArr (i := 6) tyA8 sizeU h5 rfl (by omega) ⟨Ext.refl _, rfl⟩
        · refine stepNone rfl fun ρ w1 hC h => ?_    -- 104 := Op.load 40 t103
          have h103 : ρ 103 = .pointer (some ⟨n5, 6, none⟩) := h 103 (by decide)
          exact YieldsK.cell1 uU rfl h103 (hC.cell (cellU_at (((((hC5.trans hC6).trans hC7).trans hC8).trans hC9).blk' H5.out) (by omega))) ⟨Ext.refl _, rfl⟩
        · refine stepNone rfl fun ρ w1 hC h => ?_    -- 105 := Op.build 41 #[(0, t88), (1, t90), (2, t92), (3, t94), (4, t98), (5, t100), (6, t102), (7, t104)]
          have h88 : ρ 88 = U (((Sha.up V (Sha.words.getD t 0) x) + (Sha.two V)) + (Sha.most V)) := h 88 (by decide)
          have h90 : ρ 90 = U (V.getD 0 0) := h 90 (by decide)
          have h92 : ρ 92 = U (V.getD 1 0) := h 92 (by decide)
          have h94 : ρ 94 = U (V.getD 2 0) := h 94 (by decide)
          have h98 : ρ 98 = U ((V.getD 3 0) + (Sha.up V (Sha.words.getD t 0) x)) := h 98 (by decide)
          have h100 : ρ 100 = U (V.getD 4 0) := h 100 (by decide)
          have h102 : ρ 102 = U (V.getD 5 0) := h 102 (by decide)
          have h104 : ρ 104 = U (V.getD 6 0) := h 104 (by decide)
          refine YieldsK.value (w' := w1) ?_ ⟨Ext.refl _, rfl⟩
          clear h
          unfold execOp
          simp only [evalR, h88, h90, h92, h94, h98, h100, h102, h104, List.map_toArray, List.map_cons, List.map_nil, buildA8, Sem.run_bind, Result.andThen_ok, Sem.run_pure]
          rfl
        · refine stepNone rfl fun ρ w1 hC h => ?_    -- None := Op.store 41 t5 t105
          have h5 : ρ 5 = .pointer (some ⟨n5, 0, none⟩) := h 5 (by decide)
          have h105 : ρ 105 = .agg (cellsU (Sha.round V (Sha.words.getD t 0) x)) := h 105 (by decide)
          exact YieldsK.storeRow h5 h105 (hC.blk' (((((hC5.trans hC6).trans hC7).trans hC8).trans hC9).blk' H5.out)) (by rw [cellsU_size, cellsU_size, HVl]; rfl) (size41_of rfl) (cellsU_one _) ⟨rfl, trivial⟩
      intro u_10 wy10 w10 hC10 hS10 hE
      obtain ⟨-, -, -, -, -, -, -, -, -, -, -, -, -, -, -, -, -, -, -, -, -, -, -⟩ := hE
      simp only [wrote, List.foldl_cons, List.foldl_nil, List.setIfInBounds_toArray, List.set_cons_zero, List.set_cons_succ]
      have hE := ((((hC5.trans hC6).trans hC7).trans hC8).trans hC9).trans hC10
      have hb5 : w10.heap[n5]? = some (.cells (cellsU (Sha.turned s F (t + 1))) 41 (0, 0)) := by
        rw [hS10, Sha.turned, ← HV.out, ← HX.out]
        exact setRow_heap wy10 n5 _ _ _ _ (hE.blk' H5.out)
      have hb2 : w10.heap[n2]? = some (.cells (cellsU s) 41 (0, 0)) := by
        rw [hS10, setRow_other _ _ _ _ (by omega)]
        exact hE.blk' h2
      have hb4 : w10.heap[n4]? = some (.cells Z 41 (0, 0)) := by
        rw [hS10, setRow_other _ _ _ _ (by omega)]
        exact hE.blk' h4
      have hb : Below n2 w w10 := by
        rw [hS10]
        exact setRow_below (hbl.trans (hE.mono (by have := (Array.getElem?_eq_some_iff.1 h2).1; omega))) (by omega) _
      clear hS10 hE hC5 hC6 hC7 hC8 hC9 hC10 h2 h4 hbl H5 HV HX HG hd u8 u9 u10 u11 u12
      go_wp2_with fail
      go_round
      case rel => exact ⟨t + 1, by go_num, by omega, hb, hb2, hb4, hb5⟩
      case measure => simp only [intOf]; omega
    · obtain rfl : t = 64 := by omega
      clear h64 ht
      rw [← HT.out] at h5
      have hd : decide (((64 : Nat) : Int) < 64) = false := by decide
      go_wp2_with fail
      go_loopw [107] (fun v107 wr => ∃ i : Nat, v107 = NI i ∧ i ≤ 8 ∧ Below n2 w wr ∧ wr.heap[n2]? = some (.cells (cellsU s) 41 (0, 0)) ∧ wr.heap[n4]? = some (.cells Z 41 (0, 0)) ∧ wr.heap[n5]? = some (.cells (cellsU (Sha.adding T s i)) 41 (0, 0)))
        (fun v107 _ => 8 - (intOf v107).toNat)
      case atStart => exact ⟨0, rfl, by omega, hbl, h2, h4, h5⟩
      case round =>
        clear hbl h2 h4 h5 hd
        obtain ⟨i, rfl, hi, hbl, h2, h4, h5⟩ := hrel
        by_cases h8 : i < 8
        · obtain ⟨V, hV⟩ : ∃ V, V = Sha.adding T s i := ⟨_, rfl⟩
          have HVl : V.length = 8 := by rw [hV, Sha.adding_length, HTl]
          rw [← hV] at h5
          have H5 := Lib.hid h5
          have H2 := Lib.hid h2
          have HV := Lib.hid hV
          have hd : decide ((i : Int) < 8) = true := by simp; omega
          clear h5 hV h2
          go_wp2_with fail
          refine wp_region_store 8 (fun a b' => b' = a.setRow n5 (cellsU (V.set i (V.getD i 0 + s.getD i 0)))) [Is (NI (i)), Is (.pointer (some ⟨n5, 0 + (i), none⟩)), Is (U (V.getD (i) 0)), Is (NI (i)), Is (.pointer (some ⟨n2, 0 + (i), none⟩)), Is (U (s.getD (i) 0)), Is (U ((V.getD (i) 0) + (s.getD (i) 0))), Is (.pointer (some ⟨n5, i, none⟩)), (fun _ _ => True)]
            (by kernel_rfl) _ _ (by kernel_rfl) (by kernel_rfl) [110, 111, 112, 113, 114, 115, 116, 117] (by kernel_rfl) rfl ⟨Stab.is _, Stab.is _, Stab.is _, Stab.is _, Stab.is _, Stab.is _, Stab.is _, Stab.is _, Stab.any, trivial⟩ ⟨Stab.is _, Stab.is _, Stab.is _, Stab.is _, Stab.is _, Stab.is _, Stab.is _, Stab.is _, Stab.any, trivial⟩ ?hs15 ?hQ15
          case hs15 =>
            refine ⟨?_, ?_, ?_, ?_, ?_, ?_, ?_, ?_, ?_, trivial⟩
            · refine stepNone rfl fun ρ w1 hC h => ?_    -- 110 := Op.move t13
              have h13 : ρ 13 = NI (i) := h 13 (by decide)
              exact ⟨Ext.refl _, h13⟩
            · refine stepNone rfl fun ρ w1 hC h => ?_    -- 111 := Op.indexAddr 41 t5 t110
              have h5 : ρ 5 = .pointer (some ⟨n5, 0, none⟩) := h 5 (by decide)
              have h110 : ρ 110 = NI (i) := h 110 (by decide)
              exact YieldsK.atArr (i := i) tyA8 sizeU h5 h110 (by omega) ⟨Ext.refl _, rfl⟩
            · refine stepNone rfl fun ρ w1 hC h => ?_    -- 112 := Op.load 40 t111
              have h111 : ρ 111 = .pointer (some ⟨n5, 0 + (i), none⟩) := h 111 (by decide)
              exact YieldsK.cell1 uU rfl h111 (hC.cell (by rw [Nat.zero_add]; exact cellU_at (H5.out) (by omega))) ⟨Ext.refl _, rfl⟩
            · refine stepNone rfl fun ρ w1 hC h => ?_    -- 113 := Op.move t13
              have h13 : ρ 13 = NI (i) := h 13 (by decide)
              exact ⟨Ext.refl _, h13⟩
            · refine stepNone rfl fun ρ w1 hC h => ?_    -- 114 := Op.indexAddr 41 t2 t113
              have h2 : ρ 2 = .pointer (some ⟨n2, 0, none⟩) := h 2 (by decide)
              have h113 : ρ 113 = NI (i) := h 113 (by decide)
              exact YieldsK.atArr (i := i) tyA8 sizeU h2 h113 (by omega) ⟨Ext.refl _, rfl⟩
            · refine stepNone rfl fun ρ w1 hC h => ?_    -- 115 := Op.load 40 t114
              have h114 : ρ 114 = .pointer (some ⟨n2, 0 + (i), none⟩) := h 114 (by decide)
              exact YieldsK.cell1 uU rfl h114 (hC.cell (by rw [Nat.zero_add]; exact cellU_at (H2.out) (by omega))) ⟨Ext.refl _, rfl⟩
            · refine stepNone rfl fun ρ w1 hC h => ?_    -- 116 := Op.binOp BinOp.add 40 t112 t115 40
              have h112 : ρ 112 = U (V.getD (i) 0) := h 112 (by decide)
              have h115 : ρ 115 = U (s.getD (i) 0) := h 115 (by decide)
              exact YieldsK.bin h112 h115 rfl (u_add _ _ _) ⟨Ext.refl _, rfl⟩
            · refine stepNone rfl fun ρ w1 hC h => ?_    -- 117 := Op.indexAddr 41 t5 t110
              have h5 : ρ 5 = .pointer (some ⟨n5, 0, none⟩) := h 5 (by decide)
              have h110 : ρ 110 = NI (i) := h 110 (by decide)
              refine YieldsK.atArr tyA8 sizeU h5 h110 (by omega) ⟨Ext.refl _, ?_⟩
              show _ = _
              rw [Nat.zero_add]
            · refine stepNone rfl fun ρ w1 hC h => ?_    -- None := Op.store 40 t117 t116
              have h117 : ρ 117 = .pointer (some ⟨n5, i, none⟩) := h 117 (by decide)
              have h116 : ρ 116 = U ((V.getD (i) 0) + (s.getD (i) 0)) := h 116 (by decide)
              refine YieldsK.storeU h117 h116 (hC.blk' H5.out) (by omega) sizeU1 ⟨rfl, trivial⟩
          intro u_15 wy15 w15 hC15 hS15 hE
          obtain ⟨-, -, -, -, -, -, -, -, -⟩ := hE
          simp only [wrote, List.foldl_cons, List.foldl_nil, List.setIfInBounds_toArray, List.set_cons_zero, List.set_cons_succ]
          have hb5 : w15.heap[n5]? = some (.cells (cellsU (Sha.adding T s (i + 1))) 41 (0, 0)) := by
            rw [hS15, Sha.adding, ← HV.out]
            exact setRow_heap wy15 n5 _ _ _ _ (hC15.blk' H5.out)
          have hb2 : w15.heap[n2]? = some (.cells (cellsU s) 41 (0, 0)) := by
            rw [hS15, setRow_other _ _ _ _ (by omega)]
            exact hC15.blk' H2.out
          have hb4 : w15.heap[n4]? = some (.cells Z 41 (0, 0)) := by
            rw [hS15, setRow_other _ _ _ _ (by omega)]
            exact hC15.blk' h4
          have hb : Below n2 w w15 := by
            rw [hS15]
            exact setRow_below (hbl.trans (hC15.mono (by have := (Array.getElem?_eq_some_iff.1 H2.out).1; omega))) (by omega) _
          clear hS15 hC15 H2 h4 hbl H5 HV hd
          go_wp2_with fail
          go_round
          case rel => exact ⟨i + 1, by go_num, by omega, hb, hb2, hb4, hb5⟩
          case measure => simp only [intOf]; omega
        · obtain rfl : i = 8 := by omega
          clear h8 hi
          have e8 : Sha.adding T s 8 = R := by
            have := Sha.adding_all T s (by rw [hs, HTl])
            rw [HTl] at this
            rw [this, HR.out]
          rw [e8] at h5
          have hd : decide (((8 : Nat) : Int) < 8) = false := by decide
          have H5 := Lib.hid h5
          have H4 := Lib.hid h4
          have HSR := Lib.hid (size41_of HRl)
          clear h5 h4 e8
          go_wp2_with (first
            | (guard_target =~ wpList _ _ _ (⟨some 119, _, _, _, _, _⟩ :: _) _ _; refine wpList_load_row rfl _ _ rfl n5 (by kernel_rfl) _ _ _ _ H5.out tyA8 rfl HSR.out ?_)
            | (guard_target =~ wpList _ _ _ (⟨none, .store _ _ _, _, _, _, _⟩ :: _) _ _; refine wpList_store_row' rfl _ _ _ rfl n4 (by kernel_rfl) (cellsU R) Z _ (by kernel_rfl) H4.out (by rw [cellsU_size, HRl, hZs]) HSR.out (cellsU_one _) ?_; intro w9 hw9 hg9 hs9))
          refine bodyPost_ret (v := .agg (cellsU R)) (results_cell0 Tryd.results19 _ _ n4 41 (cellsU R) (0, 0) _ rfl hw9 tyA8 rfl HSR.out) rfl ⟨rfl, ?_⟩
          show Below w.heap.size w w9
          rw [hn2]
          exact hbl.grown hg9 (Nat.le_of_lt (Array.getElem?_eq_some_iff.1 h2).1) (fun k e => by cases e; omega)
end Go.Proofs.YtcindgknimallaaDoor
