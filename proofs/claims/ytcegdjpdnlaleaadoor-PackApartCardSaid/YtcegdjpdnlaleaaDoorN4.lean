/- Part 4 of what stands behind these statements: laws and walks of the functions that are reached. Conditions: those that each theorem names. -/
import Derived.Test.YtcegdjpdnlaleaaDoorN3
set_option linter.unusedVariables false
set_option linter.unusedSimpArgs false
namespace Go.Proofs.YtcegdjpdnlaleaaDoor
open Go.RowKit
set_option maxRecDepth 100000
theorem pk12_ty24 : Tryd.prog.underlying 24 = some (.slice 5) := by kernel_rfl
theorem pk12_sz5 : ∀ w' : World, (sizeOf 5).run Tryd.prog w' = .ok 1 w' := fun _ => by kernel_rfl
theorem pk12_ty5 : Tryd.prog.underlying 5 = some (.int .u8) := by kernel_rfl
theorem pk12_pl64 : Plain Tryd.prog 64 := fun _ _ => by kernel_rfl
theorem pk12_bdEnt (z0 : Int) (z1 : Bool) (w : World) : (Instr.build 116 #[(0, .int .i64 z0), (1, .bool z1)]).run Tryd.prog w = .ok (.agg (Value.int .i64 z0 :: Value.bool z1 :: (Lib.byteCells (List.replicate 32 0) ++ [Value.slice none 0 0])).toArray) w := by kernel_rfl
theorem pk12_al116 {d : Option Tmp} {ty : TypeId} {pos : String} {af : Array Edge} {gd : Option (Nat × Bool)} (σ : Operand → Value) (w : World) : (execOp σ ⟨d, .alloc 116, ty, pos, af, gd⟩).run Tryd.prog w = .ok (.value (PQ w.heap.size 0)) (w.alloc (.cells (entC dEnt).toArray 116)) := by kernel_rfl
theorem pk12_isz116 : (Tryd.prog.info? 116).map (·.size) = some 35 := by kernel_rfl
theorem pk12_fo116_1 : FieldOff Tryd.prog 116 1 1 := fun b o w => by simp [go_sem]
theorem pk12_ty4 : Tryd.prog.underlying 4 = some (.bool) := by kernel_rfl
theorem pk12_pl75 : Plain Tryd.prog 75 := fun _ _ => by kernel_rfl
theorem pk12_al38 {d : Option Tmp} {ty : TypeId} {pos : String} {af : Array Edge} {gd : Option (Nat × Bool)} (σ : Operand → Value) (w : World) : (execOp σ ⟨d, .alloc 38, ty, pos, af, gd⟩).run Tryd.prog w = .ok (.value (PQ w.heap.size 0)) (w.alloc (.cells (Lib.byteCells (List.replicate 32 0)).toArray 38)) := by kernel_rfl
theorem pk12_ty38 : Tryd.prog.underlying 38 = some (.array 32 5) := by kernel_rfl
theorem pk12_fo116_2 : FieldOff Tryd.prog 116 2 2 := fun b o w => by simp [go_sem]
theorem pk12_isz38 : (Tryd.prog.info? 38).map (·.size) = some 32 := by kernel_rfl
theorem pk12_pl76 : Plain Tryd.prog 76 := fun _ _ => by kernel_rfl
theorem pk12_ty9 : Tryd.prog.underlying 9 = some (.string) := by kernel_rfl
theorem pk12_fo116_3 : FieldOff Tryd.prog 116 3 34 := fun b o w => by simp [go_sem]
theorem pk12_isz24 : (Tryd.prog.info? 24).map (·.size) = some 1 := by kernel_rfl
theorem pk12_ty116 : ∃ fs, Tryd.prog.underlying 116 = some (.struct fs) := struct_of (by kernel_rfl)
theorem pk12_lh110 (c0 c1 c2 c3 c4 c5 c6 c7 c8 c9 c10 c11 c12 c13 c14 c15 c16 c17 c18 c19 c20 c21 c22 c23 c24 c25 c26 c27 c28 c29 c30 c31 c32 c33 c34 : Value) (w : World) : (Instr.buildSlice 110 1 #[(0, .agg #[c0, c1, c2, c3, c4, c5, c6, c7, c8, c9, c10, c11, c12, c13, c14, c15, c16, c17, c18, c19, c20, c21, c22, c23, c24, c25, c26, c27, c28, c29, c30, c31, c32, c33, c34])]).run Tryd.prog w = .ok (.slice (some ⟨w.heap.size, 0, none⟩) 1 1) (w.alloc (.cells #[c0, c1, c2, c3, c4, c5, c6, c7, c8, c9, c10, c11, c12, c13, c14, c15, c16, c17, c18, c19, c20, c21, c22, c23, c24, c25, c26, c27, c28, c29, c30, c31, c32, c33, c34] 116)) := by kernel_rfl
theorem pk12_lg110 : ∀ (cs : Array Value), cs.size = 35 → ∀ w : World, (Instr.buildSlice 110 1 #[(0, .agg cs)]).run Tryd.prog w = .ok (.slice (some ⟨w.heap.size, 0, none⟩) 1 1) (w.alloc (.cells cs 116))
 | ⟨c0 :: c1 :: c2 :: c3 :: c4 :: c5 :: c6 :: c7 :: c8 :: c9 :: c10 :: c11 :: c12 :: c13 :: c14 :: c15 :: c16 :: c17 :: c18 :: c19 :: c20 :: c21 :: c22 :: c23 :: c24 :: c25 :: c26 :: c27 :: c28 :: c29 :: c30 :: c31 :: c32 :: c33 :: c34 :: []⟩, _, w => pk12_lh110 c0 c1 c2 c3 c4 c5 c6 c7 c8 c9 c10 c11 c12 c13 c14 c15 c16 c17 c18 c19 c20 c21 c22 c23 c24 c25 c26 c27 c28 c29 c30 c31 c32 c33 c34 w
theorem pk12_ig116 : ∃ z, (Tryd.prog.info? 116).map (fun i => (i.zero, i.size, i.bytes)) = some (some z, 35, 72) ∧ z.cells.size = 35 := info_ex (by kernel_rfl)
theorem pk12_ty110 : Tryd.prog.underlying 110 = some (.slice 116) := by kernel_rfl
theorem entries_any (w : World) (v : Value) (b : Bs) (hr : RB w v b) (n first fin : Nat) (hff : first ≤ fin) (hf : fin ≤ b.length) (hn : n ≤ 1048576) (hb : b.length ≤ 1048576) :
  Calls Tryd.prog 65 #[v, NI n, NI first, NI fin] w fun r w' => (∃ x, r = .returned x ∧ ∃ es : List EntV, entriesP b n first fin = some (es.map Prod.fst) ∧ RG 35 entC w' x es ∧ EntsOk w' es ∧ (∀ x ∈ es, NewV w.heap.size x.2) ∧ Ext w w') ∨ ∃ ch, r = .panicked ch ∧ entriesP b n first fin = none ∧ ch = [stopE 6] ∧ Ext w w' := by
 refine gG (args := [v, NI n, NI first, NI fin]) Tryd.func65 rfl 77 rfl rfl ?_
 have hE := Ext.refl w
 have hen0 : OG w.heap.size 116 35 entC w (Value.slice none 0 0) ([] : List EntV) := OG.nil _ _ _ _ _
 refine gL (fun (ρ : Slots) (wz : World) => ∃ i : Nat, ∃ es : List EntV, ∃ p : Nat, ∃ va : Value, ρ 0 = (v : Value) ∧ ρ 1 = (NI n : Value) ∧ ρ 3 = (NI fin : Value) ∧ ρ 8 = ((Value.slice none 0 0) : Value) ∧ ρ 16 = (NI n : Value) ∧ ρ 17 = (NI i : Value) ∧ ρ 2 = (NI p : Value) ∧ ρ 9 = (va : Value) ∧ Ext w wz ∧ EntsIn wz va es ∧ OG w.heap.size 116 35 (entC) wz va (es) ∧ (entGo b fin first i = some (es.map Prod.fst, p)) ∧ (i ≤ n) ∧ (p ≤ fin) ∧ (es.length = i) ∧ (∀ x ∈ es, NewV w.heap.size x.2) ∧ True) (fun ρ _ => n - (intOf (ρ 17)).toNat) ⟨0, [], first, (Value.slice none 0 0), rfl, rfl, rfl, rfl, rfl, rfl, rfl, rfl, hE, EntsIn.nil _ _, og_eq hen0 (rfl), rfl, Nat.zero_le _, by omega, rfl, (fun x hx => by cases hx), trivial⟩ ?_
 clear hen0
 clear hE
 rintro ρ5 w6 ⟨i, es, p, va, T0, T1, T3, T8, T16, T17, T2, T9, hE, hEn, hr_va, hs, hi, hp, hil, hnw, -⟩
 have q17 := T17
 refine gS (Yk.eqI (a := (i : Nat)) (b := (n : Nat)) T17 T16 (k_lss _ _ _ _) ?_)
 refine cD rfl (fun hc0 => ?_) fun hc0 => ?_
 ·have hil0 : i < n := hc0
  have hst := entGo_step hs
  have hlen : (b.take fin).length = fin := by rw [List.length_take]; omega
  by_cases hlt : p < fin
  ·by_cases hle : (b.getD p 0).toNat ≤ 1
   ·have hO1 := entOne_in ⟨hlt, hle⟩
    by_cases h1 : b.getD p 0 = 1
    ·rw [if_pos h1] at hO1
     have h1n : (b.getD p 0).toNat = 1 := by rw [h1]; rfl
     by_cases hg : fin - (p + 1) < 32
     ·rw [if_pos hg] at hO1
      refine gS (Yk.eqI (a := (p : Nat)) (b := (fin : Nat)) T2 T3 (k_lss _ _ _ _) (kT (hlt) (gS (Yk.atRB (l := b) (i := p) pk12_ty24 pk12_sz5 (RB.of (hr.keep hE) T0) T2 (by omega) fun v11 hp12 => (gS (Yk.loadC pk12_ty5 rfl (PCell.of hp12 rfl) (gS (Yk.eqI (a := ((b.getD (p) 0).toNat : Nat)) (b := (1 : Nat)) rfl rfl (k_leq _ _ _ _) (kT (hle) (gS (Yk.pickT rfl rfl (gP (Yp.callA2 pk12_pl64 rfl rfl ?_)))))))))))))
      refine calls_either (need_any _ (true) 6) ?_ ?_
      rotate_left
      ·rintro ch w15 ⟨rfl, hb, hx⟩
       refine postP_panic ?_
       cases hb
      rintro v_ w17 ⟨rfl, hb13, hx14⟩
      have hEn : EntsIn w17 va es := (hEn.keep hx14)
      clear hp12
      have hE := hE.trans hx14
      refine gS (Yk.atRB (l := b) (i := p) pk12_ty24 pk12_sz5 (RB.of (hr.keep hE) T0) T2 (by omega) fun v19 hp20 => (gS (Yk.loadC pk12_ty5 rfl (PCell.of hp20 rfl) (gS (Yk.eqI (a := ((b.getD (p) 0).toNat : Nat)) (b := (1 : Nat)) rfl rfl (k_eql _ _ _ _) (kT (h1n) (gS (Yk.build2 T2 (vr (.bool (true)) rfl) (fun w => pk12_bdEnt (p : Int) true w) (gS (Yk.alloc pk12_al116 fun n21 w22 hn23 hb24 hx25 hs26 => ?_))))))))))
      have hA27 := Ext.refl w17
      have hz29 := hE.size
      have hb31 := hb24; clear hb24
      have hl32 : n21 < w22.heap.size := by omega
      refine gS (Yk.storeAll (vr (PQ n21 0) rfl) (vr (.agg (entC ((⟨p, true, List.replicate 32 0, []⟩, .slice none 0 0))).toArray) rfl) hb31 (entC_size (x := ((⟨p, true, List.replicate 32 0, []⟩, .slice none 0 0) : EntV)) (y := dEnt) (by simp) (by simp [dEnt])) (entC_isz (x := ((⟨p, true, List.replicate 32 0, []⟩, .slice none 0 0) : EntV)) pk12_isz116 (by simp)) (entC_one (x := ((⟨p, true, List.replicate 32 0, []⟩, .slice none 0 0) : EntV)) rfl) fun w33 hb34 hg35 hs36 => ?_)
      clear hb31
      have hb31 := hb34; clear hb34
      have hl37 := bl hb31
      clear hp20
      have hA27 := hA27.trans hx25
      have hA27 := row_fresh hA27 hg35 (Nat.le_trans (Nat.le_refl _) (by omega))
      have hE := hE.trans hA27
      refine gS (Yk.bin (xv := NI p) (yv := NI 1) T2 rfl rfl (i64_add _ _ _ (by omega)) (gS (Yk.fieldAt pk12_fo116_1 rfl (gS (Yk.cell1 pk12_ty4 rfl rfl (cellAt hb31 (show (entC ((⟨p, true, List.replicate 32 0, []⟩, .slice none 0 0)))[1]? = some (.bool (true) : Value) from rfl)) (cT rfl (gS (Yk.sliceHi (xs := b) (n := fin) pk12_ty24 pk12_sz5 T0 (hr.keep hE) T3 (by omega) fun v42 hr43 ha44 => (gS (Yk.callA2 pk12_pl75 rfl rfl ?_))))))))))
      refine ((show Calls _ _ _ _ (fun e w2 => e = .returned (.tuple #[AB zero32, NI 0, NI 6]) ∧ Ext _ w2) from (getId_in _ v42 (b.take fin) hr43 (p + 1) (by omega)).mono fun e w2 ⟨h1, h2⟩ => by subst h1; refine ⟨?_, h2⟩; unfold getIdRes; rw [hlen]; rw [if_pos (by omega)]; rfl)).mono ?_
      rintro e w46 ⟨rfl, hx45⟩
      refine ⟨_, rfl, ?_⟩
      refine gS (Yk.extract (vs := [AB zero32, NI 0, NI 6]) rfl rfl (gS (Yk.extract (vs := [AB zero32, NI 0, NI 6]) rfl rfl (gS (Yk.extract (vs := [AB zero32, NI 0, NI 6]) rfl rfl (gS (Yk.alloc pk12_al38 fun n47 w48 hn49 hb50 hx51 hs52 => ?_)))))))
      have hE := hE.trans hx45
      have hA27 := hA27.trans hx45
      have hz56 := hE.size
      have hb31 := eb hx45 hb31
      have hlt58 := lte (bl hb31) hn49
      have hb60 := hb50; clear hb50
      have hl61 : n47 < w48.heap.size := by omega
      refine gS (Yk.storeAll (vr (PQ n47 0) rfl) (vr (AB zero32) rfl) hb60 (by exact idsize (by decide) List.length_replicate) (by exact sizeId_of (by decide)) (byteCells_one _) fun w62 hb63 hg64 hs65 => ?_)
      clear hb60
      have hb60 := hb63; clear hb63
      have hl66 := bl hb60
      refine gS (Yk.eqI (a := (6 : Nat)) (b := (0 : Nat)) rfl rfl (k_eql _ _ _ _) (kF (by decide) (gP (Yp.callA2 pk12_pl64 rfl rfl ?_))))
      refine calls_either (need_any _ (false) 6) ?_ ?_
      rotate_left
      ·rintro ch w70 ⟨rfl, hb, hx⟩
       refine postP_panic ?_
       have hE1 := entGo_none (show entGo b fin first (i + 1) = none by rw [hst, hO1]; rfl) (n - (i + 1))
       rw [show i + 1 + (n - (i + 1)) = n by omega] at hE1
       have hE := hE.trans hx51
       have hE := row_fresh hE hg64 (Nat.le_trans hz56 (by omega))
       exact .inr ⟨_, rfl, by unfold entriesP; rw [hE1]; rfl, rfl, hE.trans hx⟩
      rintro v_ w72 ⟨rfl, hb68, hx69⟩
      cases hb68
     rw [if_neg hg] at hO1
     have hB32 : (((b.take fin).drop (p + 1)).take 32).length = 32 := by rw [List.length_take, List.length_drop, hlen]; omega
     refine gS (Yk.eqI (a := (p : Nat)) (b := (fin : Nat)) T2 T3 (k_lss _ _ _ _) (kT (hlt) (gS (Yk.atRB (l := b) (i := p) pk12_ty24 pk12_sz5 (RB.of (hr.keep hE) T0) T2 (by omega) fun v75 hp76 => (gS (Yk.loadC pk12_ty5 rfl (PCell.of hp76 rfl) (gS (Yk.eqI (a := ((b.getD (p) 0).toNat : Nat)) (b := (1 : Nat)) rfl rfl (k_leq _ _ _ _) (kT (hle) (gS (Yk.pickT rfl rfl (gP (Yp.callA2 pk12_pl64 rfl rfl ?_)))))))))))))
     refine calls_either (need_any _ (true) 6) ?_ ?_
     rotate_left
     ·rintro ch w79 ⟨rfl, hb, hx⟩
      refine postP_panic ?_
      cases hb
     rintro v_ w81 ⟨rfl, hb77, hx78⟩
     have hEn : EntsIn w81 va es := (hEn.keep hx78)
     clear hp76
     have hE := hE.trans hx78
     refine gS (Yk.atRB (l := b) (i := p) pk12_ty24 pk12_sz5 (RB.of (hr.keep hE) T0) T2 (by omega) fun v83 hp84 => (gS (Yk.loadC pk12_ty5 rfl (PCell.of hp84 rfl) (gS (Yk.eqI (a := ((b.getD (p) 0).toNat : Nat)) (b := (1 : Nat)) rfl rfl (k_eql _ _ _ _) (kT (h1n) (gS (Yk.build2 T2 (vr (.bool (true)) rfl) (fun w => pk12_bdEnt (p : Int) true w) (gS (Yk.alloc pk12_al116 fun n85 w86 hn87 hb88 hx89 hs90 => ?_))))))))))
     have hA91 := Ext.refl w81
     have hz93 := hE.size
     have hr_va := hr_va.keep hx78
     have hap94 : OB va n85 := own_newer hr_va.2 (by omega)
     have hb95 := hb88; clear hb88
     have hl96 : n85 < w86.heap.size := by omega
     refine gS (Yk.storeAll (vr (PQ n85 0) rfl) (vr (.agg (entC ((⟨p, true, List.replicate 32 0, []⟩, .slice none 0 0))).toArray) rfl) hb95 (entC_size (x := ((⟨p, true, List.replicate 32 0, []⟩, .slice none 0 0) : EntV)) (y := dEnt) (by simp) (by simp [dEnt])) (entC_isz (x := ((⟨p, true, List.replicate 32 0, []⟩, .slice none 0 0) : EntV)) pk12_isz116 (by simp)) (entC_one (x := ((⟨p, true, List.replicate 32 0, []⟩, .slice none 0 0) : EntV)) rfl) fun w97 hb98 hg99 hs100 => ?_)
     clear hb95
     have hb95 := hb98; clear hb98
     have hl101 := bl hb95
     clear hp84
     have hA91 := hA91.trans hx89
     have hA91 := row_fresh hA91 hg99 (Nat.le_trans (Nat.le_refl _) (by omega))
     have hE := hE.trans hA91
     refine gS (Yk.bin (xv := NI p) (yv := NI 1) T2 rfl rfl (i64_add _ _ _ (by omega)) (gS (Yk.fieldAt pk12_fo116_1 rfl (gS (Yk.cell1 pk12_ty4 rfl rfl (cellAt hb95 (show (entC ((⟨p, true, List.replicate 32 0, []⟩, .slice none 0 0)))[1]? = some (.bool (true) : Value) from rfl)) (cT rfl (gS (Yk.sliceHi (xs := b) (n := fin) pk12_ty24 pk12_sz5 T0 (hr.keep hE) T3 (by omega) fun v106 hr107 ha108 => (gS (Yk.callA2 pk12_pl75 rfl rfl ?_))))))))))
     refine ((show Calls _ _ _ _ (fun e w2 => e = .returned (.tuple #[AB (((b.take fin).drop (p + 1)).take 32), NI (p + 1 + 32), NI 0]) ∧ Ext _ w2) from (getId_in _ v106 (b.take fin) hr107 (p + 1) (by omega)).mono fun e w2 ⟨h1, h2⟩ => by subst h1; refine ⟨?_, h2⟩; unfold getIdRes; rw [hlen]; rw [if_neg (by omega)]; rfl)).mono ?_
     rintro e w110 ⟨rfl, hx109⟩
     refine ⟨_, rfl, ?_⟩
     refine gS (Yk.extract (vs := [AB (((b.take fin).drop (p + 1)).take 32), NI (p + 1 + 32), NI 0]) rfl rfl (gS (Yk.extract (vs := [AB (((b.take fin).drop (p + 1)).take 32), NI (p + 1 + 32), NI 0]) rfl rfl (gS (Yk.extract (vs := [AB (((b.take fin).drop (p + 1)).take 32), NI (p + 1 + 32), NI 0]) rfl rfl (gS (Yk.alloc pk12_al38 fun n111 w112 hn113 hb114 hx115 hs116 => ?_)))))))
     have hE := hE.trans hx109
     have hA91 := hA91.trans hx109
     have hz120 := hE.size
     have hz121 := hA91.size
     have hb95 := eb hx109 hb95
     have hlt122 := lte (bl hb95) hn113
     have hr_va := hr_va.keep hx89
     have hr_va := OG.kept hr_va hg99 hap94
     have hr_va := hr_va.keep hx109
     have hap123 : OB va n111 := own_newer hr_va.2 (by omega)
     have hb124 := hb114; clear hb114
     have hl125 : n111 < w112.heap.size := by omega
     refine gS (Yk.storeAll (vr (PQ n111 0) rfl) (vr (AB (((b.take fin).drop (p + 1)).take 32)) rfl) hb124 (by exact idsize hB32 List.length_replicate) (by exact sizeId_of hB32) (byteCells_one _) fun w126 hb127 hg128 hs129 => ?_)
     clear hb124
     have hb124 := hb127; clear hb127
     have hl130 := bl hb124
     refine gS (Yk.eqI (a := (0 : Nat)) (b := (0 : Nat)) rfl rfl (k_eql _ _ _ _) (kT (rfl) (gP (Yp.callA2 pk12_pl64 rfl rfl ?_))))
     refine calls_either (need_any _ (true) 6) ?_ ?_
     rotate_left
     ·rintro ch w134 ⟨rfl, hb, hx⟩
      refine postP_panic ?_
      cases hb
     rintro v_ w136 ⟨rfl, hb132, hx133⟩
     have hb95 := eb hx115 hb95
     have hb95 := kb hg128 hb95 (by omega)
     have hb95 := eb hx133 hb95
     have hb124 := eb hx133 hb124
     refine gS (Yk.loadAll rfl hb124 pk12_ty38 rfl (by exact sizeId_of hB32) (gS (Yk.fieldAt pk12_fo116_2 rfl (gS (Yk.entBase (B := List.replicate 32 0) (B' := ((b.take fin).drop (p + 1)).take 32) rfl rfl hb95 (by simp) hB32 pk12_isz38 fun w137 hb138 hg139 hs140 => ?_)))))
     clear hb95
     have hb95 := hb138; clear hb138
     have hl141 := bl hb95
     have hE := hE.trans hx115
     have hE := row_fresh hE hg128 (Nat.le_trans hz120 (by omega))
     have hE := hE.trans hx133
     have hE := row_fresh hE hg139 (Nat.le_trans hz93 (by omega))
     refine gP (Yp.callA3 pk12_pl76 T0 rfl T3 ?_)
     refine calls_either (text_any _ v b (hr.keep hE) (p + 33) fin (by omega) hf) ?_ ?_
     rotate_left
     ·rintro ch w144 ⟨hT, rfl, hx⟩
      refine postP_panic ?_
      have hO1 : entOne b fin p = none := by rw [hO1, show textP b (p + 33) fin = none from hT]; rfl
      have hE1 := entGo_none (show entGo b fin first (i + 1) = none by rw [hst, hO1]; rfl) (n - (i + 1))
      rw [show i + 1 + (n - (i + 1)) = n by omega] at hE1
      exact .inr ⟨_, rfl, by unfold entriesP; rw [hE1]; rfl, rfl, hE.trans hx⟩
     rintro v_ w146 ⟨ts, tn, hT, rfl, hx143⟩
     have hO : entOne b fin p = some (⟨p, true, ((b.take fin).drop (p + 1)).take 32, ts⟩, tn) := by rw [hO1, show textP b (p + 33) fin = some (ts, tn) from hT]; rfl
     refine gS (Yk.extract (vs := [St (ts), NI tn]) rfl rfl (gS (Yk.extract (vs := [St (ts), NI tn]) rfl rfl (gS (Yk.convStr pk12_ty9 pk12_ty24 pk12_ty5 rfl (by have := textP_len hT hf; omega) fun v148 w149 hr150 hx151 hk152 => ?_)))))
     have hb124 := kb hg139 hb124 (by omega)
     have hb124 := eb hx143 hb124
     have hb95 := eb hx143 hb95
     have hap154 : OB v148 n85 := fun e => by have h1 := (hk152 _ e).1; have h2 := (bl hb95); omega
     have hr_va := hr_va.keep hx115
     have hr_va := OG.kept hr_va hg128 hap123
     have hr_va := hr_va.keep hx133
     have hr_va := OG.kept hr_va hg139 hap94
     have hr_va := hr_va.keep hx143
     have hva : ∀ k, Value.ownBlock va = some k → k < w146.heap.size := fun k hk => ((hr_va).2.lt k hk).2
     have hkv : ∀ k, Value.ownBlock v148 = some k → k < w149.heap.size ∧ OB va k := fun k hk => ⟨(hk152 k hk).2, fun e => by have h1 := hva k e; have h2 := (hk152 k hk).1; omega⟩
     have hE := hE.trans hx143
     have hnv : NewV w.heap.size v148 := fun k hk => Nat.le_trans (hE).size (hk152 k hk).1
     have hb95 := eb hx151 hb95
     refine gS (Yk.fieldAt pk12_fo116_3 rfl (gS (Yk.entVal (s := []) (s' := ts) rfl rfl hb95 hB32 pk12_isz24 hr150 fun w155 hb156 hg157 hs158 => ?_)))
     clear hb95
     have hb95 := hb156; clear hb156
     have hl159 := bl hb95
     have hkv2 : ∀ k, Value.ownBlock v148 = some k → k < w155.heap.size ∧ OB va k := fun k hk => ⟨by have := (hkv k hk).1; omega, (hkv k hk).2⟩
     have hA91 := hA91.trans hx115
     have hA91 := row_fresh hA91 hg128 (Nat.le_trans hz121 (by omega))
     have hA91 := hA91.trans hx133
     have hA91 := row_fresh hA91 hg139 (Nat.le_trans (Nat.le_refl _) (by omega))
     have hA91 := hA91.trans (hx143.trans hx151)
     have hA91 := row_fresh hA91 hg157 (Nat.le_trans (Nat.le_refl _) (by omega))
     have hr150 := RB.kept hr150 hg157 (.inr hap154)
     have hEn : EntsIn w155 va (es ++ [((⟨p, true, ((b.take fin).drop (p + 1)).take 32, ts⟩, v148) : EntV)]) := EntsIn.snoc (hEn.keep hA91) hr150 hB32 hkv2
     have hone_ := entC_one (x := ((⟨p, true, ((b.take fin).drop (p + 1)).take 32, ts⟩, v148) : EntV)) (RB.one hr150).2
     refine gS (Yk.loadAll rfl hb95 (pk12_ty116).choose_spec rfl (entC_isz (x := ((⟨p, true, ((b.take fin).drop (p + 1)).take 32, ts⟩, v148) : EntV)) pk12_isz116 hB32) (gS (Yk.lit1G (a := ((⟨p, true, ((b.take fin).drop (p + 1)).take 32, ts⟩, v148))) (enc := entC) (vr (.agg (entC ((⟨p, true, ((b.take fin).drop (p + 1)).take 32, ts⟩, v148))).toArray) rfl) ((entC_len (x := ((⟨p, true, ((b.take fin).drop (p + 1)).take 32, ts⟩, v148) : EntV)) hB32)) pk12_lg110 fun v160 w161 hr162 hx163 => ?_)))
     have hEn : EntsIn w161 va (es ++ [((⟨p, true, ((b.take fin).drop (p + 1)).take 32, ts⟩, v148) : EntV)]) := (hEn.keep hx163)
     have hE := hE.trans hx151
     have hE := row_fresh hE hg157 (Nat.le_trans hz93 (by omega))
     have hE := hE.trans hx163
     have hr_va := hr_va.keep hx151
     have hr_va := OG.kept hr_va hg157 hap94
     have hr_va := hr_va.keep hx163
     refine gS (Yk.appendRG _ _ w.heap.size _ 72 pk12_ty110 pk12_ig116.choose_spec.1 pk12_ig116.choose_spec.2 pk12_ty110 (es) ([((⟨p, true, ((b.take fin).drop (p + 1)).take 32, ts⟩, v148))]) (OG.of hr_va T9) (RG.of hr162 (vr v160 rfl)) (fun y hy => by rw [List.mem_singleton.1 hy]; exact hone_) (by simp only [List.length_cons, List.length_nil]; omega) (by simp only [List.length_cons, List.length_nil]; omega) hE.size fun v164 w165 ho166 hg167 => ?_)
     have hEn_ := hEn
     have hg167 : Grew w161 w165 va v164 := .eqv T9 hg167
     have hb95 := eb hx163 hb95
     have hb124 := eb hx151 hb124
     have hb124 := kb hg157 hb124 (by omega)
     have hb124 := eb hx163 hb124
     have hE := ext_grew hE hg167 hr_va.2 (Nat.le_refl _)
     have hb124 := blk_grew hb124 hg167 hap123
     clear hr150
     have hb95 := blk_grew hb95 hg167 hap94
     clear hr162
     clear hr_va
     have hEn : EntsIn w165 v164 (es ++ [((⟨p, true, ((b.take fin).drop (p + 1)).take 32, ts⟩, v148) : EntV)]) := EntsIn.grew hEn_ hg167; clear hEn_
     refine gS (Yk.bin (xv := NI i) (yv := NI 1) T17 rfl rfl (i64_add _ _ _ (by omega)) (gK (And.intro ⟨i + 1, es ++ [(⟨p, true, ((b.take fin).drop (p + 1)).take 32, ts⟩, v148)], tn, v164, T0, T1, T3, T8, T16, rfl, rfl, rfl, hE, hEn, og_eq ho166 (rfl), by rw [hst, hO, List.map_append]; rfl, by omega, (entOne_pos hO hf).1, by rw [List.length_append, hil]; rfl, all_snoc hnw hnv, trivial⟩ ?_)))
     show n - (intOf (NI ((i) + (1)))).toNat < n - (intOf (ρ5 17)).toNat
     rw [q17]
     simp only [intOf, Int.toNat_natCast]; omega
    rw [if_neg h1] at hO1
    have h1n : ¬ (b.getD p 0).toNat = 1 := fun h => h1 (UInt8.toNat_inj.1 (by rw [h]; rfl))
    refine gS (Yk.eqI (a := (p : Nat)) (b := (fin : Nat)) T2 T3 (k_lss _ _ _ _) (kT (hlt) (gS (Yk.atRB (l := b) (i := p) pk12_ty24 pk12_sz5 (RB.of (hr.keep hE) T0) T2 (by omega) fun v172 hp173 => (gS (Yk.loadC pk12_ty5 rfl (PCell.of hp173 rfl) (gS (Yk.eqI (a := ((b.getD (p) 0).toNat : Nat)) (b := (1 : Nat)) rfl rfl (k_leq _ _ _ _) (kT (hle) (gS (Yk.pickT rfl rfl (gP (Yp.callA2 pk12_pl64 rfl rfl ?_)))))))))))))
    refine calls_either (need_any _ (true) 6) ?_ ?_
    rotate_left
    ·rintro ch w176 ⟨rfl, hb, hx⟩
     refine postP_panic ?_
     cases hb
    rintro v_ w178 ⟨rfl, hb174, hx175⟩
    have hEn : EntsIn w178 va es := (hEn.keep hx175)
    clear hp173
    have hE := hE.trans hx175
    refine gS (Yk.atRB (l := b) (i := p) pk12_ty24 pk12_sz5 (RB.of (hr.keep hE) T0) T2 (by omega) fun v180 hp181 => (gS (Yk.loadC pk12_ty5 rfl (PCell.of hp181 rfl) (gS (Yk.eqI (a := ((b.getD (p) 0).toNat : Nat)) (b := (1 : Nat)) rfl rfl (k_eql _ _ _ _) (kF (h1n) (gS (Yk.build2 T2 (vr (.bool (false)) rfl) (fun w => pk12_bdEnt (p : Int) false w) (gS (Yk.alloc pk12_al116 fun n182 w183 hn184 hb185 hx186 hs187 => ?_))))))))))
    have hA188 := Ext.refl w178
    have hz190 := hE.size
    have hr_va := hr_va.keep hx175
    have hap191 : OB va n182 := own_newer hr_va.2 (by omega)
    have hb192 := hb185; clear hb185
    have hl193 : n182 < w183.heap.size := by omega
    refine gS (Yk.storeAll (vr (PQ n182 0) rfl) (vr (.agg (entC ((⟨p, false, List.replicate 32 0, []⟩, .slice none 0 0))).toArray) rfl) hb192 (entC_size (x := ((⟨p, false, List.replicate 32 0, []⟩, .slice none 0 0) : EntV)) (y := dEnt) (by simp) (by simp [dEnt])) (entC_isz (x := ((⟨p, false, List.replicate 32 0, []⟩, .slice none 0 0) : EntV)) pk12_isz116 (by simp)) (entC_one (x := ((⟨p, false, List.replicate 32 0, []⟩, .slice none 0 0) : EntV)) rfl) fun w194 hb195 hg196 hs197 => ?_)
    clear hb192
    have hb192 := hb195; clear hb195
    have hl198 := bl hb192
    clear hp181
    have hA188 := hA188.trans hx186
    have hA188 := row_fresh hA188 hg196 (Nat.le_trans (Nat.le_refl _) (by omega))
    have hE := hE.trans hA188
    refine gS (Yk.bin (xv := NI p) (yv := NI 1) T2 rfl rfl (i64_add _ _ _ (by omega)) (gS (Yk.fieldAt pk12_fo116_1 rfl (gS (Yk.cell1 pk12_ty4 rfl rfl (cellAt hb192 (show (entC ((⟨p, false, List.replicate 32 0, []⟩, .slice none 0 0)))[1]? = some (.bool (false) : Value) from rfl)) (cF rfl (gP (Yp.callA3 pk12_pl76 T0 rfl T3 ?_))))))))
    refine calls_either (text_any _ v b (hr.keep hE) (p + 1) fin (by omega) hf) ?_ ?_
    rotate_left
    ·rintro ch w204 ⟨hT, rfl, hx⟩
     refine postP_panic ?_
     have hO1 : entOne b fin p = none := by rw [hO1, show textP b (p + 1) fin = none from hT]; rfl
     have hE1 := entGo_none (show entGo b fin first (i + 1) = none by rw [hst, hO1]; rfl) (n - (i + 1))
     rw [show i + 1 + (n - (i + 1)) = n by omega] at hE1
     exact .inr ⟨_, rfl, by unfold entriesP; rw [hE1]; rfl, rfl, hE.trans hx⟩
    rintro v_ w206 ⟨ts, tn, hT, rfl, hx203⟩
    have hO : entOne b fin p = some (⟨p, false, List.replicate 32 0, ts⟩, tn) := by rw [hO1, show textP b (p + 1) fin = some (ts, tn) from hT]; rfl
    refine gS (Yk.extract (vs := [St (ts), NI tn]) rfl rfl (gS (Yk.extract (vs := [St (ts), NI tn]) rfl rfl (gS (Yk.convStr pk12_ty9 pk12_ty24 pk12_ty5 rfl (by have := textP_len hT hf; omega) fun v208 w209 hr210 hx211 hk212 => ?_)))))
    have hb192 := eb hx203 hb192
    have hap213 : OB v208 n182 := fun e => by have h1 := (hk212 _ e).1; have h2 := (bl hb192); omega
    have hr_va := hr_va.keep hx186
    have hr_va := OG.kept hr_va hg196 hap191
    have hr_va := hr_va.keep hx203
    have hva : ∀ k, Value.ownBlock va = some k → k < w206.heap.size := fun k hk => ((hr_va).2.lt k hk).2
    have hkv : ∀ k, Value.ownBlock v208 = some k → k < w209.heap.size ∧ OB va k := fun k hk => ⟨(hk212 k hk).2, fun e => by have h1 := hva k e; have h2 := (hk212 k hk).1; omega⟩
    have hE := hE.trans hx203
    have hnv : NewV w.heap.size v208 := fun k hk => Nat.le_trans (hE).size (hk212 k hk).1
    have hb192 := eb hx211 hb192
    refine gS (Yk.fieldAt pk12_fo116_3 rfl (gS (Yk.entVal (s := []) (s' := ts) rfl rfl hb192 (by simp) pk12_isz24 hr210 fun w214 hb215 hg216 hs217 => ?_)))
    clear hb192
    have hb192 := hb215; clear hb215
    have hl218 := bl hb192
    have hkv2 : ∀ k, Value.ownBlock v208 = some k → k < w214.heap.size ∧ OB va k := fun k hk => ⟨by have := (hkv k hk).1; omega, (hkv k hk).2⟩
    have hA188 := hA188.trans (hx203.trans hx211)
    have hA188 := row_fresh hA188 hg216 (Nat.le_trans (Nat.le_refl _) (by omega))
    have hr210 := RB.kept hr210 hg216 (.inr hap213)
    have hEn : EntsIn w214 va (es ++ [((⟨p, false, List.replicate 32 0, ts⟩, v208) : EntV)]) := EntsIn.snoc (hEn.keep hA188) hr210 (by simp) hkv2
    have hone_ := entC_one (x := ((⟨p, false, List.replicate 32 0, ts⟩, v208) : EntV)) (RB.one hr210).2
    refine gS (Yk.loadAll rfl hb192 (pk12_ty116).choose_spec rfl (entC_isz (x := ((⟨p, false, List.replicate 32 0, ts⟩, v208) : EntV)) pk12_isz116 (by simp)) (gS (Yk.lit1G (a := ((⟨p, false, List.replicate 32 0, ts⟩, v208))) (enc := entC) (vr (.agg (entC ((⟨p, false, List.replicate 32 0, ts⟩, v208))).toArray) rfl) ((entC_len (x := ((⟨p, false, List.replicate 32 0, ts⟩, v208) : EntV)) (by simp))) pk12_lg110 fun v219 w220 hr221 hx222 => ?_)))
    have hEn : EntsIn w220 va (es ++ [((⟨p, false, List.replicate 32 0, ts⟩, v208) : EntV)]) := (hEn.keep hx222)
    have hE := hE.trans hx211
    have hE := row_fresh hE hg216 (Nat.le_trans hz190 (by omega))
    have hE := hE.trans hx222
    have hr_va := hr_va.keep hx211
    have hr_va := OG.kept hr_va hg216 hap191
    have hr_va := hr_va.keep hx222
    refine gS (Yk.appendRG _ _ w.heap.size _ 72 pk12_ty110 pk12_ig116.choose_spec.1 pk12_ig116.choose_spec.2 pk12_ty110 (es) ([((⟨p, false, List.replicate 32 0, ts⟩, v208))]) (OG.of hr_va T9) (RG.of hr221 (vr v219 rfl)) (fun y hy => by rw [List.mem_singleton.1 hy]; exact hone_) (by simp only [List.length_cons, List.length_nil]; omega) (by simp only [List.length_cons, List.length_nil]; omega) hE.size fun v223 w224 ho225 hg226 => ?_)
    have hEn_ := hEn
    have hg226 : Grew w220 w224 va v223 := .eqv T9 hg226
    have hb192 := eb hx222 hb192
    have hE := ext_grew hE hg226 hr_va.2 (Nat.le_refl _)
    clear hr210
    have hb192 := blk_grew hb192 hg226 hap191
    clear hr221
    clear hr_va
    have hEn : EntsIn w224 v223 (es ++ [((⟨p, false, List.replicate 32 0, ts⟩, v208) : EntV)]) := EntsIn.grew hEn_ hg226; clear hEn_
    refine gS (Yk.bin (xv := NI i) (yv := NI 1) T17 rfl rfl (i64_add _ _ _ (by omega)) (gK (And.intro ⟨i + 1, es ++ [(⟨p, false, List.replicate 32 0, ts⟩, v208)], tn, v223, T0, T1, T3, T8, T16, rfl, rfl, rfl, hE, hEn, og_eq ho225 (rfl), by rw [hst, hO, List.map_append]; rfl, by omega, (entOne_pos hO hf).1, by rw [List.length_append, hil]; rfl, all_snoc hnw hnv, trivial⟩ ?_)))
    show n - (intOf (NI ((i) + (1)))).toNat < n - (intOf (ρ5 17)).toNat
    rw [q17]
    simp only [intOf, Int.toNat_natCast]; omega
   have hO1 : entOne b fin p = none := by unfold entOne; rw [if_neg (fun h => hle h.2)]
   refine gS (Yk.eqI (a := (p : Nat)) (b := (fin : Nat)) T2 T3 (k_lss _ _ _ _) (kT (hlt) (gS (Yk.atRB (l := b) (i := p) pk12_ty24 pk12_sz5 (RB.of (hr.keep hE) T0) T2 (by omega) fun v230 hp231 => (gS (Yk.loadC pk12_ty5 rfl (PCell.of hp231 rfl) (gS (Yk.eqI (a := ((b.getD (p) 0).toNat : Nat)) (b := (1 : Nat)) rfl rfl (k_leq _ _ _ _) (kF (hle) (gS (Yk.pickT rfl rfl (gP (Yp.callA2 pk12_pl64 rfl rfl ?_)))))))))))))
   refine calls_either (need_any _ (false) 6) ?_ ?_
   rotate_left
   ·rintro ch w234 ⟨rfl, hb, hx⟩
    refine postP_panic ?_
    have hE1 := entGo_none (show entGo b fin first (i + 1) = none by rw [hst, hO1]; rfl) (n - (i + 1))
    rw [show i + 1 + (n - (i + 1)) = n by omega] at hE1
    exact .inr ⟨_, rfl, by unfold entriesP; rw [hE1]; rfl, rfl, hE.trans hx⟩
   rintro v_ w236 ⟨rfl, hb232, hx233⟩
   cases hb232
  have hO1 : entOne b fin p = none := by unfold entOne; rw [if_neg (fun h => hlt h.1)]
  refine gS (Yk.eqI (a := (p : Nat)) (b := (fin : Nat)) T2 T3 (k_lss _ _ _ _) (kF (hlt) (gS (Yk.pickF rfl rfl (gP (Yp.callA2 pk12_pl64 rfl rfl ?_))))))
  refine calls_either (need_any _ (false) 6) ?_ ?_
  rotate_left
  ·rintro ch w241 ⟨rfl, hb, hx⟩
   refine postP_panic ?_
   have hE1 := entGo_none (show entGo b fin first (i + 1) = none by rw [hst, hO1]; rfl) (n - (i + 1))
   rw [show i + 1 + (n - (i + 1)) = n by omega] at hE1
   exact .inr ⟨_, rfl, by unfold entriesP; rw [hE1]; rfl, rfl, hE.trans hx⟩
  rintro v_ w243 ⟨rfl, hb239, hx240⟩
  cases hb239
 have hin : i = n := by omega
 refine gS (Yk.eqI (a := (p : Nat)) (b := (fin : Nat)) T2 T3 (k_eql _ _ _ _) (gP (Yp.callA2 pk12_pl64 rfl rfl ?_)))
 refine calls_either (need_any _ (decide ((p : Nat) = (fin))) 6) ?_ ?_
 rotate_left
 ·rintro ch w247 ⟨rfl, hb, hx⟩
  refine postP_panic ?_
  have hno := of_decide_eq_false hb
  exact .inr ⟨_, rfl, by unfold entriesP; rw [← hin, hs]; exact if_neg hno, rfl, hE.trans hx⟩
 rintro v_ w249 ⟨rfl, hb245, hx246⟩
 have hEn : EntsIn w249 va es := (hEn.keep hx246)
 have hn250 := of_decide_eq_true hb245
 refine rt1 rfl T9 ?_
 have hE := hE.trans hx246
 have hr_va := hr_va.keep hx246
 exact .inl ⟨_, rfl, es, by unfold entriesP; rw [← hin, hs]; exact if_pos hn250, RG.ofOwn hr_va, hEn.ok, hnw, hE⟩
open Go.RowKit
abbrev entV (x : EntV) : Value := .agg (entC x).toArray
theorem intLaw : KL Tryd.prog 3 (MapKept.IsKey (.int .i64)) := KL.ofKey (by kernel_rfl)
theorem int_ok : ∀ n : Nat, True → MapKept.IsKey (.int .i64) (NI n) := fun n _ => by first | exact ⟨_, rfl⟩ | simp [MapKept.IsKey]
theorem ni_inj {a b : Nat} (h : NI a = NI b) : a = b := by injection h with _ h; exact Int.ofNat.inj h
theorem zeroEnt : ∀ u : World, (zeroValue 116).run Tryd.prog u = .ok (entV dEnt) u := fun _ => by kernel_rfl
structure IxS (α : Type) where
  ids : List Bs
  G : Nat → Option α
  M : Bs → Option α
section
variable {α : Type} (at_ : α → Nat) (d : α) (t : Bs) (es : List α)
def placeGo : Nat → Nat → Option α
  | 0 => fun _ => none
  | i + 1 => updM (placeGo i) (at_ (es.getD i d)) (some (es.getD i d))
def rowId (i : Nat) : Bs := (t.drop (36 * i)).take 32
def rowAt (i : Nat) : Nat := numP ((t.drop (36 * i)).drop 32)
def ixNext (i : Nat) (s : IxS α) (c : α) : IxS α := ⟨s.ids ++ [rowId t i], updM s.G (at_ c) none, updM s.M (rowId t i) (some c)⟩
def ixStep (i : Nat) (s : IxS α) : Option (IxS α) :=
  match s.G (rowAt t i) with
  | none => none
  | some c => if i = 0 ∨ Lib.compareBytes (s.ids.getD (i - 1) []) (rowId t i) < 0 then some (ixNext at_ t i s c) else none
def ixGo : Nat → Option (IxS α)
  | 0 => some ⟨[], placeGo at_ d es es.length, fun _ => none⟩
  | i + 1 => (ixGo i).bind (ixStep at_ t i)
variable {at_ d t es}
theorem ixGo_none {i : Nat} (h : ixGo at_ d t es i = none) : ∀ k, ixGo at_ d t es (i + k) = none
  | 0 => h
  | k + 1 => by
    show (ixGo at_ d t es (i + k)).bind _ = none
    rw [ixGo_none h k]
    rfl
theorem ixGo_step {i : Nat} {s : IxS α} (h : ixGo at_ d t es i = some s) : ixGo at_ d t es (i + 1) = ixStep at_ t i s := by
  show (ixGo at_ d t es i).bind _ = _
  rw [h]
  rfl
theorem placeGo_mem : ∀ i, i ≤ es.length → ∀ k c, placeGo at_ d es i k = some c → c ∈ es ∧ at_ c = k
  | 0, _, _, _, h => by cases h
  | i + 1, hi, k, c, h => by
    unfold placeGo updM at h
    split at h
    · rename_i hk
      cases h
      refine ⟨?_, hk.symm⟩
      rw [List.getD_eq_getElem?_getD, List.getElem?_eq_getElem (by omega)]
      exact List.getElem_mem _
    · exact placeGo_mem i (by omega) k c h
structure IxOk (t : Bs) (es : List α) (i : Nat) (s : IxS α) : Prop where
  len : s.ids.length = i
  ids : ∀ x ∈ s.ids, ∃ j, j < i ∧ x = rowId t j
  G : ∀ k c, s.G k = some c → c ∈ es
  M : ∀ k c, s.M k = some c → c ∈ es
  all : ∀ x ∈ s.ids, (s.M x).isSome = true
theorem ixGo_ok : ∀ i s, ixGo at_ d t es i = some s → IxOk t es i s
  | 0, s, h => by
    cases h
    exact ⟨rfl, (fun x hx => by cases hx), (fun k c hk => (placeGo_mem _ (Nat.le_refl _) k c hk).1), (fun k c hk => by cases hk), (fun x hx => by cases hx)⟩
  | i + 1, s, h => by
    cases h1 : ixGo at_ d t es i with
    | none => rw [ixGo_none h1 1] at h; cases h
    | some s0 =>
      have ih := ixGo_ok i s0 h1
      rw [ixGo_step h1] at h
      unfold ixStep at h
      split at h
      · cases h
      · rename_i c hc
        split at h
        · cases h
          have hcm := ih.G _ c hc
          refine ⟨?_, fun x hx => ?_, fun k c' hk => ?_, fun k c' hk => ?_, fun x hx => ?_⟩
          · show (s0.ids ++ [rowId t i]).length = i + 1
            rw [List.length_append, ih.len]
            rfl
          · rcases List.mem_append.1 hx with hx | hx
            · obtain ⟨j, hj, e⟩ := ih.ids x hx
              exact ⟨j, by omega, e⟩
            · exact ⟨i, by omega, List.mem_singleton.1 hx⟩
          · unfold ixNext updM at hk
            dsimp only at hk
            split at hk
            · cases hk
            · exact ih.G k c' hk
          · unfold ixNext updM at hk
            dsimp only at hk
            split at hk
            · cases hk; exact hcm
            · exact ih.M k c' hk
          · unfold ixNext updM
            dsimp only
            split
            · rfl
            · rename_i hne
              rcases List.mem_append.1 hx with hx | hx
              · exact ih.all x hx
              · exact absurd (List.mem_singleton.1 hx) hne
        · cases h
end
theorem rowId_len {t : Bs} {i n : Nat} (h : t.length = 36 * n) (hi : i < n) : (rowId t i).length = 32 := by
  unfold rowId
  rw [List.length_take, List.length_drop]
  omega
open Go.RowKit
set_option maxRecDepth 100000
theorem pk14_ty110 : Tryd.prog.underlying 110 = some (.slice 116) := by kernel_rfl
theorem pk14_szg116 : ∀ w' : World, (sizeOf 116).run Tryd.prog w' = .ok 35 w' := fun _ => by kernel_rfl
theorem pk14_ty116 : ∃ fs, Tryd.prog.underlying 116 = some (.struct fs) := struct_of (by kernel_rfl)
theorem pk14_isz116 : (Tryd.prog.info? 116).map (·.size) = some 35 := by kernel_rfl
theorem pk14_al116 {d : Option Tmp} {ty : TypeId} {pos : String} {af : Array Edge} {gd : Option (Nat × Bool)} (σ : Operand → Value) (w : World) : (execOp σ ⟨d, .alloc 116, ty, pos, af, gd⟩).run Tryd.prog w = .ok (.value (PQ w.heap.size 0)) (w.alloc (.cells (entC dEnt).toArray 116)) := by kernel_rfl
theorem pk14_fo116_0 : FieldOff Tryd.prog 116 0 0 := fun b o w => by simp [go_sem]
theorem pk14_ty3 : Tryd.prog.underlying 3 = some (.int .i64) := by kernel_rfl
theorem pk14_ty140 : Tryd.prog.underlying 140 = some (.map 3 116) := by kernel_rfl
theorem pk14_ty24 : Tryd.prog.underlying 24 = some (.slice 5) := by kernel_rfl
theorem pk14_sz5 : ∀ w' : World, (sizeOf 5).run Tryd.prog w' = .ok 1 w' := fun _ => by kernel_rfl
theorem pk14_pl75 : Plain Tryd.prog 75 := fun _ _ => by kernel_rfl
theorem pk14_al38 {d : Option Tmp} {ty : TypeId} {pos : String} {af : Array Edge} {gd : Option (Nat × Bool)} (σ : Operand → Value) (w : World) : (execOp σ ⟨d, .alloc 38, ty, pos, af, gd⟩).run Tryd.prog w = .ok (.value (PQ w.heap.size 0)) (w.alloc (.cells (Lib.byteCells (List.replicate 32 0)).toArray 38)) := by kernel_rfl
theorem pk14_pl62 : Plain Tryd.prog 62 := fun _ _ => by kernel_rfl
theorem pk14_pl64 : Plain Tryd.prog 64 := fun _ _ => by kernel_rfl
theorem pk14_ty38 : Tryd.prog.underlying 38 = some (.array 32 5) := by kernel_rfl
theorem pk14_lh47 (c0 c1 c2 c3 c4 c5 c6 c7 c8 c9 c10 c11 c12 c13 c14 c15 c16 c17 c18 c19 c20 c21 c22 c23 c24 c25 c26 c27 c28 c29 c30 c31 : Value) (w : World) : (Instr.buildSlice 47 1 #[(0, .agg #[c0, c1, c2, c3, c4, c5, c6, c7, c8, c9, c10, c11, c12, c13, c14, c15, c16, c17, c18, c19, c20, c21, c22, c23, c24, c25, c26, c27, c28, c29, c30, c31])]).run Tryd.prog w = .ok (.slice (some ⟨w.heap.size, 0, none⟩) 1 1) (w.alloc (.cells #[c0, c1, c2, c3, c4, c5, c6, c7, c8, c9, c10, c11, c12, c13, c14, c15, c16, c17, c18, c19, c20, c21, c22, c23, c24, c25, c26, c27, c28, c29, c30, c31] 38)) := by kernel_rfl
theorem pk14_lg47 : ∀ (cs : Array Value), cs.size = 32 → ∀ w : World, (Instr.buildSlice 47 1 #[(0, .agg cs)]).run Tryd.prog w = .ok (.slice (some ⟨w.heap.size, 0, none⟩) 1 1) (w.alloc (.cells cs 38))
 | ⟨[c0, c1, c2, c3, c4, c5, c6, c7, c8, c9, c10, c11, c12, c13, c14, c15, c16, c17, c18, c19, c20, c21, c22, c23, c24, c25, c26, c27, c28, c29, c30, c31]⟩, _, w => pk14_lh47 c0 c1 c2 c3 c4 c5 c6 c7 c8 c9 c10 c11 c12 c13 c14 c15 c16 c17 c18 c19 c20 c21 c22 c23 c24 c25 c26 c27 c28 c29 c30 c31 w
theorem pk14_ig38 : ∃ z, (Tryd.prog.info? 38).map (fun i => (i.zero, i.size, i.bytes)) = some (some z, 32, 32) ∧ z.cells.size = 32 := info_ex (by kernel_rfl)
theorem pk14_ty47 : Tryd.prog.underlying 47 = some (.slice 38) := by kernel_rfl
theorem pk14_ty112 : Tryd.prog.underlying 112 = some (.map 38 116) := by kernel_rfl
theorem pk14_szg38 : ∀ w' : World, (sizeOf 38).run Tryd.prog w' = .ok 32 w' := fun _ => by kernel_rfl
theorem pk14_isz38 : (Tryd.prog.info? 38).map (·.size) = some 32 := by kernel_rfl
theorem pk14_pl57 : Plain Tryd.prog 57 := fun _ _ => by kernel_rfl
theorem pindex_any (w : World) (v : Value) (t : Bs) (hr : RB w v t) (ve : Value) (es : List EntV) (hg : RG 35 entC w ve es) (hok : EntsOk w es) (htl : t.length = 36 * es.length) (hn : es.length ≤ 1048576) :
  Calls Tryd.prog 66 #[v, ve] w fun r w' => (∃ x, r = .returned x ∧ ∃ s vi b, ixGo (fun x : EntV => x.1.pos) dEnt t es es.length = some s ∧ x = .tuple #[vi, .map (some b)] ∧ RG 32 Lib.byteCells w' vi s.ids ∧ MapF rk entV (fun id : List UInt8 => id.length = 32) w' b s.M ∧ NewV w.heap.size vi ∧ Ext w w') ∨ ∃ ch, r = .panicked ch ∧ ixGo (fun x : EntV => x.1.pos) dEnt t es es.length = none ∧ ch = [stopE 6] ∧ Ext w w' := by
 refine gG (args := [v, ve]) Tryd.func66 rfl 83 rfl rfl ?_
 have hE := Ext.refl w
 refine gS (Yk.mkMap NI entV (fun _ : Nat => True) fun n3 w4 hn5 hb6 hx7 hs8 => ?_)
 have hl9 : n3 < w4.heap.size := by omega
 have hE := hE.trans hx7
 refine gS (Yk.lenRG pk14_ty110 (RG.of (hg.keep hE) rfl) (gL (fun (ρ : Slots) (wz : World) => ∃ m : Nat, ρ 0 = (v : Value) ∧ ρ 1 = (ve : Value) ∧ ρ 4 = ((Value.slice none 0 0) : Value) ∧ ρ 5 = ((Value.map none) : Value) ∧ ρ 6 = (.map (some n3) : Value) ∧ ρ 19 = (ve : Value) ∧ ρ 20 = (NI es.length : Value) ∧ ρ 21 = (NI m : Value) ∧ Ext w wz ∧ MapF NI entV (fun _ : Nat => True) wz n3 (placeGo (fun x : EntV => x.1.pos) dEnt es m) ∧ (m ≤ es.length) ∧ True) (fun ρ _ => es.length - (intOf (ρ 21)).toNat) ⟨0, rfl, rfl, rfl, rfl, rfl, rfl, rfl, rfl, hE, map_eq hb6 (rfl), Nat.zero_le _, trivial⟩ ?_))
 clear hb6
 clear hE
 rintro ρ12 w13 ⟨m, T0, T1, T4, T5, T6, T19, T20, T21, hE, hb6l, hm, -⟩
 have q21 := T21
 refine gS (Yk.eqI (a := (m : Nat)) (b := (es.length : Nat)) T21 T20 (k_lss _ _ _ _) ?_)
 refine cD rfl (fun hc0 => ?_) fun hc0 => ?_
 ·have hmi := getD_mem dEnt (l := es) (i := m) hc0
  have hel := hok _ hmi
  have hl20 : (entC (es.getD (m) dEnt)).length = 35 := (RG.elem (hg.keep hE) dEnt (by omega))
  refine gS (Yk.atRG pk14_ty110 pk14_szg116 (by decide) dEnt (RG.of (hg.keep hE) T19) T21 (by omega) fun v18 hp19 => (gS (Yk.loadPR (PR.of hp19 rfl) (pk14_ty116).choose_spec rfl (by rw [hl20]; exact pk14_isz116) (gS (Yk.alloc pk14_al116 fun n21 w22 hn23 hb24 hx25 hs26 => ?_)))))
  have hA27 := Ext.refl w13
  have hz29 := hE.size
  have hlt30 := lte hb6l.lt hn23
  have hb31 := hb24; clear hb24
  have hl32 : n21 < w22.heap.size := by omega
  refine gS (Yk.storeAll (vr (PQ n21 0) rfl) (vr (.agg (entC (es.getD (m) dEnt)).toArray) rfl) hb31 (entC_size (x := ((es.getD (m) dEnt) : EntV)) (y := (dEnt : EntV)) hel.2 (by simp [dEnt])) (entC_isz (x := ((es.getD (m) dEnt) : EntV)) pk14_isz116 hel.2) (entC_one (x := ((es.getD (m) dEnt) : EntV)) (RB.one hel.1).2) fun w33 hb34 hg35 hs36 => ?_)
  have hb6l := hb6l.keep hx25
  have hb6l := MapF.other hb6l hg35 (some_ne (by omega))
  clear hb31
  have hb31 := hb34; clear hb34
  have hl37 := bl hb31
  clear hp19
  refine gS (Yk.fieldAt pk14_fo116_0 rfl (gS (Yk.cell1 pk14_ty3 rfl rfl (cellAt hb31 ((show (entC ((es.getD (m) dEnt)))[0]? = some (NI (((es.getD (m) dEnt)).1.pos) : Value) from rfl))) (gS (Yk.loadAll rfl hb31 (pk14_ty116).choose_spec rfl (entC_isz (x := ((es.getD (m) dEnt) : EntV)) pk14_isz116 hel.2) ?_)))))
  have hA27 := hA27.trans hx25
  have hA27 := row_fresh hA27 hg35 (Nat.le_trans (Nat.le_refl _) (by omega))
  have hE := hE.trans hA27
  refine gS (Yk.putM (ek := NI) (ev := entV) (D := (fun _ : Nat => True)) (c := ((es.getD (m) dEnt))) intLaw int_ok pk14_ty140 T6 (vr (NI (((es.getD (m) dEnt)).1.pos)) rfl) (vr (.agg (entC ((es.getD (m) dEnt))).toArray) rfl) hb6l trivial fun w38 hb39 hg40 hs41 => ?_)
  clear hb6l
  have hl42 : n3 < w38.heap.size := hb39.lt
  have hE := row_fresh hE hg40 (Nat.le_trans (Nat.le_refl _) (by omega))
  refine gS (Yk.bin (xv := NI m) (yv := NI 1) T21 rfl rfl (i64_add _ _ _ (by omega)) (gK (And.intro ⟨m + 1, T0, T1, T4, T5, T6, T19, T20, rfl, hE, map_eq hb39 (rfl), by omega, trivial⟩ ?_)))
  show es.length - (intOf (NI ((m) + (1)))).toNat < es.length - (intOf (ρ12 21)).toNat
  rw [q21]
  simp only [intOf, Int.toNat_natCast]; omega
 have hie : m = es.length := by omega
 have hids0 : OG w.heap.size 38 32 Lib.byteCells w13 (Value.slice none 0 0) ([] : List Bs) := OG.nil _ _ _ _ _
 have hap44 : Value.ownBlock (Value.slice none 0 0) ≠ some n3 := fun h => by cases h
 refine gS (Yk.mkMap rk entV (fun id : List UInt8 => id.length = 32) fun n46 w47 hn48 hb49 hx50 hs51 => ?_)
 have hz54 := hE.size
 have hlt55 := lte hb6l.lt hn48
 have hap56 : Value.ownBlock (Value.slice none 0 0) ≠ some n46 := own_newer hids0.2 (by omega)
 have hl57 : n46 < w47.heap.size := by omega
 have hE := hE.trans hx50
 have hb6l := hb6l.keep hx50
 have hids0 := hids0.keep hx50
 refine gS (Yk.lenRG pk14_ty110 (RG.of (hg.keep hE) T1) (gL (fun (ρ : Slots) (wz : World) => ∃ i : Nat, ∃ s : IxS EntV, ∃ vi : Value, ρ 0 = (v : Value) ∧ ρ 1 = (ve : Value) ∧ ρ 4 = ((Value.slice none 0 0) : Value) ∧ ρ 5 = ((Value.map none) : Value) ∧ ρ 6 = (.map (some n3) : Value) ∧ ρ 10 = (.map (some n46) : Value) ∧ ρ 19 = (ve : Value) ∧ ρ 20 = (NI es.length : Value) ∧ ρ 21 = (NI m : Value) ∧ ρ 32 = (NI es.length : Value) ∧ ρ 33 = (NI i : Value) ∧ ρ 9 = (vi : Value) ∧ Ext w wz ∧ OG w.heap.size 38 32 (Lib.byteCells) wz vi (s.ids) ∧ MapF NI entV (fun _ : Nat => True) wz n3 (s.G) ∧ MapF rk entV (fun id : List UInt8 => id.length = 32) wz n46 (s.M) ∧ (ixGo (fun x : EntV => x.1.pos) dEnt t es i = some s) ∧ (i ≤ es.length) ∧ (OB vi n3) ∧ (OB vi n46) ∧ True) (fun ρ _ => es.length - (intOf (ρ 33)).toNat) ⟨0, ⟨[], placeGo (fun x : EntV => x.1.pos) dEnt es es.length, fun _ => none⟩, (Value.slice none 0 0), T0, T1, T4, T5, T6, rfl, T19, T20, T21, rfl, rfl, rfl, hE, og_eq hids0 (rfl), map_eq hb6l (by rw [hie]), map_eq hb49 (rfl), rfl, Nat.zero_le _, hap44, hap56, trivial⟩ ?_))
 clear hb6l
 clear hids0
 clear hb49
 clear hE
 rintro ρ60 w61 ⟨i, s, vi, T0, T1, T4, T5, T6, T10, T19, T20, T21, T32, T33, T9, hE, hr_vi, hb6ll, hb49l, hs, hi, hap_vi_n3, hap_vi_n46, -⟩
 have q33 := T33
 refine gS (Yk.eqI (a := (i : Nat)) (b := (es.length : Nat)) T33 T32 (k_lss _ _ _ _) ?_)
 refine cD rfl (fun hc1 => ?_) fun hc1 => ?_
 ·have hil : i < es.length := hc1
  have hI := ixGo_ok i s hs
  have hIl := hI.len
  have hst := ixGo_step hs
  have h32 := rowId_len htl hil
  refine gS (Yk.bin (xv := NI 36) (yv := NI i) rfl T33 rfl (i64_mul _ _ _ (by omega)) (gS (Yk.sliceLo (xs := t) (l := (36) * (i)) pk14_ty24 pk14_sz5 T0 (hr.keep hE) rfl (by omega) fun v67 hr68 ha69 => (gS (Yk.callA2 pk14_pl75 rfl rfl ?_)))))
  refine ((show Calls _ _ _ _ (fun e w2 => e = .returned (.tuple #[AB (rowId t i), NI 32, NI 0]) ∧ Ext _ w2) from (getId_in _ v67 (t.drop ((36) * (i))) hr68 0 (Nat.zero_le _)).mono fun e w2 ⟨h1, h2⟩ => by subst h1; refine ⟨?_, h2⟩; unfold getIdRes rowId; rw [if_neg (by simp only [List.length_drop]; omega), List.drop_zero]; rfl)).mono ?_
  rintro e w72 ⟨rfl, hx71⟩
  refine ⟨_, rfl, ?_⟩
  refine gS (Yk.extract (vs := [AB (rowId t i), NI 32, NI 0]) rfl rfl (gS (Yk.extract (vs := [AB (rowId t i), NI 32, NI 0]) rfl rfl (gS (Yk.extract (vs := [AB (rowId t i), NI 32, NI 0]) rfl rfl (gS (Yk.alloc pk14_al38 fun n73 w74 hn75 hb76 hx77 hs78 => ?_)))))))
  have hA79 := Ext.refl w72
  have hE := hE.trans hx71
  have hz81 := hE.size
  have hb6ll := hb6ll.keep hx71
  have hlt82 := lte hb6ll.lt hn75
  have hb49l := hb49l.keep hx71
  have hlt83 := lte hb49l.lt hn75
  have hr_vi := hr_vi.keep hx71
  have hap84 : OB vi n73 := own_newer hr_vi.2 (by omega)
  have hb85 := hb76; clear hb76
  have hl86 : n73 < w74.heap.size := by omega
  refine gS (Yk.storeAll (vr (PQ n73 0) rfl) (vr (AB (rowId t i)) rfl) hb85 (by exact idsize h32 List.length_replicate) (by exact sizeId_of h32) (byteCells_one _) fun w87 hb88 hg89 hs90 => ?_)
  have hb6ll := hb6ll.keep hx77
  have hb6ll := MapF.other hb6ll hg89 (some_ne (by omega))
  have hb49l := hb49l.keep hx77
  have hb49l := MapF.other hb49l hg89 (some_ne (by omega))
  clear hb85
  have hb85 := hb88; clear hb88
  have hl91 := bl hb85
  rcases hG : s.G (rowAt t i) with _ | c
  ·have hO : ixStep (fun x : EntV => x.1.pos) t i s = none := by unfold ixStep; rw [hG]
   have hr68 := hr68.keep hx71
   have hA79 := hA79.trans hx77
   have hA79 := row_fresh hA79 hg89 (Nat.le_trans (Nat.le_refl _) (by omega))
   refine gS (Yk.sliceLo (xs := t.drop ((36) * (i))) (l := 32) pk14_ty24 pk14_sz5 rfl (hr68.keep hA79) rfl (by simp only [List.length_drop]; omega) fun v93 hr94 ha95 => (gS (Yk.callA1 pk14_pl62 rfl (((show Calls _ _ _ _ (fun e w2 => e = .returned (NI (rowAt t i)) ∧ Ext _ w2) from number_any_ _ v93 ((t.drop ((36) * (i)) : List UInt8).drop (32)) hr94 (by simp only [List.length_drop]; omega))).mono ?_))))
   rintro e w97 ⟨rfl, hx96⟩
   refine ⟨_, rfl, ?_⟩
   have hE := hE.trans hx77
   have hE := row_fresh hE hg89 (Nat.le_trans hz81 (by omega))
   have hE := hE.trans hx96
   have hb6ll := hb6ll.keep hx96
   refine gS (Yk.lookOkN (ek := NI) (ev := entV) (D := (fun _ : Nat => True)) intLaw int_ok (fun _ _ => ni_inj) pk14_ty140 (z := entV dEnt) zeroEnt T6 rfl hb6ll trivial hG (gS (Yk.extract (vs := [.agg (entC (dEnt)).toArray, .bool (false)]) rfl rfl (gS (Yk.extract (vs := [.agg (entC (dEnt)).toArray, .bool (false)]) rfl rfl (gS (Yk.alloc pk14_al116 fun n98 w99 hn100 hb101 hx102 hs103 => ?_)))))))
   have hA104 := Ext.refl w97
   have hA79 := hA79.trans hx96
   have hz107 := hE.size
   have hz108 := hA79.size
   have hlt109 := lte hb6ll.lt hn100
   have hb49l := hb49l.keep hx96
   have hlt110 := lte hb49l.lt hn100
   have hb113 := hb101; clear hb101
   have hl114 : n98 < w99.heap.size := by omega
   refine gS (Yk.storeAll (vr (PQ n98 0) rfl) (vr (.agg (entC (dEnt)).toArray) rfl) hb113 (entC_size (x := ((dEnt) : EntV)) (y := (dEnt : EntV)) (by simp [dEnt]) (by simp [dEnt])) (entC_isz (x := ((dEnt) : EntV)) pk14_isz116 (by simp [dEnt])) (entC_one (x := ((dEnt) : EntV)) rfl) fun w115 hb116 hg117 hs118 => ?_)
   have hb6ll := hb6ll.keep hx102
   have hb6ll := MapF.other hb6ll hg117 (some_ne (by omega))
   have hb49l := hb49l.keep hx102
   have hb49l := MapF.other hb49l hg117 (some_ne (by omega))
   clear hb113
   have hb113 := hb116; clear hb116
   have hl119 := bl hb113
   refine gM0 [0, 1, 2, 3, 4, 5, 6, 7, 8, 9, 10, 11, 12, 13, 14, 15] [11, 15] [] fun w121 hx122 => (ys (Yk.pickF rfl rfl zz) (yCp (Yp.callA2 pk14_pl64 rfl rfl ?_)))
   refine calls_either (need_any _ (false) 6) ?_ ?_
   rotate_left
   ·rintro ch w125 ⟨rfl, hb, hx⟩
    refine postP_panic ?_
    rw [hO] at hst
    have hE1 := ixGo_none hst (es.length - (i + 1))
    rw [show i + 1 + (es.length - (i + 1)) = es.length by omega] at hE1
    have hA104 := hA104.trans hx102
    have hA104 := row_fresh hA104 hg117 (Nat.le_trans (Nat.le_refl _) (by omega))
    have hA104 := hA104.trans hx122
    have hE := hE.trans hA104
    exact .inr ⟨_, rfl, hE1, rfl, hE.trans hx⟩
   rintro v_ w127 ⟨rfl, hb123, hx124⟩
   cases hb123
  have hcm := hI.G _ c hG
  have hcl := hok _ hcm
  by_cases h0 : i = 0
  ·have hO : ixStep (fun x : EntV => x.1.pos) t i s = some (ixNext (fun x : EntV => x.1.pos) t i s c) := by unfold ixStep; rw [hG]; exact if_pos (.inl h0)
   rw [hO] at hst
   have hr68 := hr68.keep hx71
   have hA79 := hA79.trans hx77
   have hA79 := row_fresh hA79 hg89 (Nat.le_trans (Nat.le_refl _) (by omega))
   refine gS (Yk.sliceLo (xs := t.drop ((36) * (i))) (l := 32) pk14_ty24 pk14_sz5 rfl (hr68.keep hA79) rfl (by simp only [List.length_drop]; omega) fun v129 hr130 ha131 => (gS (Yk.callA1 pk14_pl62 rfl (((show Calls _ _ _ _ (fun e w2 => e = .returned (NI (rowAt t i)) ∧ Ext _ w2) from number_any_ _ v129 ((t.drop ((36) * (i)) : List UInt8).drop (32)) hr130 (by simp only [List.length_drop]; omega))).mono ?_))))
   rintro e w133 ⟨rfl, hx132⟩
   refine ⟨_, rfl, ?_⟩
   have hE := hE.trans hx77
   have hE := row_fresh hE hg89 (Nat.le_trans hz81 (by omega))
   have hE := hE.trans hx132
   have hb6ll := hb6ll.keep hx132
   refine gS (Yk.lookOkS (ek := NI) (ev := entV) (D := (fun _ : Nat => True)) intLaw int_ok (fun _ _ => ni_inj) pk14_ty140 (z := entV dEnt) zeroEnt T6 rfl hb6ll trivial hG (gS (Yk.extract (vs := [.agg (entC (c)).toArray, .bool (true)]) rfl rfl (gS (Yk.extract (vs := [.agg (entC (c)).toArray, .bool (true)]) rfl rfl (gS (Yk.alloc pk14_al116 fun n134 w135 hn136 hb137 hx138 hs139 => ?_)))))))
   have hA140 := Ext.refl w133
   have hA79 := hA79.trans hx132
   have hz143 := hE.size
   have hz144 := hA79.size
   have hlt145 := lte hb6ll.lt hn136
   have hb49l := hb49l.keep hx132
   have hlt146 := lte hb49l.lt hn136
   have hr_vi := hr_vi.keep hx77
   have hr_vi := OG.kept hr_vi hg89 hap84
   have hr_vi := hr_vi.keep hx132
   have hap148 : OB vi n134 := own_newer hr_vi.2 (by omega)
   have hb149 := hb137; clear hb137
   have hl150 : n134 < w135.heap.size := by omega
   refine gS (Yk.storeAll (vr (PQ n134 0) rfl) (vr (.agg (entC (c)).toArray) rfl) hb149 (entC_size (x := ((c) : EntV)) (y := (dEnt : EntV)) hcl.2 (by simp [dEnt])) (entC_isz (x := ((c) : EntV)) pk14_isz116 hcl.2) (entC_one (x := ((c) : EntV)) (RB.one hcl.1).2) fun w151 hb152 hg153 hs154 => ?_)
   have hb6ll := hb6ll.keep hx138
   have hb6ll := MapF.other hb6ll hg153 (some_ne (by omega))
   have hb49l := hb49l.keep hx138
   have hb49l := MapF.other hb49l hg153 (some_ne (by omega))
   clear hb149
   have hb149 := hb152; clear hb152
   have hl155 := bl hb149
   refine gM0 [0, 1, 2, 3, 4, 5, 6, 7, 8, 9, 10, 11, 12, 13, 14, 15] [11, 15] [] fun w157 hx158 => (ys (Yk.eqI (a := (i : Nat)) (b := (0 : Nat)) T33 rfl (k_eql _ _ _ _) zz) (kT (h0) (ys (Yk.pickT rfl rfl zz) (ys (Yk.pickT rfl rfl zz) (yCp (Yp.callA2 pk14_pl64 rfl rfl ?_))))))
   refine calls_either (need_any _ (true) 6) ?_ ?_
   rotate_left
   ·rintro ch w161 ⟨rfl, hb, hx⟩
    refine postP_panic ?_
    cases hb
   rintro v_ w163 ⟨rfl, hb159, hx160⟩
   have hZ1 := hx158.trans hx160
   have hb6ll := hb6ll.keep hZ1
   have hb149 := eb hZ1 hb149
   refine gS (Yk.fieldAt pk14_fo116_0 rfl (gS (Yk.cell1 pk14_ty3 rfl rfl (cellAt hb149 ((show (entC ((c)))[0]? = some (NI (((c)).1.pos) : Value) from rfl))) ?_)))
   have hA140 := hA140.trans hx138
   have hA140 := row_fresh hA140 hg153 (Nat.le_trans (Nat.le_refl _) (by omega))
   have hA140 := hA140.trans hZ1
   have hE := hE.trans hA140
   have hA79 := hA79.trans hx138
   have hA79 := row_fresh hA79 hg153 (Nat.le_trans hz144 (by omega))
   have hA79 := hA79.trans hZ1
   refine gS (Yk.delM (ek := NI) (ev := entV) (D := (fun _ : Nat => True)) intLaw int_ok (fun _ _ => ni_inj) pk14_ty140 T6 rfl hb6ll trivial fun w165 hb166 hg167 hs168 => ?_)
   have hb49l := hb49l.keep hZ1
   have hb49l := MapF.other hb49l hg167 (some_ne (by omega))
   clear hb6ll
   have hl169 : n3 < w165.heap.size := hb166.lt
   refine gM1 [0, 1, 2, 3, 6, 4, 5, 7, 8] [4, 5, 7, 8] [] [1, 6] fun w170 hx171 => ?_
   have hb85 := eb hx132 hb85
   have hlt147 := lte (bl hb85) hn136
   have hb85 := eb hx138 hb85
   have hb85 := kb hg153 hb85 (by omega)
   have hb85 := eb hZ1 hb85
   have hb85 := kb hg167 hb85 (by omega)
   have hb85 := eb hx171 hb85
   have hb149 := kb hg167 hb149 (by omega)
   have hb149 := eb hx171 hb149
   refine mb2 hb85 hb149 ?_
   refine yf (fun _ ⟨hb85, _, _⟩ => Yk.loadAll rfl hb85 pk14_ty38 rfl (by exact sizeId_of h32) zz) (ys (Yk.loadAll rfl hb85 pk14_ty38 rfl (by exact sizeId_of h32) zz) (yf (fun _ ⟨_, hb149, _⟩ => Yk.loadAll rfl hb149 (pk14_ty116).choose_spec rfl (entC_isz (x := ((c) : EntV)) pk14_isz116 hcl.2) zz) (yI (Yk.lit1G (a := (rowId t i)) (enc := Lib.byteCells) (vr (AB (rowId t i)) rfl) (by rw [Lib.byteCells_length]; exact h32) pk14_lg47 fun v172 w173 hr174 hx175 => ?_))))
   have hr_vi := hr_vi.keep hx138
   have hr_vi := OG.kept hr_vi hg153 hap148
   have hr_vi := hr_vi.keep hZ1
   have hr_vi := OG.kept hr_vi hg167 hap_vi_n3
   have hZ2 := hx171.trans hx175
   have hr_vi := hr_vi.keep hZ2
   have hE := row_fresh hE hg167 (Nat.le_trans (Nat.le_refl _) (by omega))
   have hE := hE.trans hZ2
   have hb85 := eb hx175 hb85
   have hb149 := eb hx175 hb149
   refine ⟨⟨hb85, hb149, trivial⟩, ?_⟩
   refine yI (Yk.appendRG _ _ w.heap.size _ 32 pk14_ty47 pk14_ig38.choose_spec.1 pk14_ig38.choose_spec.2 pk14_ty47 (s.ids) ([(rowId t i)]) (OG.of hr_vi T9) (RG.of hr174 (vr v172 rfl)) (fun _ _ => byteCells_one _) (by simp only [List.length_cons, List.length_nil]; omega) (by simp only [List.length_cons, List.length_nil]; omega) hE.size fun v176 w177 ho178 hg179 => ?_)
   have hg179 : Grew w173 w177 vi v176 := .eqv T9 hg179
   have hb166 := hb166.keep hZ2
   have hap180 : OB v176 n3 := apart_grew hg179 hap_vi_n3 hb166.lt
   have hb49l := hb49l.keep hZ2
   have hap181 : OB v176 n46 := apart_grew hg179 hap_vi_n46 hb49l.lt
   have hE := ext_grew hE hg179 hr_vi.2 (Nat.le_refl _)
   have hb49l := MapF.grew hb49l hg179 hap_vi_n46
   have hb85 := blk_grew hb85 hg179 hap84
   have hb149 := blk_grew hb149 hg179 hap148
   have hb166 := MapF.grew hb166 hg179 hap_vi_n3
   clear hr174
   clear hr_vi
   refine ⟨⟨hb85, hb149, trivial⟩, ?_⟩
   refine yI (Yk.assign rfl ?_)
   refine ⟨⟨hb85, hb149, trivial⟩, ?_⟩
   refine yD rfl (Yk.putM (ek := rk) (ev := entV) (D := (fun id : List UInt8 => id.length = 32)) (c := ((c))) idLaw id_ok pk14_ty112 T10 (vr (AB (rowId t i)) rfl) (vr (.agg (entC ((c))).toArray) rfl) hb49l h32 fun w184 hb185 hg186 hs187 => ?_)
   have hb166 := MapF.other hb166 hg186 (some_ne (by omega))
   clear hb49l
   have hl188 : n46 < w184.heap.size := hb185.lt
   have hE := row_fresh hE hg186 (Nat.le_trans hz54 (by omega))
   have ho178 := OG.kept ho178 hg186 hap181
   refine gS (Yk.bin (xv := NI i) (yv := NI 1) T33 rfl rfl (i64_add _ _ _ (by omega)) (gK (And.intro ⟨i + 1, ixNext (fun x : EntV => x.1.pos) t i s c, v176, T0, T1, T4, T5, T6, T10, T19, T20, T21, T32, rfl, rfl, hE, og_eq ho178 (rfl), map_eq hb166 (rfl), map_eq hb185 (rfl), hst, by omega, hap180, hap181, trivial⟩ ?_)))
   show es.length - (intOf (NI ((i) + (1)))).toNat < es.length - (intOf (ρ60 33)).toNat
   rw [q33]
   simp only [intOf, Int.toNat_natCast]; omega
  by_cases hlt : Lib.compareBytes (s.ids.getD (i - 1) []) (rowId t i) < 0
  ·have hO : ixStep (fun x : EntV => x.1.pos) t i s = some (ixNext (fun x : EntV => x.1.pos) t i s c) := by unfold ixStep; rw [hG]; exact if_pos (.inr hlt)
   rw [hO] at hst
   have hr68 := hr68.keep hx71
   have hA79 := hA79.trans hx77
   have hA79 := row_fresh hA79 hg89 (Nat.le_trans (Nat.le_refl _) (by omega))
   refine gS (Yk.sliceLo (xs := t.drop ((36) * (i))) (l := 32) pk14_ty24 pk14_sz5 rfl (hr68.keep hA79) rfl (by simp only [List.length_drop]; omega) fun v190 hr191 ha192 => (gS (Yk.callA1 pk14_pl62 rfl (((show Calls _ _ _ _ (fun e w2 => e = .returned (NI (rowAt t i)) ∧ Ext _ w2) from number_any_ _ v190 ((t.drop ((36) * (i)) : List UInt8).drop (32)) hr191 (by simp only [List.length_drop]; omega))).mono ?_))))
   rintro e w194 ⟨rfl, hx193⟩
   refine ⟨_, rfl, ?_⟩
   have hE := hE.trans hx77
   have hE := row_fresh hE hg89 (Nat.le_trans hz81 (by omega))
   have hE := hE.trans hx193
   have hb6ll := hb6ll.keep hx193
   refine gS (Yk.lookOkS (ek := NI) (ev := entV) (D := (fun _ : Nat => True)) intLaw int_ok (fun _ _ => ni_inj) pk14_ty140 (z := entV dEnt) zeroEnt T6 rfl hb6ll trivial hG (gS (Yk.extract (vs := [.agg (entC (c)).toArray, .bool (true)]) rfl rfl (gS (Yk.extract (vs := [.agg (entC (c)).toArray, .bool (true)]) rfl rfl (gS (Yk.alloc pk14_al116 fun n195 w196 hn197 hb198 hx199 hs200 => ?_)))))))
   have hA201 := Ext.refl w194
   have hA79 := hA79.trans hx193
   have hz204 := hE.size
   have hz205 := hA79.size
   have hlt206 := lte hb6ll.lt hn197
   have hb49l := hb49l.keep hx193
   have hlt207 := lte hb49l.lt hn197
   have hr_vi := hr_vi.keep hx77
   have hr_vi := OG.kept hr_vi hg89 hap84
   have hr_vi := hr_vi.keep hx193
   have hap209 : OB vi n195 := own_newer hr_vi.2 (by omega)
   have hb210 := hb198; clear hb198
   have hl211 : n195 < w196.heap.size := by omega
   refine gS (Yk.storeAll (vr (PQ n195 0) rfl) (vr (.agg (entC (c)).toArray) rfl) hb210 (entC_size (x := ((c) : EntV)) (y := (dEnt : EntV)) hcl.2 (by simp [dEnt])) (entC_isz (x := ((c) : EntV)) pk14_isz116 hcl.2) (entC_one (x := ((c) : EntV)) (RB.one hcl.1).2) fun w212 hb213 hg214 hs215 => ?_)
   have hb6ll := hb6ll.keep hx199
   have hb6ll := MapF.other hb6ll hg214 (some_ne (by omega))
   have hb49l := hb49l.keep hx199
   have hb49l := MapF.other hb49l hg214 (some_ne (by omega))
   clear hb210
   have hb210 := hb213; clear hb213
   have hl216 := bl hb210
   refine gM0 [0, 1, 2, 3, 4, 5, 6, 7, 8, 9, 10, 11, 12, 13, 14, 15] [11, 15] [] fun w218 hx219 => (ys (Yk.eqI (a := (i : Nat)) (b := (0 : Nat)) T33 rfl (k_eql _ _ _ _) zz) (kF (h0) (ys (Yk.bin (xv := NI i) (yv := NI 1) T33 rfl rfl (i64_sub _ _ _ (by omega) (by omega)) zz) ?_)))
   have hr_vi := hr_vi.keep hx199
   have hr_vi := OG.kept hr_vi hg214 hap209
   have hr_vi := hr_vi.keep hx219
   have hl222 : (Lib.byteCells ((s.ids).getD ((i) - (1)) ([] : List UInt8))).length = 32 := (RG.elem (RG.ofOwn hr_vi) ([] : List UInt8) (by omega))
   have hA201 := hA201.trans hx199
   have hA201 := row_fresh hA201 hg214 (Nat.le_trans (Nat.le_refl _) (by omega))
   have hA201 := hA201.trans hx219
   have hb85 := eb (hx193.trans hA201) hb85
   refine yA (Yk.atRG pk14_ty47 pk14_szg38 (by decide) ([] : List UInt8) (RG.of (RG.ofOwn hr_vi) T9) rfl (by omega) fun v220 hp221 => (ys (Yk.loadPR (PR.of hp221 rfl) pk14_ty38 rfl (by rw [hl222]; exact pk14_isz38) zz) (ys (Yk.loadAll rfl hb85 pk14_ty38 rfl (by exact sizeId_of h32) zz) (yC (Yk.callA2 pk14_pl57 rfl rfl ((compare_any _ ((s.ids).getD ((i) - (1)) ([] : List UInt8)) (rowId t i) ((bytes_len32 (hl222))) (h32)).mono ?_))))))
   rintro e w224 ⟨rfl, hx223⟩
   refine ⟨_, rfl, ?_⟩
   have hp221 := PR.keep hp221 hx223
   refine ys (Yk.eqI rfl rfl (z_lss _ .i64 (Lib.compareBytes ((s.ids).getD ((i) - (1)) ([] : List UInt8)) (rowId t i) : Int) ((0 : Nat) : Int)) zz) (kT (hlt) (ys (Yk.pickF rfl rfl zz) (ys (Yk.pickT rfl rfl zz) (yCp (Yp.callA2 pk14_pl64 rfl rfl ?_)))))
   refine calls_either (need_any _ (true) 6) ?_ ?_
   rotate_left
   ·rintro ch w227 ⟨rfl, hb, hx⟩
    refine postP_panic ?_
    cases hb
   rintro v_ w229 ⟨rfl, hb225, hx226⟩
   have hp221 := PR.keep hp221 hx226
   clear hp221
   have hZ3 := (hx219.trans hx223).trans hx226
   have hb6ll := hb6ll.keep hZ3
   have hb210 := eb hZ3 hb210
   refine gS (Yk.fieldAt pk14_fo116_0 rfl (gS (Yk.cell1 pk14_ty3 rfl rfl (cellAt hb210 ((show (entC ((c)))[0]? = some (NI (((c)).1.pos) : Value) from rfl))) ?_)))
   have hZ4 := hx223.trans hx226
   have hA201 := hA201.trans hZ4
   have hE := hE.trans hA201
   have hA79 := hA79.trans hx199
   have hA79 := row_fresh hA79 hg214 (Nat.le_trans hz205 (by omega))
   have hA79 := hA79.trans hZ3
   refine gS (Yk.delM (ek := NI) (ev := entV) (D := (fun _ : Nat => True)) intLaw int_ok (fun _ _ => ni_inj) pk14_ty140 T6 rfl hb6ll trivial fun w231 hb232 hg233 hs234 => ?_)
   have hb49l := hb49l.keep hZ3
   have hb49l := MapF.other hb49l hg233 (some_ne (by omega))
   clear hb6ll
   have hl235 : n3 < w231.heap.size := hb232.lt
   refine gM1 [0, 1, 2, 3, 6, 4, 5, 7, 8] [4, 5, 7, 8] [] [1, 6] fun w236 hx237 => ?_
   have hb85 := eb hZ4 hb85
   have hb85 := kb hg233 hb85 (by omega)
   have hb85 := eb hx237 hb85
   have hb210 := kb hg233 hb210 (by omega)
   have hb210 := eb hx237 hb210
   refine mb2 hb85 hb210 ?_
   refine yf (fun _ ⟨hb85, _, _⟩ => Yk.loadAll rfl hb85 pk14_ty38 rfl (by exact sizeId_of h32) zz) (ys (Yk.loadAll rfl hb85 pk14_ty38 rfl (by exact sizeId_of h32) zz) (yf (fun _ ⟨_, hb210, _⟩ => Yk.loadAll rfl hb210 (pk14_ty116).choose_spec rfl (entC_isz (x := ((c) : EntV)) pk14_isz116 hcl.2) zz) (yI (Yk.lit1G (a := (rowId t i)) (enc := Lib.byteCells) (vr (AB (rowId t i)) rfl) (by rw [Lib.byteCells_length]; exact h32) pk14_lg47 fun v238 w239 hr240 hx241 => ?_))))
   have hr_vi := hr_vi.keep hZ4
   have hr_vi := OG.kept hr_vi hg233 hap_vi_n3
   have hZ5 := hx237.trans hx241
   have hr_vi := hr_vi.keep hZ5
   have hE := row_fresh hE hg233 (Nat.le_trans (Nat.le_refl _) (by omega))
   have hE := hE.trans hZ5
   have hb85 := eb hx241 hb85
   have hb210 := eb hx241 hb210
   refine ⟨⟨hb85, hb210, trivial⟩, ?_⟩
   refine yI (Yk.appendRG _ _ w.heap.size _ 32 pk14_ty47 pk14_ig38.choose_spec.1 pk14_ig38.choose_spec.2 pk14_ty47 (s.ids) ([(rowId t i)]) (OG.of hr_vi T9) (RG.of hr240 (vr v238 rfl)) (fun _ _ => byteCells_one _) (by simp only [List.length_cons, List.length_nil]; omega) (by simp only [List.length_cons, List.length_nil]; omega) hE.size fun v242 w243 ho244 hg245 => ?_)
   have hg245 : Grew w239 w243 vi v242 := .eqv T9 hg245
   have hb232 := hb232.keep hZ5
   have hap246 : OB v242 n3 := apart_grew hg245 hap_vi_n3 hb232.lt
   have hb49l := hb49l.keep hZ5
   have hap247 : OB v242 n46 := apart_grew hg245 hap_vi_n46 hb49l.lt
   have hE := ext_grew hE hg245 hr_vi.2 (Nat.le_refl _)
   have hb49l := MapF.grew hb49l hg245 hap_vi_n46
   have hb85 := blk_grew hb85 hg245 hap84
   have hb210 := blk_grew hb210 hg245 hap209
   have hb232 := MapF.grew hb232 hg245 hap_vi_n3
   clear hr240
   clear hr_vi
   refine ⟨⟨hb85, hb210, trivial⟩, ?_⟩
   refine yI (Yk.assign rfl ?_)
   refine ⟨⟨hb85, hb210, trivial⟩, ?_⟩
   refine yD rfl (Yk.putM (ek := rk) (ev := entV) (D := (fun id : List UInt8 => id.length = 32)) (c := ((c))) idLaw id_ok pk14_ty112 T10 (vr (AB (rowId t i)) rfl) (vr (.agg (entC ((c))).toArray) rfl) hb49l h32 fun w250 hb251 hg252 hs253 => ?_)
   have hb232 := MapF.other hb232 hg252 (some_ne (by omega))
   clear hb49l
   have hl254 : n46 < w250.heap.size := hb251.lt
   have hE := row_fresh hE hg252 (Nat.le_trans hz54 (by omega))
   have ho244 := OG.kept ho244 hg252 hap247
   refine gS (Yk.bin (xv := NI i) (yv := NI 1) T33 rfl rfl (i64_add _ _ _ (by omega)) (gK (And.intro ⟨i + 1, ixNext (fun x : EntV => x.1.pos) t i s c, v242, T0, T1, T4, T5, T6, T10, T19, T20, T21, T32, rfl, rfl, hE, og_eq ho244 (rfl), map_eq hb232 (rfl), map_eq hb251 (rfl), hst, by omega, hap246, hap247, trivial⟩ ?_)))
   show es.length - (intOf (NI ((i) + (1)))).toNat < es.length - (intOf (ρ60 33)).toNat
   rw [q33]
   simp only [intOf, Int.toNat_natCast]; omega
  have hO : ixStep (fun x : EntV => x.1.pos) t i s = none := by unfold ixStep; rw [hG]; exact if_neg (fun h => h.elim h0 hlt)
  have hr68 := hr68.keep hx71
  have hA79 := hA79.trans hx77
  have hA79 := row_fresh hA79 hg89 (Nat.le_trans (Nat.le_refl _) (by omega))
  refine gS (Yk.sliceLo (xs := t.drop ((36) * (i))) (l := 32) pk14_ty24 pk14_sz5 rfl (hr68.keep hA79) rfl (by simp only [List.length_drop]; omega) fun v256 hr257 ha258 => (gS (Yk.callA1 pk14_pl62 rfl (((show Calls _ _ _ _ (fun e w2 => e = .returned (NI (rowAt t i)) ∧ Ext _ w2) from number_any_ _ v256 ((t.drop ((36) * (i)) : List UInt8).drop (32)) hr257 (by simp only [List.length_drop]; omega))).mono ?_))))
  rintro e w260 ⟨rfl, hx259⟩
  refine ⟨_, rfl, ?_⟩
  have hE := hE.trans hx77
  have hE := row_fresh hE hg89 (Nat.le_trans hz81 (by omega))
  have hE := hE.trans hx259
  have hb6ll := hb6ll.keep hx259
  refine gS (Yk.lookOkS (ek := NI) (ev := entV) (D := (fun _ : Nat => True)) intLaw int_ok (fun _ _ => ni_inj) pk14_ty140 (z := entV dEnt) zeroEnt T6 rfl hb6ll trivial hG (gS (Yk.extract (vs := [.agg (entC (c)).toArray, .bool (true)]) rfl rfl (gS (Yk.extract (vs := [.agg (entC (c)).toArray, .bool (true)]) rfl rfl (gS (Yk.alloc pk14_al116 fun n261 w262 hn263 hb264 hx265 hs266 => ?_)))))))
  have hA267 := Ext.refl w260
  have hA79 := hA79.trans hx259
  have hz270 := hE.size
  have hz271 := hA79.size
  have hlt272 := lte hb6ll.lt hn263
  have hb49l := hb49l.keep hx259
  have hlt273 := lte hb49l.lt hn263
  have hb276 := hb264; clear hb264
  have hl277 : n261 < w262.heap.size := by omega
  refine gS (Yk.storeAll (vr (PQ n261 0) rfl) (vr (.agg (entC (c)).toArray) rfl) hb276 (entC_size (x := ((c) : EntV)) (y := (dEnt : EntV)) hcl.2 (by simp [dEnt])) (entC_isz (x := ((c) : EntV)) pk14_isz116 hcl.2) (entC_one (x := ((c) : EntV)) (RB.one hcl.1).2) fun w278 hb279 hg280 hs281 => ?_)
  have hb6ll := hb6ll.keep hx265
  have hb6ll := MapF.other hb6ll hg280 (some_ne (by omega))
  have hb49l := hb49l.keep hx265
  have hb49l := MapF.other hb49l hg280 (some_ne (by omega))
  clear hb276
  have hb276 := hb279; clear hb279
  have hl282 := bl hb276
  refine gM0 [0, 1, 2, 3, 4, 5, 6, 7, 8, 9, 10, 11, 12, 13, 14, 15] [11, 15] [] fun w284 hx285 => (ys (Yk.eqI (a := (i : Nat)) (b := (0 : Nat)) T33 rfl (k_eql _ _ _ _) zz) (kF (h0) (ys (Yk.bin (xv := NI i) (yv := NI 1) T33 rfl rfl (i64_sub _ _ _ (by omega) (by omega)) zz) ?_)))
  have hr_vi := hr_vi.keep hx77
  have hr_vi := OG.kept hr_vi hg89 hap84
  have hA267 := hA267.trans hx265
  have hA267 := row_fresh hA267 hg280 (Nat.le_trans (Nat.le_refl _) (by omega))
  have hA267 := hA267.trans hx285
  have hr_vi := hr_vi.keep (hx259.trans hA267)
  have hl288 : (Lib.byteCells ((s.ids).getD ((i) - (1)) ([] : List UInt8))).length = 32 := (RG.elem (RG.ofOwn hr_vi) ([] : List UInt8) (by omega))
  have hb85 := eb (hx259.trans hA267) hb85
  refine yA (Yk.atRG pk14_ty47 pk14_szg38 (by decide) ([] : List UInt8) (RG.of (RG.ofOwn hr_vi) T9) rfl (by omega) fun v286 hp287 => (ys (Yk.loadPR (PR.of hp287 rfl) pk14_ty38 rfl (by rw [hl288]; exact pk14_isz38) zz) (ys (Yk.loadAll rfl hb85 pk14_ty38 rfl (by exact sizeId_of h32) zz) (yC (Yk.callA2 pk14_pl57 rfl rfl ((compare_any _ ((s.ids).getD ((i) - (1)) ([] : List UInt8)) (rowId t i) ((bytes_len32 (hl288))) (h32)).mono ?_))))))
  rintro e w290 ⟨rfl, hx289⟩
  refine ⟨_, rfl, ?_⟩
  have hp287 := PR.keep hp287 hx289
  refine ys (Yk.eqI rfl rfl (z_lss _ .i64 (Lib.compareBytes ((s.ids).getD ((i) - (1)) ([] : List UInt8)) (rowId t i) : Int) ((0 : Nat) : Int)) zz) (kF (hlt) (ys (Yk.pickF rfl rfl zz) (ys (Yk.pickT rfl rfl zz) (yCp (Yp.callA2 pk14_pl64 rfl rfl ?_)))))
  refine calls_either (need_any _ (false) 6) ?_ ?_
  rotate_left
  ·rintro ch w293 ⟨rfl, hb, hx⟩
   refine postP_panic ?_
   rw [hO] at hst
   have hE1 := ixGo_none hst (es.length - (i + 1))
   rw [show i + 1 + (es.length - (i + 1)) = es.length by omega] at hE1
   have hA267 := hA267.trans hx289
   have hE := hE.trans hA267
   exact .inr ⟨_, rfl, hE1, rfl, hE.trans hx⟩
  rintro v_ w295 ⟨rfl, hb291, hx292⟩
  cases hb291
 have hie1 : i = es.length := by omega
 refine rt2 rfl T9 T10 ?_
 exact .inl ⟨_, rfl, s, _, _, by rw [← hie1]; exact hs, rfl, RG.ofOwn hr_vi, hb49l, (fun k hk => (hr_vi.2.lt k hk).1), hE⟩
open Go.RowKit
theorem Yk.lookD {P : Program} {K : Value → World → Prop} {ρ : Slots} {w : World} {d : Option Tmp} {ty : TypeId} {pos : String} {af : Array Edge} {gd : Option (Nat × Bool)} {α β : Type} {ek : α → Value} {ev : β → Value} {D : α → Prop} {b : Nat} {G : α → Option β} {t Kt E : TypeId} {OK : Value → Prop}
    (L : KL P Kt OK) (hD : ∀ a, D a → OK (ek a)) (hi : ∀ a c, ek a = ek c → a = c) (ht : P.underlying t = some (.map Kt E)) {df : β} (hz : ∀ u : World, (zeroValue E).run P u = .ok (ev df) u) {x y : Operand} {a : α}
    (hm : evalR ρ x = .map (some b)) (hy : evalR ρ y = ek a) (h : MapF ek ev D w b G) (ha : D a) (hk : K (ev ((G a).getD df)) w) : Yk P K ((execOp (evalR ρ) ⟨d, .lookup t x y false, ty, pos, af, gd⟩).run P w) :=
  Yk.lookM L hD hi ht hz hm hy h ha (by cases e : G a <;> rw [e] at hk <;> exact hk)
def EntOk1 (w : World) (x : EntV) : Prop := RB w x.2 x.1.bytes ∧ x.1.base.length = 32 ∧ x.1.bytes.length ≤ 1048576
def MOk (w : World) (M : Bs → Option EntV) : Prop := ∀ k c, M k = some c → EntOk1 w c
theorem MOk.keep {w w' : World} {M : Bs → Option EntV} (h : MOk w M) (k : Ext w w') : MOk w' M := fun a c hc => ⟨(h a c hc).1.keep k, (h a c hc).2⟩
theorem MOk.get {w : World} {M : Bs → Option EntV} (h : MOk w M) (k : Bs) : EntOk1 w ((M k).getD dEnt) := by
  cases e : M k with
  | none => exact ⟨RB.nil w, by simp [dEnt], by simp [dEnt]⟩
  | some c => exact h k c e
def entAt (M : Bs → Option EntV) (k : Bs) : Ent := ((M k).getD dEnt).1
section
variable (E : Bs → Ent)
def depthGo : Nat → Ent → Option Nat
  | 0, e => if e.based then none else some 0
  | n + 1, e => if e.based then (depthGo n (E e.base)).map (· + 1) else some 0
def chainGo : Nat → Bs → Option (Bs × Nat)
  | 0, _ => none
  | n + 1, id =>
    if (E id).based then (chainGo n (E id).base).bind fun x => if (applyP x.1 (E id).bytes).2 = 0 then (if (applyP x.1 (E id).bytes).1.length ≤ 262144 then some ((applyP x.1 (E id).bytes).1, x.2 + 1) else none) else none
    else if (E id).bytes.length ≤ 262144 then some ((E id).bytes, 0) else none
variable {E}
theorem depthGo_flat {n : Nat} {e : Ent} (h : e.based = false) : depthGo E n e = some 0 := by
  cases n <;> (unfold depthGo; rw [h]; rfl)
theorem depthGo_zero {e : Ent} (h : e.based = true) : depthGo E 0 e = none := by unfold depthGo; rw [h]; rfl
theorem depthGo_step {n : Nat} {e : Ent} (h : e.based = true) : depthGo E (n + 1) e = (depthGo E n (E e.base)).map (· + 1) := by
  show (if e.based = true then _ else _) = _
  rw [if_pos h]
theorem depth_next {n c : Nat} {e : Ent} (h : e.based = true) : (depthGo E (n + 1) e).map (· + c) = (depthGo E n (E e.base)).map (· + (c + 1)) := by
  rw [depthGo_step h]
  cases depthGo E n (E e.base) with
  | none => rfl
  | some d => show some (d + 1 + c) = some (d + (c + 1)); rw [Nat.add_assoc, Nat.add_comm 1 c]
theorem depthGo_same : ∀ (n m : Nat) (e : Ent) (d : Nat), depthGo E n e = some d → d ≤ m → depthGo E m e = some d
  | n, m, e, d, h, hm => by
    cases hb : e.based with
    | false => rw [depthGo_flat hb] at h ⊢; exact h
    | true =>
      cases n with
      | zero => rw [depthGo_zero hb] at h; cases h
      | succ n =>
        rw [depthGo_step hb] at h
        cases h1 : depthGo E n (E e.base) with
        | none => rw [h1] at h; cases h
        | some d1 =>
          rw [h1] at h
          cases h
          cases m with
          | zero => simp at hm
          | succ m => rw [depthGo_step hb, depthGo_same n m _ d1 h1 (by simpa using hm)]; rfl
end
open Go.RowKit
set_option maxRecDepth 100000
theorem pk16_fo120_0 : FieldOff Tryd.prog 120 0 0 := fun b o w => by simp [go_sem]
theorem pk16_ty112 : Tryd.prog.underlying 112 = some (.map 38 116) := by kernel_rfl
theorem pk16_ty38 : Tryd.prog.underlying 38 = some (.array 32 5) := by kernel_rfl
theorem pk16_al116 {d : Option Tmp} {ty : TypeId} {pos : String} {af : Array Edge} {gd : Option (Nat × Bool)} (σ : Operand → Value) (w : World) : (execOp σ ⟨d, .alloc 116, ty, pos, af, gd⟩).run Tryd.prog w = .ok (.value (PQ w.heap.size 0)) (w.alloc (.cells (entC dEnt).toArray 116)) := by kernel_rfl
theorem pk16_isz116 : (Tryd.prog.info? 116).map (·.size) = some 35 := by kernel_rfl
theorem pk16_fo116_1 : FieldOff Tryd.prog 116 1 1 := fun b o w => by simp [go_sem]
theorem pk16_ty4 : Tryd.prog.underlying 4 = some (.bool) := by kernel_rfl
theorem pk16_pl64 : Plain Tryd.prog 64 := fun _ _ => by kernel_rfl
theorem pk16_ty116 : ∃ fs, Tryd.prog.underlying 116 = some (.struct fs) := struct_of (by kernel_rfl)
theorem pk16_fo116_2 : FieldOff Tryd.prog 116 2 2 := fun b o w => by simp [go_sem]
theorem pk16_isz38 : (Tryd.prog.info? 38).map (·.size) = some 32 := by kernel_rfl
theorem pdepth_any (w : World) (gm be bm : Nat) (M : Bs → Option EntV) (hmk : w.heap[gm]? = some (.cells ([.map (some be), .map (some bm)]).toArray 120 (0, 0))) (hme : MapF rk entV (fun id : List UInt8 => id.length = 32) w be M) (hMO : MOk w M) (id : Bs) (hid : id.length = 32) :
  Calls Tryd.prog 67 #[PQ gm 0, AB id] w fun r w' => (∃ x, r = .returned x ∧ ∃ d, depthGo (entAt M) 50 (entAt M id) = some d ∧ x = NI d ∧ Ext w w') ∨ ∃ ch, r = .panicked ch ∧ depthGo (entAt M) 50 (entAt M id) = none ∧ ch = [stopE 17] ∧ Ext w w' := by
 refine gG (args := [PQ gm 0, AB id]) Tryd.func67 rfl 29 rfl rfl ?_
 have hE := Ext.refl w
 refine gS (Yk.box (vr (AB id) rfl) fun n2 w3 hn4 hb5 hx6 hs7 => ?_)
 have hlt9 := lte hme.lt hn4
 have hb10 := hb5; clear hb5
 have hl11 : n2 < w3.heap.size := by omega
 refine gM1 [0, 1, 2, 3, 4, 5, 6, 7] [6, 7] [1, 2] [3, 4, 5] fun w15 hx16 => ?_
 have hZ1 := hx6.trans hx16
 have hE := hE.trans hZ1
 have hz19 := hE.size
 have hA20 := Ext.refl w15
 have hlt8 := lte (bl hmk) hn4
 have hmk := eb hZ1 hmk
 have hme := hme.keep hZ1
 have hb10 := eb hx16 hb10
 refine meb0 hA20 ?_
 refine yp (Yk.nilCheck rfl zz) (yp (Yk.fieldAt pk16_fo120_0 rfl zz) (yf (fun _ ⟨hZ, _⟩ => Yk.cell1 pk16_ty112 rfl rfl (cellAt (eb hZ hmk) rfl) zz) (yf (fun _ ⟨hZ, _⟩ => Yk.loadAll rfl (eb hZ hb10) pk16_ty38 rfl (by exact sizeId_of hid) zz) (yf (fun _ ⟨hZ, _⟩ => Yk.lookD (ek := rk) (ev := entV) (D := (fun id : List UInt8 => id.length = 32)) (df := dEnt) idLaw id_ok (fun _ _ => rk_inj) pk16_ty112 zeroEnt rfl rfl (hme.keep hZ) hid zz) (yE (Yk.alloc pk16_al116 fun n21 w22 hn23 hb24 hx25 hs26 => ?_))))))
 have hlt28 := lte hme.lt hn23
 have hb30 := hb24; clear hb24
 have hl31 : n21 < w22.heap.size := by omega
 have hA20 := hA20.trans hx25
 refine ⟨hA20, ?_⟩
 refine yD rfl (Yk.storeAll (vr (PQ n21 0) rfl) (vr (.agg (entC ((M (id)).getD dEnt)).toArray) rfl) hb30 (entC_size (x := (((M (id)).getD dEnt) : EntV)) (y := (dEnt : EntV)) (hMO.get (id)).2.1 (by simp [dEnt])) (entC_isz (x := (((M (id)).getD dEnt) : EntV)) pk16_isz116 (hMO.get (id)).2.1) (entC_one (x := (((M (id)).getD dEnt) : EntV)) (RB.one (hMO.get (id)).1).2) fun w33 hb34 hg35 hs36 => ?_)
 have hme := hme.keep hx25
 have hme := MapF.other hme hg35 (some_ne (by omega))
 clear hb30
 have hb30 := hb34; clear hb34
 have hl37 := bl hb30
 have hlt27 := lte (bl hmk) hn23
 have hmk := eb hx25 hmk
 have hmk := kb hg35 hmk (by omega)
 have hlt29 := lte (bl hb10) hn23
 have hb10 := eb hx25 hb10
 have hb10 := kb hg35 hb10 (by omega)
 have hE := hE.trans hx25
 have hE := row_fresh hE hg35 (Nat.le_trans hz19 (by omega))
 refine gL (fun (ρ : Slots) (wz : World) => ∃ c : Nat, ∃ x : EntV, ∃ q : Nat, ρ 0 = (PQ gm 0 : Value) ∧ ρ 1 = (AB id : Value) ∧ ρ 3 = (PQ n2 0 : Value) ∧ ρ 4 = (NI 0 : Value) ∧ ρ 5 = (NI c : Value) ∧ ρ 6 = (PQ q 0 : Value) ∧ wz.heap[gm]? = some (.cells ([.map (some be), .map (some bm)]).toArray 120 (0, 0)) ∧ MapF rk entV (fun id : List UInt8 => id.length = 32) wz be M ∧ Ext w wz ∧ wz.heap[n2]? = some (.cells (Lib.byteCells id).toArray 38 (0, 0)) ∧ wz.heap[q]? = some (.cells (entC (x)).toArray 116 (0, 0)) ∧ (c ≤ 50) ∧ (depthGo (entAt M) 50 (entAt M id) = (depthGo (entAt M) (50 - c) x.1).map (· + c)) ∧ (EntOk1 w x) ∧ (w.heap.size ≤ q) ∧ True) (fun ρ _ => 51 - (intOf (ρ 5)).toNat) ⟨0, (M id).getD dEnt, n21, rfl, rfl, rfl, rfl, rfl, rfl, hmk, hme, hE, hb10, hb30, Nat.zero_le _, by simp [entAt], hMO.get id, by omega, trivial⟩ ?_
 clear hb30
 clear hmk hme hE hb10
 rintro ρ38 w39 ⟨c, x, q, T0, T1, T3, T4, T5, T6, hmk, hme, hE, hb10, hbq, hc, hd, hxo, hqw, -⟩
 have q5 := T5
 refine gS (Yk.fieldAt pk16_fo116_1 T6 (gS (Yk.cell1 pk16_ty4 rfl rfl (cellAt hbq ((show (entC (x))[1]? = some (.bool ((x).1.based) : Value) from rfl))) ?_)))
 refine cB ((x).1.based) rfl (fun hc0 => ?_) fun hc0 => ?_
 ·have hb1 : x.1.based = true := hc0
  refine gS (Yk.bin (xv := NI c) (yv := NI 1) T5 rfl rfl (i64_add _ _ _ (by omega)) (gS (Yk.eqI (a := ((c) + (1) : Nat)) (b := (50 : Nat)) rfl rfl (k_leq _ _ _ _) (gP (Yp.callA2 pk16_pl64 rfl rfl ?_)))))
  refine calls_either (need_any _ (decide (((c) + (1)) ≤ (50))) 17) ?_ ?_
  rotate_left
  ·rintro ch w46 ⟨rfl, hb, hx⟩
   refine postP_panic ?_
   have hno := of_decide_eq_false hb
   refine .inr ⟨_, rfl, ?_, rfl, hE.trans hx⟩
   rw [hd, show 50 - c = 0 by omega, depthGo_zero hc0]; rfl
  rintro v_ w48 ⟨rfl, hb44, hx45⟩
  have hn49 := of_decide_eq_true hb44
  have hbq := eb hx45 hbq
  refine gS (Yk.loadAll T6 hbq (pk16_ty116).choose_spec rfl (entC_isz (x := (x : EntV)) pk16_isz116 hxo.2.1) (gS (Yk.alloc pk16_al116 fun n52 w53 hn54 hb55 hx56 hs57 => ?_)))
  have hA58 := Ext.refl w48
  have hE := hE.trans hx45
  have hz60 := hE.size
  have hme := hme.keep hx45
  have hlt62 := lte hme.lt hn54
  have hb65 := hb55; clear hb55
  have hl66 : n52 < w53.heap.size := by omega
  refine gS (Yk.storeAll (vr (PQ n52 0) rfl) (vr (.agg (entC (x)).toArray) rfl) hb65 (entC_size (x := ((x) : EntV)) (y := (dEnt : EntV)) hxo.2.1 (by simp [dEnt])) (entC_isz (x := ((x) : EntV)) pk16_isz116 hxo.2.1) (entC_one (x := ((x) : EntV)) (RB.one hxo.1).2) fun w67 hb68 hg69 hs70 => ?_)
  have hme := hme.keep hx56
  have hme := MapF.other hme hg69 (some_ne (by omega))
  clear hb65
  have hb65 := hb68; clear hb68
  have hl71 := bl hb65
  refine gM0 [0, 1, 2, 3, 4, 5, 6, 7] [7] [] fun w72 hx73 => ?_
  have hA58 := hA58.trans hx56
  have hA58 := row_fresh hA58 hg69 (Nat.le_trans (Nat.le_refl _) (by omega))
  have hA58 := hA58.trans hx73
  have hmk := eb (hx45.trans hA58) hmk
  have hme := hme.keep hx73
  have hb65 := eb hx73 hb65
  refine ys (Yk.nilCheck T0 zz) (ys (Yk.fieldAt pk16_fo120_0 rfl zz) (ys (Yk.cell1 pk16_ty112 rfl rfl (cellAt hmk rfl) zz) (ys (Yk.fieldAt pk16_fo116_2 rfl zz) (ys (Yk.loadPart rfl (entC_range (x := ((x) : EntV)) hb65) pk16_ty38 rfl (by rw [Lib.byteCells_length, hxo.2.1]; exact pk16_isz38) zz) (ys (Yk.lookD (ek := rk) (ev := entV) (D := (fun id : List UInt8 => id.length = 32)) (df := dEnt) idLaw id_ok (fun _ _ => rk_inj) pk16_ty112 zeroEnt rfl rfl hme hxo.2.1 zz) (yC (Yk.storeAll (vr (PQ n52 0) rfl) (vr (.agg (entC ((M (((x)).1.base)).getD dEnt)).toArray) rfl) hb65 (entC_size (x := (((M (((x)).1.base)).getD dEnt) : EntV)) (y := ((x) : EntV)) (hMO.get (((x)).1.base)).2.1 hxo.2.1) (entC_isz (x := (((M (((x)).1.base)).getD dEnt) : EntV)) pk16_isz116 (hMO.get (((x)).1.base)).2.1) (entC_one (x := (((M (((x)).1.base)).getD dEnt) : EntV)) (RB.one (hMO.get (((x)).1.base)).1).2) fun w74 hb75 hg76 hs77 => ?_)))))))
  have hme := MapF.other hme hg76 (some_ne (by omega))
  clear hb65
  have hb65 := hb75; clear hb75
  have hl78 := bl hb65
  have hA58 := row_fresh hA58 hg76 (Nat.le_trans (Nat.le_refl _) (by omega))
  have hb10 := eb (hx45.trans hA58) hb10
  have hE := hE.trans hx56
  have hE := row_fresh hE hg69 (Nat.le_trans hz60 (by omega))
  have hE := hE.trans hx73
  have hE := row_fresh hE hg76 (Nat.le_trans hz60 (by omega))
  have hmk := kb hg76 hmk (by omega)
  refine gK (And.intro ⟨c + 1, (M x.1.base).getD dEnt, n52, T0, T1, T3, T4, rfl, rfl, hmk, hme, hE, hb10, hb65, by omega, hd.trans (by rw [show 50 - c = (50 - (c + 1)) + 1 by omega]; exact depth_next hb1), hMO.get _, by omega, trivial⟩ ?_)
  show 51 - (intOf (NI ((c) + (1)))).toNat < 51 - (intOf (ρ38 5)).toNat
  rw [q5]
  simp only [intOf, Int.toNat_natCast]; omega
 have hb0 : x.1.based = false := by simpa using hc0
 refine rt1 rfl T5 ?_
 exact .inl ⟨_, rfl, c, by rw [hd, depthGo_flat hb0]; exact congrArg some (Nat.zero_add c), rfl, hE⟩
open Go.RowKit
abbrev ObjV := (Bs × Nat) × Value
abbrev objV (x : ObjV) : Value := .agg ([x.2, NI x.1.2]).toArray
def dObj : ObjV := (([], 0), .slice none 0 0)
theorem zeroObj : ∀ u : World, (zeroValue 81).run Tryd.prog u = .ok (objV dObj) u := fun _ => by kernel_rfl
theorem obj_one {v : Value} {n : Nat} (h : v.oneCell' = true) : ∀ u ∈ ([v, NI n]).toArray.toList, u.oneCell' = true := by
  intro u hu
  simp only [List.mem_cons, List.not_mem_nil, or_false] at hu
  rcases hu with rfl | rfl
  · exact h
  · rfl
def IsMapB (w : World) (b : Nat) : Prop := ∃ es c, w.heap[b]? = some (.map es c)
theorem MapF.isMap {α β : Type} {ek : α → Value} {ev : β → Value} {D : α → Prop} {w : World} {b : Nat} {G : α → Option β} (h : MapF ek ev D w b G) : IsMapB w b := by
  obtain ⟨es, c, h, -⟩ := h
  exact ⟨_, c, h⟩
def NoB8 (w : World) (b : Nat) : Prop := ∀ j x, w.cell? ⟨b, j, none⟩ ≠ some (B8 x)
theorem IsMapB.noB8 {w : World} {b : Nat} (h : IsMapB w b) : NoB8 w b := fun j x hc => by
  obtain ⟨es, c, hm⟩ := h
  unfold World.cell? at hc
  rw [hm] at hc
  simp at hc
theorem obj_noB8 {w : World} {g k : Nat} {v : Value} {T : TypeId} {fr : Nat × Nat} (hb : w.heap[g]? = some (.cells ([v, NI k]).toArray T fr)) (hv : ∃ ao n c, v = .slice ao n c) : NoB8 w g := fun j x hc => by
  obtain ⟨ao, n, c, rfl⟩ := hv
  unfold World.cell? at hc
  rw [hb] at hc
  match j, hc with
  | 0, hc => simp at hc
  | 1, hc => simp at hc
  | j + 2, hc => simp at hc
theorem RB.keepN {w w' : World} {b : Nat} {v : Value} {l : List UInt8} (h : RB w v l) (hm : NoB8 w b) (hg : w.grownBy w' (some b)) : RB w' v l := by
  by_cases hv : v.ownBlock = some b
  · obtain ⟨h1, ao, cap, rfl, h2, h3, h4, h5⟩ := h
    refine ⟨h1, ao, cap, rfl, h2, h3, h4, fun a ha j u hu => ?_⟩
    subst ha
    exfalso
    have hb : a.block = b := by injection hv
    have hc := h5 a rfl j u hu
    have hj : j < l.length := by have := (List.getElem?_eq_some_iff.1 hu).1; rwa [Lib.byteCells_length] at this
    rw [byte_at hj] at hu
    cases hu
    have hsp := World.cell?_spot hc
    obtain ⟨ab, ao, asp⟩ := a
    have e : ({ block := ab, off := ao, spot := asp } : Addr).add j = ⟨b, (({ block := ab, off := ao, spot := asp } : Addr).add j).off, none⟩ := by
      have h1 : (({ block := ab, off := ao, spot := asp } : Addr).add j).block = b := by rw [← hb]; unfold Addr.add; split <;> rfl
      generalize ({ block := ab, off := ao, spot := asp } : Addr).add j = q at h1 hsp ⊢
      obtain ⟨q1, q2, q3⟩ := q
      simp only at h1 hsp
      rw [h1, hsp]
    rw [e] at hc
    exact hm _ _ hc
  · exact h.kept hg (.inr hv)
theorem MOk.keepN {w w' : World} {b : Nat} {M : Bs → Option EntV} (h : MOk w M) (hm : NoB8 w b) (hg : w.grownBy w' (some b)) : MOk w' M := fun a c hc => ⟨(h a c hc).1.keepN hm hg, (h a c hc).2⟩
theorem BX.keep {w0 w w' : World} {r : Option Nat} (h : BX w0.heap.size r w0 w) (k : Ext w w') : BX w0.heap.size r w0 w' := h.trans (BX.ofExt k h.size)
theorem BX.set {w0 w w' : World} {r : Option Nat} {g : Nat} (h : BX w0.heap.size r w0 w) (hg : w.grownBy w' (some g)) (hn : w0.heap.size ≤ g) : BX w0.heap.size r w0 w' := h.trans (BX.ofGrown hg h.size (fun k hk => by cases hk; exact .inr hn))
theorem BX.put {w0 w w' : World} {b : Nat} (h : BX w0.heap.size (some b) w0 w) (hg : w.grownBy w' (some b)) : BX w0.heap.size (some b) w0 w' := h.trans (BX.ofGrown hg h.size (fun k hk => .inl hk))
def HOk (w : World) (M : Bs → Option EntV) (H : Bs → Option ObjV) : Prop := ∀ id x, H id = some x → RB w x.2 x.1.1 ∧ ∃ n d, depthGo (entAt M) n (entAt M id) = some d ∧ chainGo (entAt M) (d + 1) id = some x.1
theorem HOk.keep {w w' : World} {M : Bs → Option EntV} {H : Bs → Option ObjV} (h : HOk w M H) (k : Ext w w') : HOk w' M H := fun a c hc => ⟨(h a c hc).1.keep k, (h a c hc).2⟩
theorem HOk.keepN {w w' : World} {b : Nat} {M : Bs → Option EntV} {H : Bs → Option ObjV} (h : HOk w M H) (hm : NoB8 w b) (hg : w.grownBy w' (some b)) : HOk w' M H := fun a c hc => ⟨(h a c hc).1.keepN hm hg, (h a c hc).2⟩
theorem HOk.nil {w : World} {M : Bs → Option EntV} : HOk w M (fun _ => none) := fun _ _ h => by cases h
theorem HOk.put {w : World} {M : Bs → Option EntV} {H : Bs → Option ObjV} (h : HOk w M H) {id : Bs} {x : ObjV} (h1 : RB w x.2 x.1.1) {n d : Nat} (h2 : depthGo (entAt M) n (entAt M id) = some d) (h3 : chainGo (entAt M) (d + 1) id = some x.1) : HOk w M (updM H id (some x)) := fun a c hc => by
  unfold updM at hc
  split at hc
  · rename_i e
    cases hc
    subst e
    exact ⟨h1, n, d, h2, h3⟩
  · exact h a c hc
section
variable {E : Bs → Ent}
theorem depthGo_uniq {n m : Nat} {e : Ent} {d d' : Nat} (h : depthGo E n e = some d) (h' : depthGo E m e = some d') : d = d' := by
  have h1 := depthGo_same n (max d d') e d h (Nat.le_max_left _ _)
  have h2 := depthGo_same m (max d d') e d' h' (Nat.le_max_right _ _)
  rw [h1] at h2
  cases h2
  rfl
theorem depthGo_base {n : Nat} {e : Ent} {d : Nat} (hb : e.based = true) (h : depthGo E n e = some d) : ∃ n' d', d = d' + 1 ∧ depthGo E n' (E e.base) = some d' := by
  cases n with
  | zero => rw [depthGo_zero hb] at h; cases h
  | succ n =>
    rw [depthGo_step hb] at h
    cases h1 : depthGo E n (E e.base) with
    | none => rw [h1] at h; cases h
    | some d1 => rw [h1] at h; cases h; exact ⟨n, d1, rfl, h1⟩
theorem chainGo_based {n : Nat} {id : Bs} (hb : (E id).based = true) : chainGo E (n + 1) id = (chainGo E n (E id).base).bind fun x => if (applyP x.1 (E id).bytes).2 = 0 then (if (applyP x.1 (E id).bytes).1.length ≤ 262144 then some ((applyP x.1 (E id).bytes).1, x.2 + 1) else none) else none := by
  show (if _ = true then _ else _) = _
  rw [if_pos hb]
theorem chainGo_flat {n : Nat} {id : Bs} (hb : (E id).based = false) : chainGo E (n + 1) id = if (E id).bytes.length ≤ 262144 then some ((E id).bytes, 0) else none := by
  show (if _ = true then _ else _) = _
  rw [if_neg (by rw [hb]; decide)]
theorem chainGo_le : ∀ {n : Nat} {id : Bs} {b : Bs} {k : Nat}, chainGo E n id = some (b, k) → b.length ≤ 262144 ∧ k < n
  | 0, _, _, _, h => by cases h
  | n + 1, id, b, k, h => by
    cases hb : (E id).based with
    | false =>
      rw [chainGo_flat hb] at h
      split at h
      · cases h; exact ⟨‹_›, Nat.succ_pos _⟩
      · cases h
    | true =>
      rw [chainGo_based hb] at h
      cases h1 : chainGo E n (E id).base with
      | none => rw [h1] at h; cases h
      | some x =>
        rw [h1] at h
        have h2 : (if (applyP x.1 (E id).bytes).2 = 0 then (if (applyP x.1 (E id).bytes).1.length ≤ 262144 then some ((applyP x.1 (E id).bytes).1, x.2 + 1) else none) else none) = some (b, k) := h
        split at h2
        · split at h2
          · cases h2
            have := chainGo_le (b := x.1) (k := x.2) h1
            exact ⟨‹_›, by omega⟩
          · cases h2
        · cases h2
end
open Go.RowKit
set_option maxRecDepth 100000
theorem pk18_isz81 : (Tryd.prog.info? 81).map (·.size) = some 2 := by kernel_rfl
theorem pk18_al81 {d : Option Tmp} {ty : TypeId} {pos : String} {af : Array Edge} {gd : Option (Nat × Bool)} (σ : Operand → Value) (w : World) : (execOp σ ⟨d, .alloc 81, ty, pos, af, gd⟩).run Tryd.prog w = .ok (.value (PQ w.heap.size 0)) (w.alloc (.cells ([(Value.slice none 0 0), NI 0]).toArray 81)) := by kernel_rfl
theorem pk18_fo120_1 : FieldOff Tryd.prog 120 1 1 := fun b o w => by simp [go_sem]
theorem pk18_ty72 : Tryd.prog.underlying 72 = some (.map 38 81) := by kernel_rfl
theorem pk18_ty38 : Tryd.prog.underlying 38 = some (.array 32 5) := by kernel_rfl
theorem pk18_fo120_0 : FieldOff Tryd.prog 120 0 0 := fun b o w => by simp [go_sem]
theorem pk18_ty112 : Tryd.prog.underlying 112 = some (.map 38 116) := by kernel_rfl
theorem pk18_al116 {d : Option Tmp} {ty : TypeId} {pos : String} {af : Array Edge} {gd : Option (Nat × Bool)} (σ : Operand → Value) (w : World) : (execOp σ ⟨d, .alloc 116, ty, pos, af, gd⟩).run Tryd.prog w = .ok (.value (PQ w.heap.size 0)) (w.alloc (.cells (entC dEnt).toArray 116)) := by kernel_rfl
theorem pk18_isz116 : (Tryd.prog.info? 116).map (·.size) = some 35 := by kernel_rfl
theorem pk18_fo116_3 : FieldOff Tryd.prog 116 3 34 := fun b o w => by simp [go_sem]
theorem pk18_ty24 : Tryd.prog.underlying 24 = some (.slice 5) := by kernel_rfl
theorem pk18_bd81s_0 {z0 : Value} (h0 : ∃ ao n c, z0 = .slice ao n c) (w : World) : (Instr.build 81 #[(0, z0)]).run Tryd.prog w = .ok (.agg ([z0, NI 0] : List Value).toArray) w := by obtain ⟨_, _, _, rfl⟩ := h0; kernel_rfl
theorem pk18_fo116_1 : FieldOff Tryd.prog 116 1 1 := fun b o w => by simp [go_sem]
theorem pk18_ty4 : Tryd.prog.underlying 4 = some (.bool) := by kernel_rfl
theorem pk18_fo81_0 : FieldOff Tryd.prog 81 0 0 := fun b o w => by simp [go_sem]
theorem pk18_pl64 : Plain Tryd.prog 64 := fun _ _ => by kernel_rfl
theorem pk18_ty81 : ∃ fs, Tryd.prog.underlying 81 = some (.struct fs) := struct_of (by kernel_rfl)
theorem pk18_fo116_2 : FieldOff Tryd.prog 116 2 2 := fun b o w => by simp [go_sem]
theorem pk18_isz38 : (Tryd.prog.info? 38).map (·.size) = some 32 := by kernel_rfl
theorem pk18_pl68 : Plain Tryd.prog 68 := fun _ _ => by kernel_rfl
theorem pk18_pl77 : Plain Tryd.prog 77 := fun _ _ => by kernel_rfl
theorem pk18_fo81_1 : FieldOff Tryd.prog 81 1 1 := fun b o w => by simp [go_sem]
theorem pk18_ty3 : Tryd.prog.underlying 3 = some (.int .i64) := by kernel_rfl
theorem pk18_bd81si_01 {z0 : Value} (h0 : ∃ ao n c, z0 = .slice ao n c) (z1 : Int) (w : World) : (Instr.build 81 #[(0, z0), (1, .int .i64 z1)]).run Tryd.prog w = .ok (.agg ([z0, .int .i64 z1] : List Value).toArray) w := by obtain ⟨_, _, _, rfl⟩ := h0; kernel_rfl
set_option maxHeartbeats 1600000
theorem pmake_step (gm be bm : Nat) (M : Bs → Option EntV) (d : Nat) (ih : ∀ d1, d1 < d → ∀ (w : World) (H : Bs → Option ObjV) (id : Bs) (hmk : w.heap[gm]? = some (.cells ([.map (some be), .map (some bm)]).toArray 120 (0, 0))) (hme : MapF rk entV (fun id : List UInt8 => id.length = 32) w be M) (hmm : MapF rk objV (fun id : List UInt8 => id.length = 32) w bm H) (hMO : MOk w M) (hHO : HOk w M H) (hne : be ≠ bm) (hid : id.length = 32) (hd50 : d1 ≤ 50) (n0 : Nat) (hdp : depthGo (entAt M) n0 (entAt M id) = some d1) (n0w : Nat) (hNM : NewM n0w M) (hNH : NewM n0w H) (hn0 : n0w ≤ w.heap.size), Calls Tryd.prog 68 #[PQ gm 0, AB id] w fun r w' => (∃ x, r = .returned x ∧ ∃ v b k H', x = .agg ([v, NI k]).toArray ∧ chainGo (entAt M) (d1 + 1) id = some (b, k) ∧ RB w' v b ∧ MapF rk objV (fun id : List UInt8 => id.length = 32) w' bm H' ∧ HOk w' M H' ∧ BX w.heap.size (some bm) w w' ∧ NewV n0w v ∧ NewM n0w H') ∨ ∃ ch, r = .panicked ch ∧ chainGo (entAt M) (d1 + 1) id = none ∧ ch = [stopE 6] ∧ BX w.heap.size (some bm) w w') (w : World) (H : Bs → Option ObjV) (id : Bs) (hmk : w.heap[gm]? = some (.cells ([.map (some be), .map (some bm)]).toArray 120 (0, 0))) (hme : MapF rk entV (fun id : List UInt8 => id.length = 32) w be M) (hmm : MapF rk objV (fun id : List UInt8 => id.length = 32) w bm H) (hMO : MOk w M) (hHO : HOk w M H) (hne : be ≠ bm) (hid : id.length = 32) (hd50 : d ≤ 50) (n0 : Nat) (hdp : depthGo (entAt M) n0 (entAt M id) = some d) (n0w : Nat) (hNM : NewM n0w M) (hNH : NewM n0w H) (hn0 : n0w ≤ w.heap.size) :
  Calls Tryd.prog 68 #[PQ gm 0, AB id] w fun r w' => (∃ x, r = .returned x ∧ ∃ v b k H', x = .agg ([v, NI k]).toArray ∧ chainGo (entAt M) (d + 1) id = some (b, k) ∧ RB w' v b ∧ MapF rk objV (fun id : List UInt8 => id.length = 32) w' bm H' ∧ HOk w' M H' ∧ BX w.heap.size (some bm) w w' ∧ NewV n0w v ∧ NewM n0w H') ∨ ∃ ch, r = .panicked ch ∧ chainGo (entAt M) (d + 1) id = none ∧ ch = [stopE 6] ∧ BX w.heap.size (some bm) w w' := by
 have hX := BX.refl w.heap.size (some bm) w
 have hgb : gm ≠ bm := fun e => by obtain ⟨es_, c_, h_⟩ := MapF.isMap hmm; rw [← e, hmk] at h_; cases h_
 have hbl := hmm.lt
 have hgl := (bl hmk)
 have hel := hme.lt
 refine gG (args := [PQ gm 0, AB id]) Tryd.func68 rfl 66 rfl rfl ?_
 have hE := Ext.refl w
 refine gS (Yk.box (vr (AB id) rfl) fun n2 w3 hn4 hb5 hx6 hs7 => ?_)
 have hlt9 := lte hme.lt hn4
 have hlt10 := lte hmm.lt hn4
 have hb11 := hb5; clear hb5
 have hl12 : n2 < w3.heap.size := by omega
 refine gS (Yk.alloc pk18_al81 fun n13 w14 hn15 hb16 hx17 hs18 => ?_)
 have hE := hE.trans hx6
 have hz21 := hE.size
 have hme := hme.keep hx6
 have hlt23 := lte hme.lt hn15
 have hmm := hmm.keep hx6
 have hlt24 := lte hmm.lt hn15
 have hb26 := hb16; clear hb16
 have hl27 : n13 < w14.heap.size := by omega
 rcases hH : H id with _ | x
 ·rcases hb : (entAt M id).based with _ | _
  ·have hcg := chainGo_flat (n := d) (E := entAt M) hb
   have hbx : ((M (id)).getD dEnt).1.based = false := hb
   refine gM1 [0, 1, 2, 3, 4, 5, 6, 7, 8, 9, 10, 11] [9, 10] [1, 2, 7, 8] [3, 4, 5] fun w30 hx31 => ?_
   have hA32 := Ext.refl w30
   have hZ1 := hx17.trans hx31
   have hE := hE.trans hZ1
   have hz35 := hE.size
   have hA37 := Ext.refl w30
   have hlt8 := lte (bl hmk) hn4
   have hmk := eb hx6 hmk
   have hlt22 := lte (bl hmk) hn15
   have hmk := eb hZ1 hmk
   have hlt25 := lte (bl hb11) hn15
   have hb11 := eb hZ1 hb11
   have hmm := hmm.keep hZ1
   refine meb0 hA37 ?_
   refine yp (Yk.nilCheck rfl zz) (yp (Yk.fieldAt pk18_fo120_1 rfl zz) (yf (fun _ ⟨hZ, _⟩ => Yk.cell1 pk18_ty72 rfl rfl (cellAt (eb hZ hmk) rfl) zz) (yf (fun _ ⟨hZ, _⟩ => Yk.loadAll rfl (eb hZ hb11) pk18_ty38 rfl (by exact sizeId_of hid) zz) (yf (fun _ ⟨hZ, _⟩ => Yk.lookOkN (ek := rk) (ev := objV) (D := (fun id : List UInt8 => id.length = 32)) idLaw id_ok (fun _ _ => rk_inj) pk18_ty72 (z := objV dObj) zeroObj rfl rfl (hmm.keep hZ) hid hH zz) (yp (Yk.extract (vs := [.agg ([(Value.slice none 0 0), NI 0]).toArray, .bool (false)]) rfl rfl zz) (yp (Yk.extract (vs := [.agg ([(Value.slice none 0 0), NI 0]).toArray, .bool (false)]) rfl rfl zz) (yE (Yk.alloc pk18_al81 fun n38 w39 hn40 hb41 hx42 hs43 => ?_))))))))
   have hme := hme.keep hZ1
   have hlt45 := lte hme.lt hn40
   have hlt46 := lte hmm.lt hn40
   have hb49 := hb41; clear hb41
   have hl50 : n38 < w39.heap.size := by omega
   have hA37 := hA37.trans hx42
   refine ⟨hA37, ?_⟩
   refine yD rfl (Yk.storeAll (vr (PQ n38 0) rfl) (vr (.agg ([(Value.slice none 0 0), NI 0]).toArray) rfl) hb49 rfl (show (Tryd.prog.info? 81).map (·.size) = some 2 from pk18_isz81) (obj_one rfl) fun w52 hb53 hg54 hs55 => ?_)
   have hme := hme.keep hx42
   have hme := MapF.other hme hg54 (some_ne (by omega))
   have hmm := hmm.keep hx42
   have hmm := MapF.other hmm hg54 (some_ne (by omega))
   clear hb49
   have hb49 := hb53; clear hb53
   have hl56 := bl hb49
   refine cF rfl (gM1 [0, 1, 2, 3, 4, 5, 6, 7] [6, 7] [1, 2] [3, 4, 5] fun w59 hx60 => ?_)
   have hA61 := Ext.refl w59
   have hE := hE.trans hx42
   have hE := row_fresh hE hg54 (Nat.le_trans hz35 (by omega))
   have hE := hE.trans hx60
   have hA32 := hA32.trans hx42
   have hA32 := row_fresh hA32 hg54 (Nat.le_trans (Nat.le_refl _) (by omega))
   have hA32 := hA32.trans hx60
   have hz65 := hE.size
   have hA68 := Ext.refl w59
   have hlt44 := lte (bl hmk) hn40
   have hmk := eb hx42 hmk
   have hmk := kb hg54 hmk (by omega)
   have hmk := eb hx60 hmk
   have hlt47 := lte (bl hb11) hn40
   have hb11 := eb hx42 hb11
   have hb11 := kb hg54 hb11 (by omega)
   have hb11 := eb hx60 hb11
   have hme := hme.keep hx60
   refine meb0 hA68 ?_
   refine yp (Yk.nilCheck rfl zz) (yp (Yk.fieldAt pk18_fo120_0 rfl zz) (yf (fun _ ⟨hZ, _⟩ => Yk.cell1 pk18_ty112 rfl rfl (cellAt (eb hZ hmk) rfl) zz) (yf (fun _ ⟨hZ, _⟩ => Yk.loadAll rfl (eb hZ hb11) pk18_ty38 rfl (by exact sizeId_of hid) zz) (yf (fun _ ⟨hZ, _⟩ => Yk.lookD (ek := rk) (ev := entV) (D := (fun id : List UInt8 => id.length = 32)) (df := dEnt) idLaw id_ok (fun _ _ => rk_inj) pk18_ty112 zeroEnt rfl rfl (hme.keep hZ) hid zz) (yE (Yk.alloc pk18_al116 fun n70 w71 hn72 hb73 hx74 hs75 => ?_))))))
   have hlt77 := lte hme.lt hn72
   have hmm := hmm.keep hx60
   have hlt78 := lte hmm.lt hn72
   have hb82 := hb73; clear hb73
   have hl83 : n70 < w71.heap.size := by omega
   have hA68 := hA68.trans hx74
   refine ⟨hA68, ?_⟩
   refine yD rfl (Yk.storeAll (vr (PQ n70 0) rfl) (vr (.agg (entC ((M (id)).getD dEnt)).toArray) rfl) hb82 (entC_size (x := (((M (id)).getD dEnt) : EntV)) (y := (dEnt : EntV)) (hMO.get (id)).2.1 (by simp [dEnt])) (entC_isz (x := (((M (id)).getD dEnt) : EntV)) pk18_isz116 (hMO.get (id)).2.1) (entC_one (x := (((M (id)).getD dEnt) : EntV)) (RB.one (hMO.get (id)).1).2) fun w85 hb86 hg87 hs88 => ?_)
   have hme := hme.keep hx74
   have hme := MapF.other hme hg87 (some_ne (by omega))
   have hmm := hmm.keep hx74
   have hmm := MapF.other hmm hg87 (some_ne (by omega))
   clear hb82
   have hb82 := hb86; clear hb86
   have hl89 := bl hb82
   refine gS (Yk.fieldAt pk18_fo116_3 rfl ?_)
   have hE := hE.trans hx74
   have hE := row_fresh hE hg87 (Nat.le_trans hz65 (by omega))
   have hre91 : RB w85 (((M (id)).getD dEnt)).2 (entAt M id).bytes := (MOk.get (hMO.keep hE) id).1
   refine gS (Yk.cell1 pk18_ty24 rfl rfl (cellAt hb82 (entC_v (x := (((M (id)).getD dEnt) : EntV)) (hMO.get (id)).2.1)) (gS (Yk.build1 (vr ((((M (id)).getD dEnt)).2) rfl) (fun w => pk18_bd81s_0 (RB.slice hre91) w) (gS (Yk.alloc pk18_al81 fun n92 w93 hn94 hb95 hx96 hs97 => ?_)))))
   have hA98 := Ext.refl w85
   have hz67 := hA32.size
   have hA32 := hA32.trans hx74
   have hA32 := row_fresh hA32 hg87 (Nat.le_trans hz67 (by omega))
   have hA61 := hA61.trans hx74
   have hA61 := row_fresh hA61 hg87 (Nat.le_trans (Nat.le_refl _) (by omega))
   have hz103 := hE.size
   have hlt108 := lte hme.lt hn94
   have hlt109 := lte hmm.lt hn94
   have hb114 := hb95; clear hb95
   have hl115 : n92 < w93.heap.size := by omega
   have hA98 := hA98.trans hx96
   refine gS (Yk.storeAll (vr (PQ n92 0) rfl) (vr (.agg ([(((M (id)).getD dEnt)).2, NI 0]).toArray) rfl) hb114 rfl (show (Tryd.prog.info? 81).map (·.size) = some 2 from pk18_isz81) (obj_one (RB.one (hre91.keep hA98)).2) fun w116 hb117 hg118 hs119 => ?_)
   have hme := hme.keep hx96
   have hme := MapF.other hme hg118 (some_ne (by omega))
   have hmm := hmm.keep hx96
   have hmm := MapF.other hmm hg118 (some_ne (by omega))
   clear hb114
   have hb114 := hb117; clear hb117
   have hl120 := bl hb114
   have hA98 := row_fresh hA98 hg118 (Nat.le_trans (Nat.le_refl _) (by omega))
   have hb82 := eb hA98 hb82
   refine gS (Yk.fieldAt pk18_fo116_1 rfl (gS (Yk.cell1 pk18_ty4 rfl rfl (cellAt hb82 ((show (entC (((M (id)).getD dEnt)))[1]? = some (.bool false : Value) from congrArg (fun b => some (Value.bool b)) hbx))) (cF rfl (gS (Yk.fieldAt pk18_fo81_0 rfl (gS (Yk.cell1 pk18_ty24 rfl rfl (cellAt hb114 rfl) (gS (Yk.lenRB pk18_ty24 (RB.of (hre91.keep hA98) rfl) (gS (Yk.eqI (a := (((entAt M id).bytes : List UInt8).length : Nat)) (b := (262144 : Nat)) rfl rfl (k_leq _ _ _ _) (gP (Yp.callA2 pk18_pl64 rfl rfl ?_))))))))))))))
   refine calls_either (need_any _ (decide ((((entAt M id).bytes : List UInt8).length) ≤ (262144))) 6) ?_ ?_
   rotate_left
   ·rintro ch w126 ⟨rfl, hb, hx⟩
    refine postP_panic ?_
    have hno := of_decide_eq_false hb
    have hE := hE.trans hA98
    refine .inr ⟨_, rfl, ?_, rfl, (BX.keep (hX.keep hE) hx)⟩
    rw [hcg]
    exact if_neg hno
   rintro v_ w128 ⟨rfl, hb124, hx125⟩
   have hn129 := of_decide_eq_true hb124
   have hcf : chainGo (entAt M) (d + 1) id = some ((entAt M id).bytes, 0) := hcg.trans (if_pos hn129)
   refine gM0 [0, 1, 2, 3, 4, 5, 6] [6] [] fun w131 hx132 => ?_
   have hlt76 := lte (bl hmk) hn72
   have hmk := eb hx74 hmk
   have hmk := kb hg87 hmk (by omega)
   have hZ2 := hx125.trans hx132
   have hA98 := hA98.trans hZ2
   have hmk := eb hA98 hmk
   have hlt79 := lte (bl hb11) hn72
   have hb11 := eb hx74 hb11
   have hb11 := kb hg87 hb11 (by omega)
   have hb11 := eb hA98 hb11
   have hmm := hmm.keep hZ2
   have hb114 := eb hZ2 hb114
   refine ys (Yk.nilCheck rfl zz) (ys (Yk.fieldAt pk18_fo120_1 rfl zz) (ys (Yk.cell1 pk18_ty72 rfl rfl (cellAt hmk rfl) zz) (ys (Yk.loadAll rfl hb11 pk18_ty38 rfl (by exact sizeId_of hid) zz) (ys (Yk.loadAll rfl hb114 (pk18_ty81).choose_spec rfl (show (Tryd.prog.info? 81).map (·.size) = some 2 from pk18_isz81) zz) (yC (Yk.putM (ek := rk) (ev := objV) (D := (fun id : List UInt8 => id.length = 32)) (c := ((((entAt M id).bytes, 0), (((M (id)).getD dEnt)).2) : ObjV)) idLaw id_ok pk18_ty72 (vr (.map (some bm)) rfl) (vr (AB id) rfl) (vr (.agg ([(((M (id)).getD dEnt)).2, NI 0]).toArray) rfl) hmm hid fun w133 hb134 hg135 hs136 => ?_))))))
   have hE := hE.trans hA98
   have hP := HOk.put (hHO.keep hE) (id := id) (x := ((((entAt M id).bytes, 0), (((M (id)).getD dEnt)).2) : ObjV)) (hre91.keep hA98) hdp hcf
   have hm137 : NoB8 w131 bm := (MapF.isMap hmm).noB8
   have hX : BX w.heap.size (some bm) w w133 := BX.put (hX.keep hE) hg135
   have hmk : w133.heap[gm]? = some (.cells ([.map (some be), .map (some bm)]).toArray 120 (0, 0)) := kb hg135 hmk (by omega)
   have hme := hme.keep hZ2
   have hme : MapF rk entV (fun id : List UInt8 => id.length = 32) w133 be M := MapF.other hme hg135 (some_ne (by omega))
   clear hmm
   have hMO : MOk w133 M := (hMO.keep hE).keepN hm137 hg135
   have hb11 : w133.heap[n2]? = some (.cells (Lib.byteCells id).toArray 38 (0, 0)) := kb hg135 hb11 (by omega)
   have hz105 := hA32.size
   have hA32 := hA32.trans hx96
   have hA32 := row_fresh hA32 hg118 (Nat.le_trans hz105 (by omega))
   have hA32 := hA32.trans hZ2
   have hb26 := eb (hx31.trans hA32) hb26
   have hb26 : w133.heap[n13]? = some (.cells ([(Value.slice none 0 0), NI 0]).toArray 81 (0, 0)) := kb hg135 hb26 (by omega)
   have hz106 := hA61.size
   have hA61 := hA61.trans hx96
   have hA61 := row_fresh hA61 hg118 (Nat.le_trans hz106 (by omega))
   have hA61 := hA61.trans hZ2
   have hb49 := eb (hx60.trans hA61) hb49
   have hb49 : w133.heap[n38]? = some (.cells ([(Value.slice none 0 0), NI 0]).toArray 81 (0, 0)) := kb hg135 hb49 (by omega)
   have hb82 := eb hZ2 hb82
   have hb82 : w133.heap[n70]? = some (.cells (entC (((M (id)).getD dEnt))).toArray 116 (0, 0)) := kb hg135 hb82 (by omega)
   have hre91 : RB w133 (((M (id)).getD dEnt)).2 (entAt M id).bytes := (hre91.keep hA98).keepN hm137 hg135
   have hb114 : w133.heap[n92]? = some (.cells ([(((M (id)).getD dEnt)).2, NI 0]).toArray 81 (0, 0)) := kb hg135 hb114 (by omega)
   have hP : HOk w133 M (updM H (id) (some (((((entAt M id).bytes, 0), (((M (id)).getD dEnt)).2) : ObjV)))) := hP.keepN hm137 hg135
   have hE138 := Ext.refl w133
   have hz139 := hX.size
   refine gS (Yk.loadAll rfl hb114 (pk18_ty81).choose_spec rfl (show (Tryd.prog.info? 81).map (·.size) = some 2 from pk18_isz81) (gS (Yk.storeAll (vr (PQ n13 0) rfl) (vr (.agg ([(((M (id)).getD dEnt)).2, NI 0]).toArray) rfl) hb26 rfl (show (Tryd.prog.info? 81).map (·.size) = some 2 from pk18_isz81) (obj_one (RB.one hre91).2) fun w141 hb142 hg143 hs144 => ?_)))
   have hnb_ : NoB8 w133 n13 := obj_noB8 hb26 ⟨_, _, _, rfl⟩
   have hX : BX w.heap.size (some bm) w w141 := BX.set hX hg143 (by omega)
   have hme := MapF.other hme hg143 (some_ne (by omega))
   have hMO : MOk w141 M := hMO.keepN hnb_ hg143
   have hre91 : RB w141 (((M (id)).getD dEnt)).2 (entAt M id).bytes := hre91.keepN hnb_ hg143
   have hP : HOk w141 M (updM H (id) (some (((((entAt M id).bytes, 0), (((M (id)).getD dEnt)).2) : ObjV)))) := hP.keepN hnb_ hg143
   have hb134 := MapF.other hb134 hg143 (some_ne (by omega))
   clear hb26
   have hb26 := hb142; clear hb142
   have hl145 := bl hb26
   have hE146 := Ext.refl w141
   have hz147 := hX.size
   refine rg1 rfl (ResF.row rfl hb26 (pk18_ty81).choose_spec rfl ((show (Tryd.prog.info? 81).map (·.size) = some 2 from pk18_isz81))) ?_
   exact .inl ⟨_, rfl, _, _, _, _, rfl, hcf, hre91, hb134, hP, hX, (hNM.get id), NewM.put hNH id (hNM.get id)⟩
  have hcg := chainGo_based (n := d) (E := entAt M) hb
  have hbx : ((M (id)).getD dEnt).1.based = true := hb
  obtain ⟨na_, d1, hd1, hdp1⟩ := depthGo_base hb hdp
  refine gM1 [0, 1, 2, 3, 4, 5, 6, 7, 8, 9, 10, 11] [9, 10] [1, 2, 7, 8] [3, 4, 5] fun w150 hx151 => ?_
  have hA152 := Ext.refl w150
  have hZ3 := hx17.trans hx151
  have hE := hE.trans hZ3
  have hz155 := hE.size
  have hA157 := Ext.refl w150
  have hlt8 := lte (bl hmk) hn4
  have hmk := eb hx6 hmk
  have hlt22 := lte (bl hmk) hn15
  have hmk := eb hZ3 hmk
  have hlt25 := lte (bl hb11) hn15
  have hb11 := eb hZ3 hb11
  have hmm := hmm.keep hZ3
  refine meb0 hA157 ?_
  refine yp (Yk.nilCheck rfl zz) (yp (Yk.fieldAt pk18_fo120_1 rfl zz) (yf (fun _ ⟨hZ, _⟩ => Yk.cell1 pk18_ty72 rfl rfl (cellAt (eb hZ hmk) rfl) zz) (yf (fun _ ⟨hZ, _⟩ => Yk.loadAll rfl (eb hZ hb11) pk18_ty38 rfl (by exact sizeId_of hid) zz) (yf (fun _ ⟨hZ, _⟩ => Yk.lookOkN (ek := rk) (ev := objV) (D := (fun id : List UInt8 => id.length = 32)) idLaw id_ok (fun _ _ => rk_inj) pk18_ty72 (z := objV dObj) zeroObj rfl rfl (hmm.keep hZ) hid hH zz) (yp (Yk.extract (vs := [.agg ([(Value.slice none 0 0), NI 0]).toArray, .bool (false)]) rfl rfl zz) (yp (Yk.extract (vs := [.agg ([(Value.slice none 0 0), NI 0]).toArray, .bool (false)]) rfl rfl zz) (yE (Yk.alloc pk18_al81 fun n158 w159 hn160 hb161 hx162 hs163 => ?_))))))))
  have hme := hme.keep hZ3
  have hlt165 := lte hme.lt hn160
  have hlt166 := lte hmm.lt hn160
  have hb169 := hb161; clear hb161
  have hl170 : n158 < w159.heap.size := by omega
  have hA157 := hA157.trans hx162
  refine ⟨hA157, ?_⟩
  refine yD rfl (Yk.storeAll (vr (PQ n158 0) rfl) (vr (.agg ([(Value.slice none 0 0), NI 0]).toArray) rfl) hb169 rfl (show (Tryd.prog.info? 81).map (·.size) = some 2 from pk18_isz81) (obj_one rfl) fun w172 hb173 hg174 hs175 => ?_)
  have hme := hme.keep hx162
  have hme := MapF.other hme hg174 (some_ne (by omega))
  have hmm := hmm.keep hx162
  have hmm := MapF.other hmm hg174 (some_ne (by omega))
  clear hb169
  have hb169 := hb173; clear hb173
  have hl176 := bl hb169
  refine cF rfl (gM1 [0, 1, 2, 3, 4, 5, 6, 7] [6, 7] [1, 2] [3, 4, 5] fun w179 hx180 => ?_)
  have hA181 := Ext.refl w179
  have hE := hE.trans hx162
  have hE := row_fresh hE hg174 (Nat.le_trans hz155 (by omega))
  have hE := hE.trans hx180
  have hA152 := hA152.trans hx162
  have hA152 := row_fresh hA152 hg174 (Nat.le_trans (Nat.le_refl _) (by omega))
  have hA152 := hA152.trans hx180
  have hz185 := hE.size
  have hA188 := Ext.refl w179
  have hlt164 := lte (bl hmk) hn160
  have hmk := eb hx162 hmk
  have hmk := kb hg174 hmk (by omega)
  have hmk := eb hx180 hmk
  have hlt167 := lte (bl hb11) hn160
  have hb11 := eb hx162 hb11
  have hb11 := kb hg174 hb11 (by omega)
  have hb11 := eb hx180 hb11
  have hme := hme.keep hx180
  refine meb0 hA188 ?_
  refine yp (Yk.nilCheck rfl zz) (yp (Yk.fieldAt pk18_fo120_0 rfl zz) (yf (fun _ ⟨hZ, _⟩ => Yk.cell1 pk18_ty112 rfl rfl (cellAt (eb hZ hmk) rfl) zz) (yf (fun _ ⟨hZ, _⟩ => Yk.loadAll rfl (eb hZ hb11) pk18_ty38 rfl (by exact sizeId_of hid) zz) (yf (fun _ ⟨hZ, _⟩ => Yk.lookD (ek := rk) (ev := entV) (D := (fun id : List UInt8 => id.length = 32)) (df := dEnt) idLaw id_ok (fun _ _ => rk_inj) pk18_ty112 zeroEnt rfl rfl (hme.keep hZ) hid zz) (yE (Yk.alloc pk18_al116 fun n190 w191 hn192 hb193 hx194 hs195 => ?_))))))
  have hlt197 := lte hme.lt hn192
  have hmm := hmm.keep hx180
  have hlt198 := lte hmm.lt hn192
  have hb202 := hb193; clear hb193
  have hl203 : n190 < w191.heap.size := by omega
  have hA188 := hA188.trans hx194
  refine ⟨hA188, ?_⟩
  refine yD rfl (Yk.storeAll (vr (PQ n190 0) rfl) (vr (.agg (entC ((M (id)).getD dEnt)).toArray) rfl) hb202 (entC_size (x := (((M (id)).getD dEnt) : EntV)) (y := (dEnt : EntV)) (hMO.get (id)).2.1 (by simp [dEnt])) (entC_isz (x := (((M (id)).getD dEnt) : EntV)) pk18_isz116 (hMO.get (id)).2.1) (entC_one (x := (((M (id)).getD dEnt) : EntV)) (RB.one (hMO.get (id)).1).2) fun w205 hb206 hg207 hs208 => ?_)
  have hme := hme.keep hx194
  have hme := MapF.other hme hg207 (some_ne (by omega))
  have hmm := hmm.keep hx194
  have hmm := MapF.other hmm hg207 (some_ne (by omega))
  clear hb202
  have hb202 := hb206; clear hb206
  have hl209 := bl hb202
  refine gS (Yk.fieldAt pk18_fo116_3 rfl ?_)
  have hE := hE.trans hx194
  have hE := row_fresh hE hg207 (Nat.le_trans hz185 (by omega))
  have hre211 : RB w205 (((M (id)).getD dEnt)).2 (entAt M id).bytes := (MOk.get (hMO.keep hE) id).1
  refine gS (Yk.cell1 pk18_ty24 rfl rfl (cellAt hb202 (entC_v (x := (((M (id)).getD dEnt) : EntV)) (hMO.get (id)).2.1)) (gS (Yk.build1 (vr ((((M (id)).getD dEnt)).2) rfl) (fun w => pk18_bd81s_0 (RB.slice hre211) w) (gS (Yk.alloc pk18_al81 fun n212 w213 hn214 hb215 hx216 hs217 => ?_)))))
  have hA218 := Ext.refl w205
  have hz187 := hA152.size
  have hA152 := hA152.trans hx194
  have hA152 := row_fresh hA152 hg207 (Nat.le_trans hz187 (by omega))
  have hA181 := hA181.trans hx194
  have hA181 := row_fresh hA181 hg207 (Nat.le_trans (Nat.le_refl _) (by omega))
  have hz223 := hE.size
  have hlt228 := lte hme.lt hn214
  have hlt229 := lte hmm.lt hn214
  have hb234 := hb215; clear hb215
  have hl235 : n212 < w213.heap.size := by omega
  have hA218 := hA218.trans hx216
  refine gS (Yk.storeAll (vr (PQ n212 0) rfl) (vr (.agg ([(((M (id)).getD dEnt)).2, NI 0]).toArray) rfl) hb234 rfl (show (Tryd.prog.info? 81).map (·.size) = some 2 from pk18_isz81) (obj_one (RB.one (hre211.keep hA218)).2) fun w236 hb237 hg238 hs239 => ?_)
  have hme := hme.keep hx216
  have hme := MapF.other hme hg238 (some_ne (by omega))
  have hmm := hmm.keep hx216
  have hmm := MapF.other hmm hg238 (some_ne (by omega))
  clear hb234
  have hb234 := hb237; clear hb237
  have hl240 := bl hb234
  have hlt196 := lte (bl hmk) hn192
  have hmk := eb hx194 hmk
  have hmk := kb hg207 hmk (by omega)
  have hA218 := row_fresh hA218 hg238 (Nat.le_trans (Nat.le_refl _) (by omega))
  have hmk := eb hA218 hmk
  have hb202 := eb hA218 hb202
  have hE := hE.trans hA218
  refine gS (Yk.fieldAt pk18_fo116_1 rfl (gS (Yk.cell1 pk18_ty4 rfl rfl (cellAt hb202 ((show (entC (((M (id)).getD dEnt)))[1]? = some (.bool true : Value) from congrArg (fun b => some (Value.bool b)) hbx))) (cT rfl (gS (Yk.fieldAt pk18_fo116_2 rfl (gS (Yk.loadPart rfl (entC_range (x := (((M (id)).getD dEnt) : EntV)) hb202) pk18_ty38 rfl (by rw [Lib.byteCells_length, (hMO.get (id)).2.1]; exact pk18_isz38) (gP (Yp.callA2 pk18_pl68 rfl rfl ?_))))))))))
  refine calls_either (ih d1 (by omega) w236 H ((M (id)).getD dEnt).1.base hmk hme hmm (hMO.keep hE) (hHO.keep hE) hne (MOk.get (hMO.keep hE) id).2.1 (by omega) na_ hdp1 n0w hNM hNH (Nat.le_trans hn0 (hX.keep hE).size)) ?_ ?_
  rotate_left
  ·rintro ch w254 ⟨hno, rfl, hx⟩
   refine postP_panic ?_
   refine .inr ⟨_, rfl, ?_, rfl, BX.put (hX.keep hE) hx.grown⟩
   rw [hcg, show chainGo (entAt M) d (entAt M id).base = none from by rw [hd1]; exact hno]; rfl
  rintro v_ w256 ⟨v245, bb, kk, H1, rfl, hc253, hr249, hm250, hHO251, hx252, hNv1, hNH1⟩
  have hg1 := hx252.grown
  have hm257 : NoB8 w236 bm := (MapF.isMap hmm).noB8
  have hX : BX w.heap.size (some bm) w w256 := BX.put (hX.keep hE) hg1
  have hmk : w256.heap[gm]? = some (.cells ([.map (some be), .map (some bm)]).toArray 120 (0, 0)) := kb hg1 hmk (by omega)
  have hme : MapF rk entV (fun id : List UInt8 => id.length = 32) w256 be M := MapF.other hme hg1 (some_ne (by omega))
  clear hmm
  have hMO : MOk w256 M := (hMO.keep hE).keepN hm257 hg1
  have hHO : HOk w256 M H := (hHO.keep hE).keepN hm257 hg1
  have hlt199 := lte (bl hb11) hn192
  have hb11 := eb hx194 hb11
  have hb11 := kb hg207 hb11 (by omega)
  have hb11 := eb hA218 hb11
  have hb11 : w256.heap[n2]? = some (.cells (Lib.byteCells id).toArray 38 (0, 0)) := kb hg1 hb11 (by omega)
  have hz225 := hA152.size
  have hA152 := hA152.trans hx216
  have hA152 := row_fresh hA152 hg238 (Nat.le_trans hz225 (by omega))
  have hb26 := eb (hx151.trans hA152) hb26
  have hb26 : w256.heap[n13]? = some (.cells ([(Value.slice none 0 0), NI 0]).toArray 81 (0, 0)) := kb hg1 hb26 (by omega)
  have hz226 := hA181.size
  have hA181 := hA181.trans hx216
  have hA181 := row_fresh hA181 hg238 (Nat.le_trans hz226 (by omega))
  have hb169 := eb (hx180.trans hA181) hb169
  have hb169 : w256.heap[n158]? = some (.cells ([(Value.slice none 0 0), NI 0]).toArray 81 (0, 0)) := kb hg1 hb169 (by omega)
  have hb202 : w256.heap[n190]? = some (.cells (entC (((M (id)).getD dEnt))).toArray 116 (0, 0)) := kb hg1 hb202 (by omega)
  have hre211 : RB w256 (((M (id)).getD dEnt)).2 (entAt M id).bytes := (hre211.keep hA218).keepN hm257 hg1
  have hb234 : w256.heap[n212]? = some (.cells ([(((M (id)).getD dEnt)).2, NI 0]).toArray 81 (0, 0)) := kb hg1 hb234 (by omega)
  have hE258 := Ext.refl w256
  have hz259 := hX.size
  have hcl := chainGo_le hc253
  rw [show chainGo (entAt M) d (entAt M id).base = some (bb, kk) from by rw [hd1]; exact hc253] at hcg
  refine gS (Yk.alloc pk18_al81 fun n260 w261 hn262 hb263 hx264 hs265 => ?_)
  have hlt267 := lte hme.lt hn262
  have hlt273 := lte hm250.lt hn262
  have hb274 := hb263; clear hb263
  have hl275 : n260 < w261.heap.size := by omega
  have hE258 := hE258.trans hx264
  refine gS (Yk.storeAll (vr (PQ n260 0) rfl) (vr (.agg ([v245, NI kk]).toArray) rfl) hb274 rfl (show (Tryd.prog.info? 81).map (·.size) = some 2 from pk18_isz81) (obj_one (RB.one (hr249.keep hE258)).2) fun w276 hb277 hg278 hs279 => ?_)
  have hme := hme.keep hx264
  have hme := MapF.other hme hg278 (some_ne (by omega))
  have hm250 := hm250.keep hx264
  have hm250 := MapF.other hm250 hg278 (some_ne (by omega))
  clear hb274
  have hb274 := hb277; clear hb277
  have hl280 := bl hb274
  refine gS (Yk.fieldAt pk18_fo81_0 rfl (gS (Yk.cell1 pk18_ty24 rfl rfl (cellAt hb274 rfl) (gS (Yk.fieldAt pk18_fo116_3 rfl ?_)))))
  have hE258 := row_fresh hE258 hg278 (Nat.le_trans (Nat.le_refl _) (by omega))
  have hre282 : RB w276 (((M (id)).getD dEnt)).2 (entAt M id).bytes := (MOk.get (hMO.keep hE258) id).1
  have hlt271 := lte (bl hb202) hn262
  have hb202 := eb hx264 hb202
  have hb202 := kb hg278 hb202 (by omega)
  refine gS (Yk.cell1 pk18_ty24 rfl rfl (cellAt hb202 (entC_v (x := (((M (id)).getD dEnt) : EntV)) (hMO.get (id)).2.1)) (gS (Yk.callA2 pk18_pl77 rfl rfl ((apply_new _ v245 (((M (id)).getD dEnt)).2 bb (entAt M id).bytes (hr249.keep hE258) hre282 (by omega) (by have : (entAt M id).bytes.length ≤ 1048576 := (MOk.get (hMO.keep hE258) id).2.2; omega)).mono ?_))))
  rintro e w286 ⟨v283, rfl, hr284, hx285, hap_⟩
  refine ⟨_, rfl, ?_⟩
  have hsz_ : n0w ≤ w276.heap.size := Nat.le_trans hn0 ((hX.keep hE258)).size
  have hNa : NewV n0w v283 := fun k hk => Nat.le_trans hsz_ (hap_ k hk).1
  refine gS (Yk.extract (vs := [v283, NI ((applyP bb (entAt M id).bytes).2)]) rfl rfl (gS (Yk.extract (vs := [v283, NI ((applyP bb (entAt M id).bytes).2)]) rfl rfl (gS (Yk.eqI (a := ((applyP bb (entAt M id).bytes).2 : Nat)) (b := (0 : Nat)) rfl rfl (k_eql _ _ _ _) (gP (Yp.callA2 pk18_pl64 rfl rfl ?_)))))))
  refine calls_either (need_any _ (decide (((applyP bb (entAt M id).bytes).2 : Nat) = (0))) 6) ?_ ?_
  rotate_left
  ·rintro ch w290 ⟨rfl, hb, hx⟩
   refine postP_panic ?_
   have hno := of_decide_eq_false hb
   have hE258 := hE258.trans hx285
   refine .inr ⟨_, rfl, ?_, rfl, (BX.keep (hX.keep hE258) hx)⟩
   rw [hcg]
   exact if_neg hno
  rintro v_ w292 ⟨rfl, hb288, hx289⟩
  have hn293 := of_decide_eq_true hb288
  have hap := hn293
  have hlt272 := lte (bl hb234) hn262
  have hb234 := eb hx264 hb234
  have hb234 := kb hg278 hb234 (by omega)
  have hZ4 := hx285.trans hx289
  have hb234 := eb hZ4 hb234
  have hb274 := eb hZ4 hb274
  have hr284 := hr284.keep hx289
  refine gS (Yk.fieldAt pk18_fo81_1 rfl (gS (Yk.cell1 pk18_ty3 rfl rfl (cellAt hb274 rfl) (gS (Yk.bin (xv := NI kk) (yv := NI 1) rfl rfl rfl (i64_add _ _ _ (by omega)) (gS (Yk.build2 (vr v283 rfl) (vr (NI ((kk) + (1))) rfl) (fun w => pk18_bd81si_01 (RB.slice hr284) ((((kk) + (1) : Nat) : Int)) w) (gS (Yk.storeAll (vr (PQ n212 0) rfl) (vr (.agg ([v283, NI ((kk) + (1))]).toArray) rfl) hb234 rfl (show (Tryd.prog.info? 81).map (·.size) = some 2 from pk18_isz81) (obj_one (RB.one hr284).2) fun w294 hb295 hg296 hs297 => ?_)))))))))
  have hE258 := hE258.trans hZ4
  have hnb_ : NoB8 w292 n212 := obj_noB8 hb234 (RB.slice (hre211.keep hE258))
  have hX : BX w.heap.size (some bm) w w292 := (hX.keep hE258)
  have hMO : MOk w292 M := (hMO.keep hE258)
  have hre211 : RB w292 (((M (id)).getD dEnt)).2 (entAt M id).bytes := (hre211.keep hE258)
  have hr249 : RB w292 v245 bb := (hr249.keep hE258)
  have hHO251 : HOk w292 M H1 := (hHO251.keep hE258)
  have hX : BX w.heap.size (some bm) w w294 := BX.set hX hg296 (by omega)
  have hme := hme.keep hZ4
  have hme := MapF.other hme hg296 (some_ne (by omega))
  have hMO : MOk w294 M := hMO.keepN hnb_ hg296
  have hre211 : RB w294 (((M (id)).getD dEnt)).2 (entAt M id).bytes := hre211.keepN hnb_ hg296
  have hr249 : RB w294 v245 bb := hr249.keepN hnb_ hg296
  have hm250 := hm250.keep hZ4
  have hm250 := MapF.other hm250 hg296 (some_ne (by omega))
  have hHO251 : HOk w294 M H1 := hHO251.keepN hnb_ hg296
  have hre282 := hre282.keep hZ4
  have hre282 : RB w294 (((M (id)).getD dEnt)).2 (entAt M id).bytes := hre282.keepN hnb_ hg296
  have hr284 : RB w294 v283 (applyP bb (entAt M id).bytes).1 := hr284.keepN hnb_ hg296
  clear hb234
  have hb234 := hb295; clear hb295
  have hl298 := bl hb234
  have hE299 := Ext.refl w294
  have hz300 := hX.size
  refine gS (Yk.fieldAt pk18_fo81_0 rfl (gS (Yk.cell1 pk18_ty24 rfl rfl (cellAt hb234 rfl) (gS (Yk.lenRB pk18_ty24 (RB.of hr284 rfl) (gS (Yk.eqI (a := (((applyP bb (entAt M id).bytes).1 : List UInt8).length : Nat)) (b := (262144 : Nat)) rfl rfl (k_leq _ _ _ _) (gP (Yp.callA2 pk18_pl64 rfl rfl ?_)))))))))
  refine calls_either (need_any _ (decide ((((applyP bb (entAt M id).bytes).1 : List UInt8).length) ≤ (262144))) 6) ?_ ?_
  rotate_left
  ·rintro ch w304 ⟨rfl, hb, hx⟩
   refine postP_panic ?_
   have hno := of_decide_eq_false hb
   refine .inr ⟨_, rfl, ?_, rfl, (BX.keep hX hx)⟩
   rw [hcg]
   exact (if_pos hap).trans (if_neg hno)
  rintro v_ w306 ⟨rfl, hb302, hx303⟩
  have hX : BX w.heap.size (some bm) w w306 := (hX.keep hx303)
  have hMO : MOk w306 M := (hMO.keep hx303)
  have hHO251 : HOk w306 M H1 := (hHO251.keep hx303)
  have hn307 := of_decide_eq_true hb302
  have hcf : chainGo (entAt M) (d + 1) id = some ((applyP bb (entAt M id).bytes).1, kk + 1) := hcg.trans ((if_pos hap).trans (if_pos hn307))
  refine gM0 [0, 1, 2, 3, 4, 5, 6] [6] [] fun w309 hx310 => ?_
  have hX : BX w.heap.size (some bm) w w309 := (hX.keep hx310)
  have hMO : MOk w309 M := (hMO.keep hx310)
  have hHO251 : HOk w309 M H1 := (hHO251.keep hx310)
  have hlt266 := lte (bl hmk) hn262
  have hmk := eb hx264 hmk
  have hmk := kb hg278 hmk (by omega)
  have hmk := eb hZ4 hmk
  have hmk := kb hg296 hmk (by omega)
  have hZ5 := hx303.trans hx310
  have hmk := eb hZ5 hmk
  have hlt268 := lte (bl hb11) hn262
  have hb11 := eb hx264 hb11
  have hb11 := kb hg278 hb11 (by omega)
  have hb11 := eb hZ4 hb11
  have hb11 := kb hg296 hb11 (by omega)
  have hb11 := eb hZ5 hb11
  have hm250 := hm250.keep hZ5
  have hb234 := eb hZ5 hb234
  refine ys (Yk.nilCheck rfl zz) (ys (Yk.fieldAt pk18_fo120_1 rfl zz) (ys (Yk.cell1 pk18_ty72 rfl rfl (cellAt hmk rfl) zz) (ys (Yk.loadAll rfl hb11 pk18_ty38 rfl (by exact sizeId_of hid) zz) (ys (Yk.loadAll rfl hb234 (pk18_ty81).choose_spec rfl (show (Tryd.prog.info? 81).map (·.size) = some 2 from pk18_isz81) zz) (yC (Yk.putM (ek := rk) (ev := objV) (D := (fun id : List UInt8 => id.length = 32)) (c := ((((applyP bb (entAt M id).bytes).1, (kk) + (1)), v283) : ObjV)) idLaw id_ok pk18_ty72 (vr (.map (some bm)) rfl) (vr (AB id) rfl) (vr (.agg ([v283, NI ((kk) + (1))]).toArray) rfl) hm250 hid fun w311 hb312 hg313 hs314 => ?_))))))
  have hr284 := hr284.keep hZ5
  have hP := HOk.put hHO251 (id := id) (x := ((((applyP bb (entAt M id).bytes).1, (kk) + (1)), v283) : ObjV)) hr284 hdp hcf
  have hm315 : NoB8 w309 bm := (MapF.isMap hm250).noB8
  have hX : BX w.heap.size (some bm) w w311 := BX.put hX hg313
  have hmk : w311.heap[gm]? = some (.cells ([.map (some be), .map (some bm)]).toArray 120 (0, 0)) := kb hg313 hmk (by omega)
  have hme := hme.keep hZ5
  have hme : MapF rk entV (fun id : List UInt8 => id.length = 32) w311 be M := MapF.other hme hg313 (some_ne (by omega))
  have hMO : MOk w311 M := hMO.keepN hm315 hg313
  have hb11 : w311.heap[n2]? = some (.cells (Lib.byteCells id).toArray 38 (0, 0)) := kb hg313 hb11 (by omega)
  have hlt269 := lte (bl hb26) hn262
  have hb26 := eb hx264 hb26
  have hb26 := kb hg278 hb26 (by omega)
  have hb26 := eb hZ4 hb26
  have hb26 := kb hg296 hb26 (by omega)
  have hb26 := eb hZ5 hb26
  have hb26 : w311.heap[n13]? = some (.cells ([(Value.slice none 0 0), NI 0]).toArray 81 (0, 0)) := kb hg313 hb26 (by omega)
  have hlt270 := lte (bl hb169) hn262
  have hb169 := eb hx264 hb169
  have hb169 := kb hg278 hb169 (by omega)
  have hb169 := eb hZ4 hb169
  have hb169 := kb hg296 hb169 (by omega)
  have hb169 := eb hZ5 hb169
  have hb169 : w311.heap[n158]? = some (.cells ([(Value.slice none 0 0), NI 0]).toArray 81 (0, 0)) := kb hg313 hb169 (by omega)
  have hb202 := eb hZ4 hb202
  have hb202 := kb hg296 hb202 (by omega)
  have hb202 := eb hZ5 hb202
  have hb202 : w311.heap[n190]? = some (.cells (entC (((M (id)).getD dEnt))).toArray 116 (0, 0)) := kb hg313 hb202 (by omega)
  have hre211 := hre211.keep hZ5
  have hre211 : RB w311 (((M (id)).getD dEnt)).2 (entAt M id).bytes := hre211.keepN hm315 hg313
  have hr249 := hr249.keep hZ5
  have hr249 : RB w311 v245 bb := hr249.keepN hm315 hg313
  clear hm250
  have hb274 := kb hg296 hb274 (by omega)
  have hb274 := eb hZ5 hb274
  have hb274 : w311.heap[n260]? = some (.cells ([v245, NI kk]).toArray 81 (0, 0)) := kb hg313 hb274 (by omega)
  have hre282 := hre282.keep hZ5
  have hre282 : RB w311 (((M (id)).getD dEnt)).2 (entAt M id).bytes := hre282.keepN hm315 hg313
  have hr284 : RB w311 v283 (applyP bb (entAt M id).bytes).1 := hr284.keepN hm315 hg313
  have hb234 : w311.heap[n212]? = some (.cells ([v283, NI ((kk) + (1))]).toArray 81 (0, 0)) := kb hg313 hb234 (by omega)
  have hP : HOk w311 M (updM H1 (id) (some (((((applyP bb (entAt M id).bytes).1, (kk) + (1)), v283) : ObjV)))) := hP.keepN hm315 hg313
  have hE316 := Ext.refl w311
  have hz317 := hX.size
  refine gS (Yk.loadAll rfl hb234 (pk18_ty81).choose_spec rfl (show (Tryd.prog.info? 81).map (·.size) = some 2 from pk18_isz81) (gS (Yk.storeAll (vr (PQ n13 0) rfl) (vr (.agg ([v283, NI ((kk) + (1))]).toArray) rfl) hb26 rfl (show (Tryd.prog.info? 81).map (·.size) = some 2 from pk18_isz81) (obj_one (RB.one hr284).2) fun w319 hb320 hg321 hs322 => ?_)))
  have hnb_ : NoB8 w311 n13 := obj_noB8 hb26 ⟨_, _, _, rfl⟩
  have hX : BX w.heap.size (some bm) w w319 := BX.set hX hg321 (by omega)
  have hme := MapF.other hme hg321 (some_ne (by omega))
  have hMO : MOk w319 M := hMO.keepN hnb_ hg321
  have hre211 : RB w319 (((M (id)).getD dEnt)).2 (entAt M id).bytes := hre211.keepN hnb_ hg321
  have hr249 : RB w319 v245 bb := hr249.keepN hnb_ hg321
  have hre282 : RB w319 (((M (id)).getD dEnt)).2 (entAt M id).bytes := hre282.keepN hnb_ hg321
  have hr284 : RB w319 v283 (applyP bb (entAt M id).bytes).1 := hr284.keepN hnb_ hg321
  have hP : HOk w319 M (updM H1 (id) (some (((((applyP bb (entAt M id).bytes).1, (kk) + (1)), v283) : ObjV)))) := hP.keepN hnb_ hg321
  have hb312 := MapF.other hb312 hg321 (some_ne (by omega))
  clear hb26
  have hb26 := hb320; clear hb320
  have hl323 := bl hb26
  have hE324 := Ext.refl w319
  have hz325 := hX.size
  refine rg1 rfl (ResF.row rfl hb26 (pk18_ty81).choose_spec rfl ((show (Tryd.prog.info? 81).map (·.size) = some 2 from pk18_isz81))) ?_
  exact .inl ⟨_, rfl, _, _, _, _, rfl, hcf, hr284, hb312, hP, hX, hNa, NewM.put hNH1 id hNa⟩
 obtain ⟨hxr, nb_, d2, hx2, hx3⟩ := hHO id x hH
 have hdd := depthGo_uniq hdp hx2
 rw [← hdd] at hx3
 have hnx := hNH id x hH
 refine gM1 [0, 1, 2, 3, 4, 5, 6, 7, 8, 9, 10, 11] [9, 10] [1, 2, 7, 8] [3, 4, 5] fun w328 hx329 => ?_
 have hA330 := Ext.refl w328
 have hZ6 := hx17.trans hx329
 have hE := hE.trans hZ6
 have hz333 := hE.size
 have hA335 := Ext.refl w328
 have hlt8 := lte (bl hmk) hn4
 have hmk := eb hx6 hmk
 have hlt22 := lte (bl hmk) hn15
 have hmk := eb hZ6 hmk
 have hlt25 := lte (bl hb11) hn15
 have hb11 := eb hZ6 hb11
 have hmm := hmm.keep hZ6
 refine meb0 hA335 ?_
 refine yp (Yk.nilCheck rfl zz) (yp (Yk.fieldAt pk18_fo120_1 rfl zz) (yf (fun _ ⟨hZ, _⟩ => Yk.cell1 pk18_ty72 rfl rfl (cellAt (eb hZ hmk) rfl) zz) (yf (fun _ ⟨hZ, _⟩ => Yk.loadAll rfl (eb hZ hb11) pk18_ty38 rfl (by exact sizeId_of hid) zz) (yf (fun _ ⟨hZ, _⟩ => Yk.lookOkS (ek := rk) (ev := objV) (D := (fun id : List UInt8 => id.length = 32)) idLaw id_ok (fun _ _ => rk_inj) pk18_ty72 (z := objV dObj) zeroObj rfl rfl (hmm.keep hZ) hid hH zz) (yp (Yk.extract (vs := [.agg ([x.2, NI x.1.2]).toArray, .bool (true)]) rfl rfl zz) (yp (Yk.extract (vs := [.agg ([x.2, NI x.1.2]).toArray, .bool (true)]) rfl rfl zz) (yE (Yk.alloc pk18_al81 fun n336 w337 hn338 hb339 hx340 hs341 => ?_))))))))
 have hme := hme.keep hZ6
 have hlt343 := lte hme.lt hn338
 have hlt344 := lte hmm.lt hn338
 have hb347 := hb339; clear hb339
 have hl348 : n336 < w337.heap.size := by omega
 have hA335 := hA335.trans hx340
 refine ⟨hA335, ?_⟩
 have hE := hE.trans hx340
 refine yD rfl (Yk.storeAll (vr (PQ n336 0) rfl) (vr (.agg ([x.2, NI x.1.2]).toArray) rfl) hb347 rfl (show (Tryd.prog.info? 81).map (·.size) = some 2 from pk18_isz81) (obj_one (RB.one (hxr.keep hE)).2) fun w350 hb351 hg352 hs353 => ?_)
 have hme := hme.keep hx340
 have hme := MapF.other hme hg352 (some_ne (by omega))
 have hmm := hmm.keep hx340
 have hmm := MapF.other hmm hg352 (some_ne (by omega))
 clear hb347
 have hb347 := hb351; clear hb351
 have hl354 := bl hb347
 have hA330 := hA330.trans hx340
 have hA330 := row_fresh hA330 hg352 (Nat.le_trans (Nat.le_refl _) (by omega))
 have hb26 := eb (hx329.trans hA330) hb26
 have hE := row_fresh hE hg352 (Nat.le_trans hz333 (by omega))
 refine cT rfl (gS (Yk.loadAll rfl hb347 (pk18_ty81).choose_spec rfl (show (Tryd.prog.info? 81).map (·.size) = some 2 from pk18_isz81) (gS (Yk.storeAll (vr (PQ n13 0) rfl) (vr (.agg ([x.2, NI x.1.2]).toArray) rfl) hb26 rfl (show (Tryd.prog.info? 81).map (·.size) = some 2 from pk18_isz81) (obj_one (RB.one (hxr.keep hE)).2) fun w357 hb358 hg359 hs360 => ?_))))
 have hme := MapF.other hme hg359 (some_ne (by omega))
 have hmm := MapF.other hmm hg359 (some_ne (by omega))
 clear hb26
 have hb26 := hb358; clear hb358
 have hl361 := bl hb26
 refine rg1 rfl (ResF.row rfl hb26 (pk18_ty81).choose_spec rfl ((show (Tryd.prog.info? 81).map (·.size) = some 2 from pk18_isz81))) ?_
 have hE := row_fresh hE hg359 (Nat.le_trans hz21 (by omega))
 exact .inl ⟨_, rfl, _, _, _, H, rfl, hx3, (hxr.keep hE), hmm, (hHO.keep hE), (hX.keep hE), hnx, hNH⟩

theorem pmake_any (gm be bm : Nat) (M : Bs → Option EntV) : ∀ (d : Nat) (w : World) (H : Bs → Option ObjV) (id : Bs) (hmk : w.heap[gm]? = some (.cells ([.map (some be), .map (some bm)]).toArray 120 (0, 0))) (hme : MapF rk entV (fun id : List UInt8 => id.length = 32) w be M) (hmm : MapF rk objV (fun id : List UInt8 => id.length = 32) w bm H) (hMO : MOk w M) (hHO : HOk w M H) (hne : be ≠ bm) (hid : id.length = 32) (hd50 : d ≤ 50) (n0 : Nat) (hdp : depthGo (entAt M) n0 (entAt M id) = some d) (n0w : Nat) (hNM : NewM n0w M) (hNH : NewM n0w H) (hn0 : n0w ≤ w.heap.size), Calls Tryd.prog 68 #[PQ gm 0, AB id] w fun r w' => (∃ x, r = .returned x ∧ ∃ v b k H', x = .agg ([v, NI k]).toArray ∧ chainGo (entAt M) (d + 1) id = some (b, k) ∧ RB w' v b ∧ MapF rk objV (fun id : List UInt8 => id.length = 32) w' bm H' ∧ HOk w' M H' ∧ BX w.heap.size (some bm) w w' ∧ NewV n0w v ∧ NewM n0w H') ∨ ∃ ch, r = .panicked ch ∧ chainGo (entAt M) (d + 1) id = none ∧ ch = [stopE 6] ∧ BX w.heap.size (some bm) w w' := by
 intro d
 induction d using Nat.strongRecOn with
 | _ d ih => exact pmake_step gm be bm M d ih
open Go.RowKit
def OOk (w : World) (O : Bs → Option ObjV) : Prop := ∀ id x, O id = some x → RB w x.2 x.1.1
theorem OOk.keep {w w' : World} {O : Bs → Option ObjV} (h : OOk w O) (k : Ext w w') : OOk w' O := fun a c hc => (h a c hc).keep k
theorem OOk.keepN {w w' : World} {b : Nat} {O : Bs → Option ObjV} (h : OOk w O) (hm : NoB8 w b) (hg : w.grownBy w' (some b)) : OOk w' O := fun a c hc => (h a c hc).keepN hm hg
theorem OOk.nil (w : World) : OOk w (fun _ => none) := fun _ _ h => by cases h
theorem OOk.put {w : World} {O : Bs → Option ObjV} (h : OOk w O) {id : Bs} {x : ObjV} (h1 : RB w x.2 x.1.1) : OOk w (updM O id (some x)) := fun a c hc => by
  unfold updM at hc
  split at hc
  · cases hc; exact h1
  · exact h a c hc
theorem entOne_len {b : Bs} {fin pos : Nat} {e : Ent} {n : Nat} (h : entOne b fin pos = some (e, n)) (hf : fin ≤ b.length) : e.bytes.length ≤ b.length := by
  unfold entOne at h
  split at h
  · split at h
    · split at h
      · cases h
      · cases ht : textP b (pos + 33) fin with
        | none => rw [ht] at h; cases h
        | some x => rw [ht] at h; cases h; exact textP_len (s := x.1) (n := x.2) ht hf
    · cases ht : textP b (pos + 1) fin with
      | none => rw [ht] at h; cases h
      | some x => rw [ht] at h; cases h; exact textP_len (s := x.1) (n := x.2) ht hf
  · cases h
theorem entGo_len {b : Bs} {fin first : Nat} (hf : fin ≤ b.length) : ∀ (n : Nat) (es : List Ent) (p : Nat), entGo b fin first n = some (es, p) → es.length = n ∧ ∀ x ∈ es, x.bytes.length ≤ b.length
  | 0, es, p, h => by cases h; exact ⟨rfl, fun x hx => by cases hx⟩
  | n + 1, es, p, h => by
    cases h1 : entGo b fin first n with
    | none => rw [entGo_none h1 1] at h; cases h
    | some x =>
      rw [entGo_step (es := x.1) (p := x.2) h1] at h
      have ih := entGo_len hf n x.1 x.2 h1
      cases h2 : entOne b fin x.2 with
      | none => rw [h2] at h; cases h
      | some y =>
        rw [h2] at h
        cases h
        refine ⟨by rw [List.length_append, ih.1]; rfl, fun z hz => ?_⟩
        rcases List.mem_append.1 hz with hz | hz
        · exact ih.2 z hz
        · rw [List.mem_singleton.1 hz]; exact entOne_len (e := y.1) (n := y.2) h2 hf
theorem entriesP_len {b : Bs} {n first fin : Nat} {es : List Ent} (h : entriesP b n first fin = some es) (hf : fin ≤ b.length) : es.length = n ∧ ∀ x ∈ es, x.bytes.length ≤ b.length := by
  unfold entriesP at h
  cases h1 : entGo b fin first n with
  | none => rw [h1] at h; cases h
  | some x =>
    rw [h1] at h
    have h2 : (if x.2 = fin then some x.1 else none) = some es := h
    split at h2
    · cases h2; exact entGo_len hf n x.1 x.2 h1
    · cases h2
def IxS.plain (s : IxS EntV) : IxS Ent := ⟨s.ids, fun k => (s.G k).map Prod.fst, fun k => (s.M k).map Prod.fst⟩
theorem updM_map {α β γ : Type} [DecidableEq α] (G : α → Option β) (a : α) (y : Option β) (f : β → γ) : (fun k => (updM G a y k).map f) = updM (fun k => (G k).map f) a (y.map f) := by
  funext k
  unfold updM
  split <;> rfl
theorem placeGo_map (es : List EntV) : ∀ i, (fun k => (placeGo (fun x : EntV => x.1.pos) dEnt es i k).map Prod.fst) = placeGo Ent.pos dEnt.1 (es.map Prod.fst) i
  | 0 => rfl
  | i + 1 => by
    unfold placeGo
    rw [updM_map, placeGo_map es i]
    have e : (es.map Prod.fst).getD i dEnt.1 = (es.getD i dEnt).1 := by
      rw [List.getD_eq_getElem?_getD, List.getD_eq_getElem?_getD, List.getElem?_map]
      cases es[i]? <;> rfl
    rw [e]
    rfl
theorem ixGo_plain (t : Bs) (es : List EntV) : ∀ i, ixGo Ent.pos dEnt.1 t (es.map Prod.fst) i = (ixGo (fun x : EntV => x.1.pos) dEnt t es i).map IxS.plain
  | 0 => by
    unfold ixGo
    rw [List.length_map, ← placeGo_map]
    rfl
  | i + 1 => by
    cases h : ixGo (fun x : EntV => x.1.pos) dEnt t es i with
    | none =>
      have h' : ixGo Ent.pos dEnt.1 t (es.map Prod.fst) i = none := by rw [ixGo_plain t es i, h]; rfl
      rw [ixGo_none h 1, ixGo_none h' 1]
      rfl
    | some s =>
      have h' : ixGo Ent.pos dEnt.1 t (es.map Prod.fst) i = some s.plain := by rw [ixGo_plain t es i, h]; rfl
      rw [ixGo_step h, ixGo_step h']
      cases hG : s.G (rowAt t i) with
      | none =>
        have hG' : s.plain.G (rowAt t i) = none := by show (s.G (rowAt t i)).map Prod.fst = none; rw [hG]; rfl
        unfold ixStep
        rw [hG, hG']
        rfl
      | some c =>
        have hG' : s.plain.G (rowAt t i) = some c.1 := by show (s.G (rowAt t i)).map Prod.fst = some c.1; rw [hG]; rfl
        unfold ixStep
        rw [hG, hG']
        by_cases hc : i = 0 ∨ Lib.compareBytes (s.ids.getD (i - 1) []) (rowId t i) < 0
        · simp only [if_pos hc, if_pos (show i = 0 ∨ Lib.compareBytes (s.plain.ids.getD (i - 1) []) (rowId t i) < 0 from hc)]
          show some (ixNext Ent.pos t i s.plain c.1) = some (ixNext _ t i s c).plain
          unfold ixNext IxS.plain
          dsimp only
          rw [updM_map, updM_map]
          rfl
        · simp only [if_neg hc, if_neg (show ¬ (i = 0 ∨ Lib.compareBytes (s.plain.ids.getD (i - 1) []) (rowId t i) < 0) from hc)]
          rfl
def entOf (M : Bs → Option Ent) (k : Bs) : Ent := (M k).getD dEnt.1
theorem entAt_plain (s : IxS EntV) : entAt s.M = entOf s.plain.M := by
  funext k
  show ((s.M k).getD dEnt).1 = ((s.M k).map Prod.fst).getD dEnt.1
  cases s.M k <;> rfl
structure ObS where
  total : Nat
  O : Bs → Option (Bs × Nat)
def objStep (E : Bs → Ent) (id : Bs) (s : ObS) : Except Nat ObS :=
  match depthGo E 50 (E id) with
  | none => .error 17
  | some d => match chainGo E (d + 1) id with
    | none => .error 6
    | some x => if Sha.sum x.1 = id then (if s.total + x.1.length ≤ 4194304 then .ok ⟨s.total + x.1.length, updM s.O id (some (x.1, d))⟩ else .error 2) else .error 18
def objGo (E : Bs → Ent) (ids : List Bs) : Nat → Except Nat ObS
  | 0 => .ok ⟨0, fun _ => none⟩
  | i + 1 => match objGo E ids i with
    | .error e => .error e
    | .ok s => objStep E (ids.getD i []) s
theorem objStep_17 {E : Bs → Ent} {id : Bs} {s : ObS} (h : depthGo E 50 (E id) = none) : objStep E id s = .error 17 := by unfold objStep; rw [h]
theorem objStep_6 {E : Bs → Ent} {id : Bs} {s : ObS} {d : Nat} (h : depthGo E 50 (E id) = some d) (h2 : chainGo E (d + 1) id = none) : objStep E id s = .error 6 := by
  unfold objStep
  rw [h]
  dsimp only
  rw [h2]
theorem objStep_eq {E : Bs → Ent} {id : Bs} {s : ObS} {d : Nat} {b : Bs} {k : Nat} (h : depthGo E 50 (E id) = some d) (h2 : chainGo E (d + 1) id = some (b, k)) : objStep E id s = if Sha.sum b = id then (if s.total + b.length ≤ 4194304 then .ok ⟨s.total + b.length, updM s.O id (some (b, d))⟩ else .error 2) else .error 18 := by
  unfold objStep
  rw [h]
  dsimp only
  rw [h2]
theorem objGo_step {E : Bs → Ent} {ids : List Bs} {i : Nat} {s : ObS} (h : objGo E ids i = .ok s) : objGo E ids (i + 1) = objStep E (ids.getD i []) s := by
  show (match objGo E ids i with | .error e => _ | .ok s => _) = _
  rw [h]
theorem objGo_err {E : Bs → Ent} {ids : List Bs} {i : Nat} {e : Nat} (h : objGo E ids i = .error e) : ∀ k, objGo E ids (i + k) = .error e
  | 0 => h
  | k + 1 => by
    show (match objGo E ids (i + k) with | .error e => _ | .ok s => _) = _
    rw [objGo_err h k]
abbrev PackV := List Bs × (Bs → Option (Bs × Nat))
def readE (E : Bs → Ent) (ids : List Bs) : Except Nat PackV :=
  match objGo E ids ids.length with
  | .error e => .error e
  | .ok o => .ok (ids, o.O)
theorem readE_ok {E : Bs → Ent} {ids : List Bs} {o : ObS} (h : objGo E ids ids.length = .ok o) : readE E ids = .ok (ids, o.O) := by unfold readE; rw [h]
def basesB (es : List Ent) (M : Bs → Option Ent) : Bool := es.all fun e => !e.based || (M e.base).isSome
def fanB (b : Bs) (f : Nat) (ids : List Bs) : Bool := (List.range 256).all fun i => numP (b.drop (f + 4 * i)) == (fanL ids).getD i 0
def readD (b : Bs) (f : Nat) (es : List Ent) (s : IxS Ent) : Except Nat PackV := if fanB b f s.ids = true then (if basesB es s.M = true then readE (entOf s.M) s.ids else .error 6) else .error 6
def readC (b : Bs) (f : Nat) (es : List Ent) : Except Nat PackV :=
  match ixGo Ent.pos dEnt.1 ((b.drop (f + 1024)).take (b.length - 36 - (f + 1024))) es es.length with
  | none => .error 6
  | some s => readD b f es s
def readB (b : Bs) (n first f : Nat) : Except Nat PackV :=
  match entriesP b n first f with
  | none => .error 6
  | some es => readC b f es
def readA (b : Bs) (f n first : Nat) : Except Nat PackV :=
  if b.getD 0 0 = 80 ∧ first ≤ f ∧ f ≤ b.length - 36 ∧ n ≤ b.length - 36 then (if b.length - 36 - f = 1024 + 36 * n then readB b n first f else .error 6) else .error 6
def readP (b : Bs) : Except Nat PackV :=
  match lebDec 0 (b.drop 1) with
  | none => .error 6
  | some x => readA b (numP (b.drop (b.length - 36))) x.1 (1 + x.2)
theorem fanB_at {b : Bs} {f : Nat} {ids : List Bs} (h : fanB b f ids = true) {i : Nat} (hi : i < 256) : numP (b.drop (f + 4 * i)) = (fanL ids).getD i 0 := by
  have := List.all_eq_true.1 h i (by simpa using hi)
  exact beq_iff_eq.1 this
theorem fanB_of {b : Bs} {f : Nat} {ids : List Bs} (h : ∀ i, i < 256 → numP (b.drop (f + 4 * i)) = (fanL ids).getD i 0) : fanB b f ids = true :=
  List.all_eq_true.2 fun i hi => by rw [beq_iff_eq]; exact h i (by simpa using hi)
theorem basesB_at {es : List EntV} {M : Bs → Option EntV} (h : basesB (es.map Prod.fst) (fun k => (M k).map Prod.fst) = true) {q : Nat} (hq : q < es.length) : (es.getD q dEnt).1.based = true → M (es.getD q dEnt).1.base ≠ none := fun hb hn => by
  have h1 := List.all_eq_true.1 h (es.getD q dEnt).1 (List.mem_map.2 ⟨_, getD_mem dEnt hq, rfl⟩)
  dsimp only at h1
  rw [hb, hn] at h1
  cases h1
theorem basesB_of {es : List EntV} {M : Bs → Option EntV} (h : ∀ q, q < es.length → (es.getD q dEnt).1.based = true → M (es.getD q dEnt).1.base ≠ none) : basesB (es.map Prod.fst) (fun k => (M k).map Prod.fst) = true :=
  List.all_eq_true.2 fun e he => by
    obtain ⟨x, hx, rfl⟩ := List.mem_map.1 he
    obtain ⟨q, hq, rfl⟩ := List.getElem_of_mem hx
    have h1 := h q hq
    rw [show es.getD q dEnt = es[q] by rw [List.getD_eq_getElem?_getD, List.getElem?_eq_getElem hq]; rfl] at h1
    cases hb : (es[q]).1.based with
    | false => rfl
    | true =>
      cases hm : M (es[q]).1.base with
      | none => exact absurd hm (h1 hb)
      | some c => dsimp only; rw [hm]; rfl
theorem depthGo_le {E : Bs → Ent} : ∀ {n : Nat} {e : Ent} {d : Nat}, depthGo E n e = some d → d ≤ n
  | 0, e, d, h => by
    cases hb : e.based with
    | false => rw [depthGo_flat hb] at h; cases h; exact Nat.le_refl _
    | true => rw [depthGo_zero hb] at h; cases h
  | n + 1, e, d, h => by
    cases hb : e.based with
    | false => rw [depthGo_flat hb] at h; cases h; exact Nat.zero_le _
    | true =>
      rw [depthGo_step hb] at h
      cases h1 : depthGo E n (E e.base) with
      | none => rw [h1] at h; cases h
      | some d1 => rw [h1] at h; cases h; exact Nat.succ_le_succ (depthGo_le h1)
theorem MOk.of {w : World} {t : Bs} {es : List EntV} {s : IxS EntV} {i n : Nat} (h : EntsOk w es) (hI : IxOk t es i s) (hb : ∀ x ∈ es.map Prod.fst, x.bytes.length ≤ n) (hn : n ≤ 1048576) : MOk w s.M := fun k c hc =>
  have hm := hI.M k c hc
  ⟨(h c hm).1, (h c hm).2, Nat.le_trans (hb c.1 (List.mem_map.2 ⟨c, hm, rfl⟩)) hn⟩
open Go.RowKit
set_option maxRecDepth 100000
theorem pk20_ty24 : Tryd.prog.underlying 24 = some (.slice 5) := by kernel_rfl
theorem pk20_sz5 : ∀ w' : World, (sizeOf 5).run Tryd.prog w' = .ok 1 w' := fun _ => by kernel_rfl
theorem pk20_pl62 : Plain Tryd.prog 62 := fun _ _ => by kernel_rfl
theorem pk20_pl63 : Plain Tryd.prog 63 := fun _ _ => by kernel_rfl
theorem pk20_ty5 : Tryd.prog.underlying 5 = some (.int .u8) := by kernel_rfl
theorem pk20_pl64 : Plain Tryd.prog 64 := fun _ _ => by kernel_rfl
theorem pk20_pl65 : Plain Tryd.prog 65 := fun _ _ => by kernel_rfl
theorem pk20_pl66 : Plain Tryd.prog 66 := fun _ _ => by kernel_rfl
theorem pk20_pl26 : Plain Tryd.prog 26 := fun _ _ => by kernel_rfl
theorem pk20_ty59 : Tryd.prog.underlying 59 = some (.array 256 3) := by kernel_rfl
theorem pk20_ty3 : Tryd.prog.underlying 3 = some (.int .i64) := by kernel_rfl
theorem pk20_sz3 : ∀ w' : World, (sizeOf 3).run Tryd.prog w' = .ok 1 w' := fun _ => by kernel_rfl
theorem pk20_ty110 : Tryd.prog.underlying 110 = some (.slice 116) := by kernel_rfl
theorem pk20_szg116 : ∀ w' : World, (sizeOf 116).run Tryd.prog w' = .ok 35 w' := fun _ => by kernel_rfl
theorem pk20_ty116 : ∃ fs, Tryd.prog.underlying 116 = some (.struct fs) := struct_of (by kernel_rfl)
theorem pk20_isz116 : (Tryd.prog.info? 116).map (·.size) = some 35 := by kernel_rfl
theorem pk20_al116 {d : Option Tmp} {ty : TypeId} {pos : String} {af : Array Edge} {gd : Option (Nat × Bool)} (σ : Operand → Value) (w : World) : (execOp σ ⟨d, .alloc 116, ty, pos, af, gd⟩).run Tryd.prog w = .ok (.value (PQ w.heap.size 0)) (w.alloc (.cells (entC dEnt).toArray 116)) := by kernel_rfl
theorem pk20_fo116_2 : FieldOff Tryd.prog 116 2 2 := fun b o w => by simp [go_sem]
theorem pk20_ty38 : Tryd.prog.underlying 38 = some (.array 32 5) := by kernel_rfl
theorem pk20_isz38 : (Tryd.prog.info? 38).map (·.size) = some 32 := by kernel_rfl
theorem pk20_ty112 : Tryd.prog.underlying 112 = some (.map 38 116) := by kernel_rfl
theorem pk20_fo116_1 : FieldOff Tryd.prog 116 1 1 := fun b o w => by simp [go_sem]
theorem pk20_ty4 : Tryd.prog.underlying 4 = some (.bool) := by kernel_rfl
theorem pk20_bd120mm_01 (z0 : Nat) (z1 : Nat) (w : World) : (Instr.build 120 #[(0, .map (some z0)), (1, .map (some z1))]).run Tryd.prog w = .ok (.agg ([.map (some z0), .map (some z1)] : List Value).toArray) w := by kernel_rfl
theorem pk20_bd74sm_01 {z0 : Value} (h0 : ∃ ao n c, z0 = .slice ao n c) (z1 : Nat) (w : World) : (Instr.build 74 #[(0, z0), (1, .map (some z1))]).run Tryd.prog w = .ok (.agg ([z0, .map (some z1)] : List Value).toArray) w := by obtain ⟨_, _, _, rfl⟩ := h0; kernel_rfl
theorem pk20_ty47 : Tryd.prog.underlying 47 = some (.slice 38) := by kernel_rfl
theorem pk20_szg38 : ∀ w' : World, (sizeOf 38).run Tryd.prog w' = .ok 32 w' := fun _ => by kernel_rfl
theorem pk20_al38 {d : Option Tmp} {ty : TypeId} {pos : String} {af : Array Edge} {gd : Option (Nat × Bool)} (σ : Operand → Value) (w : World) : (execOp σ ⟨d, .alloc 38, ty, pos, af, gd⟩).run Tryd.prog w = .ok (.value (PQ w.heap.size 0)) (w.alloc (.cells (Lib.byteCells (List.replicate 32 0)).toArray 38)) := by kernel_rfl
theorem pk20_pl67 : Plain Tryd.prog 67 := fun _ _ => by kernel_rfl
theorem pk20_pl68 : Plain Tryd.prog 68 := fun _ _ => by kernel_rfl
theorem pk20_al81 {d : Option Tmp} {ty : TypeId} {pos : String} {af : Array Edge} {gd : Option (Nat × Bool)} (σ : Operand → Value) (w : World) : (execOp σ ⟨d, .alloc 81, ty, pos, af, gd⟩).run Tryd.prog w = .ok (.value (PQ w.heap.size 0)) (w.alloc (.cells ([(Value.slice none 0 0), NI 0]).toArray 81)) := by kernel_rfl
theorem pk20_isz81 : (Tryd.prog.info? 81).map (·.size) = some 2 := by kernel_rfl
theorem pk20_fo81_0 : FieldOff Tryd.prog 81 0 0 := fun b o w => by simp [go_sem]
theorem pk20_rows1_75 (ao : Option Addr) (n c : Nat) (w : World) : (Instr.buildSlice 75 1 #[(0, .slice ao n c)]).run Tryd.prog w = .ok (.slice (some ⟨w.heap.size, 0, none⟩) 1 1) (w.alloc (.cells #[.slice ao n c] 24)) := by kernel_rfl
theorem pk20_pl17 : Plain Tryd.prog 17 := fun _ _ => by kernel_rfl
theorem pk20_eg38 : Tryd.prog.eqGuardType Tryd.prog.depth 38 = false := by kernel_rfl
theorem pk20_fo74_1 : FieldOff Tryd.prog 74 1 1 := fun b o w => by simp [go_sem]
theorem pk20_ty72 : Tryd.prog.underlying 72 = some (.map 38 81) := by kernel_rfl
theorem pk20_bd81si_01 {z0 : Value} (h0 : ∃ ao n c, z0 = .slice ao n c) (z1 : Int) (w : World) : (Instr.build 81 #[(0, z0), (1, .int .i64 z1)]).run Tryd.prog w = .ok (.agg ([z0, .int .i64 z1] : List Value).toArray) w := by obtain ⟨_, _, _, rfl⟩ := h0; kernel_rfl
set_option maxHeartbeats 1600000
theorem read_any (w : World) (hG : Laid w) (v : Value) (b : Bs) (hr : RB w v b) (h36 : 36 ≤ b.length) (hb : b.length ≤ 1048576) :
  Calls Tryd.prog 37 #[v] w fun r w' => (∃ x, r = .returned x ∧ ∃ g vi bo ids O, x = PQ g 0 ∧ readP b = .ok (ids, fun k => (O k).map Prod.fst) ∧ w'.heap[g]? = some (.cells ([vi, .map (some bo)]).toArray 74 (0, 0)) ∧ RG 32 Lib.byteCells w' vi ids ∧ MapF rk objV (fun id : List UInt8 => id.length = 32) w' bo O ∧ OOk w' O ∧ w.heap.size ≤ g ∧ w.heap.size ≤ bo ∧ NewV w.heap.size vi ∧ NewM w.heap.size O ∧ Ext w w') ∨ ∃ ch, r = .panicked ch ∧ ∃ c, readP b = .error c ∧ ch = [stopE c] ∧ Ext w w' := by
 obtain ⟨f, hf⟩ : ∃ f, f = numP (b.drop (b.length - 36)) := ⟨_, rfl⟩
 refine gG (args := [v]) Tryd.func37 rfl 168 rfl rfl ?_
 have hE := Ext.refl w
 refine gS (Yk.lenRB pk20_ty24 (RB.of (hr.keep hE) rfl) (gS (Yk.bin (xv := NI b.length) (yv := NI 36) rfl rfl rfl (i64_sub _ _ _ (by omega) (by omega)) (gS (Yk.sliceLo (xs := b) (l := (b.length) - (36)) pk20_ty24 pk20_sz5 rfl (hr.keep hE) rfl (by omega) fun v4 hr5 ha6 => (gS (Yk.callA1 pk20_pl62 rfl (((show Calls _ _ _ _ (fun e w2 => e = .returned (NI (f)) ∧ Ext _ w2) from by rw [hf]; exact number_any_ _ v4 (b.drop ((b.length) - (36))) hr5 (by simp only [List.length_drop]; omega))).mono ?_))))))))
 rintro e w8 ⟨rfl, hx7⟩
 refine ⟨_, rfl, ?_⟩
 rcases hd : lebDec 0 (b.drop 1) with _ | ⟨n, k⟩
 ·have hP : readP b = .error 6 := by unfold readP; rw [hd]
  by_cases h80 : (b.getD 0 0).toNat = 80
  ·have hE := hE.trans hx7
   refine gS (Yk.callA2 pk20_pl63 rfl rfl (((show Calls _ _ _ _ (fun e w2 => e = .returned (.tuple #[NI 0, NI 0, NI 6]) ∧ Ext _ w2) from (get_in _ v b (hr.keep hE) 1 (by omega)).mono fun e w2 ⟨h1, h2⟩ => by subst h2; subst h1; rw [hd]; exact ⟨rfl, Ext.refl _⟩)).mono ?_))
   rintro e w11 ⟨rfl, hx10⟩
   refine ⟨_, rfl, ?_⟩
   have hE := hE.trans hx10
   refine gS (Yk.extract (vs := [NI 0, NI 0, NI 6]) rfl rfl (gS (Yk.extract (vs := [NI 0, NI 0, NI 6]) rfl rfl (gS (Yk.extract (vs := [NI 0, NI 0, NI 6]) rfl rfl (gS (Yk.atRB (l := b) (i := 0) pk20_ty24 pk20_sz5 (RB.of (hr.keep hE) rfl) rfl (by omega) fun v13 hp14 => (gS (Yk.loadC pk20_ty5 rfl (PCell.of hp14 rfl) (gS (Yk.eqI (a := ((b.getD (0) 0).toNat : Nat)) (b := (80 : Nat)) rfl rfl (k_eql _ _ _ _) (kT (h80) (gS (Yk.eqI (a := (6 : Nat)) (b := (0 : Nat)) rfl rfl (k_eql _ _ _ _) (kF (by decide) (gS (Yk.pickT rfl rfl (gS (Yk.pickF rfl rfl (gS (Yk.pickF rfl rfl (gS (Yk.pickF rfl rfl (gP (Yp.callA2 pk20_pl64 rfl rfl ?_)))))))))))))))))))))))))
   refine calls_either (need_any _ (false) 6) ?_ ?_
   rotate_left
   ·rintro ch w17 ⟨rfl, hb, hx⟩
    refine postP_panic ?_
    exact .inr ⟨_, rfl, 6, hP, rfl, hE.trans hx⟩
   rintro v_ w19 ⟨rfl, hb15, hx16⟩
   cases hb15
  have hE := hE.trans hx7
  refine gS (Yk.callA2 pk20_pl63 rfl rfl (((show Calls _ _ _ _ (fun e w2 => e = .returned (.tuple #[NI 0, NI 0, NI 6]) ∧ Ext _ w2) from (get_in _ v b (hr.keep hE) 1 (by omega)).mono fun e w2 ⟨h1, h2⟩ => by subst h2; subst h1; rw [hd]; exact ⟨rfl, Ext.refl _⟩)).mono ?_))
  rintro e w22 ⟨rfl, hx21⟩
  refine ⟨_, rfl, ?_⟩
  have hE := hE.trans hx21
  refine gS (Yk.extract (vs := [NI 0, NI 0, NI 6]) rfl rfl (gS (Yk.extract (vs := [NI 0, NI 0, NI 6]) rfl rfl (gS (Yk.extract (vs := [NI 0, NI 0, NI 6]) rfl rfl (gS (Yk.atRB (l := b) (i := 0) pk20_ty24 pk20_sz5 (RB.of (hr.keep hE) rfl) rfl (by omega) fun v24 hp25 => (gS (Yk.loadC pk20_ty5 rfl (PCell.of hp25 rfl) (gS (Yk.eqI (a := ((b.getD (0) 0).toNat : Nat)) (b := (80 : Nat)) rfl rfl (k_eql _ _ _ _) (kF (h80) (gS (Yk.pickF rfl rfl (gS (Yk.pickF rfl rfl (gS (Yk.pickF rfl rfl (gS (Yk.pickF rfl rfl (gP (Yp.callA2 pk20_pl64 rfl rfl ?_))))))))))))))))))))))
  refine calls_either (need_any _ (false) 6) ?_ ?_
  rotate_left
  ·rintro ch w28 ⟨rfl, hb, hx⟩
   refine postP_panic ?_
   exact .inr ⟨_, rfl, 6, hP, rfl, hE.trans hx⟩
  rintro v_ w30 ⟨rfl, hb26, hx27⟩
  cases hb26
 have hP0 : readP b = readA b f n (1 + k) := by unfold readP; rw [hd]; show readA b (numP _) n (1 + k) = _; rw [← hf]
 by_cases h80 : (b.getD 0 0).toNat = 80
 ·by_cases q1 : 1 + k ≤ f
  ·by_cases q2 : f ≤ b.length - 36
   ·by_cases q3 : n ≤ b.length - 36
    ·have hA : b.getD 0 0 = 80 ∧ 1 + k ≤ f ∧ f ≤ b.length - 36 ∧ n ≤ b.length - 36 := ⟨UInt8.toNat_inj.1 (by rw [h80]; rfl), q1, q2, q3⟩
     have hE := hE.trans hx7
     refine gS (Yk.callA2 pk20_pl63 rfl rfl (((show Calls _ _ _ _ (fun e w2 => e = .returned (.tuple #[NI n, NI (1 + k), NI 0]) ∧ Ext _ w2) from (get_in _ v b (hr.keep hE) 1 (by omega)).mono fun e w2 ⟨h1, h2⟩ => by subst h2; subst h1; rw [hd]; exact ⟨rfl, Ext.refl _⟩)).mono ?_))
     rintro e w33 ⟨rfl, hx32⟩
     refine ⟨_, rfl, ?_⟩
     have hE := hE.trans hx32
     refine gS (Yk.extract (vs := [NI n, NI (1 + k), NI 0]) rfl rfl (gS (Yk.extract (vs := [NI n, NI (1 + k), NI 0]) rfl rfl (gS (Yk.extract (vs := [NI n, NI (1 + k), NI 0]) rfl rfl (gS (Yk.atRB (l := b) (i := 0) pk20_ty24 pk20_sz5 (RB.of (hr.keep hE) rfl) rfl (by omega) fun v35 hp36 => (gS (Yk.loadC pk20_ty5 rfl (PCell.of hp36 rfl) (gS (Yk.eqI (a := ((b.getD (0) 0).toNat : Nat)) (b := (80 : Nat)) rfl rfl (k_eql _ _ _ _) (kT (h80) (gS (Yk.eqI (a := (0 : Nat)) (b := (0 : Nat)) rfl rfl (k_eql _ _ _ _) (kT (rfl) (gS (Yk.pickT rfl rfl (gS (Yk.eqI (a := (f : Nat)) (b := (1 + k : Nat)) rfl rfl (k_geq _ _ _ _) (kT (q1) (gS (Yk.pickT rfl rfl (gS (Yk.eqI (a := (f : Nat)) (b := ((b.length) - (36) : Nat)) rfl rfl (k_leq _ _ _ _) (kT (q2) (gS (Yk.pickT rfl rfl (gS (Yk.eqI (a := (n : Nat)) (b := ((b.length) - (36) : Nat)) rfl rfl (k_leq _ _ _ _) (kT (q3) (gS (Yk.pickT rfl rfl (gP (Yp.callA2 pk20_pl64 rfl rfl ?_))))))))))))))))))))))))))))))))))
     refine calls_either (need_any _ (true) 6) ?_ ?_
     rotate_left
     ·rintro ch w39 ⟨rfl, hb, hx⟩
      refine postP_panic ?_
      cases hb
     rintro v_ w41 ⟨rfl, hb37, hx38⟩
     clear hp36
     refine gS (Yk.bin (xv := NI ((b.length) - (36))) (yv := NI f) rfl rfl rfl (i64_sub _ _ _ (by omega) (by omega)) (gS (Yk.bin (xv := NI 36) (yv := NI n) rfl rfl rfl (i64_mul _ _ _ (by omega)) (gS (Yk.bin (xv := NI 1024) (yv := NI ((36) * (n))) rfl rfl rfl (i64_add _ _ _ (by omega)) (gS (Yk.eqI (a := (((b.length) - (36)) - (f) : Nat)) (b := ((1024) + ((36) * (n)) : Nat)) rfl rfl (k_eql _ _ _ _) (gP (Yp.callA2 pk20_pl64 rfl rfl ?_)))))))))
     refine calls_either (need_any _ (decide ((((b.length) - (36)) - (f) : Nat) = ((1024) + ((36) * (n))))) 6) ?_ ?_
     rotate_left
     ·rintro ch w45 ⟨rfl, hb, hx⟩
      refine postP_panic ?_
      have hno := of_decide_eq_false hb
      have hE := hE.trans hx38
      exact .inr ⟨_, rfl, 6, hP0.trans ((if_pos hA).trans (if_neg hno)), rfl, hE.trans hx⟩
     rintro v_ w47 ⟨rfl, hb43, hx44⟩
     have hn48 := of_decide_eq_true hb43
     have hq5 := hn48
     have hP1 : readP b = readB b n (1 + k) f := hP0.trans ((if_pos hA).trans (if_pos hq5))
     have hE := hE.trans (hx38.trans hx44)
     refine gP (Yp.callA4 pk20_pl65 rfl rfl rfl rfl ?_)
     refine calls_either (entries_any _ v b (hr.keep hE) n (1 + k) f (by omega) (by omega) (by omega) (by omega)) ?_ ?_
     rotate_left
     ·rintro ch w54 ⟨hno, rfl, hx⟩
      refine postP_panic ?_
      exact .inr ⟨_, rfl, 6, hP1.trans (by unfold readB; rw [hno]), rfl, hE.trans hx⟩
     rintro v50 w56 ⟨es, hes, hg51, hok52, hnw0, hx53⟩
     have hnwE : ∀ x ∈ es, NewV w.heap.size x.2 := fun x hx k hk => Nat.le_trans (hE).size (hnw0 x hx k hk)
     have hok := hok52
     have hel := entriesP_len hes (by omega)
     rw [List.length_map] at hel
     have heln := hel.1
     have hP2 : readP b = readC b f (es.map Prod.fst) := hP1.trans (by unfold readB; rw [hes])
     have hE := hE.trans hx53
     refine gS (Yk.bin (xv := NI f) (yv := NI 1024) rfl rfl rfl (i64_add _ _ _ (by omega)) (gS (Yk.sliceLH (xs := b) (l := (f) + (1024)) (n := (b.length) - (36)) pk20_ty24 pk20_sz5 rfl (hr.keep hE) rfl rfl (by omega) (by omega) fun v58 hr59 ha60 => (gP (Yp.callA2 pk20_pl66 rfl rfl ?_)))))
     refine calls_either (pindex_any _ v58 ((b.drop (f + 1024)).take (b.length - 36 - (f + 1024))) hr59 v50 es hg51 hok (by rw [List.length_take, List.length_drop]; omega) (by omega)) ?_ ?_
     rotate_left
     ·rintro ch w66 ⟨hno, rfl, hx⟩
      refine postP_panic ?_
      exact .inr ⟨_, rfl, 6, hP2.trans (by unfold readC; rw [List.length_map, ixGo_plain, hno]; rfl), rfl, hE.trans hx⟩
     rintro v_ w68 ⟨s, v61, n62, his, rfl, hg63, hm64, hNv0, hx65⟩
     have hNvi : NewV w.heap.size v61 := fun k hk => Nat.le_trans (hE).size (hNv0 k hk)
     have hA69 := Ext.refl w56
     have hz71 := hE.size
     have hI := ixGo_ok _ _ his
     have hNM : NewM w.heap.size s.M := fun id c hc => hnwE c (hI.M id c hc)
     have hA69 := hA69.trans hx65
     have hMO : MOk w68 s.M := MOk.of (hok.keep hA69) hI hel.2 (by omega)
     have hA72 := Ext.refl w68
     have hE := hE.trans hx65
     have hz75 := hE.size
     have hz76 := hA69.size
     have hIl := hI.len
     have hlbe := hm64.lt
     have hP3 : readP b = readD b f (es.map Prod.fst) s.plain := hP2.trans (by unfold readC; rw [List.length_map, ixGo_plain, his]; rfl)
     refine gS (Yk.extract (vs := [v61, .map (some n62)]) rfl rfl (gS (Yk.extract (vs := [v61, .map (some n62)]) rfl rfl (gS (Yk.callA1 pk20_pl26 rfl ((fan_any _ v61 s.ids (hg63.keep hA72)).mono ?_))))))
     rintro e w80 ⟨rfl, hx79⟩
     refine ⟨_, rfl, ?_⟩
     have hE := hE.trans hx79
     have hA69 := hA69.trans hx79
     have hm64 := hm64.keep hx79
     have hA72 := hA72.trans hx79
     refine gL (fun (ρ : Slots) (wz : World) => ∃ m : Nat, ρ 0 = (v : Value) ∧ ρ 2 = (.pointer none : Value) ∧ ρ 3 = (NI ((b.length) - (36)) : Value) ∧ ρ 4 = (NI f : Value) ∧ ρ 5 = (NI n : Value) ∧ ρ 6 = (NI (1 + k) : Value) ∧ ρ 7 = (NI 0 : Value) ∧ ρ 8 = (v50 : Value) ∧ ρ 9 = (v61 : Value) ∧ ρ 10 = (.map (some n62) : Value) ∧ ρ 85 = (.agg ((fanL (s.ids)).map fun x => NI x).toArray : Value) ∧ ρ 86 = (NI m : Value) ∧ Ext w wz ∧ Ext w56 wz ∧ MapF rk entV (fun id : List UInt8 => id.length = 32) wz n62 s.M ∧ Ext w68 wz ∧ (m ≤ 256) ∧ (∀ j, j < m → numP (b.drop (f + 4 * j)) = (fanL s.ids).getD j 0) ∧ True) (fun ρ _ => 256 - (intOf (ρ 86)).toNat) ⟨0, rfl, rfl, rfl, rfl, rfl, rfl, rfl, rfl, rfl, rfl, rfl, rfl, hE, hA69, hm64, hA72, Nat.zero_le _, fun j hj => absurd hj (Nat.not_lt_zero _), trivial⟩ ?_
     clear hE hm64
     rintro ρ81 w82 ⟨m, T0, T2, T3, T4, T5, T6, T7, T8, T9, T10, T85, T86, hE, hA69, hm64, hA72, hm, hfan, -⟩
     have q86 := T86
     refine gS (Yk.eqI (a := (m : Nat)) (b := (256 : Nat)) T86 rfl (k_lss _ _ _ _) ?_)
     refine cD rfl (fun hc0 => ?_) fun hc0 => ?_
     ·refine gS (Yk.idxN (l := fanL (s.ids)) (i := m) pk20_ty59 pk20_ty3 rfl pk20_sz3 T85 T86 (by omega) (by rw [fanL_len]) (gS (Yk.bin (xv := NI 4) (yv := NI m) rfl T86 rfl (i64_mul _ _ _ (by omega)) (gS (Yk.bin (xv := NI f) (yv := NI ((4) * (m))) T4 rfl rfl (i64_add _ _ _ (by omega)) (gS (Yk.sliceLo (xs := b) (l := (f) + ((4) * (m))) pk20_ty24 pk20_sz5 T0 (hr.keep hE) rfl (by omega) fun v87 hr88 ha89 => (gS (Yk.callA1 pk20_pl62 rfl (((show Calls _ _ _ _ (fun e w2 => e = .returned (NI (numP (b.drop (f + 4 * m)))) ∧ Ext _ w2) from by skip; exact number_any_ _ v87 (b.drop ((f) + ((4) * (m)))) hr88 (by simp only [List.length_drop]; omega))).mono ?_))))))))))
      rintro e w91 ⟨rfl, hx90⟩
      refine ⟨_, rfl, ?_⟩
      refine gS (Yk.eqI (a := (numP (b.drop (f + 4 * m)) : Nat)) (b := ((fanL (s.ids)).getD (m) 0 : Nat)) rfl rfl (k_eql _ _ _ _) (gP (Yp.callA2 pk20_pl64 rfl rfl ?_)))
      refine calls_either (need_any _ (decide ((numP (b.drop (f + 4 * m)) : Nat) = ((fanL (s.ids)).getD (m) 0))) 6) ?_ ?_
      rotate_left
      ·rintro ch w94 ⟨rfl, hb, hx⟩
       refine postP_panic ?_
       have hno := of_decide_eq_false hb
       have hE := hE.trans hx90
       exact .inr ⟨_, rfl, 6, hP3.trans (if_neg (fun h => hno (fanB_at h (by omega)))), rfl, hE.trans hx⟩
      rintro v_ w96 ⟨rfl, hb92, hx93⟩
      have hn97 := of_decide_eq_true hb92
      have hZ1 := hx90.trans hx93
      have hE := hE.trans hZ1
      have hA69 := hA69.trans hZ1
      have hm64 := hm64.keep hZ1
      have hA72 := hA72.trans hZ1
      refine gS (Yk.bin (xv := NI m) (yv := NI 1) T86 rfl rfl (i64_add _ _ _ (by omega)) (gK (And.intro ⟨m + 1, T0, T2, T3, T4, T5, T6, T7, T8, T9, T10, T85, rfl, hE, hA69, hm64, hA72, by omega, fun j hj => by by_cases e : j = m; subst e; exact hn97; exact hfan j (by omega), trivial⟩ ?_)))
      show 256 - (intOf (NI ((m) + (1)))).toNat < 256 - (intOf (ρ81 86)).toNat
      rw [q86]
      simp only [intOf, Int.toNat_natCast]; omega
     have hfb := fanB_of (fun j hj => hfan j (by omega))
     have hP4 : readP b = (if basesB (es.map Prod.fst) s.plain.M = true then readE (entOf s.plain.M) s.plain.ids else .error 6) := hP3.trans (if_pos hfb)
     refine gS (Yk.lenRG pk20_ty110 (RG.of (hg51.keep hA69) T8) (gL (fun (ρ : Slots) (wz : World) => ∃ q : Nat, ρ 0 = (v : Value) ∧ ρ 2 = (.pointer none : Value) ∧ ρ 3 = (NI ((b.length) - (36)) : Value) ∧ ρ 4 = (NI f : Value) ∧ ρ 5 = (NI n : Value) ∧ ρ 6 = (NI (1 + k) : Value) ∧ ρ 7 = (NI 0 : Value) ∧ ρ 8 = (v50 : Value) ∧ ρ 9 = (v61 : Value) ∧ ρ 10 = (.map (some n62) : Value) ∧ ρ 85 = (.agg ((fanL (s.ids)).map fun x => NI x).toArray : Value) ∧ ρ 86 = (NI m : Value) ∧ ρ 101 = (v50 : Value) ∧ ρ 102 = (NI es.length : Value) ∧ ρ 103 = (NI q : Value) ∧ Ext w wz ∧ Ext w56 wz ∧ MapF rk entV (fun id : List UInt8 => id.length = 32) wz n62 s.M ∧ Ext w68 wz ∧ (q ≤ es.length) ∧ (∀ j, j < q → (es.getD j dEnt).1.based = true → s.M (es.getD j dEnt).1.base ≠ none) ∧ True) (fun ρ _ => es.length - (intOf (ρ 103)).toNat) ⟨0, T0, T2, T3, T4, T5, T6, T7, T8, T9, T10, T85, T86, T8, rfl, rfl, hE, hA69, hm64, hA72, Nat.zero_le _, fun j hj => absurd hj (Nat.not_lt_zero _), trivial⟩ ?_))
     clear hE hA69 hm64 hA72
     rintro ρ100 w101 ⟨q, T0, T2, T3, T4, T5, T6, T7, T8, T9, T10, T85, T86, T101, T102, T103, hE, hA69, hm64, hA72, hq, hbs, -⟩
     have q103 := T103
     refine gS (Yk.eqI (a := (q : Nat)) (b := (es.length : Nat)) T103 T102 (k_lss _ _ _ _) ?_)
     refine cD rfl (fun hc1 => ?_) fun hc1 => ?_
     ·have hc2_ : q < es.length := hc1
      have hcl := hok _ (getD_mem dEnt (l := es) (i := q) hc2_)
      rcases hl : s.M (es.getD (q) dEnt).1.base with _ | c
      ·rcases hbx : (es.getD (q) dEnt).1.based with _ | _
       ·have hl108 : (entC (es.getD (q) dEnt)).length = 35 := (RG.elem (hg51.keep hA69) dEnt (by omega))
        refine gS (Yk.atRG pk20_ty110 pk20_szg116 (by decide) dEnt (RG.of (hg51.keep hA69) T101) T103 (by omega) fun v106 hp107 => (gS (Yk.loadPR (PR.of hp107 rfl) (pk20_ty116).choose_spec rfl (by rw [hl108]; exact pk20_isz116) (gS (Yk.alloc pk20_al116 fun n109 w110 hn111 hb112 hx113 hs114 => ?_)))))
        have hA115 := Ext.refl w101
        have hz119 := hE.size
        have hz120 := hA69.size
        have hz121 := hA72.size
        have hlt122 := lte hm64.lt hn111
        have hb123 := hb112; clear hb112
        have hl124 : n109 < w110.heap.size := by omega
        refine gS (Yk.storeAll (vr (PQ n109 0) rfl) (vr (.agg (entC (es.getD (q) dEnt)).toArray) rfl) hb123 (entC_size (x := ((es.getD (q) dEnt) : EntV)) (y := (dEnt : EntV)) hcl.2 (by simp [dEnt])) (entC_isz (x := ((es.getD (q) dEnt) : EntV)) pk20_isz116 hcl.2) (entC_one (x := ((es.getD (q) dEnt) : EntV)) (RB.one hcl.1).2) fun w125 hb126 hg127 hs128 => ?_)
        have hm64 := hm64.keep hx113
        have hm64 := MapF.other hm64 hg127 (some_ne (by omega))
        clear hb123
        have hb123 := hb126; clear hb126
        have hl129 := bl hb123
        clear hp107
        refine gS (Yk.fieldAt pk20_fo116_2 rfl (gS (Yk.loadPart rfl (entC_range (x := ((es.getD (q) dEnt) : EntV)) hb123) pk20_ty38 rfl (by rw [Lib.byteCells_length, hcl.2]; exact pk20_isz38) (gS (Yk.lookOkN (ek := rk) (ev := entV) (D := (fun id : List UInt8 => id.length = 32)) idLaw id_ok (fun _ _ => rk_inj) pk20_ty112 (z := entV dEnt) zeroEnt T10 rfl hm64 hcl.2 hl (gS (Yk.extract (vs := [.agg (entC (dEnt)).toArray, .bool (false)]) rfl rfl (gS (Yk.extract (vs := [.agg (entC (dEnt)).toArray, .bool (false)]) rfl rfl (gS (Yk.alloc pk20_al116 fun n131 w132 hn133 hb134 hx135 hs136 => ?_)))))))))))
        have hA137 := Ext.refl w125
        have hA115 := hA115.trans hx113
        have hA115 := row_fresh hA115 hg127 (Nat.le_trans (Nat.le_refl _) (by omega))
        have hE := hE.trans hA115
        have hA69 := hA69.trans hA115
        have hA72 := hA72.trans hA115
        have hz142 := hE.size
        have hz143 := hA69.size
        have hz144 := hA72.size
        have hlt146 := lte hm64.lt hn133
        have hb148 := hb134; clear hb134
        have hl149 : n131 < w132.heap.size := by omega
        refine gS (Yk.storeAll (vr (PQ n131 0) rfl) (vr (.agg (entC (dEnt)).toArray) rfl) hb148 (entC_size (x := ((dEnt) : EntV)) (y := (dEnt : EntV)) (by simp [dEnt]) (by simp [dEnt])) (entC_isz (x := ((dEnt) : EntV)) pk20_isz116 (by simp [dEnt])) (entC_one (x := ((dEnt) : EntV)) rfl) fun w150 hb151 hg152 hs153 => ?_)
        have hm64 := hm64.keep hx135
        have hm64 := MapF.other hm64 hg152 (some_ne (by omega))
        clear hb148
        have hb148 := hb151; clear hb151
        have hl154 := bl hb148
        have hA137 := hA137.trans hx135
        have hA137 := row_fresh hA137 hg152 (Nat.le_trans (Nat.le_refl _) (by omega))
        have hb123 := eb hA137 hb123
        refine gS (Yk.fieldAt pk20_fo116_1 rfl (gS (Yk.cell1 pk20_ty4 rfl rfl (cellAt hb123 ((show (entC ((es.getD (q) dEnt)))[1]? = some (.bool false : Value) from congrArg (fun b => some (Value.bool b)) hbx))) (gS (Yk.notB rfl (gS (Yk.pickT rfl rfl (gP (Yp.callA2 pk20_pl64 rfl rfl ?_)))))))))
        refine calls_either (need_any _ (true) 6) ?_ ?_
        rotate_left
        ·rintro ch w157 ⟨rfl, hb, hx⟩
         refine postP_panic ?_
         cases hb
        rintro v_ w159 ⟨rfl, hb155, hx156⟩
        have hE := hE.trans hx135
        have hE := row_fresh hE hg152 (Nat.le_trans hz142 (by omega))
        have hE := hE.trans hx156
        have hA69 := hA69.trans hx135
        have hA69 := row_fresh hA69 hg152 (Nat.le_trans hz143 (by omega))
        have hA69 := hA69.trans hx156
        have hA72 := hA72.trans hx135
        have hA72 := row_fresh hA72 hg152 (Nat.le_trans hz144 (by omega))
        have hA72 := hA72.trans hx156
        have hm64 := hm64.keep hx156
        refine gS (Yk.bin (xv := NI q) (yv := NI 1) T103 rfl rfl (i64_add _ _ _ (by omega)) (gK (And.intro ⟨q + 1, T0, T2, T3, T4, T5, T6, T7, T8, T9, T10, T85, T86, T101, T102, rfl, hE, hA69, hm64, hA72, by omega, fun j hj => by by_cases e : j = q; subst e; exact (fun hbt => by rw [hbx] at hbt; cases hbt); exact hbs j (by omega), trivial⟩ ?_)))
        show es.length - (intOf (NI ((q) + (1)))).toNat < es.length - (intOf (ρ100 103)).toNat
        rw [q103]
        simp only [intOf, Int.toNat_natCast]; omega
       have hl164 : (entC (es.getD (q) dEnt)).length = 35 := (RG.elem (hg51.keep hA69) dEnt (by omega))
       refine gS (Yk.atRG pk20_ty110 pk20_szg116 (by decide) dEnt (RG.of (hg51.keep hA69) T101) T103 (by omega) fun v162 hp163 => (gS (Yk.loadPR (PR.of hp163 rfl) (pk20_ty116).choose_spec rfl (by rw [hl164]; exact pk20_isz116) (gS (Yk.alloc pk20_al116 fun n165 w166 hn167 hb168 hx169 hs170 => ?_)))))
       have hA171 := Ext.refl w101
       have hz175 := hE.size
       have hz176 := hA69.size
       have hz177 := hA72.size
       have hlt178 := lte hm64.lt hn167
       have hb179 := hb168; clear hb168
       have hl180 : n165 < w166.heap.size := by omega
       refine gS (Yk.storeAll (vr (PQ n165 0) rfl) (vr (.agg (entC (es.getD (q) dEnt)).toArray) rfl) hb179 (entC_size (x := ((es.getD (q) dEnt) : EntV)) (y := (dEnt : EntV)) hcl.2 (by simp [dEnt])) (entC_isz (x := ((es.getD (q) dEnt) : EntV)) pk20_isz116 hcl.2) (entC_one (x := ((es.getD (q) dEnt) : EntV)) (RB.one hcl.1).2) fun w181 hb182 hg183 hs184 => ?_)
       have hm64 := hm64.keep hx169
       have hm64 := MapF.other hm64 hg183 (some_ne (by omega))
       clear hb179
       have hb179 := hb182; clear hb182
       have hl185 := bl hb179
       clear hp163
       refine gS (Yk.fieldAt pk20_fo116_2 rfl (gS (Yk.loadPart rfl (entC_range (x := ((es.getD (q) dEnt) : EntV)) hb179) pk20_ty38 rfl (by rw [Lib.byteCells_length, hcl.2]; exact pk20_isz38) (gS (Yk.lookOkN (ek := rk) (ev := entV) (D := (fun id : List UInt8 => id.length = 32)) idLaw id_ok (fun _ _ => rk_inj) pk20_ty112 (z := entV dEnt) zeroEnt T10 rfl hm64 hcl.2 hl (gS (Yk.extract (vs := [.agg (entC (dEnt)).toArray, .bool (false)]) rfl rfl (gS (Yk.extract (vs := [.agg (entC (dEnt)).toArray, .bool (false)]) rfl rfl (gS (Yk.alloc pk20_al116 fun n187 w188 hn189 hb190 hx191 hs192 => ?_)))))))))))
       have hA193 := Ext.refl w181
       have hA171 := hA171.trans hx169
       have hA171 := row_fresh hA171 hg183 (Nat.le_trans (Nat.le_refl _) (by omega))
       have hE := hE.trans hA171
       have hA69 := hA69.trans hA171
       have hA72 := hA72.trans hA171
       have hz198 := hE.size
       have hz199 := hA69.size
       have hz200 := hA72.size
       have hlt202 := lte hm64.lt hn189
       have hb204 := hb190; clear hb190
       have hl205 : n187 < w188.heap.size := by omega
       refine gS (Yk.storeAll (vr (PQ n187 0) rfl) (vr (.agg (entC (dEnt)).toArray) rfl) hb204 (entC_size (x := ((dEnt) : EntV)) (y := (dEnt : EntV)) (by simp [dEnt]) (by simp [dEnt])) (entC_isz (x := ((dEnt) : EntV)) pk20_isz116 (by simp [dEnt])) (entC_one (x := ((dEnt) : EntV)) rfl) fun w206 hb207 hg208 hs209 => ?_)
       have hm64 := hm64.keep hx191
       have hm64 := MapF.other hm64 hg208 (some_ne (by omega))
       clear hb204
       have hb204 := hb207; clear hb207
       have hl210 := bl hb204
       have hA193 := hA193.trans hx191
       have hA193 := row_fresh hA193 hg208 (Nat.le_trans (Nat.le_refl _) (by omega))
       have hb179 := eb hA193 hb179
       refine gS (Yk.fieldAt pk20_fo116_1 rfl (gS (Yk.cell1 pk20_ty4 rfl rfl (cellAt hb179 ((show (entC ((es.getD (q) dEnt)))[1]? = some (.bool true : Value) from congrArg (fun b => some (Value.bool b)) hbx))) (gS (Yk.notB rfl (gS (Yk.pickF rfl rfl (gP (Yp.callA2 pk20_pl64 rfl rfl ?_)))))))))
       refine calls_either (need_any _ (false) 6) ?_ ?_
       rotate_left
       ·rintro ch w213 ⟨rfl, hb, hx⟩
        refine postP_panic ?_
        have hE := hE.trans hx191
        have hE := row_fresh hE hg208 (Nat.le_trans hz198 (by omega))
        exact .inr ⟨_, rfl, 6, hP4.trans (if_neg (fun h => basesB_at h hc2_ hbx hl)), rfl, hE.trans hx⟩
       rintro v_ w215 ⟨rfl, hb211, hx212⟩
       cases hb211
      have hcx := hMO _ c hl
      rcases hbx : (es.getD (q) dEnt).1.based with _ | _
      ·have hl220 : (entC (es.getD (q) dEnt)).length = 35 := (RG.elem (hg51.keep hA69) dEnt (by omega))
       refine gS (Yk.atRG pk20_ty110 pk20_szg116 (by decide) dEnt (RG.of (hg51.keep hA69) T101) T103 (by omega) fun v218 hp219 => (gS (Yk.loadPR (PR.of hp219 rfl) (pk20_ty116).choose_spec rfl (by rw [hl220]; exact pk20_isz116) (gS (Yk.alloc pk20_al116 fun n221 w222 hn223 hb224 hx225 hs226 => ?_)))))
       have hA227 := Ext.refl w101
       have hz231 := hE.size
       have hz232 := hA69.size
       have hz233 := hA72.size
       have hlt234 := lte hm64.lt hn223
       have hb235 := hb224; clear hb224
       have hl236 : n221 < w222.heap.size := by omega
       refine gS (Yk.storeAll (vr (PQ n221 0) rfl) (vr (.agg (entC (es.getD (q) dEnt)).toArray) rfl) hb235 (entC_size (x := ((es.getD (q) dEnt) : EntV)) (y := (dEnt : EntV)) hcl.2 (by simp [dEnt])) (entC_isz (x := ((es.getD (q) dEnt) : EntV)) pk20_isz116 hcl.2) (entC_one (x := ((es.getD (q) dEnt) : EntV)) (RB.one hcl.1).2) fun w237 hb238 hg239 hs240 => ?_)
       have hm64 := hm64.keep hx225
       have hm64 := MapF.other hm64 hg239 (some_ne (by omega))
       clear hb235
       have hb235 := hb238; clear hb238
       have hl241 := bl hb235
       clear hp219
       refine gS (Yk.fieldAt pk20_fo116_2 rfl (gS (Yk.loadPart rfl (entC_range (x := ((es.getD (q) dEnt) : EntV)) hb235) pk20_ty38 rfl (by rw [Lib.byteCells_length, hcl.2]; exact pk20_isz38) (gS (Yk.lookOkS (ek := rk) (ev := entV) (D := (fun id : List UInt8 => id.length = 32)) idLaw id_ok (fun _ _ => rk_inj) pk20_ty112 (z := entV dEnt) zeroEnt T10 rfl hm64 hcl.2 hl (gS (Yk.extract (vs := [.agg (entC (c)).toArray, .bool (true)]) rfl rfl (gS (Yk.extract (vs := [.agg (entC (c)).toArray, .bool (true)]) rfl rfl (gS (Yk.alloc pk20_al116 fun n243 w244 hn245 hb246 hx247 hs248 => ?_)))))))))))
       have hA249 := Ext.refl w237
       have hA227 := hA227.trans hx225
       have hA227 := row_fresh hA227 hg239 (Nat.le_trans (Nat.le_refl _) (by omega))
       have hE := hE.trans hA227
       have hA69 := hA69.trans hA227
       have hA72 := hA72.trans hA227
       have hz254 := hE.size
       have hz255 := hA69.size
       have hz256 := hA72.size
       have hlt258 := lte hm64.lt hn245
       have hb260 := hb246; clear hb246
       have hl261 : n243 < w244.heap.size := by omega
       refine gS (Yk.storeAll (vr (PQ n243 0) rfl) (vr (.agg (entC (c)).toArray) rfl) hb260 (entC_size (x := ((c) : EntV)) (y := (dEnt : EntV)) hcx.2.1 (by simp [dEnt])) (entC_isz (x := ((c) : EntV)) pk20_isz116 hcx.2.1) (entC_one (x := ((c) : EntV)) (RB.one hcx.1).2) fun w262 hb263 hg264 hs265 => ?_)
       have hm64 := hm64.keep hx247
       have hm64 := MapF.other hm64 hg264 (some_ne (by omega))
       clear hb260
       have hb260 := hb263; clear hb263
       have hl266 := bl hb260
       have hA249 := hA249.trans hx247
       have hA249 := row_fresh hA249 hg264 (Nat.le_trans (Nat.le_refl _) (by omega))
       have hb235 := eb hA249 hb235
       refine gS (Yk.fieldAt pk20_fo116_1 rfl (gS (Yk.cell1 pk20_ty4 rfl rfl (cellAt hb235 ((show (entC ((es.getD (q) dEnt)))[1]? = some (.bool false : Value) from congrArg (fun b => some (Value.bool b)) hbx))) (gS (Yk.notB rfl (gS (Yk.pickT rfl rfl (gP (Yp.callA2 pk20_pl64 rfl rfl ?_)))))))))
       refine calls_either (need_any _ (true) 6) ?_ ?_
       rotate_left
       ·rintro ch w269 ⟨rfl, hb, hx⟩
        refine postP_panic ?_
        cases hb
       rintro v_ w271 ⟨rfl, hb267, hx268⟩
       have hE := hE.trans hx247
       have hE := row_fresh hE hg264 (Nat.le_trans hz254 (by omega))
       have hE := hE.trans hx268
       have hA69 := hA69.trans hx247
       have hA69 := row_fresh hA69 hg264 (Nat.le_trans hz255 (by omega))
       have hA69 := hA69.trans hx268
       have hA72 := hA72.trans hx247
       have hA72 := row_fresh hA72 hg264 (Nat.le_trans hz256 (by omega))
       have hA72 := hA72.trans hx268
       have hm64 := hm64.keep hx268
       refine gS (Yk.bin (xv := NI q) (yv := NI 1) T103 rfl rfl (i64_add _ _ _ (by omega)) (gK (And.intro ⟨q + 1, T0, T2, T3, T4, T5, T6, T7, T8, T9, T10, T85, T86, T101, T102, rfl, hE, hA69, hm64, hA72, by omega, fun j hj => by by_cases e : j = q; subst e; exact (fun hbt => by rw [hbx] at hbt; cases hbt); exact hbs j (by omega), trivial⟩ ?_)))
       show es.length - (intOf (NI ((q) + (1)))).toNat < es.length - (intOf (ρ100 103)).toNat
       rw [q103]
       simp only [intOf, Int.toNat_natCast]; omega
      have hl276 : (entC (es.getD (q) dEnt)).length = 35 := (RG.elem (hg51.keep hA69) dEnt (by omega))
      refine gS (Yk.atRG pk20_ty110 pk20_szg116 (by decide) dEnt (RG.of (hg51.keep hA69) T101) T103 (by omega) fun v274 hp275 => (gS (Yk.loadPR (PR.of hp275 rfl) (pk20_ty116).choose_spec rfl (by rw [hl276]; exact pk20_isz116) (gS (Yk.alloc pk20_al116 fun n277 w278 hn279 hb280 hx281 hs282 => ?_)))))
      have hA283 := Ext.refl w101
      have hz287 := hE.size
      have hz288 := hA69.size
      have hz289 := hA72.size
      have hlt290 := lte hm64.lt hn279
      have hb291 := hb280; clear hb280
      have hl292 : n277 < w278.heap.size := by omega
      refine gS (Yk.storeAll (vr (PQ n277 0) rfl) (vr (.agg (entC (es.getD (q) dEnt)).toArray) rfl) hb291 (entC_size (x := ((es.getD (q) dEnt) : EntV)) (y := (dEnt : EntV)) hcl.2 (by simp [dEnt])) (entC_isz (x := ((es.getD (q) dEnt) : EntV)) pk20_isz116 hcl.2) (entC_one (x := ((es.getD (q) dEnt) : EntV)) (RB.one hcl.1).2) fun w293 hb294 hg295 hs296 => ?_)
      have hm64 := hm64.keep hx281
      have hm64 := MapF.other hm64 hg295 (some_ne (by omega))
      clear hb291
      have hb291 := hb294; clear hb294
      have hl297 := bl hb291
      clear hp275
      refine gS (Yk.fieldAt pk20_fo116_2 rfl (gS (Yk.loadPart rfl (entC_range (x := ((es.getD (q) dEnt) : EntV)) hb291) pk20_ty38 rfl (by rw [Lib.byteCells_length, hcl.2]; exact pk20_isz38) (gS (Yk.lookOkS (ek := rk) (ev := entV) (D := (fun id : List UInt8 => id.length = 32)) idLaw id_ok (fun _ _ => rk_inj) pk20_ty112 (z := entV dEnt) zeroEnt T10 rfl hm64 hcl.2 hl (gS (Yk.extract (vs := [.agg (entC (c)).toArray, .bool (true)]) rfl rfl (gS (Yk.extract (vs := [.agg (entC (c)).toArray, .bool (true)]) rfl rfl (gS (Yk.alloc pk20_al116 fun n299 w300 hn301 hb302 hx303 hs304 => ?_)))))))))))
      have hA305 := Ext.refl w293
      have hA283 := hA283.trans hx281
      have hA283 := row_fresh hA283 hg295 (Nat.le_trans (Nat.le_refl _) (by omega))
      have hE := hE.trans hA283
      have hA69 := hA69.trans hA283
      have hA72 := hA72.trans hA283
      have hz310 := hE.size
      have hz311 := hA69.size
      have hz312 := hA72.size
      have hlt314 := lte hm64.lt hn301
      have hb316 := hb302; clear hb302
      have hl317 : n299 < w300.heap.size := by omega
      refine gS (Yk.storeAll (vr (PQ n299 0) rfl) (vr (.agg (entC (c)).toArray) rfl) hb316 (entC_size (x := ((c) : EntV)) (y := (dEnt : EntV)) hcx.2.1 (by simp [dEnt])) (entC_isz (x := ((c) : EntV)) pk20_isz116 hcx.2.1) (entC_one (x := ((c) : EntV)) (RB.one hcx.1).2) fun w318 hb319 hg320 hs321 => ?_)
      have hm64 := hm64.keep hx303
      have hm64 := MapF.other hm64 hg320 (some_ne (by omega))
      clear hb316
      have hb316 := hb319; clear hb319
      have hl322 := bl hb316
      have hA305 := hA305.trans hx303
      have hA305 := row_fresh hA305 hg320 (Nat.le_trans (Nat.le_refl _) (by omega))
      have hb291 := eb hA305 hb291
      refine gS (Yk.fieldAt pk20_fo116_1 rfl (gS (Yk.cell1 pk20_ty4 rfl rfl (cellAt hb291 ((show (entC ((es.getD (q) dEnt)))[1]? = some (.bool true : Value) from congrArg (fun b => some (Value.bool b)) hbx))) (gS (Yk.notB rfl (gS (Yk.pickF rfl rfl (gP (Yp.callA2 pk20_pl64 rfl rfl ?_)))))))))
      refine calls_either (need_any _ (true) 6) ?_ ?_
      rotate_left
      ·rintro ch w325 ⟨rfl, hb, hx⟩
       refine postP_panic ?_
       cases hb
      rintro v_ w327 ⟨rfl, hb323, hx324⟩
      have hE := hE.trans hx303
      have hE := row_fresh hE hg320 (Nat.le_trans hz310 (by omega))
      have hE := hE.trans hx324
      have hA69 := hA69.trans hx303
      have hA69 := row_fresh hA69 hg320 (Nat.le_trans hz311 (by omega))
      have hA69 := hA69.trans hx324
      have hA72 := hA72.trans hx303
      have hA72 := row_fresh hA72 hg320 (Nat.le_trans hz312 (by omega))
      have hA72 := hA72.trans hx324
      have hm64 := hm64.keep hx324
      refine gS (Yk.bin (xv := NI q) (yv := NI 1) T103 rfl rfl (i64_add _ _ _ (by omega)) (gK (And.intro ⟨q + 1, T0, T2, T3, T4, T5, T6, T7, T8, T9, T10, T85, T86, T101, T102, rfl, hE, hA69, hm64, hA72, by omega, fun j hj => by by_cases e : j = q; subst e; exact (fun _ hn => by rw [hl] at hn; cases hn); exact hbs j (by omega), trivial⟩ ?_)))
      show es.length - (intOf (NI ((q) + (1)))).toNat < es.length - (intOf (ρ100 103)).toNat
      rw [q103]
      simp only [intOf, Int.toNat_natCast]; omega
     have hbb := basesB_of (fun j hj => hbs j (by omega))
     have hP5 : readP b = readE (entOf s.plain.M) s.ids := hP4.trans (if_pos hbb)
     refine gS (Yk.mkMap rk objV (fun id : List UInt8 => id.length = 32) fun n329 w330 hn331 hb332 hx333 hs334 => ?_)
     have hz339 := hE.size
     have hz340 := hA69.size
     have hz341 := hA72.size
     have hlt342 := lte hm64.lt hn331
     have hl343 : n329 < w330.heap.size := by omega
     refine gS (Yk.build2 T10 (vr (.map (some n329)) rfl) (fun w => pk20_bd120mm_01 (n62) (n329) w) (gS (Yk.box (cs := ([.map (some n62), .map (some n329)] : List Value).toArray) (show _ = (.agg ([.map (some n62), .map (some n329)]).toArray : Value) from rfl) fun n344 w345 hn346 hb347 hx348 hs349 => ?_)))
     have hE := hE.trans hx333
     have hA69 := hA69.trans hx333
     have hA72 := hA72.trans hx333
     have hz355 := hE.size
     have hz356 := hA69.size
     have hz357 := hA72.size
     have hm64 := hm64.keep hx333
     have hlt359 := lte hm64.lt hn346
     have hlt360 := lte hb332.lt hn346
     have hb361 := hb347; clear hb347
     have hl362 : n344 < w345.heap.size := by omega
     refine gS (Yk.mkMap rk objV (fun id : List UInt8 => id.length = 32) fun n364 w365 hn366 hb367 hx368 hs369 => ?_)
     have hE := hE.trans hx348
     have hA69 := hA69.trans hx348
     have hA72 := hA72.trans hx348
     have hz376 := hE.size
     have hz377 := hA69.size
     have hz378 := hA72.size
     have hm64 := hm64.keep hx348
     have hlt381 := lte hm64.lt hn366
     have hb332 := hb332.keep hx348
     have hlt382 := lte hb332.lt hn366
     have hl384 : n364 < w365.heap.size := by omega
     have hlo_bo : w.heap.size ≤ n364 := by omega
     have hA72 := hA72.trans hx368
     refine gS (Yk.build2 T9 (vr (.map (some n364)) rfl) (fun w => pk20_bd74sm_01 (RG.slice (hg63.keep hA72)) (n364) w) (gS (Yk.box (cs := ([v61, .map (some n364)] : List Value).toArray) (show _ = (.agg ([v61, .map (some n364)]).toArray : Value) from rfl) fun n385 w386 hn387 hb388 hx389 hs390 => ?_)))
     have hE := hE.trans hx368
     have hA69 := hA69.trans hx368
     have hz398 := hE.size
     have hz399 := hA69.size
     have hz400 := hA72.size
     have hm64 := hm64.keep hx368
     have hlt404 := lte hm64.lt hn387
     have hb332 := hb332.keep hx368
     have hlt405 := lte hb332.lt hn387
     have hlt407 := lte hb367.lt hn387
     have hb408 := hb388; clear hb388
     have hl409 : n385 < w386.heap.size := by omega
     have hlo_gp : w.heap.size ≤ n385 := by omega
     have hlt383 := lte (bl hb361) hn366
     have hb361 := eb hx368 hb361
     have hlt406 := lte (bl hb361) hn387
     have hb361 := eb hx389 hb361
     have hE := hE.trans hx389
     have hA69 := hA69.trans hx389
     have hm64 := hm64.keep hx389
     have hA72 := hA72.trans hx389
     have hb332 := hb332.keep hx389
     have hb367 := hb367.keep hx389
     refine gS (Yk.lenRG pk20_ty47 (RG.of (hg63.keep hA72) T9) (gL (fun (ρ : Slots) (wz : World) => ∃ i : Nat, ∃ st : ObS, ∃ H : Bs → Option ObjV, ∃ O : Bs → Option ObjV, ρ 0 = (v : Value) ∧ ρ 2 = (.pointer none : Value) ∧ ρ 3 = (NI ((b.length) - (36)) : Value) ∧ ρ 4 = (NI f : Value) ∧ ρ 5 = (NI n : Value) ∧ ρ 6 = (NI (1 + k) : Value) ∧ ρ 7 = (NI 0 : Value) ∧ ρ 8 = (v50 : Value) ∧ ρ 9 = (v61 : Value) ∧ ρ 10 = (.map (some n62) : Value) ∧ ρ 17 = (PQ n344 0 : Value) ∧ ρ 18 = (PQ n385 0 : Value) ∧ ρ 85 = (.agg ((fanL (s.ids)).map fun x => NI x).toArray : Value) ∧ ρ 86 = (NI m : Value) ∧ ρ 101 = (v50 : Value) ∧ ρ 102 = (NI es.length : Value) ∧ ρ 103 = (NI q : Value) ∧ ρ 130 = (v61 : Value) ∧ ρ 131 = (NI ((s.ids).length) : Value) ∧ ρ 132 = (NI i : Value) ∧ ρ 19 = (NI st.total : Value) ∧ Ext w wz ∧ Ext w56 wz ∧ MapF rk entV (fun id : List UInt8 => id.length = 32) wz n62 s.M ∧ Ext w68 wz ∧ wz.heap[n344]? = some (.cells ([.map (some n62), .map (some n329)]).toArray 120 (0, 0)) ∧ wz.heap[n385]? = some (.cells ([v61, .map (some n364)]).toArray 74 (0, 0)) ∧ HOk wz s.M H ∧ OOk wz O ∧ MapF rk objV (fun id : List UInt8 => id.length = 32) wz n329 (H) ∧ MapF rk objV (fun id : List UInt8 => id.length = 32) wz n364 (O) ∧ (objGo (entAt s.M) s.ids i = .ok st) ∧ (i ≤ s.ids.length) ∧ ((fun k => (O k).map Prod.fst) = st.O) ∧ (st.total ≤ 4194304) ∧ (NewM w.heap.size H) ∧ (NewM w.heap.size O) ∧ True) (fun ρ _ => s.ids.length - (intOf (ρ 132)).toNat) ⟨0, ⟨0, fun _ => none⟩, fun _ => none, fun _ => none, T0, T2, T3, T4, T5, T6, T7, T8, T9, T10, rfl, rfl, T85, T86, T101, T102, T103, T9, rfl, rfl, rfl, hE, hA69, hm64, hA72, hb361, hb408, HOk.nil, OOk.nil _, map_eq hb332 (rfl), map_eq hb367 (rfl), rfl, Nat.zero_le _, rfl, Nat.zero_le _, NewM.none _, NewM.none _, trivial⟩ ?_))
     clear hb332
     clear hb367
     clear hE hA69 hm64 hA72 hb361 hb408
     rintro ρ413 w414 ⟨i, st, H, O, T0, T2, T3, T4, T5, T6, T7, T8, T9, T10, T17, T18, T85, T86, T101, T102, T103, T130, T131, T132, T19, hE, hA69, hm64, hA72, hb361, hb408, hHO, hOO, hb332l, hb367l, hs, hi, hO, htot, hNH, hNO, -⟩
     have q132 := T132
     refine gS (Yk.eqI (a := (i : Nat)) (b := ((s.ids).length : Nat)) T132 T131 (k_lss _ _ _ _) ?_)
     refine cD rfl (fun hc2 => ?_) fun hc2 => ?_
     ·have hc3_ : i < s.ids.length := hc2
      have hid32 : (s.ids.getD i []).length = 32 := by have := RG.elem (hg63.keep hA72) ([] : List UInt8) hc3_; rwa [Lib.byteCells_length] at this
      have oerr : ∀ c, objStep (entAt s.M) (s.ids.getD i []) st = .error c → readP b = .error c := fun c hc => by rw [hP5]; unfold readE; rw [← entAt_plain]; have h1 := objGo_err ((objGo_step hs).trans hc) (s.ids.length - (i + 1)); rw [show i + 1 + (s.ids.length - (i + 1)) = s.ids.length by omega] at h1; show (match objGo (entAt s.M) s.ids s.ids.length with | .error e => _ | .ok o => _) = _; rw [h1]
      have hl421 : (Lib.byteCells ((s.ids).getD (i) ([] : List UInt8))).length = 32 := (RG.elem (hg63.keep hA72) ([] : List UInt8) (by omega))
      refine gS (Yk.atRG pk20_ty47 pk20_szg38 (by decide) ([] : List UInt8) (RG.of (hg63.keep hA72) T130) T132 (by omega) fun v419 hp420 => (gS (Yk.loadPR (PR.of hp420 rfl) pk20_ty38 rfl (by rw [hl421]; exact pk20_isz38) (gS (Yk.alloc pk20_al38 fun n422 w423 hn424 hb425 hx426 hs427 => ?_)))))
      have hA428 := Ext.refl w414
      have hz432 := hE.size
      have hz433 := hA69.size
      have hz434 := hA72.size
      have hlt435 := lte hm64.lt hn424
      have hlt438 := lte hb332l.lt hn424
      have hlt439 := lte hb367l.lt hn424
      have hb440 := hb425; clear hb425
      have hl441 : n422 < w423.heap.size := by omega
      refine gS (Yk.storeAll (vr (PQ n422 0) rfl) (vr (AB ((s.ids).getD (i) ([] : List UInt8))) rfl) hb440 (by exact idsize (bytes_len32 (hl421)) List.length_replicate) (by exact sizeId_of (bytes_len32 (hl421))) (byteCells_one _) fun w442 hb443 hg444 hs445 => ?_)
      have hm64 := hm64.keep hx426
      have hm64 := MapF.other hm64 hg444 (some_ne (by omega))
      have hb332l := hb332l.keep hx426
      have hb332l := MapF.other hb332l hg444 (some_ne (by omega))
      have hb367l := hb367l.keep hx426
      have hb367l := MapF.other hb367l hg444 (some_ne (by omega))
      clear hb440
      have hb440 := hb443; clear hb443
      have hl446 := bl hb440
      clear hp420
      have hA428 := hA428.trans hx426
      have hA428 := row_fresh hA428 hg444 (Nat.le_trans (Nat.le_refl _) (by omega))
      have hb361 := eb hA428 hb361
      have hA72 := hA72.trans hA428
      refine gS (Yk.loadAll rfl hb440 pk20_ty38 rfl (by exact sizeId_of (bytes_len32 (hl421))) (gP (Yp.callA2 pk20_pl67 T17 rfl ?_)))
      refine calls_either (pdepth_any _ n344 n62 n329 s.M hb361 hm64 (hMO.keep hA72) (s.ids.getD i []) hid32) ?_ ?_
      rotate_left
      ·rintro ch w449 ⟨hno, rfl, hx⟩
       refine postP_panic ?_
       have hE := hE.trans hA428
       exact .inr ⟨_, rfl, 17, oerr 17 (objStep_17 hno), rfl, hE.trans hx⟩
      rintro v_ w451 ⟨dd, hdp, rfl, hx448⟩
      have hdle := depthGo_le hdp
      have hA428 := hA428.trans hx448
      have hE := hE.trans hA428
      have hm64 := hm64.keep hx448
      have hA72 := hA72.trans hx448
      have hb361 := eb hx448 hb361
      have hb332l := hb332l.keep hx448
      have hb440 := eb hx448 hb440
      refine gS (Yk.loadAll rfl hb440 pk20_ty38 rfl (by exact sizeId_of (bytes_len32 (hl421))) (gP (Yp.callA2 pk20_pl68 T17 rfl ?_)))
      refine calls_either (pmake_any n344 n62 n329 s.M dd _ H (s.ids.getD i []) hb361 hm64 hb332l (hMO.keep hA72) (hHO.keep hA428) (by omega) hid32 hdle 50 hdp w.heap.size hNM hNH (hE).size) ?_ ?_
      rotate_left
      ·rintro ch w458 ⟨hno, rfl, hx⟩
       refine postP_panic ?_
       exact .inr ⟨_, rfl, 6, oerr 6 (objStep_6 hdp hno), rfl, ext_bx hE hx hE.size (fun k hk => by cases hk; omega)⟩
      rintro v_ w460 ⟨v453, bb, kk, H1, rfl, hcg, hr454, hm455, hHO456, hx457, hNv1, hNH1⟩
      have hg1 := hx457.grown
      have hm461 : NoB8 w451 n329 := (MapF.isMap hb332l).noB8
      have hE : Ext w w460 := ext_bx hE hx457 hE.size (fun k hk => by cases hk; omega)
      have hA69 := hA69.trans hA428
      have hA69 : Ext w56 w460 := ext_bx hA69 hx457 hA69.size (fun k hk => by cases hk; omega)
      have hm64 : MapF rk entV (fun id : List UInt8 => id.length = 32) w460 n62 s.M := MapF.other hm64 hg1 (some_ne (by omega))
      have hA72 : Ext w68 w460 := ext_bx hA72 hx457 hA72.size (fun k hk => by cases hk; omega)
      have hb361 : w460.heap[n344]? = some (.cells ([.map (some n62), .map (some n329)]).toArray 120 (0, 0)) := kb hg1 hb361 (by omega)
      have hb408 := eb hA428 hb408
      have hb408 : w460.heap[n385]? = some (.cells ([v61, .map (some n364)]).toArray 74 (0, 0)) := kb hg1 hb408 (by omega)
      have hHO : HOk w460 s.M H := (hHO.keep hA428).keepN hm461 hg1
      have hOO : OOk w460 O := (hOO.keep hA428).keepN hm461 hg1
      clear hb332l
      have hb367l := hb367l.keep hx448
      have hb367l : MapF rk objV (fun id : List UInt8 => id.length = 32) w460 n364 (O) := MapF.other hb367l hg1 (some_ne (by omega))
      have hb440 : w460.heap[n422]? = some (.cells (Lib.byteCells ((s.ids).getD (i) ([] : List UInt8))).toArray 38 (0, 0)) := kb hg1 hb440 (by omega)
      have hz462 := hE.size
      have hz463 := hA69.size
      have hz464 := hA72.size
      have hcl := chainGo_le hcg
      refine gS (Yk.alloc pk20_al81 fun n465 w466 hn467 hb468 hx469 hs470 => ?_)
      have hA471 := Ext.refl w460
      have hz475 := hE.size
      have hz476 := hA69.size
      have hz477 := hA72.size
      have hlt478 := lte hm64.lt hn467
      have hlt481 := lte hb367l.lt hn467
      have hlt483 := lte hm455.lt hn467
      have hb484 := hb468; clear hb468
      have hl485 : n465 < w466.heap.size := by omega
      have hA471 := hA471.trans hx469
      refine gS (Yk.storeAll (vr (PQ n465 0) rfl) (vr (.agg ([v453, NI kk]).toArray) rfl) hb484 rfl (show (Tryd.prog.info? 81).map (·.size) = some 2 from pk20_isz81) (obj_one (RB.one (hr454.keep hA471)).2) fun w486 hb487 hg488 hs489 => ?_)
      have hm64 := hm64.keep hx469
      have hm64 := MapF.other hm64 hg488 (some_ne (by omega))
      have hb367l := hb367l.keep hx469
      have hb367l := MapF.other hb367l hg488 (some_ne (by omega))
      have hm455 := hm455.keep hx469
      have hm455 := MapF.other hm455 hg488 (some_ne (by omega))
      clear hb484
      have hb484 := hb487; clear hb487
      have hl490 := bl hb484
      refine gM1 [0, 1, 4, 2, 3, 5, 6] [2, 3, 6] [] [4] fun w492 hx493 => ?_
      have hA494 := Ext.refl w492
      have hA471 := row_fresh hA471 hg488 (Nat.le_trans (Nat.le_refl _) (by omega))
      have hA471 := hA471.trans hx493
      have hb440 := eb hA471 hb440
      have hb484 := eb hx493 hb484
      refine meb0 hA494 ?_
      refine ys (Yk.fieldAt pk20_fo81_0 rfl zz) (ys (Yk.cell1 pk20_ty24 rfl rfl (cellAt hb484 rfl) zz) (yf (fun _ ⟨hZ, _⟩ => Yk.loadAll rfl (eb hZ hb440) pk20_ty38 rfl (by exact sizeId_of (bytes_len32 (hl421))) zz) (yE (Yk.rows1 pk20_rows1_75 (RB.of (hr454.keep hA471) (vr v453 rfl)) fun v495 w496 hr497 hx498 => ?_))))
      have hA494 := hA494.trans hx498
      refine ⟨hA494, ?_⟩
      have hA499 := Ext.refl w496
      have hA471 := hA471.trans hx498
      have hE := hE.trans hA471
      refine yE (Yk.callA1 pk20_pl17 rfl ((sum_one _ (hG.keep hE) v495 (bb) hr497 (by omega)).mono ?_))
      rintro e w501 ⟨rfl, hx500⟩
      refine ⟨_, rfl, ?_⟩
      have hA499 := hA499.trans hx500
      refine ⟨hA499, ?_⟩
      refine ys (Yk.eqArr (l1 := (Sha.sum (bb))) (l2 := ((s.ids).getD (i) ([] : List UInt8))) pk20_ty38 pk20_ty5 pk20_sz5 pk20_eg38 rfl rfl ((Sha.sum_length _)) (hid32) zz) (yDp rfl (Yp.callA2 pk20_pl64 rfl rfl ?_))
      refine calls_either (need_any _ (decide ((Sha.sum (bb)) = ((s.ids).getD (i) ([] : List UInt8)))) 18) ?_ ?_
      rotate_left
      ·rintro ch w505 ⟨rfl, hb, hx⟩
       refine postP_panic ?_
       have hno := of_decide_eq_false hb
       have hE := hE.trans hx500
       exact .inr ⟨_, rfl, 18, oerr 18 ((objStep_eq hdp hcg).trans (if_neg hno)), rfl, hE.trans hx⟩
      rintro v_ w507 ⟨rfl, hb503, hx504⟩
      have hn508 := of_decide_eq_true hb503
      have hsum := hn508
      have hZ2 := (hx498.trans hx500).trans hx504
      have hb484 := eb hZ2 hb484
      have hZ3 := hx500.trans hx504
      have hA471 := hA471.trans hZ3
      refine gS (Yk.fieldAt pk20_fo81_0 rfl (gS (Yk.cell1 pk20_ty24 rfl rfl (cellAt hb484 rfl) (gS (Yk.lenRB pk20_ty24 (RB.of (hr454.keep hA471) rfl) (gS (Yk.bin (xv := NI st.total) (yv := NI bb.length) T19 rfl rfl (i64_add _ _ _ (by omega)) (gS (Yk.eqI (a := ((st.total) + (bb.length) : Nat)) (b := (4194304 : Nat)) rfl rfl (k_leq _ _ _ _) (gP (Yp.callA2 pk20_pl64 rfl rfl ?_)))))))))))
      refine calls_either (need_any _ (decide (((st.total) + (bb.length)) ≤ (4194304))) 2) ?_ ?_
      rotate_left
      ·rintro ch w513 ⟨rfl, hb, hx⟩
       refine postP_panic ?_
       have hno := of_decide_eq_false hb
       have hE := hE.trans hZ3
       exact .inr ⟨_, rfl, 2, oerr 2 ((objStep_eq hdp hcg).trans ((if_pos hsum).trans (if_neg hno))), rfl, hE.trans hx⟩
      rintro v_ w515 ⟨rfl, hb511, hx512⟩
      have hn516 := of_decide_eq_true hb511
      refine gM0 [0, 1, 2, 3, 4, 5, 6, 7, 8, 9] [9] [] fun w517 hx518 => ?_
      have hZ4 := hx512.trans hx518
      have hA471 := hA471.trans hZ4
      have hb408 := eb hA471 hb408
      have hZ5 := ((((hx493.trans hx498).trans hx500).trans hx504).trans hx512).trans hx518
      have hb367l := hb367l.keep hZ5
      have hb440 := eb ((hZ2.trans hx512).trans hx518) hb440
      have hb484 := eb hZ4 hb484
      refine ys (Yk.nilCheck T18 zz) (ys (Yk.fieldAt pk20_fo74_1 rfl zz) (ys (Yk.cell1 pk20_ty72 rfl rfl (cellAt hb408 rfl) zz) (ys (Yk.loadAll rfl hb440 pk20_ty38 rfl (by exact sizeId_of (bytes_len32 (hl421))) zz) (ys (Yk.fieldAt pk20_fo81_0 rfl zz) (ys (Yk.cell1 pk20_ty24 rfl rfl (cellAt hb484 rfl) zz) (ys (Yk.build2 (vr v453 rfl) (vr (NI dd) rfl) (fun w => pk20_bd81si_01 (RB.slice (hr454.keep hA471)) (((dd : Nat) : Int)) w) zz) (yC (Yk.putM (ek := rk) (ev := objV) (D := (fun id : List UInt8 => id.length = 32)) (c := (((bb, dd), v453) : ObjV)) idLaw id_ok pk20_ty72 (vr (.map (some n364)) rfl) (vr (AB ((s.ids).getD (i) ([] : List UInt8))) rfl) (vr (.agg ([v453, NI dd]).toArray) rfl) hb367l (bytes_len32 (hl421)) fun w519 hb520 hg521 hs522 => ?_))))))))
      have hOO := OOk.put (hOO.keep hA471) (id := s.ids.getD i []) (x := (((bb, dd), v453) : ObjV)) (hr454.keep hA471)
      have hm523 : NoB8 w517 n364 := (MapF.isMap hb367l).noB8
      have hZ6 := (hZ3.trans hx512).trans hx518
      have hE := hE.trans hZ6
      have hE : Ext w w519 := ext_bx hE (BX.ofGrown hg521 (Nat.le_refl _) (fun k hk => .inl hk)) hE.size (fun k hk => by cases hk; omega)
      have hA69 := hA69.trans hA471
      have hA69 : Ext w56 w519 := ext_bx hA69 (BX.ofGrown hg521 (Nat.le_refl _) (fun k hk => .inl hk)) hA69.size (fun k hk => by cases hk; omega)
      have hm64 := hm64.keep hZ5
      have hm64 : MapF rk entV (fun id : List UInt8 => id.length = 32) w519 n62 s.M := MapF.other hm64 hg521 (some_ne (by omega))
      have hA72 := hA72.trans hA471
      have hA72 : Ext w68 w519 := ext_bx hA72 (BX.ofGrown hg521 (Nat.le_refl _) (fun k hk => .inl hk)) hA72.size (fun k hk => by cases hk; omega)
      have hb361 := eb hA471 hb361
      have hb361 : w519.heap[n344]? = some (.cells ([.map (some n62), .map (some n329)]).toArray 120 (0, 0)) := kb hg521 hb361 (by omega)
      have hb408 : w519.heap[n385]? = some (.cells ([v61, .map (some n364)]).toArray 74 (0, 0)) := kb hg521 hb408 (by omega)
      have hOO : OOk w519 (updM (O) (s.ids.getD (i) ([] : List UInt8)) (some ((((bb, dd), v453) : ObjV)))) := hOO.keepN hm523 hg521
      clear hb367l
      have hb440 : w519.heap[n422]? = some (.cells (Lib.byteCells ((s.ids).getD (i) ([] : List UInt8))).toArray 38 (0, 0)) := kb hg521 hb440 (by omega)
      have hr454 : RB w519 v453 bb := (hr454.keep hA471).keepN hm523 hg521
      have hm455 := hm455.keep hZ5
      have hm455 : MapF rk objV (fun id : List UInt8 => id.length = 32) w519 n329 H1 := MapF.other hm455 hg521 (some_ne (by omega))
      have hHO456 : HOk w519 s.M H1 := (hHO456.keep hA471).keepN hm523 hg521
      have hb484 : w519.heap[n465]? = some (.cells ([v453, NI kk]).toArray 81 (0, 0)) := kb hg521 hb484 (by omega)
      clear hr497
      have hz524 := hE.size
      have hz525 := hA69.size
      have hz526 := hA72.size
      refine gS (Yk.bin (xv := NI i) (yv := NI 1) T132 rfl rfl (i64_add _ _ _ (by omega)) (gK (And.intro ⟨i + 1, ⟨st.total + bb.length, updM st.O (s.ids.getD i []) (some (bb, dd))⟩, H1, updM (O) (s.ids.getD (i) ([] : List UInt8)) (some ((((bb, dd), v453) : ObjV))), T0, T2, T3, T4, T5, T6, T7, T8, T9, T10, T17, T18, T85, T86, T101, T102, T103, T130, T131, rfl, rfl, hE, hA69, hm64, hA72, hb361, hb408, hHO456, hOO, map_eq hm455 (rfl), map_eq hb520 (rfl), (objGo_step hs).trans ((objStep_eq hdp hcg).trans ((if_pos hsum).trans (if_pos hn516))), by omega, by rw [updM_map, hO]; rfl, hn516, hNH1, NewM.put hNO _ hNv1, trivial⟩ ?_)))
      show s.ids.length - (intOf (NI ((i) + (1)))).toNat < s.ids.length - (intOf (ρ413 132)).toNat
      rw [q132]
      simp only [intOf, Int.toNat_natCast]; omega
     have hie : i = s.ids.length := by omega
     refine rt1 rfl T18 ?_
     exact .inl ⟨_, rfl, _, _, _, s.ids, O, rfl, by rw [hP5, ← entAt_plain, readE_ok (by rw [← hie]; exact hs), hO], hb408, (hg63.keep hA72), hb367l, hOO, hlo_gp, hlo_bo, hNvi, hNO, hE⟩
    have hP : readP b = .error 6 := hP0.trans (if_neg (fun h => by have h1 := h.2; exact q3 h1.2.2))
    have hE := hE.trans hx7
    refine gS (Yk.callA2 pk20_pl63 rfl rfl (((show Calls _ _ _ _ (fun e w2 => e = .returned (.tuple #[NI n, NI (1 + k), NI 0]) ∧ Ext _ w2) from (get_in _ v b (hr.keep hE) 1 (by omega)).mono fun e w2 ⟨h1, h2⟩ => by subst h2; subst h1; rw [hd]; exact ⟨rfl, Ext.refl _⟩)).mono ?_))
    rintro e w530 ⟨rfl, hx529⟩
    refine ⟨_, rfl, ?_⟩
    have hE := hE.trans hx529
    refine gS (Yk.extract (vs := [NI n, NI (1 + k), NI 0]) rfl rfl (gS (Yk.extract (vs := [NI n, NI (1 + k), NI 0]) rfl rfl (gS (Yk.extract (vs := [NI n, NI (1 + k), NI 0]) rfl rfl (gS (Yk.atRB (l := b) (i := 0) pk20_ty24 pk20_sz5 (RB.of (hr.keep hE) rfl) rfl (by omega) fun v532 hp533 => (gS (Yk.loadC pk20_ty5 rfl (PCell.of hp533 rfl) (gS (Yk.eqI (a := ((b.getD (0) 0).toNat : Nat)) (b := (80 : Nat)) rfl rfl (k_eql _ _ _ _) (kT (h80) (gS (Yk.eqI (a := (0 : Nat)) (b := (0 : Nat)) rfl rfl (k_eql _ _ _ _) (kT (rfl) (gS (Yk.pickT rfl rfl (gS (Yk.eqI (a := (f : Nat)) (b := (1 + k : Nat)) rfl rfl (k_geq _ _ _ _) (kT (q1) (gS (Yk.pickT rfl rfl (gS (Yk.eqI (a := (f : Nat)) (b := ((b.length) - (36) : Nat)) rfl rfl (k_leq _ _ _ _) (kT (q2) (gS (Yk.pickT rfl rfl (gS (Yk.eqI (a := (n : Nat)) (b := ((b.length) - (36) : Nat)) rfl rfl (k_leq _ _ _ _) (kF (q3) (gS (Yk.pickT rfl rfl (gP (Yp.callA2 pk20_pl64 rfl rfl ?_))))))))))))))))))))))))))))))))))
    refine calls_either (need_any _ (false) 6) ?_ ?_
    rotate_left
    ·rintro ch w536 ⟨rfl, hb, hx⟩
     refine postP_panic ?_
     exact .inr ⟨_, rfl, 6, hP, rfl, hE.trans hx⟩
    rintro v_ w538 ⟨rfl, hb534, hx535⟩
    cases hb534
   have hP : readP b = .error 6 := hP0.trans (if_neg (fun h => by have h1 := h.2; exact q2 h1.2.1))
   have hE := hE.trans hx7
   refine gS (Yk.callA2 pk20_pl63 rfl rfl (((show Calls _ _ _ _ (fun e w2 => e = .returned (.tuple #[NI n, NI (1 + k), NI 0]) ∧ Ext _ w2) from (get_in _ v b (hr.keep hE) 1 (by omega)).mono fun e w2 ⟨h1, h2⟩ => by subst h2; subst h1; rw [hd]; exact ⟨rfl, Ext.refl _⟩)).mono ?_))
   rintro e w541 ⟨rfl, hx540⟩
   refine ⟨_, rfl, ?_⟩
   have hE := hE.trans hx540
   refine gS (Yk.extract (vs := [NI n, NI (1 + k), NI 0]) rfl rfl (gS (Yk.extract (vs := [NI n, NI (1 + k), NI 0]) rfl rfl (gS (Yk.extract (vs := [NI n, NI (1 + k), NI 0]) rfl rfl (gS (Yk.atRB (l := b) (i := 0) pk20_ty24 pk20_sz5 (RB.of (hr.keep hE) rfl) rfl (by omega) fun v543 hp544 => (gS (Yk.loadC pk20_ty5 rfl (PCell.of hp544 rfl) (gS (Yk.eqI (a := ((b.getD (0) 0).toNat : Nat)) (b := (80 : Nat)) rfl rfl (k_eql _ _ _ _) (kT (h80) (gS (Yk.eqI (a := (0 : Nat)) (b := (0 : Nat)) rfl rfl (k_eql _ _ _ _) (kT (rfl) (gS (Yk.pickT rfl rfl (gS (Yk.eqI (a := (f : Nat)) (b := (1 + k : Nat)) rfl rfl (k_geq _ _ _ _) (kT (q1) (gS (Yk.pickT rfl rfl (gS (Yk.eqI (a := (f : Nat)) (b := ((b.length) - (36) : Nat)) rfl rfl (k_leq _ _ _ _) (kF (q2) (gS (Yk.pickT rfl rfl (gS (Yk.pickF rfl rfl (gP (Yp.callA2 pk20_pl64 rfl rfl ?_)))))))))))))))))))))))))))))))
   refine calls_either (need_any _ (false) 6) ?_ ?_
   rotate_left
   ·rintro ch w547 ⟨rfl, hb, hx⟩
    refine postP_panic ?_
    exact .inr ⟨_, rfl, 6, hP, rfl, hE.trans hx⟩
   rintro v_ w549 ⟨rfl, hb545, hx546⟩
   cases hb545
  have hP : readP b = .error 6 := hP0.trans (if_neg (fun h => by have h1 := h.2; exact q1 h1.1))
  have hE := hE.trans hx7
  refine gS (Yk.callA2 pk20_pl63 rfl rfl (((show Calls _ _ _ _ (fun e w2 => e = .returned (.tuple #[NI n, NI (1 + k), NI 0]) ∧ Ext _ w2) from (get_in _ v b (hr.keep hE) 1 (by omega)).mono fun e w2 ⟨h1, h2⟩ => by subst h2; subst h1; rw [hd]; exact ⟨rfl, Ext.refl _⟩)).mono ?_))
  rintro e w552 ⟨rfl, hx551⟩
  refine ⟨_, rfl, ?_⟩
  have hE := hE.trans hx551
  refine gS (Yk.extract (vs := [NI n, NI (1 + k), NI 0]) rfl rfl (gS (Yk.extract (vs := [NI n, NI (1 + k), NI 0]) rfl rfl (gS (Yk.extract (vs := [NI n, NI (1 + k), NI 0]) rfl rfl (gS (Yk.atRB (l := b) (i := 0) pk20_ty24 pk20_sz5 (RB.of (hr.keep hE) rfl) rfl (by omega) fun v554 hp555 => (gS (Yk.loadC pk20_ty5 rfl (PCell.of hp555 rfl) (gS (Yk.eqI (a := ((b.getD (0) 0).toNat : Nat)) (b := (80 : Nat)) rfl rfl (k_eql _ _ _ _) (kT (h80) (gS (Yk.eqI (a := (0 : Nat)) (b := (0 : Nat)) rfl rfl (k_eql _ _ _ _) (kT (rfl) (gS (Yk.pickT rfl rfl (gS (Yk.eqI (a := (f : Nat)) (b := (1 + k : Nat)) rfl rfl (k_geq _ _ _ _) (kF (q1) (gS (Yk.pickT rfl rfl (gS (Yk.pickF rfl rfl (gS (Yk.pickF rfl rfl (gP (Yp.callA2 pk20_pl64 rfl rfl ?_))))))))))))))))))))))))))))
  refine calls_either (need_any _ (false) 6) ?_ ?_
  rotate_left
  ·rintro ch w558 ⟨rfl, hb, hx⟩
   refine postP_panic ?_
   exact .inr ⟨_, rfl, 6, hP, rfl, hE.trans hx⟩
  rintro v_ w560 ⟨rfl, hb556, hx557⟩
  cases hb556
 have hP : readP b = .error 6 := hP0.trans (if_neg (fun h => h80 (by rw [h.1]; rfl)))
 have hE := hE.trans hx7
 refine gS (Yk.callA2 pk20_pl63 rfl rfl (((show Calls _ _ _ _ (fun e w2 => e = .returned (.tuple #[NI n, NI (1 + k), NI 0]) ∧ Ext _ w2) from (get_in _ v b (hr.keep hE) 1 (by omega)).mono fun e w2 ⟨h1, h2⟩ => by subst h2; subst h1; rw [hd]; exact ⟨rfl, Ext.refl _⟩)).mono ?_))
 rintro e w563 ⟨rfl, hx562⟩
 refine ⟨_, rfl, ?_⟩
 have hE := hE.trans hx562
 refine gS (Yk.extract (vs := [NI n, NI (1 + k), NI 0]) rfl rfl (gS (Yk.extract (vs := [NI n, NI (1 + k), NI 0]) rfl rfl (gS (Yk.extract (vs := [NI n, NI (1 + k), NI 0]) rfl rfl (gS (Yk.atRB (l := b) (i := 0) pk20_ty24 pk20_sz5 (RB.of (hr.keep hE) rfl) rfl (by omega) fun v565 hp566 => (gS (Yk.loadC pk20_ty5 rfl (PCell.of hp566 rfl) (gS (Yk.eqI (a := ((b.getD (0) 0).toNat : Nat)) (b := (80 : Nat)) rfl rfl (k_eql _ _ _ _) (kF (h80) (gS (Yk.pickF rfl rfl (gS (Yk.pickF rfl rfl (gS (Yk.pickF rfl rfl (gS (Yk.pickF rfl rfl (gP (Yp.callA2 pk20_pl64 rfl rfl ?_))))))))))))))))))))))
 refine calls_either (need_any _ (false) 6) ?_ ?_
 rotate_left
 ·rintro ch w569 ⟨rfl, hb, hx⟩
  refine postP_panic ?_
  exact .inr ⟨_, rfl, 6, hP, rfl, hE.trans hx⟩
 rintro v_ w571 ⟨rfl, hb567, hx568⟩
 cases hb567
open Go.RowKit
structure FitsD (n : Nat) (D : List Deferred) (ρ : Slots) (a : Act) : Prop where
  size : a.tmps.size = n
  defers : a.defers = D
  get : ∀ t, a.tmps.getD t undef = ρ t
theorem FitsD.fits {n : Nat} {D : List Deferred} {ρ : Slots} {a : Act} (h : FitsD n D ρ a) : Fits n ρ { a with defers := [] } := ⟨h.size, rfl, h.get⟩
theorem FitsD.ofFits {n : Nat} {ρ : Slots} {a : Act} (h : Fits n ρ a) : FitsD n [] ρ a := ⟨h.size, h.defers, h.get⟩
theorem FitsD.toFits {n : Nat} {ρ : Slots} {a : Act} (h : FitsD n [] ρ a) : Fits n ρ a := ⟨h.size, h.defers, h.get⟩
theorem FitsD.eval {n : Nat} {D : List Deferred} {ρ : Slots} {a : Act} (h : FitsD n D ρ a) : a.eval = evalR ρ := by
  funext x
  cases x with
  | tmp t => exact h.get t
  | _ => rfl
theorem FitsD.put {n : Nat} {D : List Deferred} {ρ : Slots} {a : Act} (h : FitsD n D ρ a) (d : Option Tmp) (hd : ∀ t, d = some t → t < n) (v : Value) : FitsD n D (updO ρ d v) (a.put d v) := by
  have hf := h.fits.put d hd v
  cases d with
  | none => exact h
  | some d => exact ⟨hf.size, h.defers, hf.get⟩
def wpR (P : Program) (n : Nat) (D : List Deferred) (c : Code) (QQ : Exit → Act → World → Prop) (ρ : Slots) (w : World) : Prop := ∀ a, FitsD n D ρ a → c.wp P QQ a w
def opsR (P : Program) (ops : Array Oper) (n : Nat) (D : List Deferred) (QQ : Exit → Act → World → Prop) (l : List Oper) (ρ : Slots) (w : World) : Prop := ∀ a, FitsD n D ρ a → wpList P ops QQ l a w
section
variable {P : Program} {n : Nat} {D : List Deferred} {QQ : Exit → Act → World → Prop} {ρ : Slots} {w : World}
theorem wpR_seq_k {x y : Code} (QR : PostF) (hq : ∀ e ρ a w, e ≠ .normal → Fits n ρ a → QR e ρ w → QQ e a w) (h : ∀ K : Slots → World → Prop, (∀ ρ w, wpR P n [] y QQ ρ w → K ρ w) → wpF P n x (thenF K QR) ρ w) : wpR P n [] (.seq x y) QQ ρ w := fun a ha =>
  wp_seq (wp_mono (h (fun ρ w => wpR P n [] y QQ ρ w) (fun _ _ h => h) a ha.toFits) fun e a' w' ⟨ρ', hf, hQ⟩ => by
    cases e with
    | normal => exact hQ a' (FitsD.ofFits hf)
    | exit _ => exact hq _ ρ' a' w' (by simp) hf hQ
    | goto _ => exact hq _ ρ' a' w' (by simp) hf hQ
    | ret => exact hq _ ρ' a' w' (by simp) hf hQ
    | panic _ => exact hq _ ρ' a' w' (by simp) hf hQ
    | outgrown => exact hq _ ρ' a' w' (by simp) hf hQ)
theorem wpR_seq_text {id : Nat} {l : List Oper} {y : Code} (h : opsR P l.toArray n D (Exit.then (y.wp P QQ) QQ) l ρ w) : wpR P n D (.seq (.region id l.toArray false) y) QQ ρ w := fun a ha => wp_seq (wp_region_lit (h a ha))
theorem wpR_ret (h : ∀ a, FitsD n D ρ a → QQ .ret a w) : wpR P n D .ret QQ ρ w := fun a ha => wp_ret (h a ha)
theorem opsR_end {ops : Array Oper} {y : Code} (I : Slots → Prop) (hI : I ρ) (h : ∀ ρ', I ρ' → wpR P n D y QQ ρ' w) : opsR P ops n D (Exit.then (y.wp P QQ) QQ) [] ρ w := fun a ha => h ρ hI a ha
theorem opsR_stepP {ops : Array Oper} {rest : List Oper} {dst : Option Tmp} {op : Op} {ty : TypeId} {pos : String} {af : Array Edge} (hd : (match dst with | some d => Nat.blt d n | none => true) = true)
    (h : Yp P (fun v w' => opsR P ops n D QQ rest (updO ρ dst v) w') (fun ch w' => ∀ a, FitsD n D ρ a → QQ (.panic ch) a w') ((execOp (evalR ρ) ⟨dst, op, ty, pos, af, none⟩).run P w)) : opsR P ops n D QQ (⟨dst, op, ty, pos, af, none⟩ :: rest) ρ w := by
  intro a ha
  have hdn : ∀ t, dst = some t → t < n := fun t ht => by subst ht; exact Nat.le_of_ble_eq_true hd
  refine wpList_plain rfl fun K hK => ?_
  unfold Oper.wp Oper.upon
  rw [ha.eval]
  have hput := fun v => ha.put dst hdn v
  revert h
  generalize (execOp (evalR ρ) ⟨dst, op, ty, pos, af, none⟩).run P w = r
  intro h
  match r, h with
  | .ok (.value v) w', h => exact hK _ _ (h _ (hput v))
  | .ok .skip w', h => exact hK _ _ (h _ (hput undef))
  | .halt (.panic v) w', h => exact h a ha
  | .ok (.enter f args) w', h =>
    refine Calls.mono h ?_
    intro e w'' hx
    match e, hx with
    | .returned v, hx => exact hK _ _ (hx _ (hput v))
    | .panicked ch, hx => exact hx a ha
theorem opsR_step {ops : Array Oper} {rest : List Oper} {dst : Option Tmp} {op : Op} {ty : TypeId} {pos : String} {af : Array Edge} (hd : (match dst with | some d => Nat.blt d n | none => true) = true)
    (h : Yk P (fun v w' => opsR P ops n D QQ rest (updO ρ dst v) w') ((execOp (evalR ρ) ⟨dst, op, ty, pos, af, none⟩).run P w)) : opsR P ops n D QQ (⟨dst, op, ty, pos, af, none⟩ :: rest) ρ w :=
  opsR_stepP hd (Yp.ofK h)
theorem opsR_defer {ops : Array Oper} {rest : List Oper} {x : Operand} {ty : TypeId} {pos : String} {af : Array Edge} {fv : Fn} {first cap : Array Value} (hx : evalR ρ x = .func fv first cap)
    (hr : (execOp (evalR ρ) ⟨none, .defer ⟨.value x, #[], #[]⟩, ty, pos, af, none⟩).run P w = .ok (.defer ⟨.fn fv cap, first⟩) w)
    (h : opsR P ops n (⟨.fn fv cap, first⟩ :: D) QQ rest ρ w) : opsR P ops n D QQ (⟨none, .defer ⟨.value x, #[], #[]⟩, ty, pos, af, none⟩ :: rest) ρ w := by
  intro a ha
  refine wpList_plain rfl fun K hK => ?_
  unfold Oper.wp Oper.upon
  rw [ha.eval, hr]
  refine hK _ _ (h _ ⟨ha.size, ?_, ha.get⟩)
  show _ :: a.defers = _
  rw [ha.defers]
theorem postP_bodyD {fn : Func} {R : Ending → World → Prop} : ∀ e ρ a w, e ≠ .normal → Fits n ρ a → postP P fn R e ρ w → bodyPostD P fn R e a w := fun e ρ a w he ha h => by
  cases e with
  | normal => exact absurd rfl he
  | ret =>
    show Leaves P fn a.tmps R a.defers .returning w
    rw [ha.defers]
    exact h a.tmps ha.get
  | panic ch =>
    show Leaves P fn a.tmps R a.defers (.panicking ch) w
    rw [ha.defers]
    exact h
  | exit _ => exact h.elim
  | goto _ => exact h.elim
  | outgrown => exact h.elim
theorem calls_of_wpR {f : FuncId} {fn : Func} {c : Code} {args : List Value} {R : Ending → World → Prop} (hf : P.funcs[f]? = some fn) (hb : fn.body = some c) (m : Nat) (hm : fn.ntmps = m) (hn : args.length ≤ m)
    (h : ∀ ρ, Begun args ρ → wpR P m [] c (bodyPostD P fn R) ρ w) : Calls P f args.toArray w R := by
  subst hm
  refine calls_of_wp_defers hf hb ?_
  have hget : ∀ t, (args.toArray ++ Array.replicate (fn.ntmps - args.toArray.size) undef).getD t undef = args.getD t undef := fun t => by
    simp only [Array.getD_eq_getD_getElem?, List.getD_eq_getElem?_getD, Array.getElem?_append, List.size_toArray, List.getElem?_toArray]
    by_cases ht : t < args.length
    · rw [if_pos ht]
    · rw [if_neg ht, List.getElem?_eq_none (by omega), Array.getElem?_replicate]
      split <;> rfl
  refine h (fun t => args.getD t undef) ⟨fun _ => rfl⟩ _ ⟨?_, rfl, hget⟩
  simp
  omega
end
open Go.RowKit
section
variable {P : Program} {n : Nat}
theorem wp_of_wpF {c : Code} {QF : PostF} {Q : Exit → Act → World → Prop} {ρ : Slots} {a : Act} {w : World} (h : wpF P n c QF ρ w) (ha : Fits n ρ a) (hq : ∀ e ρ' a' w', Fits n ρ' a' → QF e ρ' w' → Q e a' w') : c.wp P Q a w :=
  wp_mono (h a ha) fun e a' w' ⟨ρ', hf, hQ⟩ => hq e ρ' a' w' hf hQ
def askD : FrameMode → Value × FrameMode
  | .panicking ({ v, recovered := false, goexit := false } :: older) => (v, .panicking ({ v, recovered := true } :: older))
  | u => (.nilIface, u)
theorem recover_ask (c₀ : Frame) (cs : List Frame) (u : FrameMode) (hu : c₀.mode = u) (K : Value → List Frame → Prop) (h : K (askD u).1 ({ c₀ with mode := (askD u).2 } :: cs)) :
    match recoverD (c₀ :: cs) with
    | some (v, cs') => K v cs'
    | none => K .nilIface (c₀ :: cs) := by
  subst hu
  obtain ⟨cf, ct, ctodo, cd, cm, ck, cr⟩ := c₀
  match cm, h with
  | .run, h => exact h
  | .returning, h => exact h
  | .panicking [], h => exact h
  | .panicking ({ v, recovered := true, goexit := g } :: older), h => exact h
  | .panicking ({ v, recovered := false, goexit := true } :: older), h => exact h
  | .panicking ({ v, recovered := false, goexit := false } :: older), h => exact h
theorem callsD_of_rest {f : FuncId} {fn : Func} {c : Code} {args : List Value} {u : FrameMode} {w : World} {R : Ending → World → Prop} {id : Nat} {d0 d1 : Tmp} {ty0 ty1 : TypeId} {p0 p1 : String} {af0 af1 : Array Edge}
    (hf : P.funcs[f]? = some fn) (hb : fn.body = some (.seq (.region id #[⟨some d0, .call ⟨.builtin .recover, #[], #[]⟩, ty0, p0, af0, none⟩, ⟨some d1, .assign (.tmp d0), ty1, p1, af1, none⟩] false) c)) (m : Nat) (hm : fn.ntmps = m) (hn : args.length ≤ m) (h0 : Nat.blt d0 m = true) (h1 : Nat.blt d1 m = true)
    (h : ∀ ρ0, Begun args ρ0 → wpF P m c (postP P fn R) (updO (updO ρ0 (some d0) (askD u).1) (some d1) (askD u).1) w) :
    CallsD P f args.toArray u w fun e u' w' => u' = (askD u).2 ∧ R e w' := by
  subst hm
  refine callsD_of_wpS hf hb fun c₀ cs hu => ?_
  have hget : ∀ t, (args.toArray ++ Array.replicate (fn.ntmps - args.toArray.size) undef).getD t undef = args.getD t undef := fun t => by
    simp only [Array.getD_eq_getD_getElem?, List.getD_eq_getElem?_getD, Array.getElem?_append, List.size_toArray, List.getElem?_toArray]
    by_cases ht : t < args.length
    · rw [if_pos ht]
    · rw [if_neg ht, List.getElem?_eq_none (by omega), Array.getElem?_replicate]
      split <;> rfl
  have hF : Fits fn.ntmps (fun t => args.getD t undef) { tmps := args.toArray ++ Array.replicate (fn.ntmps - args.toArray.size) undef, defers := [] } := ⟨by simp; omega, rfl, hget⟩
  generalize ({ tmps := args.toArray ++ Array.replicate (fn.ntmps - args.toArray.size) undef, defers := [] } : Act) = a at hF ⊢
  have hd0 : ∀ t, some d0 = some t → t < fn.ntmps := fun t ht => by cases ht; exact Nat.le_of_ble_eq_true h0
  have hd1 : ∀ t, some d1 = some t → t < fn.ntmps := fun t ht => by cases ht; exact Nat.le_of_ble_eq_true h1
  have hF1 := hF.put (some d0) hd0 (askD u).1
  have hF2 := hF1.put (some d1) hd1 (askD u).1
  apply wpS_seq
  apply wpS_region
  have hr0 : (execOp a.eval (⟨some d0, .call ⟨.builtin .recover, #[], #[]⟩, ty0, p0, af0, none⟩ : Oper)).run P w = .ok .recover w := by
    simp [go_sem]
  have hkey : ∀ (v : Value) (cs' : List Frame), v = (askD u).1 → cs' = { c₀ with mode := (askD u).2 } :: cs → wpOpsS P #[⟨some d0, .call ⟨.builtin .recover, #[], #[]⟩, ty0, p0, af0, none⟩, ⟨some d1, .assign (.tmp d0), ty1, p1, af1, none⟩] (Exit.thenS (c.wpS P (bodyPostS P fn c₀ cs fun e u' w' => u' = (askD u).2 ∧ R e w')) (bodyPostS P fn c₀ cs fun e u' w' => u' = (askD u).2 ∧ R e w')) [1] (a.put (some d0) v) cs' w := by
    rintro v cs' rfl rfl
    have hv : (a.put (some d0) (askD u).1).eval (.tmp d0) = (askD u).1 := by
      rw [hF1.eval]
      show (bif Nat.beq d0 d0 then _ else _) = _
      rw [Nat.beq_refl]
      rfl
    have hr1 : (execOp (a.put (some d0) (askD u).1).eval (⟨some d1, .assign (.tmp d0), ty1, p1, af1, none⟩ : Oper)).run P w = .ok (.value (askD u).1) w := by
      simp [execOp, hv]
    simp only [wpOpsS, List.getElem?_toArray, List.getElem?_cons_succ, List.getElem?_cons_zero, Region.wanted, hr1, Oper.upon, if_true]
    refine wpS_of_wp (wp_of_wpF (h _ ⟨fun _ => rfl⟩) hF2 fun e ρ' a' w' hf' hQ => ?_)
    cases e with
    | normal => obtain ⟨v, hv, hR⟩ := hQ a'.tmps hf'.get; exact ⟨hf'.defers, _, rfl, v, hv, rfl, hR⟩
    | ret => obtain ⟨v, hv, hR⟩ := hQ a'.tmps hf'.get; exact ⟨hf'.defers, _, rfl, v, hv, rfl, hR⟩
    | panic ch => exact ⟨hf'.defers, _, rfl, rfl, hQ⟩
    | exit _ => exact hQ.elim
    | goto _ => exact hQ.elim
    | outgrown => exact hQ.elim
  show wpOpsS P _ _ [0, 1] a (c₀ :: cs) w
  unfold wpOpsS
  simp only [List.getElem?_toArray, List.getElem?_cons_zero, Region.wanted, if_true, hr0]
  exact recover_ask c₀ cs u hu (fun v cs' => wpOpsS P _ _ [1] (a.put (some d0) v) cs' w) (hkey _ _ rfl rfl)
end
open Go.RowKit
section
variable {P : Program} {K : Value → World → Prop} {ρ : Slots} {w : World} {d : Option Tmp} {ty : TypeId} {pos : String} {af : Array Edge} {gd : Option (Nat × Bool)} {t ty2 : TypeId}
theorem Yk.assertOk {x : Operand} {u : TypeId} {v : Value} {fs} (hu : P.underlying u = some (.struct fs)) (hx : evalR ρ x = .iface u v) (hk : K (.tuple #[v, .bool true]) w) : Yk P K ((execOp (evalR ρ) ⟨d, .typeAssert x t u true, ty, pos, af, gd⟩).run P w) := by
  refine Yk.value (v := .tuple #[v, .bool true]) (w' := w) ?_ hk
  unfold execOp
  simp [Instr.typeAssert, hx, run_underlying hu, Result.andThen]
theorem Yk.neqNilN {x : Operand} (he : (Op.equal t .nilIface .nilIface).run P w = .ok true w) (hx : evalR ρ x = .nilIface) (hk : K (.bool false) w) : Yk P K ((execOp (evalR ρ) ⟨d, .binOp .neq t x (.const .nilIface) ty2, ty, pos, af, gd⟩).run P w) := by
  have hy : evalR ρ (.const .nilIface) = .nilIface := rfl
  refine Yk.value (v := .bool false) (w' := w) ?_ hk
  unfold execOp
  simp only [hx, hy]
  simp [eqGuard, Go.binOp, he, Result.andThen]
theorem Yk.neqNilS {x : Operand} {u : TypeId} {v : Value} (he : (Op.equal t (.iface u v) .nilIface).run P w = .ok false w) (hx : evalR ρ x = .iface u v) (hk : K (.bool true) w) : Yk P K ((execOp (evalR ρ) ⟨d, .binOp .neq t x (.const .nilIface) ty2, ty, pos, af, gd⟩).run P w) := by
  have hy : evalR ρ (.const .nilIface) = .nilIface := rfl
  refine Yk.value (v := .bool true) (w' := w) ?_ hk
  unfold execOp
  simp only [hx, hy]
  simp [eqGuard, Go.binOp, he, Result.andThen]
theorem deferOk {x : Operand} {fv : Fn} {first cap : Array Value} (hx : evalR ρ x = .func fv first cap) : (execOp (evalR ρ) ⟨none, .defer ⟨.value x, #[], #[]⟩, ty, pos, af, none⟩).run P w = .ok (.defer ⟨.fn fv cap, first⟩) w := by
  unfold execOp
  simp [resolve, hx, Deferred.ofValue]
theorem ResF.cell1 {p : Tmp} {ty : TypeId} {g : Nat} {t : TypeId} {v : Value} {fr : Nat × Nat} {d : TypeDesc} (hp : ρ p = .pointer (some ⟨g, 0, none⟩)) (hg : w.heap[g]? = some (.cells ([v]).toArray t fr))
    (hu : P.underlying ty = some d) (hd : (match d with | .struct _ | .array _ _ => false | _ => true) = true) : ResF P ρ w (.cell p ty) v := by
  refine ⟨_, hp, ?_⟩
  have hc : w.cell? ⟨g, 0, none⟩ = some v := cellAt hg rfl
  have hagg : (isAgg ty).run P w = .ok false w := by
    unfold isAgg
    cases d <;> first | (simp at hd; done) | simp [run_underlying hu, Result.andThen]
  simp [loadVar, hagg, hc]
theorem leaves_nil {fn : Func} {tmps : Array Value} {R : Ending → World → Prop} (rs : List ResultVar) (hrs : fn.results = rs.toArray) (vs : List Value) (v : Value) (hv : tupled vs = v) (ht : ∀ t, tmps.getD t undef = ρ t) (h : ResAll P ρ w rs vs) (hR : R (.returned v) w) : Leaves P fn tmps R [] .returning w :=
  ⟨_, results_fn hrs ht h, by rw [hv]; exact hR⟩
end
open Go.RowKit
section
variable {P : Program} {n : Nat} {ρ : Slots} {w : World} {Q : PostF}
theorem wpF_draw_one {l r : List Oper} (kS k0 : Nat) (S : World → World → Prop) (Φs : List Fact) {id : Nat} (hm : P.follows .mixedOrders = true) (ds : List Tmp) (hg : goodB l n = true) (hn : tailB l k0 = true) (hk0 : Nat.ble Φs.length k0 = true) (hds : slotsW l = ds) (hr : (l.drop k0) = r) (hlt : Nat.blt k0 l.length = true)
    (hS0 : Nat.blt kS k0 = true) (hgS : (l[kS]?.bind (·.guard)) = none) (hst : AllStab (fun a b => a = b ∨ S w.drew b) Φs)
    (hs : StepsFC P l k0 (fun m w1 => bif Nat.beq m kS then w1 = w.drew else (w1 = w.drew ∨ S w.drew w1)) (fun m a b => bif Nat.beq m kS then S w.drew b else a = b) (facts Φs) ρ 0 l)
    (hQ : ∀ (ρ' : Slots) w1, S w.drew w1 → EndF ds ρ ρ' → EndFacts l (fun _ => []) (facts Φs) ρ' w1 ds → opsF P l.toArray n Q r ρ' w1) : wpF P n (.region id l.toArray true) Q ρ w := by
  have bf : ∀ {a b : Nat}, a ≠ b → Nat.beq a b = false := fun h => by rw [← Bool.not_eq_true, Nat.beq_eq]; exact h
  refine wpF_draw_cutG k0 (fun _ => []) _ _ (fun listed w1 => On listed kS → S w.drew w1) Φs hm ds hg hn hk0 (by unfold killB; simp) hds hr (fun i m _ _ hne' hbit a b hc hr => ?_) (fun i j _ _ _ _ _ v a b h hr => ?_) (fun i listed a b _ hsz hno hcl he hr => ?_) (fun h => ?_) (fun i o a ho hgo => ?_) (fun m _ => ?_) hs hlt (fun ρ' w1 listed hon he hc h2 h3 => ?_)
  · by_cases hmS : m = kS
    · subst hmS
      rw [Nat.beq_refl] at hc ⊢
      rw [bf hne'] at hr
      simp only [cond_true, cond_false] at hc hr ⊢
      rw [← hr]; exact hc
    · rw [bf hmS] at hc ⊢
      simp only [cond_false] at hc ⊢
      by_cases hiS : i = kS
      · subst hiS
        rw [Nat.beq_refl] at hr
        exact .inr hr
      · rw [bf hiS] at hr
        simp only [cond_false] at hr
        rw [← hr]; exact hc
  · refine hst.get Φs j v a b h ?_
    by_cases hiS : i = kS
    · subst hiS
      rw [Nat.beq_refl] at hr
      exact .inr hr
    · rw [bf hiS] at hr
      exact .inl hr
  · intro hon
    by_cases hiS : i = kS
    · subst hiS
      rw [Nat.beq_refl] at hr
      exact hr
    · have hon' : On listed kS := by
        rcases (on_set (by omega)).1 hon with h1 | h1
        · exact absurd h1.symm hiS
        · exact h1
      rw [bf hiS] at hr
      simp only [cond_false] at hr
      rw [← hr]; exact he hon'
  · exact absurd h On.not_replicate
  · have hiS : i ≠ kS := fun e => by rw [e] at ho; rw [ho] at hgS; simp only [Option.bind_some] at hgS; rw [hgS] at hgo; cases hgo
    rw [bf hiS]
    rfl
  · by_cases hmS : m = kS
    · subst hmS; rw [Nat.beq_refl]; rfl
    · rw [bf hmS]; exact .inl rfl
  · exact hQ ρ' w1 (he ((hon kS).2 (Nat.le_of_ble_eq_true hS0))) h2 h3
end
open Go.RowKit
set_option maxRecDepth 100000
theorem anyNilN (w : World) : (Op.equal 20 .nilIface .nilIface).run Tryd.prog w = .ok true w := by kernel_rfl
theorem anyNilS (u : TypeId) (v : Value) (w : World) : (Op.equal 20 (.iface u v) .nilIface).run Tryd.prog w = .ok false w := by kernel_rfl
theorem pk21_isz69 : (Tryd.prog.info? 69).map (·.size) = some 1 := by kernel_rfl
theorem pk21_ty69 : ∃ fs, Tryd.prog.underlying 69 = some (.struct fs) := struct_of (by kernel_rfl)
theorem pk21_al69 {d : Option Tmp} {ty : TypeId} {pos : String} {af : Array Edge} {gd : Option (Nat × Bool)} (σ : Operand → Value) (w : World) : (execOp σ ⟨d, .alloc 69, ty, pos, af, gd⟩).run Tryd.prog w = .ok (.value (PQ w.heap.size 0)) (w.alloc (.cells ([NI 0]).toArray 69)) := by kernel_rfl
theorem pk21_fo69_0 : FieldOff Tryd.prog 69 0 0 := fun b o w => by simp [go_sem]
theorem pk21_ty25 : Tryd.prog.underlying 25 = some (.int .i64) := by kernel_rfl
theorem pk21_isz33 : (Tryd.prog.info? 33).map (·.size) = some 1 := by kernel_rfl
theorem pk21_isz25 : (Tryd.prog.info? 25).map (·.size) = some 1 := by kernel_rfl
theorem open1_idle (b2 b3 : Nat) (w : World) : CallsD Tryd.prog 36 #[PQ b2 0, PQ b3 0] (.returning) w fun e u' w' => u' = (askD (.returning)).2 ∧ (e = .returned (.tuple #[]) ∧ Ext w w') := by
 have hE := Ext.refl w
 refine callsD_of_rest (u := .returning) (args := [PQ b2 0, PQ b3 0]) Tryd.func36 rfl 18 rfl (Nat.le_of_ble_eq_true rfl) rfl rfl (R := fun e w' => e = .returned (.tuple #[]) ∧ Ext w w') ?_
 intro ρz hb
 have T0 : (updO (updO ρz (some 5) (askD (.returning)).1) (some 2) (askD (.returning)).1) 0 = (PQ b2 0 : Value) := hb.get 0
 have T1 : (updO (updO ρz (some 5) (askD (.returning)).1) (some 2) (askD (.returning)).1) 1 = (PQ b3 0 : Value) := hb.get 1
 have T2 : (updO (updO ρz (some 5) (askD (.returning)).1) (some 2) (askD (.returning)).1) 2 = (.nilIface : Value) := rfl
 generalize updO (updO ρz (some 5) (askD (.returning)).1) (some 2) (askD (.returning)).1 = ρ0 at T0 T1 T2 ⊢
 clear hb
 refine sk fun K1 hK1 => (wt (oM rfl (oS rfl (Yk.neqNilN (anyNilN _) T2 (oZ (tN (hK1 _ _ (wpF_false (vr (.bool (false)) rfl) (wpF_skip (postP_end (fn := Tryd.f36) [] rfl [] (.tuple #[]) rfl trivial ?_))))))))))
 exact ⟨rfl, hE⟩

theorem open1_stop (w0 : World) (b2 b3 c : Nat) (v2 v3 : Value) (w : World) (h0 : Ext w0 w) (l2 : w0.heap.size ≤ b2) (l3 : w0.heap.size ≤ b3) (hne : b2 ≠ b3) (h2 : w.heap[b2]? = some (.cells ([v2]).toArray 33 (0, 0))) (h3 : w.heap[b3]? = some (.cells ([v3]).toArray 25 (0, 0))) : CallsD Tryd.prog 36 #[PQ b2 0, PQ b3 0] (.panicking [stopE c]) w fun e u' w' => u' = (askD (.panicking [stopE c])).2 ∧ (e = .returned (.tuple #[]) ∧ w'.heap[b2]? = some (.cells ([.pointer none]).toArray 33 (0, 0)) ∧ w'.heap[b3]? = some (.cells ([NI c]).toArray 25 (0, 0)) ∧ Ext w0 w') := by
 have hl2_ := (bl h2)
 have hl3_ := (bl h3)
 refine callsD_of_rest (u := .panicking [stopE c]) (args := [PQ b2 0, PQ b3 0]) Tryd.func36 rfl 18 rfl (Nat.le_of_ble_eq_true rfl) rfl rfl (R := fun e w' => e = .returned (.tuple #[]) ∧ w'.heap[b2]? = some (.cells ([.pointer none]).toArray 33 (0, 0)) ∧ w'.heap[b3]? = some (.cells ([NI c]).toArray 25 (0, 0)) ∧ Ext w0 w') ?_
 intro ρz hb
 have T0 : (updO (updO ρz (some 5) (askD (.panicking [stopE c])).1) (some 2) (askD (.panicking [stopE c])).1) 0 = (PQ b2 0 : Value) := hb.get 0
 have T1 : (updO (updO ρz (some 5) (askD (.panicking [stopE c])).1) (some 2) (askD (.panicking [stopE c])).1) 1 = (PQ b3 0 : Value) := hb.get 1
 have T2 : (updO (updO ρz (some 5) (askD (.panicking [stopE c])).1) (some 2) (askD (.panicking [stopE c])).1) 2 = ((.iface 69 (.agg ([NI c]).toArray)) : Value) := rfl
 generalize updO (updO ρz (some 5) (askD (.panicking [stopE c])).1) (some 2) (askD (.panicking [stopE c])).1 = ρ0 at T0 T1 T2 ⊢
 clear hb
 refine sk fun K1 hK1 => (wt (oM rfl (oS rfl (Yk.neqNilS (anyNilS _ _ _) T2 (oZ (tN (hK1 _ _ (wpF_true (vr (.bool (true)) rfl) (sk fun K2 hK2 => (wt (oM rfl (oS rfl (Yk.assertOk (pk21_ty69).choose_spec T2 (oM rfl (oS rfl (Yk.extract (vs := [.agg ([NI c] : List Value).toArray, .bool (true)]) (vr (.tuple #[.agg ([NI c] : List Value).toArray, .bool (true)]) rfl) (show _ = some (.agg ([NI c] : List Value).toArray : Value) from rfl) (oS rfl (Yk.extract (vs := [.agg ([NI c] : List Value).toArray, .bool (true)]) (vr (.tuple #[.agg ([NI c] : List Value).toArray, .bool (true)]) rfl) (show _ = some (.bool (true) : Value) from rfl) (oS rfl (Yk.alloc (cs := ([NI 0]).toArray) pk21_al69 fun n3 w4 hn5 hb6 hx7 hs8 => ?_))))))))))))))))))))
 have hA9 := Ext.refl w
 have hea10 := h0
 have hz11 := h0.size
 have hlt12 := lte (bl h2) hn5
 have hlt13 := lte (bl h3) hn5
 have h0 := h0.trans hx7
 have h2 := eb hx7 h2
 have h3 := eb hx7 h3
 have hA9 := hA9.trans hx7
 have hb14 := hb6; clear hb6
 have hl15 : n3 < w4.heap.size := by omega
 refine oS rfl (Yk.storeAll (vr (PQ n3 0) rfl) (vr (.agg ([NI c] : List Value).toArray) rfl) hb14 (rfl) ((show (Tryd.prog.info? 69).map (·.size) = some 1 from pk21_isz69)) ((by intro u hu; simp only [List.mem_cons, List.not_mem_nil, or_false] at hu; subst hu; rfl)) fun w16 hb17 hg18 hs19 => ?_)
 have h0 := row_fresh h0 hg18 (Nat.le_trans hz11 (by omega))
 have h2 := kb hg18 h2 (by omega)
 have h3 := kb hg18 h3 (by omega)
 have hA9 := row_fresh hA9 hg18 (Nat.le_trans (Nat.le_refl _) (by omega))
 clear hb14
 have hb14 := hb17; clear hb17
 have hl20 := bl hb14
 refine oA rfl (oZ (tN (hK2 _ _ (sk fun K21 hK21 => (sk fun K22 hK22 => (wt (oM rfl (oS rfl (Yk.notB (vr (.bool (true)) rfl) (oZ (tN (hK22 _ _ (wpF_false (vr (.bool (false)) rfl) (wpF_skip (tN (hK21 _ _ ?_))))))))))))))))
 refine wpF_draw_one 2 3 (fun (a_ b_ : World) => b_.heap[b2]? = some (.cells ([.pointer none]).toArray 33 (0, 0)) ∧ a_.grownBy b_ (some b2) ∧ b_.heap.size = a_.heap.size) [Is (PQ n3 0), Is (NI c), (fun _ _ => True)] (by kernel_rfl) [16, 17] (by kernel_rfl) (by kernel_rfl) (by kernel_rfl) (by kernel_rfl) rfl rfl rfl rfl (si2 ⟨Stab.any, trivial⟩) ?hs1005 ?hQ1005
 case hs1005 =>
  refine ⟨?_, ?_, ?_, ?_, trivial⟩
  ·refine stepFC (stepN rfl fun σ w1 hC h => ?_)
   have hq : w1 = World.drew w16 ∨ (fun (a_ b_ : World) => b_.heap[b2]? = some (.cells ([.pointer none]).toArray 33 (0, 0)) ∧ a_.grownBy b_ (some b2) ∧ b_.heap.size = a_.heap.size) (World.drew w16) w1 := hC
   have hC : BX w16.heap.size (some b2) w16 w1 := by rcases hq with hq | hq; (rw [hq]; exact BX.ofExt ((Below.refl _ _).drew) (Nat.le_refl _)); exact (BX.ofExt ((Below.refl _ _).drew) (Nat.le_refl _)).trans (BX.ofGrown hq.2.1 (Nat.le_refl _) (fun k hk => .inl hk))
   have e3 : σ 3 = PQ n3 0 := (eqo (h 3 (by decide))).trans rfl
   exact Yk.fieldAt pk21_fo69_0 e3 ⟨rfl, rfl⟩
  ·refine stepFC (stepN rfl fun σ w1 hC h => ?_)
   have hq : w1 = World.drew w16 ∨ (fun (a_ b_ : World) => b_.heap[b2]? = some (.cells ([.pointer none]).toArray 33 (0, 0)) ∧ a_.grownBy b_ (some b2) ∧ b_.heap.size = a_.heap.size) (World.drew w16) w1 := hC
   have hC : BX w16.heap.size (some b2) w16 w1 := by rcases hq with hq | hq; (rw [hq]; exact BX.ofExt ((Below.refl _ _).drew) (Nat.le_refl _)); exact (BX.ofExt ((Below.refl _ _).drew) (Nat.le_refl _)).trans (BX.ofGrown hq.2.1 (Nat.le_refl _) (fun k hk => .inl hk))
   have e16 := eqo (h 16 (by decide))
   exact Yk.cell1 pk21_ty25 rfl e16 (cellAt (BX.blk hC hb14 (some_ne (by omega))) (show _ = some (NI c : Value) from rfl)) ⟨rfl, rfl⟩
  ·refine stepFC (stepN rfl fun σ w1 hC h => ?_)
   have hq : w1 = World.drew w16 := hC
   subst hq
   have hC : BX w16.heap.size (some b2) w16 (World.drew w16) := BX.ofExt ((Below.refl _ _).drew) (Nat.le_refl _)
   have e0 := (eqo (h 0 (by decide))).trans T0
   exact Yk.storeC (i := 0) (v := .pointer none) e0 (vr (.pointer none) rfl) (eb ((Below.refl _ _).drew) h2) (Nat.le_of_ble_eq_true rfl) pk21_isz33 rfl rfl fun w2 h1 h2 h3 => ⟨⟨h1, h2, h3⟩, trivial⟩
  ·exact trivial
 intro ρ27 w28 hS30 he hf
 obtain ⟨-, k17, -⟩ := hf
 obtain ⟨T0, T1, T2, T3, T4, T7, T14, -⟩ := he.hold [(0, _), (1, _), (2, _), (3, PQ n3 0), (4, .bool (true)), (7, .bool (true)), (14, .bool (false))] ⟨T0, T1, T2, rfl, rfl, rfl, rfl, trivial⟩ rfl
 clear he
 have hx31 : Ext w16 (World.drew w16) := (Below.refl _ _).drew
 obtain ⟨hb32, hg33, hs34⟩ := hS30
 have h0 := h0.trans hx31
 have h2 := eb hx31 h2
 have h3 := eb hx31 h3
 have hA9 := hA9.trans hx31
 have hb14 := eb hx31 hb14
 have h0 := row_fresh h0 hg33 (Nat.le_trans (Nat.le_refl _) (by omega))
 have h3 := kb hg33 h3 (by omega)
 clear hA9
 have hb14 := kb hg33 hb14 (by omega)
 clear h2
 have h2 := hb32; clear hb32
 have T17 : ρ27 17 = NI c := k17
 clear k17
 refine oS rfl (Yk.storeC (i := 0) (v := NI c) T1 T17 h3 (Nat.le_of_ble_eq_true rfl) pk21_isz25 rfl rfl fun w35 hb36 hg37 hs38 => ?_)
 have h0 := row_fresh h0 hg37 (Nat.le_trans (Nat.le_refl _) (by omega))
 have hb14 := kb hg37 hb14 (by omega)
 have h2 := kb hg37 h2 (by omega)
 clear h3
 have h3 := hb36; clear hb36
 have hl39 := bl h3
 refine oZ (postP_end (fn := Tryd.f36) [] rfl [] (.tuple #[]) rfl trivial ?_)
 exact ⟨rfl, h2, h3, h0⟩
open Go.RowKit
theorem Reads.keepN {w w' : World} {b z n : Nat} {v : Value} {xs : List Value} (h : Reads w z v n xs) (hb : ∀ u ∈ xs, ∃ x, u = B8 x) (hm : NoB8 w b) (hg : w.grownBy w' (some b)) : Reads w' z v n xs := by
  obtain ⟨h1, ao, cap, rfl, h2, h3, h4, h5⟩ := h
  refine ⟨h1, ao, cap, rfl, h2, h3, h4, fun a ha j u hu => ?_⟩
  have hc := h5 a ha j u hu
  have hlt := World.block_lt_of_cell? w _ hc
  have hsp := World.cell?_spot hc
  generalize a.add j = q at hc hlt hsp ⊢
  obtain ⟨q1, q2, q3⟩ := q
  simp only at hsp hlt
  subst hsp
  by_cases e : q1 = b
  · exfalso
    obtain ⟨x, rfl⟩ := hb u (List.mem_of_getElem? hu)
    rw [e] at hc
    exact hm _ _ hc
  · have := hg.block q1 hlt (fun e' => e (Option.some.inj e'))
    unfold World.cell? at hc ⊢
    rw [this]
    exact hc
theorem RG.keepN {w w' : World} {b : Nat} {v : Value} {l : List Bs} (h : RG 32 Lib.byteCells w v l) (hm : NoB8 w b) (hg : w.grownBy w' (some b)) : RG 32 Lib.byteCells w' v l :=
  ⟨h.1, h.2.keepN (fun u hu => by
    obtain ⟨x, -, hx⟩ := List.mem_flatMap.1 hu
    obtain ⟨c, -, rfl⟩ := List.mem_map.1 hx
    exact ⟨c, rfl⟩) hm hg⟩
theorem one_noB8 {w : World} {g : Nat} {v : Value} {T : TypeId} {fr : Nat × Nat} (hb : w.heap[g]? = some (.cells ([v]).toArray T fr)) (hv : ∀ x, v ≠ B8 x) : NoB8 w g := fun j x hc => by
  unfold World.cell? at hc
  rw [hb] at hc
  match j, hc with
  | 0, hc => simp at hc; exact hv x hc
  | j + 1, hc => simp at hc
open Go.RowKit
set_option maxRecDepth 100000
def openP (b : Bs) : Except Nat PackV := if 1048576 < b.length then .error 2 else if b.length < 36 then .error 6 else if Sha.sum (b.take (b.length - 32)) = b.drop (b.length - 32) then readP b else .error 18
def PackAt (w : World) (v : Value) (p : PackV) : Prop := ∃ g vi bo O, v = PQ g 0 ∧ p.2 = (fun k => (O k).map Prod.fst) ∧ w.heap[g]? = some (.cells ([vi, .map (some bo)]).toArray 74 (0, 0)) ∧ RG 32 Lib.byteCells w vi p.1 ∧ MapF rk objV (fun id : List UInt8 => id.length = 32) w bo O ∧ OOk w O
def OpenRes (w : World) (v : Value) : Except Nat PackV → Nat → Prop
 | .ok p, c => c = 0 ∧ PackAt w v p
 | .error e, c => c = e ∧ v = .pointer none
theorem PackAt.keep {w w' : World} {v : Value} {p : PackV} (h : PackAt w v p) (k : Ext w w') : PackAt w' v p := by
 obtain ⟨g, vi, bo, O, h1, h2, h3, h4, h5, h6⟩ := h
 exact ⟨g, vi, bo, O, h1, h2, eb k h3, h4.keep k, h5.keep k, h6.keep k⟩
def PackNew (n : Nat) (w : World) (v : Value) (p : PackV) : Prop := ∃ g vi bo O, v = PQ g 0 ∧ p.2 = (fun k => (O k).map Prod.fst) ∧ w.heap[g]? = some (.cells ([vi, .map (some bo)]).toArray 74 (0, 0)) ∧ RG 32 Lib.byteCells w vi p.1 ∧ MapF rk objV (fun id : List UInt8 => id.length = 32) w bo O ∧ OOk w O ∧ n ≤ g ∧ n ≤ bo ∧ NewV n vi ∧ NewM n O
theorem PackNew.at_ {n : Nat} {w : World} {v : Value} {p : PackV} (h : PackNew n w v p) : PackAt w v p := by
 obtain ⟨g, vi, bo, O, h1, h2, h3, h4, h5, h6, -⟩ := h
 exact ⟨g, vi, bo, O, h1, h2, h3, h4, h5, h6⟩
theorem PackNew.keep {n : Nat} {w w' : World} {v : Value} {p : PackV} (h : PackNew n w v p) (k : Ext w w') : PackNew n w' v p := by
 obtain ⟨g, vi, bo, O, h1, h2, h3, h4, h5, h6, h7⟩ := h
 exact ⟨g, vi, bo, O, h1, h2, eb k h3, h4.keep k, h5.keep k, h6.keep k, h7⟩
theorem RG.keptV {w w' : World} {v : Value} {l : List Bs} (h : RG 32 Lib.byteCells w v l) {row : Option Nat} (hg : w.grownBy w' row) (hv : v.ownBlock ≠ row) : RG 32 Lib.byteCells w' v l := by
 obtain ⟨h0, h1, ao, cap, rfl, h2, h3, h4, h5⟩ := h
 refine ⟨h0, h1, ao, cap, rfl, h2, h3, h4, fun a ha j u hu => ?_⟩
 refine hg.cell (h5 a ha j u hu) (fun e => hv ?_)
 rw [ha, ← e]
 obtain ⟨a1, a2, a3⟩ := a
 simp only [Value.ownBlock, Addr.add]
 split <;> rfl
theorem PackNew.older {n : Nat} {w w' : World} {v : Value} {p : PackV} {b : Nat} (h : PackNew n w v p) (hg : w.grownBy w' (some b)) (hb : b < n) : PackNew n w' v p := by
 obtain ⟨g, vi, bo, O, h1, h2, h3, h4, h5, h6, h7, h8, h9, h10⟩ := h
 have hne : ∀ x : Value, NewV n x → x.ownBlock ≠ some b := fun x hx e => by have := hx b e; omega
 exact ⟨g, vi, bo, O, h1, h2, (hg.block g (bl h3) (fun e => by cases e; omega)).trans h3, h4.keptV hg (hne _ h9), h5.other hg (fun e => by cases e; omega), fun id x hx => (h6 id x hx).kept hg (.inr (hne _ (h10 id x hx))), h7, h8, h9, h10⟩
def OpenNew (n : Nat) (w : World) (v : Value) : Except Nat PackV → Nat → Prop
 | .ok p, c => c = 0 ∧ PackNew n w v p
 | .error e, c => c = e ∧ v = .pointer none
theorem OpenNew.res {n : Nat} {w : World} {v : Value} : ∀ {r : Except Nat PackV} {c : Nat}, OpenNew n w v r c → OpenRes w v r c
 | .ok _, _, h => ⟨h.1, h.2.at_⟩
 | .error _, _, h => h
theorem PackNew.keepN {n : Nat} {w w' : World} {v c : Value} {p : PackV} {b : Nat} {T : TypeId} {fr : Nat × Nat} (h : PackNew n w v p) (hb : w.heap[b]? = some (.cells ([c]).toArray T fr)) (hc : ∀ x, c ≠ B8 x) (hg : w.grownBy w' (some b)) : PackNew n w' v p := by
 obtain ⟨g, vi, bo, O, h1, h2, h3, h4, h5, h6, h7⟩ := h
 have hm := one_noB8 hb hc
 have e1 : g ≠ b := fun e => by rw [e, hb] at h3; simp at h3
 have e2 : bo ≠ b := fun e => by obtain ⟨es, cl, h, -⟩ := h5; rw [e, hb] at h; cases h
 exact ⟨g, vi, bo, O, h1, h2, (hg.block g (bl h3) (fun e => e1 (Option.some.inj e))).trans h3, h4.keepN hm hg, h5.other hg (fun e => e2 (Option.some.inj e).symm), fun id x hx => (h6 id x hx).keepN hm hg, h7⟩
theorem pk22_al33 {d : Option Tmp} {ty : TypeId} {pos : String} {af : Array Edge} {gd : Option (Nat × Bool)} (σ : Operand → Value) (w : World) : (execOp σ ⟨d, .alloc 33, ty, pos, af, gd⟩).run Tryd.prog w = .ok (.value (PQ w.heap.size 0)) (w.alloc (.cells ([.pointer none]).toArray 33)) := by kernel_rfl
theorem pk22_al25 {d : Option Tmp} {ty : TypeId} {pos : String} {af : Array Edge} {gd : Option (Nat × Bool)} (σ : Operand → Value) (w : World) : (execOp σ ⟨d, .alloc 25, ty, pos, af, gd⟩).run Tryd.prog w = .ok (.value (PQ w.heap.size 0)) (w.alloc (.cells ([NI 0]).toArray 25)) := by kernel_rfl
theorem pk22_ty24 : Tryd.prog.underlying 24 = some (.slice 5) := by kernel_rfl
theorem pk22_isz33 : (Tryd.prog.info? 33).map (·.size) = some 1 := by kernel_rfl
theorem pk22_isz25 : (Tryd.prog.info? 25).map (·.size) = some 1 := by kernel_rfl
theorem pk22_ty33 : Tryd.prog.underlying 33 = some (.pointer 74) := by kernel_rfl
theorem pk22_ty25 : Tryd.prog.underlying 25 = some (.int .i64) := by kernel_rfl
theorem pk22_sz5 : ∀ w' : World, (sizeOf 5).run Tryd.prog w' = .ok 1 w' := fun _ => by kernel_rfl
theorem pk22_rows1_75 (ao : Option Addr) (n c : Nat) (w : World) : (Instr.buildSlice 75 1 #[(0, .slice ao n c)]).run Tryd.prog w = .ok (.slice (some ⟨w.heap.size, 0, none⟩) 1 1) (w.alloc (.cells #[.slice ao n c] 24)) := by kernel_rfl
theorem pk22_pl17 : Plain Tryd.prog 17 := fun _ _ => by kernel_rfl
theorem pk22_al38 {d : Option Tmp} {ty : TypeId} {pos : String} {af : Array Edge} {gd : Option (Nat × Bool)} (σ : Operand → Value) (w : World) : (execOp σ ⟨d, .alloc 38, ty, pos, af, gd⟩).run Tryd.prog w = .ok (.value (PQ w.heap.size 0)) (w.alloc (.cells (Lib.byteCells (List.replicate 32 0)).toArray 38)) := by kernel_rfl
theorem pk22_ty38 : Tryd.prog.underlying 38 = some (.array 32 5) := by kernel_rfl
theorem pk22_ty5 : Tryd.prog.underlying 5 = some (.int .u8) := by kernel_rfl
theorem pk22_ty9 : Tryd.prog.underlying 9 = some (.string) := by kernel_rfl
theorem pk22_pl37 : Plain Tryd.prog 37 := fun _ _ => by kernel_rfl
set_option maxHeartbeats 1600000
theorem open_new (w : World) (hG : Laid w) (v : Value) (b : Bs) (hr : RB w v b) :
  Calls Tryd.prog 15 #[v] w fun e w' => ∃ x, e = .returned x ∧ ∃ p c, x = .tuple #[p, NI c] ∧ OpenNew w.heap.size w' p (openP b) c ∧ Ext w w' := by
 refine calls_of_wpR (args := [v]) Tryd.func15 rfl 30 rfl (Nat.le_of_ble_eq_true rfl) ?_
 intro ρ0 hb
 have T0 : ρ0 0 = (v : Value) := hb.get 0
 clear hb
 have hE := Ext.refl w
 refine wpR_seq_k _ postP_bodyD fun K1 hK1 => (wt (oS rfl (Yk.alloc (cs := ([.pointer none]).toArray) pk22_al33 fun n2 w3 hn4 hb5 hx6 hs7 => ?_)))
 have hE := hE.trans hx6
 have hb8 := hb5; clear hb5
 have hl9 : n2 < w3.heap.size := by omega
 refine oS rfl (Yk.alloc (cs := ([NI 0]).toArray) pk22_al25 fun n10 w11 hn12 hb13 hx14 hs15 => ?_)
 have hA16 := Ext.refl w3
 have hea17 := hE
 have hz18 := hE.size
 have hlt19 := lte (bl hb8) hn12
 have hE := hE.trans hx14
 have hb8 := eb hx14 hb8
 have hA16 := hA16.trans hx14
 have hb20 := hb13; clear hb13
 have hl21 : n10 < w11.heap.size := by omega
 refine oL_ [(0, v), (2, PQ n2 0), (3, PQ n10 0)] ⟨T0, rfl, rfl, trivial⟩ fun ρ22 ⟨T0, T2, T3, _⟩ => ?_
 by_cases q1 : 1048576 < b.length
 ·have hP : openP b = .error 2 := if_pos q1
  refine tN (hK1 _ _ (wpR_seq_k _ postP_bodyD fun K23 hK23 => (sk fun K24 hK24 => (wt (oM rfl (oS rfl (Yk.lenRB pk22_ty24 (RB.of (hr.keep hE) T0) (oS rfl (Yk.eqI (a := (b.length : Nat)) (b := (1048576 : Nat)) rfl rfl (k_gtr _ _ _ _) (oL_ [(0, v), (2, PQ n2 0), (3, PQ n10 0), (7, .bool (true))] ⟨T0, T2, T3, (congrArg Value.bool (decide_eq_true (q1))), trivial⟩ fun ρ25 ⟨T0, T2, T3, T7, _⟩ => (tN (hK24 _ _ (wpF_true T7 (sk fun K26 hK26 => (wt (oS rfl (Yk.storeC (i := 0) (v := .pointer none) T2 (vr (.pointer none) rfl) hb8 (Nat.le_of_ble_eq_true rfl) pk22_isz33 rfl rfl fun w27 hb28 hg29 hs30 => ?_)))))))))))))))))
  have hE := row_fresh hE hg29 (Nat.le_trans (Nat.le_refl _) (by omega))
  clear hA16
  have hb20 := kb hg29 hb20 (by omega)
  clear hb8
  have hb8 := hb28; clear hb28
  have hl31 := bl hb8
  refine oS rfl (Yk.storeC (i := 0) (v := NI 2) T3 (vr (NI 2) rfl) hb20 (Nat.le_of_ble_eq_true rfl) pk22_isz25 rfl rfl fun w32 hb33 hg34 hs35 => ?_)
  have hE := row_fresh hE hg34 (Nat.le_trans hz18 (by omega))
  have hb8 := kb hg34 hb8 (by omega)
  clear hb20
  have hb20 := hb33; clear hb33
  have hl36 := bl hb20
  refine oL_ [(0, v), (2, PQ n2 0), (3, PQ n10 0), (7, .bool (true))] ⟨T0, T2, T3, T7, trivial⟩ fun ρ37 ⟨T0, T2, T3, T7, _⟩ => (tN (hK26 _ _ (wpF_ret (thenF_ret (postP_ret (fn := Tryd.f15) _ rfl [.pointer none, NI 2] (.tuple #[.pointer none, NI 2]) rfl ⟨ResF.cell1 T2 hb8 pk22_ty33 rfl, ResF.cell1 T3 hb20 pk22_ty25 rfl, trivial⟩ ?_)))))
  exact ⟨_, rfl, _, _, rfl, by rw [hP]; exact ⟨rfl, rfl⟩, hE⟩
 by_cases q2 : b.length < 36
 ·have hP : openP b = .error 6 := (if_neg q1).trans (if_pos q2)
  refine tN (hK1 _ _ (wpR_seq_k _ postP_bodyD fun K38 hK38 => (sk fun K39 hK39 => (wt (oM rfl (oS rfl (Yk.lenRB pk22_ty24 (RB.of (hr.keep hE) T0) (oS rfl (Yk.eqI (a := (b.length : Nat)) (b := (1048576 : Nat)) rfl rfl (k_gtr _ _ _ _) (oL_ [(0, v), (2, PQ n2 0), (3, PQ n10 0), (7, .bool (false))] ⟨T0, T2, T3, (congrArg Value.bool (decide_eq_false (q1))), trivial⟩ fun ρ40 ⟨T0, T2, T3, T7, _⟩ => (tN (hK39 _ _ (wpF_false T7 (wpF_skip (tN (hK38 _ _ (wpR_seq_k _ postP_bodyD fun K41 hK41 => (sk fun K42 hK42 => (wt (oM rfl ?_))))))))))))))))))))
  refine oS rfl (Yk.lenRB pk22_ty24 (RB.of (hr.keep hE) T0) (oS rfl (Yk.eqI (a := (b.length : Nat)) (b := (36 : Nat)) rfl rfl (k_lss _ _ _ _) (oL_ [(0, v), (2, PQ n2 0), (3, PQ n10 0), (7, .bool (false)), (10, .bool (true))] ⟨T0, T2, T3, T7, (congrArg Value.bool (decide_eq_true (q2))), trivial⟩ fun ρ43 ⟨T0, T2, T3, T7, T10, _⟩ => (tN (hK42 _ _ (wpF_true T10 (sk fun K44 hK44 => (wt (oS rfl (Yk.storeC (i := 0) (v := .pointer none) T2 (vr (.pointer none) rfl) hb8 (Nat.le_of_ble_eq_true rfl) pk22_isz33 rfl rfl fun w45 hb46 hg47 hs48 => ?_)))))))))))
  have hE := row_fresh hE hg47 (Nat.le_trans (Nat.le_refl _) (by omega))
  clear hA16
  have hb20 := kb hg47 hb20 (by omega)
  clear hb8
  have hb8 := hb46; clear hb46
  have hl49 := bl hb8
  refine oS rfl (Yk.storeC (i := 0) (v := NI 6) T3 (vr (NI 6) rfl) hb20 (Nat.le_of_ble_eq_true rfl) pk22_isz25 rfl rfl fun w50 hb51 hg52 hs53 => ?_)
  have hE := row_fresh hE hg52 (Nat.le_trans hz18 (by omega))
  have hb8 := kb hg52 hb8 (by omega)
  clear hb20
  have hb20 := hb51; clear hb51
  have hl54 := bl hb20
  refine oL_ [(0, v), (2, PQ n2 0), (3, PQ n10 0), (7, .bool (false)), (10, .bool (true))] ⟨T0, T2, T3, T7, T10, trivial⟩ fun ρ55 ⟨T0, T2, T3, T7, T10, _⟩ => (tN (hK44 _ _ (wpF_ret (thenF_ret (postP_ret (fn := Tryd.f15) _ rfl [.pointer none, NI 6] (.tuple #[.pointer none, NI 6]) rfl ⟨ResF.cell1 T2 hb8 pk22_ty33 rfl, ResF.cell1 T3 hb20 pk22_ty25 rfl, trivial⟩ ?_)))))
  exact ⟨_, rfl, _, _, rfl, by rw [hP]; exact ⟨rfl, rfl⟩, hE⟩
 by_cases q3 : Sha.sum (b.take (b.length - 32)) = b.drop (b.length - 32)
 ·have hP : openP b = readP b := (if_neg q1).trans ((if_neg q2).trans (if_pos q3))
  refine tN (hK1 _ _ (wpR_seq_k _ postP_bodyD fun K56 hK56 => (sk fun K57 hK57 => (wt (oM rfl (oS rfl (Yk.lenRB pk22_ty24 (RB.of (hr.keep hE) T0) (oS rfl (Yk.eqI (a := (b.length : Nat)) (b := (1048576 : Nat)) rfl rfl (k_gtr _ _ _ _) (oL_ [(0, v), (2, PQ n2 0), (3, PQ n10 0), (7, .bool (false))] ⟨T0, T2, T3, (congrArg Value.bool (decide_eq_false (q1))), trivial⟩ fun ρ58 ⟨T0, T2, T3, T7, _⟩ => (tN (hK57 _ _ (wpF_false T7 (wpF_skip (tN (hK56 _ _ (wpR_seq_k _ postP_bodyD fun K59 hK59 => (sk fun K60 hK60 => (wt (oM rfl ?_))))))))))))))))))))
  refine oS rfl (Yk.lenRB pk22_ty24 (RB.of (hr.keep hE) T0) (oS rfl (Yk.eqI (a := (b.length : Nat)) (b := (36 : Nat)) rfl rfl (k_lss _ _ _ _) (oL_ [(0, v), (2, PQ n2 0), (3, PQ n10 0), (7, .bool (false)), (10, .bool (false))] ⟨T0, T2, T3, T7, (congrArg Value.bool (decide_eq_false (q2))), trivial⟩ fun ρ61 ⟨T0, T2, T3, T7, T10, _⟩ => (tN (hK60 _ _ (wpF_false T10 (wpF_skip (tN (hK59 _ _ (wpR_seq_k _ postP_bodyD fun K62 hK62 => (wt (oM rfl (oM rfl (oS rfl (Yk.lenRB pk22_ty24 (RB.of (hr.keep hE) T0) (oS rfl (Yk.bin (xv := NI b.length) (yv := NI 32) rfl rfl rfl (i64_sub _ _ _ (by omega) (by omega)) (oS rfl (Yk.sliceHi (xs := b) (n := (b.length) - (32)) pk22_ty24 pk22_sz5 T0 (hr.keep hE) (vr (NI ((b.length) - (32))) rfl) (by omega) fun v63 hr64 ha65 => (oS rfl (Yk.rows1 pk22_rows1_75 (RB.of hr64 (vr v63 rfl)) fun v66 w67 hr68 hx69 => ?_))))))))))))))))))))))
  have hE := hE.trans hx69
  have hb8 := eb hx69 hb8
  have hA16 := hA16.trans hx69
  have hb20 := eb hx69 hb20
  have hr64 := hr64.keep hx69
  refine oS rfl (Yk.callA1 pk22_pl17 (vr v66 rfl) ((sum_one _ (hG.keep hE) v66 (b.take ((b.length) - (32))) hr68 (by simp only [List.length_take]; omega)).mono ?_))
  rintro e w71 ⟨rfl, hx70⟩
  refine ⟨_, rfl, ?_⟩
  have hE := hE.trans hx70
  have hb8 := eb hx70 hb8
  have hA16 := hA16.trans hx70
  have hb20 := eb hx70 hb20
  have hr64 := hr64.keep hx70
  have hr68 := hr68.keep hx70
  refine oS rfl (Yk.alloc (cs := (Lib.byteCells (List.replicate 32 0)).toArray) pk22_al38 fun n72 w73 hn74 hb75 hx76 hs77 => ?_)
  have hA78 := Ext.refl w71
  have hea79 := hE
  have hea80 := hA16
  have hz81 := hE.size
  have hz82 := hA16.size
  have hlt83 := lte (bl hb8) hn74
  have hlt84 := lte (bl hb20) hn74
  have hE := hE.trans hx76
  have hb8 := eb hx76 hb8
  have hA16 := hA16.trans hx76
  have hb20 := eb hx76 hb20
  have hA78 := hA78.trans hx76
  have hb85 := hb75; clear hb75
  have hl86 : n72 < w73.heap.size := by omega
  refine oS rfl (Yk.storeAll (vr (PQ n72 0) rfl) (vr (AB (Sha.sum (b.take ((b.length) - (32))))) rfl) hb85 (by exact idsize (Sha.sum_length _) List.length_replicate) (by exact sizeId_of (Sha.sum_length _)) (byteCells_one _) fun w87 hb88 hg89 hs90 => ?_)
  have hE := row_fresh hE hg89 (Nat.le_trans hz81 (by omega))
  have hb8 := kb hg89 hb8 (by omega)
  have hA16 := row_fresh hA16 hg89 (Nat.le_trans hz82 (by omega))
  have hb20 := kb hg89 hb20 (by omega)
  have hA78 := row_fresh hA78 hg89 (Nat.le_trans (Nat.le_refl _) (by omega))
  clear hb85
  have hb85 := hb88; clear hb88
  have hl91 := bl hb85
  refine oL_ [(0, v), (2, PQ n2 0), (3, PQ n10 0), (4, PQ n72 0), (7, .bool (false)), (10, .bool (false))] ⟨T0, T2, T3, rfl, T7, T10, trivial⟩ fun ρ92 ⟨T0, T2, T3, T4, T7, T10, _⟩ => (tN (hK62 _ _ (wpR_seq_k _ postP_bodyD fun K93 hK93 => (sk fun K94 hK94 => ?_))))
  refine wpF_draw [Is (.slice (some ⟨n72, 0, none⟩) 32 32), Is (St ((Sha.sum (b.take ((b.length) - (32)))))), Is (v), Is (v), Is (NI b.length), Is (NI ((b.length) - (32))), fun x w' => RB w' x (b.drop ((b.length) - (32))), Is (St (b.drop ((b.length) - (32)))), Is (.bool (false))] (by kernel_rfl) [18, 19, 20, 21, 22, 23, 24, 25, 26] (by kernel_rfl) (by kernel_rfl) (si6 ⟨(fun _ _ _ h k => RB.keep h k), (si2 trivial)⟩) ?hs1006 ?hQ1006
  case hs1006 =>
   refine ⟨?_, ?_, ?_, ?_, ?_, ?_, ?_, ?_, ?_, trivial⟩
   ·refine stepN rfl fun σ w1 hC h => ?_
    have e4 := (eqo (h 4 (by decide))).trans T4
    exact Yk.sliceArr pk22_ty38 pk22_sz5 e4 ⟨Ext.refl _, rfl⟩
   ·refine stepN rfl fun σ w1 hC h => ?_
    have e18 := eqo (h 18 (by decide))
    exact Yk.convRB pk22_ty24 pk22_ty5 pk22_ty9 (RB.of (RB.ofBlkN (eb hC hb85) (Sha.sum_length _) (by decide)) e18) ⟨Ext.refl _, rfl⟩
   ·refine stepN rfl fun σ w1 hC h => ?_
    have e0 := (eqo (h 0 (by decide))).trans T0
    exact Yk.move e0 ⟨Ext.refl _, rfl⟩
   ·refine stepN rfl fun σ w1 hC h => ?_
    have e0 := (eqo (h 0 (by decide))).trans T0
    exact Yk.move e0 ⟨Ext.refl _, rfl⟩
   ·refine stepN rfl fun σ w1 hC h => ?_
    have e21 := eqo (h 21 (by decide))
    exact Yk.lenRB pk22_ty24 (RB.of (hr.keep (hE.trans hC)) e21) ⟨Ext.refl _, rfl⟩
   ·refine stepN rfl fun σ w1 hC h => ?_
    have e22 := eqo (h 22 (by decide))
    exact Yk.bin (xv := NI b.length) (yv := NI 32) e22 rfl rfl (i64_sub _ _ _ (by omega) (by omega)) ⟨Ext.refl _, rfl⟩
   ·refine stepN rfl fun σ w1 hC h => ?_
    have e20 := eqo (h 20 (by decide))
    have e23 := eqo (h 23 (by decide))
    exact Yk.sliceLo (xs := b) (l := (b.length) - (32)) pk22_ty24 pk22_sz5 rfl (RB.of (hr.keep (hE.trans hC)) e20) e23 (by omega) fun v hr _ => ⟨Ext.refl _, hr⟩
   ·refine stepN rfl fun σ w1 hC h => ?_
    have e24 : (fun x w' => RB w' x (b.drop ((b.length) - (32)))) (σ 24) w1 := h 24 (by decide)
    exact Yk.convRB pk22_ty24 pk22_ty5 pk22_ty9 e24 ⟨Ext.refl _, rfl⟩
   ·refine stepN rfl fun σ w1 hC h => ?_
    have e19 := eqo (h 19 (by decide))
    have e25 := eqo (h 25 (by decide))
    exact Yk.eqSt (l := (Sha.sum (b.take ((b.length) - (32))))) (m := b.drop ((b.length) - (32))) (.inr rfl) e19 e25 (decide ((Sha.sum (b.take ((b.length) - (32)))) ≠ (b.drop ((b.length) - (32)) : List UInt8))) rfl ⟨Ext.refl _, (congrArg Value.bool (decide_eq_false (fun h => h q3)))⟩
  intro ρ95 w96 hx97 he hf
  obtain ⟨-, -, -, -, -, -, -, -, k26, -⟩ := hf
  obtain ⟨T0, T2, T3, T4, T7, T10, -⟩ := he.hold [(0, _), (2, _), (3, _), (4, _), (7, _), (10, _)] ⟨T0, T2, T3, T4, T7, T10, trivial⟩ rfl
  clear he
  have hE := hE.trans hx97
  have hb8 := eb hx97 hb8
  have hA16 := hA16.trans hx97
  have hb20 := eb hx97 hb20
  have hA78 := hA78.trans hx97
  have hb85 := eb hx97 hb85
  have T26 : ρ95 26 = .bool (false) := k26
  clear k26
  refine tN (hK94 _ _ (wpF_false T26 (wpF_skip (tN (hK93 _ _ (wpR_seq_text (opsR_step rfl (Yk.mkFunc (vs := #[PQ n2 0, PQ n10 0]) (by simp only [List.map_toArray, List.map_cons, List.map_nil]; exact congrArg List.toArray (list2 T2 T3)) (opsR_defer (vr (.func (.func 36) #[] #[PQ n2 0, PQ n10 0]) rfl) (deferOk (vr (.func (.func 36) #[] #[PQ n2 0, PQ n10 0]) rfl)) (opsR_end (fun ρ => ρ 0 = (v : Value) ∧ ρ 2 = (PQ n2 0 : Value) ∧ ρ 3 = (PQ n10 0 : Value) ∧ ρ 4 = (PQ n72 0 : Value) ∧ ρ 7 = (.bool (false) : Value) ∧ ρ 10 = (.bool (false) : Value) ∧ ρ 26 = (.bool (false) : Value) ∧ True) ⟨T0, T2, T3, T4, T7, T10, T26, trivial⟩ fun ρ98 ⟨T0, T2, T3, T4, T7, T10, T26, _⟩ => (wpR_seq_text (opsR_step rfl (Yk.move T0 (opsR_stepP rfl (Yp.callA1 pk22_pl37 (vr v rfl) ?_)))))))))))))))
  refine calls_either (read_any _ (hG.keep hE) v b (hr.keep hE) (by omega) (by omega)) ?_ ?_
  rotate_left
  ·
   rintro ch w100 ⟨c, hce, rfl, hx⟩
   intro a_ ha_
   show Leaves _ _ a_.tmps _ a_.defers (.panicking _) _
   rw [ha_.defers]
   refine leaves_cons (f := 36) (args := #[PQ n2 0, PQ n10 0]) (by simp) (by simp [go_sem]) ((open1_stop w n2 n10 c _ _ _ (hE.trans hx) (by omega) (by omega) (by omega) (eb hx hb8) (eb hx hb20)).mono ?_)
   rintro e u' w3 ⟨rfl, rfl, hb2, hb3, hE3⟩
   exact leaves_nil (ρ := _) _ rfl [.pointer none, NI c] (.tuple #[.pointer none, NI c]) rfl ha_.get ⟨ResF.cell1 (T2) hb2 pk22_ty33 rfl, ResF.cell1 (T3) hb3 pk22_ty25 rfl, trivial⟩ ⟨_, rfl, _, _, rfl, by rw [hP, hce]; exact ⟨rfl, rfl⟩, hE3⟩
  rintro v_ w102 ⟨gp, vi, bo, ids, O, rfl, hrd, hgb, hgi, hmo, hoo, hlg, hlo, hlv, hlO, hx99⟩
  have hsz_ := (hE).size
  have hE := hE.trans hx99
  have hb8 := eb hx99 hb8
  have hA16 := hA16.trans hx99
  have hb20 := eb hx99 hb20
  have hA78 := hA78.trans hx99
  have hb85 := eb hx99 hb85
  have hPk : PackNew w.heap.size w102 (PQ gp 0) (ids, fun k => (O k).map Prod.fst) := ⟨gp, vi, bo, O, rfl, rfl, hgb, hgi, hmo, hoo, Nat.le_trans hsz_ hlg, Nat.le_trans hsz_ hlo, (fun k hk => Nat.le_trans hsz_ (hlv k hk)), fun id x h k hk => Nat.le_trans hsz_ (hlO id x h k hk)⟩
  have hob_n2 := hb8
  refine opsR_step rfl (Yk.storeC (i := 0) (v := PQ gp 0) T2 (vr (PQ gp 0) rfl) hb8 (Nat.le_of_ble_eq_true rfl) pk22_isz33 rfl rfl fun w103 hb104 hg105 hs106 => ?_)
  have hE := row_fresh hE hg105 (Nat.le_trans (Nat.le_refl _) (by omega))
  clear hA16
  have hb20 := kb hg105 hb20 (by omega)
  clear hA78
  have hb85 := kb hg105 hb85 (by omega)
  have hPk : PackNew w.heap.size w103 (PQ gp 0) (ids, fun k => (O k).map Prod.fst) := PackNew.keepN hPk hob_n2 (fun _ h => by cases h) hg105
  clear hb8
  have hb8 := hb104; clear hb104
  have hl107 := bl hb8
  have hob_n10 := hb20
  refine opsR_step rfl (Yk.storeC (i := 0) (v := NI 0) T3 (vr (NI 0) rfl) hb20 (Nat.le_of_ble_eq_true rfl) pk22_isz25 rfl rfl fun w108 hb109 hg110 hs111 => ?_)
  have hE := row_fresh hE hg110 (Nat.le_trans hz18 (by omega))
  have hb85 := kb hg110 hb85 (by omega)
  have hPk : PackNew w.heap.size w108 (PQ gp 0) (ids, fun k => (O k).map Prod.fst) := PackNew.keepN hPk hob_n10 (fun _ h => by cases h) hg110
  have hb8 := kb hg110 hb8 (by omega)
  clear hb20
  have hb20 := hb109; clear hb109
  have hl112 := bl hb20
  refine opsR_end (fun ρ => ρ 0 = (v : Value) ∧ ρ 2 = (PQ n2 0 : Value) ∧ ρ 3 = (PQ n10 0 : Value) ∧ ρ 4 = (PQ n72 0 : Value) ∧ ρ 7 = (.bool (false) : Value) ∧ ρ 10 = (.bool (false) : Value) ∧ ρ 26 = (.bool (false) : Value) ∧ True) ⟨T0, T2, T3, T4, T7, T10, T26, trivial⟩ fun ρ113 ⟨T0, T2, T3, T4, T7, T10, T26, _⟩ => (wpR_ret fun a_ ha_ => ?_)
  show Leaves _ _ a_.tmps _ a_.defers .returning _
  rw [ha_.defers]
  refine leaves_cons (f := 36) (args := #[PQ n2 0, PQ n10 0]) (by simp) (by simp [go_sem]) ((open1_idle n2 n10 _).mono ?_)
  rintro e u' w3 ⟨rfl, rfl, hxi⟩
  exact leaves_nil (ρ := _) _ rfl [PQ gp 0, NI 0] (.tuple #[PQ gp 0, NI 0]) rfl ha_.get ⟨ResF.cell1 (T2) (eb hxi hb8) pk22_ty33 rfl, ResF.cell1 (T3) (eb hxi hb20) pk22_ty25 rfl, trivial⟩ ⟨_, rfl, _, _, rfl, by rw [hP, hrd]; exact ⟨rfl, (hPk).keep hxi⟩, hE.trans hxi⟩
 have hP : openP b = .error 18 := (if_neg q1).trans ((if_neg q2).trans (if_neg q3))
 refine tN (hK1 _ _ (wpR_seq_k _ postP_bodyD fun K114 hK114 => (sk fun K115 hK115 => (wt (oM rfl (oS rfl (Yk.lenRB pk22_ty24 (RB.of (hr.keep hE) T0) (oS rfl (Yk.eqI (a := (b.length : Nat)) (b := (1048576 : Nat)) rfl rfl (k_gtr _ _ _ _) (oL_ [(0, v), (2, PQ n2 0), (3, PQ n10 0), (7, .bool (false))] ⟨T0, T2, T3, (congrArg Value.bool (decide_eq_false (q1))), trivial⟩ fun ρ116 ⟨T0, T2, T3, T7, _⟩ => (tN (hK115 _ _ (wpF_false T7 (wpF_skip (tN (hK114 _ _ (wpR_seq_k _ postP_bodyD fun K117 hK117 => (sk fun K118 hK118 => (wt (oM rfl ?_))))))))))))))))))))
 refine oS rfl (Yk.lenRB pk22_ty24 (RB.of (hr.keep hE) T0) (oS rfl (Yk.eqI (a := (b.length : Nat)) (b := (36 : Nat)) rfl rfl (k_lss _ _ _ _) (oL_ [(0, v), (2, PQ n2 0), (3, PQ n10 0), (7, .bool (false)), (10, .bool (false))] ⟨T0, T2, T3, T7, (congrArg Value.bool (decide_eq_false (q2))), trivial⟩ fun ρ119 ⟨T0, T2, T3, T7, T10, _⟩ => (tN (hK118 _ _ (wpF_false T10 (wpF_skip (tN (hK117 _ _ (wpR_seq_k _ postP_bodyD fun K120 hK120 => (wt (oM rfl (oM rfl (oS rfl (Yk.lenRB pk22_ty24 (RB.of (hr.keep hE) T0) (oS rfl (Yk.bin (xv := NI b.length) (yv := NI 32) rfl rfl rfl (i64_sub _ _ _ (by omega) (by omega)) (oS rfl (Yk.sliceHi (xs := b) (n := (b.length) - (32)) pk22_ty24 pk22_sz5 T0 (hr.keep hE) (vr (NI ((b.length) - (32))) rfl) (by omega) fun v121 hr122 ha123 => (oS rfl (Yk.rows1 pk22_rows1_75 (RB.of hr122 (vr v121 rfl)) fun v124 w125 hr126 hx127 => ?_))))))))))))))))))))))
 have hE := hE.trans hx127
 have hb8 := eb hx127 hb8
 have hA16 := hA16.trans hx127
 have hb20 := eb hx127 hb20
 have hr122 := hr122.keep hx127
 refine oS rfl (Yk.callA1 pk22_pl17 (vr v124 rfl) ((sum_one _ (hG.keep hE) v124 (b.take ((b.length) - (32))) hr126 (by simp only [List.length_take]; omega)).mono ?_))
 rintro e w129 ⟨rfl, hx128⟩
 refine ⟨_, rfl, ?_⟩
 have hE := hE.trans hx128
 have hb8 := eb hx128 hb8
 have hA16 := hA16.trans hx128
 have hb20 := eb hx128 hb20
 have hr122 := hr122.keep hx128
 have hr126 := hr126.keep hx128
 refine oS rfl (Yk.alloc (cs := (Lib.byteCells (List.replicate 32 0)).toArray) pk22_al38 fun n130 w131 hn132 hb133 hx134 hs135 => ?_)
 have hA136 := Ext.refl w129
 have hea137 := hE
 have hea138 := hA16
 have hz139 := hE.size
 have hz140 := hA16.size
 have hlt141 := lte (bl hb8) hn132
 have hlt142 := lte (bl hb20) hn132
 have hE := hE.trans hx134
 have hb8 := eb hx134 hb8
 have hA16 := hA16.trans hx134
 have hb20 := eb hx134 hb20
 have hA136 := hA136.trans hx134
 have hb143 := hb133; clear hb133
 have hl144 : n130 < w131.heap.size := by omega
 refine oS rfl (Yk.storeAll (vr (PQ n130 0) rfl) (vr (AB (Sha.sum (b.take ((b.length) - (32))))) rfl) hb143 (by exact idsize (Sha.sum_length _) List.length_replicate) (by exact sizeId_of (Sha.sum_length _)) (byteCells_one _) fun w145 hb146 hg147 hs148 => ?_)
 have hE := row_fresh hE hg147 (Nat.le_trans hz139 (by omega))
 have hb8 := kb hg147 hb8 (by omega)
 have hA16 := row_fresh hA16 hg147 (Nat.le_trans hz140 (by omega))
 have hb20 := kb hg147 hb20 (by omega)
 have hA136 := row_fresh hA136 hg147 (Nat.le_trans (Nat.le_refl _) (by omega))
 clear hb143
 have hb143 := hb146; clear hb146
 have hl149 := bl hb143
 refine oL_ [(0, v), (2, PQ n2 0), (3, PQ n10 0), (4, PQ n130 0), (7, .bool (false)), (10, .bool (false))] ⟨T0, T2, T3, rfl, T7, T10, trivial⟩ fun ρ150 ⟨T0, T2, T3, T4, T7, T10, _⟩ => (tN (hK120 _ _ (wpR_seq_k _ postP_bodyD fun K151 hK151 => (sk fun K152 hK152 => ?_))))
 refine wpF_draw [Is (.slice (some ⟨n130, 0, none⟩) 32 32), Is (St ((Sha.sum (b.take ((b.length) - (32)))))), Is (v), Is (v), Is (NI b.length), Is (NI ((b.length) - (32))), fun x w' => RB w' x (b.drop ((b.length) - (32))), Is (St (b.drop ((b.length) - (32)))), Is (.bool (true))] (by kernel_rfl) [18, 19, 20, 21, 22, 23, 24, 25, 26] (by kernel_rfl) (by kernel_rfl) (si6 ⟨(fun _ _ _ h k => RB.keep h k), (si2 trivial)⟩) ?hs2006 ?hQ2006
 case hs2006 =>
  refine ⟨?_, ?_, ?_, ?_, ?_, ?_, ?_, ?_, ?_, trivial⟩
  ·refine stepN rfl fun σ w1 hC h => ?_
   have e4 := (eqo (h 4 (by decide))).trans T4
   exact Yk.sliceArr pk22_ty38 pk22_sz5 e4 ⟨Ext.refl _, rfl⟩
  ·refine stepN rfl fun σ w1 hC h => ?_
   have e18 := eqo (h 18 (by decide))
   exact Yk.convRB pk22_ty24 pk22_ty5 pk22_ty9 (RB.of (RB.ofBlkN (eb hC hb143) (Sha.sum_length _) (by decide)) e18) ⟨Ext.refl _, rfl⟩
  ·refine stepN rfl fun σ w1 hC h => ?_
   have e0 := (eqo (h 0 (by decide))).trans T0
   exact Yk.move e0 ⟨Ext.refl _, rfl⟩
  ·refine stepN rfl fun σ w1 hC h => ?_
   have e0 := (eqo (h 0 (by decide))).trans T0
   exact Yk.move e0 ⟨Ext.refl _, rfl⟩
  ·refine stepN rfl fun σ w1 hC h => ?_
   have e21 := eqo (h 21 (by decide))
   exact Yk.lenRB pk22_ty24 (RB.of (hr.keep (hE.trans hC)) e21) ⟨Ext.refl _, rfl⟩
  ·refine stepN rfl fun σ w1 hC h => ?_
   have e22 := eqo (h 22 (by decide))
   exact Yk.bin (xv := NI b.length) (yv := NI 32) e22 rfl rfl (i64_sub _ _ _ (by omega) (by omega)) ⟨Ext.refl _, rfl⟩
  ·refine stepN rfl fun σ w1 hC h => ?_
   have e20 := eqo (h 20 (by decide))
   have e23 := eqo (h 23 (by decide))
   exact Yk.sliceLo (xs := b) (l := (b.length) - (32)) pk22_ty24 pk22_sz5 rfl (RB.of (hr.keep (hE.trans hC)) e20) e23 (by omega) fun v hr _ => ⟨Ext.refl _, hr⟩
  ·refine stepN rfl fun σ w1 hC h => ?_
   have e24 : (fun x w' => RB w' x (b.drop ((b.length) - (32)))) (σ 24) w1 := h 24 (by decide)
   exact Yk.convRB pk22_ty24 pk22_ty5 pk22_ty9 e24 ⟨Ext.refl _, rfl⟩
  ·refine stepN rfl fun σ w1 hC h => ?_
   have e19 := eqo (h 19 (by decide))
   have e25 := eqo (h 25 (by decide))
   exact Yk.eqSt (l := (Sha.sum (b.take ((b.length) - (32))))) (m := b.drop ((b.length) - (32))) (.inr rfl) e19 e25 (decide ((Sha.sum (b.take ((b.length) - (32)))) ≠ (b.drop ((b.length) - (32)) : List UInt8))) rfl ⟨Ext.refl _, (congrArg Value.bool (decide_eq_true (q3)))⟩
 intro ρ153 w154 hx155 he hf
 obtain ⟨-, -, -, -, -, -, -, -, k26, -⟩ := hf
 obtain ⟨T0, T2, T3, T4, T7, T10, -⟩ := he.hold [(0, _), (2, _), (3, _), (4, _), (7, _), (10, _)] ⟨T0, T2, T3, T4, T7, T10, trivial⟩ rfl
 clear he
 have hE := hE.trans hx155
 have hb8 := eb hx155 hb8
 have hA16 := hA16.trans hx155
 have hb20 := eb hx155 hb20
 have hA136 := hA136.trans hx155
 have hb143 := eb hx155 hb143
 have T26 : ρ153 26 = .bool (true) := k26
 clear k26
 refine tN (hK152 _ _ (wpF_true T26 (sk fun K156 hK156 => (wt (oS rfl (Yk.storeC (i := 0) (v := .pointer none) T2 (vr (.pointer none) rfl) hb8 (Nat.le_of_ble_eq_true rfl) pk22_isz33 rfl rfl fun w157 hb158 hg159 hs160 => ?_))))))
 have hE := row_fresh hE hg159 (Nat.le_trans (Nat.le_refl _) (by omega))
 clear hA16
 have hb20 := kb hg159 hb20 (by omega)
 clear hA136
 have hb143 := kb hg159 hb143 (by omega)
 clear hb8
 have hb8 := hb158; clear hb158
 have hl161 := bl hb8
 refine oS rfl (Yk.storeC (i := 0) (v := NI 18) T3 (vr (NI 18) rfl) hb20 (Nat.le_of_ble_eq_true rfl) pk22_isz25 rfl rfl fun w162 hb163 hg164 hs165 => ?_)
 have hE := row_fresh hE hg164 (Nat.le_trans hz18 (by omega))
 have hb143 := kb hg164 hb143 (by omega)
 have hb8 := kb hg164 hb8 (by omega)
 clear hb20
 have hb20 := hb163; clear hb163
 have hl166 := bl hb20
 refine oL_ [(0, v), (2, PQ n2 0), (3, PQ n10 0), (4, PQ n130 0), (7, .bool (false)), (10, .bool (false)), (26, .bool (true))] ⟨T0, T2, T3, T4, T7, T10, T26, trivial⟩ fun ρ167 ⟨T0, T2, T3, T4, T7, T10, T26, _⟩ => (tN (hK156 _ _ (wpF_ret (thenF_ret (postP_ret (fn := Tryd.f15) _ rfl [.pointer none, NI 18] (.tuple #[.pointer none, NI 18]) rfl ⟨ResF.cell1 T2 hb8 pk22_ty33 rfl, ResF.cell1 T3 hb20 pk22_ty25 rfl, trivial⟩ ?_)))))
 exact ⟨_, rfl, _, _, rfl, by rw [hP]; exact ⟨rfl, rfl⟩, hE⟩

theorem open_any (w : World) (hG : Laid w) (v : Value) (b : Bs) (hr : RB w v b) :
  Calls Tryd.prog 15 #[v] w fun e w' => ∃ x, e = .returned x ∧ ∃ p c, x = .tuple #[p, NI c] ∧ OpenRes w' p (openP b) c ∧ Ext w w' :=
 (open_new w hG v b hr).mono fun _ _ ⟨x, h1, p, c, h2, h3, h4⟩ => ⟨x, h1, p, c, h2, h3.res, h4⟩
end Go.Proofs.YtcegdjpdnlaleaaDoor
