/- Part 3 of what stands behind these statements: laws and walks of the functions that are reached. Conditions: those that each theorem names. -/
import Derived.Test.YtejpjjhkjdpeaaaP2
set_option linter.unusedVariables false
set_option linter.unusedSimpArgs false
namespace Go.Proofs.Ytejpjjhkjdpeaaa
open Go.RowKit
set_option maxRecDepth 100000
set_option linter.unusedVariables false
set_option linter.unusedSimpArgs false
theorem FAt.set {n0 : Nat} {w w' : World} {v : Value} {l : List Int} (h : FAt n0 w v l) {g : Nat} (hg : w.grownBy w' (some g)) (hn : n0 ≤ g) : FAt n0 w' v l := by
 rcases h.2 with rfl | ⟨b, hb, hl⟩
 ·exact ⟨rg_nil_any h.1, .inl rfl⟩
 ·exact ⟨h.1.kept hg (.inr (fun e => by have := Option.some.inj (hb.symm.trans e); omega)), .inr ⟨b, hb, hl⟩⟩
theorem take_any (w : World) (n0 bf : Nat) (hn : n0 ≤ bf) (vf : Value) (fs : List Int) (i : Nat) (hbf : w.heap[bf]? = some (.cells ([vf]).toArray 25 (0, 0))) (hF : FAt n0 w vf (fs.drop i)) (m : Nat) (hm : m < 4611686018427387904) :
  Calls Try.prog 27 #[NI m, PQ bf 0] w fun e w' => ∃ v', e = .returned (NI (fateD fs i (m + 1))) ∧ w'.heap[bf]? = some (.cells ([v']).toArray 25 (0, 0)) ∧ FAt n0 w' v' (fs.drop (i + 1)) ∧ w.grownBy w' (some bf) := by
 by_cases hi : i < fs.length
 ·have hl : 0 < (fs.drop i).length := by rw [List.length_drop]; omega
  rcases hF.2 with h0 | ⟨b, hb, hlt⟩
  ·rw [h0] at hl; exact absurd hl (Nat.lt_irrefl _)
  ·refine (take_y w bf vf (fs.drop i) hbf hF.1 (fun e => by have := Option.some.inj (hb.symm.trans e); omega) m hm hl).mono fun e w' q => ?_
   obtain ⟨v', h1, h2, h3, h4, h5⟩ := q
   refine ⟨v', ?_, h2, ⟨by rw [List.drop_drop] at h3; exact h3, .inr ⟨b, h4.trans hb, hlt⟩⟩, h5⟩
   rw [h1]
   unfold fateD
   rw [if_pos hi, List.getD_eq_getElem?_getD, List.getElem?_drop, Nat.add_zero, ← List.getD_eq_getElem?_getD]
 ·have h0 : fs.drop i = [] := List.drop_eq_nil_of_le (by omega)
  have h1 : fs.drop (i + 1) = [] := List.drop_eq_nil_of_le (by omega)
  rw [h0] at hF
  refine (take_n w bf vf [] hbf hF.1 m hm rfl).mono fun e w' q => ?_
  obtain ⟨he, hE⟩ := q
  exact ⟨vf, by rw [he]; unfold fateD; rw [if_neg hi], (eb hE hbf), by rw [h1]; exact hF.keep hE, grownBy_trans (World.grownBy.refl w (some bf)) hE.grown (fun _ e => by cases e)⟩
theorem dwb_ty29 : Try.prog.underlying 29 = some (.pointer 63) := by kernel_rfl
theorem dwb_fo63_2 : FieldOff Try.prog 63 2 2 := fun b o w => by simp [go_sem]
theorem dwb_ty60 : Try.prog.underlying 60 = some (.map 9 67) := by kernel_rfl
theorem dwb_pl28 : Plain Try.prog 28 := fun _ _ => by kernel_rfl
theorem dwb_fo63_3 : FieldOff Try.prog 63 3 3 := fun b o w => by simp [go_sem]
theorem dwb_ty61 : Try.prog.underlying 61 = some (.slice 68) := by kernel_rfl
theorem dwb_pl27 : Plain Try.prog 27 := fun _ _ => by kernel_rfl
theorem dwb_sz68 : ∀ w' : World, (sizeOf 68).run Try.prog w' = .ok 1 w' := fun _ => by kernel_rfl
theorem dwb_szg68 : ∀ w' : World, (sizeOf 68).run Try.prog w' = .ok 1 w' := fun _ => by kernel_rfl
theorem dwb_ty68 : Try.prog.underlying 68 = some (.func #[60] #[] false) := by kernel_rfl
theorem dwb_pl30 : Plain Try.prog 30 := fun _ _ => by kernel_rfl
theorem dwb_pl29 : Plain Try.prog 29 := fun _ _ => by kernel_rfl
theorem dwb_ty43 : Try.prog.underlying 43 = some (.slice 9) := by kernel_rfl
theorem dwb_szg9 : ∀ w' : World, (sizeOf 9).run Try.prog w' = .ok 1 w' := fun _ => by kernel_rfl
theorem dwb_ty9 : Try.prog.underlying 9 = some (.string) := by kernel_rfl
theorem dwb_fo74_1 : FieldOff Try.prog 74 1 1 := fun b o w => by simp [go_sem]
theorem dwb_ty3 : Try.prog.underlying 3 = some (.int .i64) := by kernel_rfl
theorem dwb_fo74_0 : FieldOff Try.prog 74 0 0 := fun b o w => by simp [go_sem]
theorem dwb_ty24 : Try.prog.underlying 24 = some (.slice 5) := by kernel_rfl
theorem dwb_sz5 : ∀ w' : World, (sizeOf 5).run Try.prog w' = .ok 1 w' := fun _ => by kernel_rfl
theorem dwb_pl31 : Plain Try.prog 31 := fun _ _ => by kernel_rfl
theorem dwb_bf (ao : Option Addr) (n c : Nat) (z : Int) (w : World) : (Instr.build 74 #[(0, .slice ao n c), (1, .int .i64 z)]).run Try.prog w = .ok (.agg #[.slice ao n c, .int .i64 z]) w := by kernel_rfl
theorem dwb_fo63_1 : FieldOff Try.prog 63 1 1 := fun b o w => by simp [go_sem]
theorem dwb_isz60 : (Try.prog.info? 60).map (·.size) = some 1 := by kernel_rfl
theorem dwb_isz61 : (Try.prog.info? 61).map (·.size) = some 1 := by kernel_rfl
theorem dwb_fo63_5 : FieldOff Try.prog 63 5 5 := fun b o w => by simp [go_sem]
theorem dwb_isz3 : (Try.prog.info? 3).map (·.size) = some 1 := by kernel_rfl
theorem dwb_fo63_6 : FieldOff Try.prog 63 6 6 := fun b o w => by simp [go_sem]
theorem dwb_isz4 : (Try.prog.info? 4).map (·.size) = some 1 := by kernel_rfl
set_option maxHeartbeats 1600000
theorem crash_nil (w : World) (vf : Value) (fs : List Int) (hrf : RG 1 (fun n : Int => [Value.int .i64 n]) w vf fs) :
  Calls Try.prog 11 #[.pointer none, vf] w fun e w' => e = .returned (.tuple #[]) ∧ Ext w w' := by
 refine calls_of_wpF (args := [.pointer none, vf]) Try.func11 rfl 102 rfl (Nat.le_of_ble_eq_true rfl) ?_
 intro ρ0 hb
 have T0 : ρ0 0 = (.pointer none : Value) := hb.get 0
 have T1 : ρ0 1 = (vf : Value) := hb.get 1
 clear hb
 have hE := Ext.refl w
 refine sk fun K1 hK1 => (wt (oS rfl (Yk.box1 T1 (RG.one (hrf.keep hE)).1 fun n2 w3 hn4 hb5 hx6 hs7 => ?_)))
 have hE := hE.trans hx6
 have hb8 := hb5; clear hb5
 have hl9 : n2 < w3.heap.size := by omega
 refine oZ (tN (hK1 _ _ (sk fun K10 hK10 => (sk fun K11 hK11 => (wt (oM rfl (oS rfl (Yk.eqlNil dwb_ty29 T0 (oZ (tN (hK11 _ _ (wpF_true (vr (.bool (true)) rfl) (wpF_ret (thenF_ret (postF_ret (fn := Try.f11) [] rfl [] (.tuple #[]) rfl trivial ?_)))))))))))))))
 exact ⟨rfl, hE⟩

theorem crash_at (w0 w : World) (hE0 : Ext w0 w) (H : Dk) (D : Dsk) (hS : DkS w0.heap.size w H D) (vf : Value) (fs : List Int) (hrf : RG 1 (fun n : Int => [Value.int .i64 n]) w vf fs) (hL : DLt D) :
  Calls Try.prog 11 #[PQ H.g 0, vf] w fun e w' => ∃ H', e = .returned (.tuple #[]) ∧ DkT w0.heap.size w H D w' H' (crashD D fs) := by
 have hb := hS.blk
 have hgl := (bl hb)
 have hgl0 := hS.lo.1
 have hsz0 := hE0.size
 have hS0 := hS
 have hE00 := hE0
 obtain ⟨vs, hvs⟩ := hS.acts
 have hvl := hvs.len
 have hva : RG 1 enV w H.va vs := RG.ofOwn (⟨fun _ _ => rfl, by rw [enV_flat]; exact hvs.row⟩ : OG w0.heap.size 68 1 enV w H.va vs)
 have hFA := FAt.of hrf
 have hact := hL.acts
 refine calls_of_wpF (args := [PQ H.g 0, vf]) Try.func11 rfl 102 rfl (Nat.le_of_ble_eq_true rfl) ?_
 intro ρ0 hb
 have T0 : ρ0 0 = (PQ H.g 0 : Value) := hb.get 0
 have T1 : ρ0 1 = (vf : Value) := hb.get 1
 clear hb
 have hE := Ext.refl w
 refine sk fun K1 hK1 => (wt (oS rfl (Yk.box1 T1 (RG.one (hrf.keep hE)).1 fun n2 w3 hn4 hb5 hx6 hs7 => ?_)))
 have hA8 := Ext.refl w
 have hea9 := hE
 have hea10 := hE0
 have hz11 := hE.size
 have hz12 := hE0.size
 have hE := hE.trans hx6
 have hA8 := hA8.trans hx6
 have hb13 := hb5; clear hb5
 have hl14 : n2 < w3.heap.size := by omega
 refine oZ ?_
 have hFA : FAt w.heap.size w3 vf (fs.drop 0) := (hFA.keep hA8)
 have hbfw : w.heap.size ≤ n2 := by omega
 have hbfl : n2 < w3.heap.size := (bl hb13)
 refine tN (hK1 _ _ (sk fun K15 hK15 => (sk fun K16 hK16 => (wt (oM rfl (oS rfl (Yk.eqlNil dwb_ty29 T0 (oZ (tN (hK16 _ _ (wpF_false (vr (.bool (false)) (congrArg Value.bool (rfl))) (wpF_skip (tN (hK15 _ _ (sk fun K17 hK17 => (wt (oS rfl (Yk.mkFunc (vs := #[PQ n2 0]) (by simp only [List.map_toArray, List.map_cons, List.map_nil]; exact congrArg List.toArray (list1 (vr (PQ n2 0) rfl))) (oA rfl (oZ ?_))))))))))))))))))))
 refine tN (hK17 _ _ (sk fun K18 hK18 => (wt (oM rfl (oS rfl (Yk.nilCheck T0 (oS rfl (Yk.fieldAt dwb_fo63_2 (vr (PQ H.g 0) rfl) (oS rfl (Yk.cell1 dwb_ty60 rfl (vr (PQ H.g 2) rfl) (cellAt (eb hE hb) (show _ = some (.map (some (H.ml)) : Value) from rfl)) (oS rfl (Yk.callA1 dwb_pl28 (vr (.map (some (H.ml))) rfl) ((clone_map _ (hS.keep hE).kept).mono ?_)))))))))))))
 rintro e w20 ⟨nl, rfl, hnl, hml, hx19⟩
 refine ⟨_, rfl, ?_⟩
 have hFA : FAt w.heap.size w20 vf (fs.drop 0) := (hFA.keep hx19)
 have hE := hE.trans hx19
 have hA8 := hA8.trans hx19
 have hb13 := eb hx19 hb13
 have hnlw : w.heap.size ≤ nl := by have := hE.size; omega
 have hnb : n2 ≠ nl := by omega
 have hml : MapF St (pF H.F) Nm w20 nl (lookD (leftN D 0)) := hml
 have hnll := hml.lt
 refine oA rfl (oZ (tN (hK18 _ _ (sk fun K21 hK21 => (sk fun K22 hK22 => ?_)))))
 have hx23 : Ext w20 (World.drew w20) := (Below.refl _ _).drew
 have hFA : FAt w.heap.size (World.drew w20) vf (fs.drop 0) := (hFA.keep hx23)
 have hE := hE.trans hx23
 have hA8 := hA8.trans hx23
 have hb13 := eb hx23 hb13
 have hml := hml.keep hx23
 refine wpF_floatI [(0, 21, PQ H.g 0), (1, 22, PQ H.g 0), (2, 23, PQ H.g 3), (3, 24, H.va), (4, 25, .func (.func 27) #[] #[PQ n2 0]), (5, 26, PQ H.g 0), (6, 27, PQ H.g 0), (7, 28, PQ H.g 3), (8, 29, H.va), (9, 30, NI vs.length), (13, 34, NI 0)] [10, 11, 12] (fun wz => Ext w wz ∧ MapF St (pF H.F) Nm wz nl (lookD (leftN D 0)) ∧ True) (by kernel_rfl) (by kernel_rfl) (by kernel_rfl) ⟨hE, hml, trivial⟩ ⟨fun w24 ⟨hE, hml, _⟩ => Yk.move T0 ⟨rfl, rfl⟩, fun w24 ⟨hE, hml, _⟩ => Yk.nilCheck (vr (PQ H.g 0) rfl) ⟨rfl, rfl⟩, fun w24 ⟨hE, hml, _⟩ => Yk.fieldAt dwb_fo63_3 (vr (PQ H.g 0) rfl) ⟨rfl, rfl⟩, fun w24 ⟨hE, hml, _⟩ => Yk.cell1 dwb_ty61 rfl (vr (PQ H.g 3) rfl) (cellAt (eb hE hb) (show _ = some (H.va : Value) from rfl)) ⟨rfl, rfl⟩, fun w24 ⟨hE, hml, _⟩ => Yk.move (vr (.func (.func 27) #[] #[PQ n2 0]) rfl) ⟨rfl, rfl⟩, fun w24 ⟨hE, hml, _⟩ => Yk.move T0 ⟨rfl, rfl⟩, fun w24 ⟨hE, hml, _⟩ => Yk.nilCheck (vr (PQ H.g 0) rfl) ⟨rfl, rfl⟩, fun w24 ⟨hE, hml, _⟩ => Yk.fieldAt dwb_fo63_3 (vr (PQ H.g 0) rfl) ⟨rfl, rfl⟩, fun w24 ⟨hE, hml, _⟩ => Yk.cell1 dwb_ty61 rfl (vr (PQ H.g 3) rfl) (cellAt (eb hE hb) (show _ = some (H.va : Value) from rfl)) ⟨rfl, rfl⟩, fun w24 ⟨hE, hml, _⟩ => Yk.lenRG dwb_ty61 (RG.of (hva.keep hE) (vr H.va rfl)) ⟨rfl, rfl⟩, fun w24 ⟨hE, hml, _⟩ => Yk.move (vr (NI 0) rfl) ⟨rfl, rfl⟩, trivial⟩ ?_
 have htb := tag_cells hb13
 refine chI_step rfl (Yk.clo dwb_pl27 (caps := #[PQ n2 0]) (vr (.func (.func 27) #[] #[PQ n2 0]) rfl) #[NI vs.length, PQ n2 0] (by simp only [List.map_toArray, List.map_cons, List.map_nil, List.append_toArray, List.cons_append, List.nil_append]; exact congrArg List.toArray (list2 (vr (NI vs.length) rfl) rfl)) ((take_any _ w.heap.size n2 hbfw vf fs (0) hb13 hFA (vs.length) (by omega)).mono ?_))
 rintro e w29 ⟨v28, rfl, hb25, hF26, hg27⟩
 refine ⟨_, rfl, ?_⟩
 have hE := row_fresh hE hg27 (Nat.le_trans (Nat.le_refl _) (by omega))
 have hA8 := row_fresh hA8 hg27 (Nat.le_trans (Nat.le_refl _) (by omega))
 have hml := MapF.other hml hg27 (some_ne (by omega))
 clear hFA
 clear hb13
 have hb13 := hb25; clear hb25
 have hFA := hF26; clear hF26
 have hl30 := bl hb13
 refine ⟨⟨hE, hml, trivial⟩, ?_⟩
 have hnf : fateD fs (0) (vs.length + 1) ≤ vs.length := by have := fateD_lt fs 0 (n := vs.length + 1) (Nat.succ_pos _); omega
 refine chI_step rfl (Yk.sliceHiG (n := fateD fs (0) (vs.length + 1)) dwb_ty61 dwb_sz68 (vr H.va rfl) (hva.keep hE) (vr (NI (fateD fs (0) (vs.length + 1))) rfl) hnf fun v31 hr32 hown33 => ?_)
 have hvt := hr32
 have hvb : Value.ownBlock v31 = H.va.ownBlock := hown33
 have hvnl : OB v31 nl := fun e => by have h := hvb.symm.trans e; have := (hvs.row.lt _ h).2; omega
 refine ⟨⟨hE, hml, trivial⟩, ?_⟩
 refine chI_step rfl (Yk.lenRG dwb_ty61 (RG.of hvt (vr v31 rfl)) ?_)
 refine ⟨⟨hE, hml, trivial⟩, ?_⟩
 refine chI_nil (tN (hK22 _ _ (wpF_block (wpF_loop (fun (ρ : Slots) (wz : World) => ∃ i : Nat, ρ 0 = (PQ H.g 0 : Value) ∧ ρ 1 = (vf : Value) ∧ ρ 3 = (PQ n2 0 : Value) ∧ ρ 4 = (.func (.func 27) #[] #[PQ n2 0] : Value) ∧ ρ 5 = (.map (some nl) : Value) ∧ ρ 14 = (.bool (false) : Value) ∧ ρ 32 = (v31 : Value) ∧ ρ 33 = (NI (((vs.take (fateD fs (0) (vs.length + 1)))).length) : Value) ∧ ρ 34 = (NI i : Value) ∧ Ext w wz ∧ Ext w wz ∧ wz.heap[n2]? = some (.cells ([v28]).toArray 25 (0, 0)) ∧ FAt w.heap.size wz v28 (fs.drop (1)) ∧ RG 1 (enV) wz v31 (vs.take (fateD fs (0) (vs.length + 1))) ∧ MapF St (pF H.F) Nm wz nl (lookD (leftN D i)) ∧ (i ≤ fateD fs (0) (vs.length + 1)) ∧ True) (fun ρ _ => (fateD fs (0) (vs.length + 1)) - (intOf (ρ 34)).toNat) ⟨0, T0, T1, rfl, rfl, rfl, (congrArg Value.bool (rfl)), rfl, rfl, rfl, hE, hA8, hb13, hFA, hvt, hml, Nat.zero_le _, trivial⟩ ?_))))
 clear hml
 clear hE hA8 hb13 hFA hvt
 rintro ρ34 w35 ⟨i, T0, T1, T3, T4, T5, T14, T32, T33, T34, hE, hA8, hb13, hFA, hvt, hml, hi, -⟩
 have q34 := T34
 refine sk fun K36 hK36 => (wt (oS rfl (Yk.eqI (a := (i : Nat)) (b := (((vs.take (fateD fs (0) (vs.length + 1)))).length : Nat)) T34 T33 (k_lss _ _ _ _) (oZ (tN (hK36 _ _ (sk fun K37 hK37 => ?_)))))))
 refine wpF_cond ((i) < (((vs.take (fateD fs (0) (vs.length + 1)))).length)) (vr (.bool (decide ((i) < (((vs.take (fateD fs (0) (vs.length + 1)))).length)))) rfl) (fun hc1 => ?_) (fun hc1 => ?_)
 ·have hlt : i < fateD fs (0) (vs.length + 1) := by have h := hc1; rw [List.length_take] at h; omega
  have hia : i < D.acts.length := by have := fateD_lt fs 0 (n := vs.length + 1) (Nat.succ_pos _); omega
  have hhE := hE
  have hat : ActAt w35 H.F ((vs.take (fateD fs (0) (vs.length + 1))).getD i undef) (D.acts.getD i ⟨[], [], 0⟩) := by rw [getD_take hlt]; exact (hvs.at_ i hia).chg (B := fun _ => False) (Chg.ofExt hhE) (fun _ _ q => q.elim) rfl
  have haok := hS0.ok.acts _ (getD_mem_ (d := ⟨[], [], 0⟩) hia)
  obtain ⟨f, caps, hve, hpl, hcl⟩ := act_call hat hml (leftN_ok hS0.ok i) haok
  refine wpF_skip (tN (hK37 _ _ (sk fun K38 hK38 => (wpF_block (sk fun K39 hK39 => (wt ?_))))))
  have hl42 : (enV (((vs.take (fateD fs (0) (vs.length + 1)))).getD (i) undef)).length = 1 := (RG.elem hvt undef (by omega))
  refine oS rfl (Yk.atRG dwb_ty61 dwb_szg68 (by decide) undef (RG.of hvt T32) T34 (by omega) fun v40 hp41 => (oS rfl (Yk.loadC dwb_ty68 rfl (PR.cell (PR.of hp41 (vr v40 rfl)) (show _ = some (((vs.take (fateD fs (0) (vs.length + 1)))).getD (i) undef : Value) from rfl)) (oA rfl (oZ ?_)))))
  clear hp41
  refine tN (hK39 _ _ (wt (oM rfl (oM rfl (oS rfl (Yk.cloT hpl (vr (((vs.take (fateD fs (0) (vs.length + 1)))).getD (i) undef) rfl) hve T5 hcl fun w43 hR44 => ?_))))))
  have hE := row_fresh hE hR44.2 (Nat.le_trans (Nat.le_refl _) (by omega))
  have hA8 := row_fresh hA8 hR44.2 (Nat.le_trans (Nat.le_refl _) (by omega))
  have hb13 := kb hR44.2 hb13 (by omega)
  have hFA : FAt w.heap.size w43 v28 (fs.drop (1)) := FAt.set hFA hR44.2 (by omega)
  have hvt := RG.kept hvt hR44.2 (.inr hvnl)
  clear hml
  have hml := hR44.1
  rw [← leftN_succ hia] at hml
  have hnll := hml.lt
  refine oZ (bN (tN (hK38 _ _ (wt (oS rfl (Yk.bin (xv := NI i) (yv := NI 1) T34 rfl rfl (i64_add _ _ _ (by omega)) (oM rfl (oL_ [(0, PQ H.g 0), (1, vf), (3, PQ n2 0), (4, .func (.func 27) #[] #[PQ n2 0]), (5, .map (some nl)), (7, ((vs.take (fateD fs (0) (vs.length + 1)))).getD (i) undef), (14, .bool (false)), (32, v31), (33, NI (((vs.take (fateD fs (0) (vs.length + 1)))).length)), (34, NI ((i) + (1)))] ⟨T0, T1, T3, T4, T5, rfl, T14, T32, T33, rfl, trivial⟩ fun ρ45 ⟨T0, T1, T3, T4, T5, T7, T14, T32, T33, T34, _⟩ => (tN (And.intro ⟨i + 1, T0, T1, T3, T4, T5, T14, T32, T33, T34, hE, hA8, hb13, hFA, hvt, hml, by omega, trivial⟩ ?_))))))))))
  show (fateD fs (0) (vs.length + 1)) - (intOf (ρ45 34)).toNat < (fateD fs (0) (vs.length + 1)) - (intOf (ρ34 34)).toNat
  rw [T34, q34]
  simp only [intOf, Int.toNat_natCast]; omega
 have hie : i = fateD fs (0) (vs.length + 1) := by have h := hc1; rw [List.length_take] at h; omega
 rw [hie, hvl, leftN_left] at hml
 have hLok := hS0.ok.left fs
 have hLs := hLok.sort
 have hLl : (leftD D fs).length < 1099511627776 := Nat.lt_of_le_of_lt (left_len D fs) hL.kept
 refine wpF_exit (thenF_exit (thenF_exit (inBlockF_hit (tN (hK21 _ _ (sk fun K46 hK46 => (wt ?_)))))))
 have hzc := hE.size
 have hnlc := MapF.lt hml
 have hbfc := (bl hb13)
 refine oS rfl (Yk.mkMap St (pF (fun _ => 0)) Nm fun na w47 hn48 hm49 hx50 hs51 => ?_)
 have hE := hE.trans hx50
 have hA8 := hA8.trans hx50
 have hb13 := eb hx50 hb13
 have hFA : FAt w.heap.size w47 v28 (fs.drop (1)) := (hFA.keep hx50)
 have hvt := hvt.keep hx50
 have hml := hml.keep hx50
 have hnaw : w.heap.size ≤ na := by omega
 have hnan : na ≠ nl := by omega
 have hnab : na ≠ n2 := by omega
 have hnag : na ≠ H.g := by omega
 have hma : MapF St (pF (fun _ => 0)) Nm w47 na (lookD (numN (leftD D fs) 0)) := hm49
 have hnal := hma.lt
 refine oA rfl (oZ (tN (hK46 _ _ (sk fun K52 hK52 => (sk fun K53 hK53 => (wt (oM rfl ?_)))))))
 have hm1 := hml
 refine oS rfl (Yk.callA1 dwb_pl30 T5 ((keys_map _ _).mono ?_))
 rintro e w54 ⟨rfl, hwk⟩
 refine ⟨_, rfl, ?_⟩
 have hxk : Ext w47 w54 := by rw [hwk]; exact (Below.refl _ _).alloc (Nat.le_refl _) _
 have hE := hE.trans hxk
 have hA8 := hA8.trans hxk
 have hb13 := eb hxk hb13
 have hFA : FAt w.heap.size w54 v28 (fs.drop (1)) := (hFA.keep hxk)
 have hvt := hvt.keep hxk
 have hml := hml.keep hxk
 have hma := hma.keep hxk
 have hzk := hE.size
 refine oS rfl (Yk.callA1 dwb_pl29 (vr (.func (.func 52) #[] #[PQ w47.heap.size 0]) rfl) ((sorted_map w47 w54 hwk hm1 hLok hLl).mono ?_))
 rintro e w56 ⟨vn, rfl, hnr0, hx55⟩
 refine ⟨_, rfl, ?_⟩
 have hE := hE.trans hx55
 have hA8 := hA8.trans hx55
 have hb13 := eb hx55 hb13
 have hFA : FAt w.heap.size w56 v28 (fs.drop (1)) := (hFA.keep hx55)
 have hvt := hvt.keep hx55
 have hml := hml.keep hx55
 have hma := hma.keep hx55
 have hnr : OG w.heap.size 9 1 enS w56 vn ((leftD D fs).map Prod.fst) := OG.low hnr0 (by have := hE.size; omega)
 have hnrb : OB vn n2 := fun e => tag_ne (tag_own hnr.2 e) (tag_cells hb13) (by decide) rfl
 have hnra : OB vn na := fun e => tag_ne (tag_own hnr.2 e) (MapF.tag hma) (by decide) rfl
 refine oS rfl (Yk.lenRG dwb_ty43 (RG.of (RG.ofOwn hnr) (vr vn rfl)) (oM rfl (oL_ [(0, PQ H.g 0), (1, vf), (3, PQ n2 0), (4, .func (.func 27) #[] #[PQ n2 0]), (5, .map (some nl)), (8, .map (some na)), (14, .bool (false)), (32, v31), (33, NI (((vs.take (fateD fs (0) (vs.length + 1)))).length)), (34, NI i), (45, vn), (46, NI ((((leftD D fs).map Prod.fst)).length)), (47, NI 0)] ⟨T0, T1, T3, T4, T5, rfl, T14, T32, T33, T34, rfl, rfl, rfl, trivial⟩ fun ρ57 ⟨T0, T1, T3, T4, T5, T8, T14, T32, T33, T34, T45, T46, T47, _⟩ => (tN (hK53 _ _ (wpF_block (wpF_loop (fun (ρ : Slots) (wz : World) => ∃ j : Nat, ∃ vb : Value, ∃ F1 : Nat → Nat, ∃ V1 : Nat → Value, ρ 0 = (PQ H.g 0 : Value) ∧ ρ 1 = (vf : Value) ∧ ρ 3 = (PQ n2 0 : Value) ∧ ρ 4 = (.func (.func 27) #[] #[PQ n2 0] : Value) ∧ ρ 5 = (.map (some nl) : Value) ∧ ρ 8 = (.map (some na) : Value) ∧ ρ 14 = (.bool (false) : Value) ∧ ρ 32 = (v31 : Value) ∧ ρ 33 = (NI (((vs.take (fateD fs (0) (vs.length + 1)))).length) : Value) ∧ ρ 34 = (NI i : Value) ∧ ρ 45 = (vn : Value) ∧ ρ 46 = (NI ((((leftD D fs).map Prod.fst)).length) : Value) ∧ ρ 47 = (NI j : Value) ∧ Ext w wz ∧ Ext w wz ∧ MapF St (pF H.F) Nm wz nl (lookD (leftD D fs)) ∧ OG w.heap.size 9 1 (enS) wz vn ((leftD D fs).map Prod.fst) ∧ wz.heap[n2]? = some (.cells ([vb]).toArray 25 (0, 0)) ∧ FAt w.heap.size wz vb (fs.drop (j + 1)) ∧ MapF St (pF F1) Nm wz na (lookD (numN (leftD D fs) j)) ∧ FilesAt w.heap.size wz F1 V1 (cutN D fs (leftD D fs) j) ∧ (j ≤ (leftD D fs).length) ∧ True) (fun ρ _ => (leftD D fs).length - (intOf (ρ 47)).toNat) ⟨0, v28, (fun _ => 0), (fun _ => .slice none 0 0), T0, T1, T3, T4, T5, T8, T14, T32, T33, T34, T45, T46, T47, hE, hA8, hml, hnr, hb13, hFA, hma, FilesAt.nil _ _, Nat.zero_le _, trivial⟩ ?_)))))))
 clear hb13
 clear hFA
 clear hvt
 clear hma
 clear hE hA8 hml hnr
 rintro ρ58 w59 ⟨j, vb, F1, V1, T0, T1, T3, T4, T5, T8, T14, T32, T33, T34, T45, T46, T47, hE, hA8, hml, hnr, hbv, hFA, hma, hfi, hj, -⟩
 have q47 := T47
 have hbfl2 := (bl hbv)
 have hnal2 := hma.lt
 refine sk fun K60 hK60 => (wt (oS rfl (Yk.eqI (a := (j : Nat)) (b := ((((leftD D fs).map Prod.fst)).length : Nat)) T47 T46 (k_lss _ _ _ _) (oZ (tN (hK60 _ _ (sk fun K61 hK61 => ?_)))))))
 refine wpF_cond ((j) < ((((leftD D fs).map Prod.fst)).length)) (vr (.bool (decide ((j) < ((((leftD D fs).map Prod.fst)).length)))) rfl) (fun hc2 => ?_) (fun hc2 => ?_)
 ·have hlt : j < (leftD D fs).length := by have h := hc2; rw [List.length_map] at h; exact h
  have hhE := hE
  have hnm : ((leftD D fs).map Prod.fst).getD j [] = ((leftD D fs).getD j ([], 0)).1 := getD_map hlt
  obtain ⟨k, hk⟩ : ∃ k, k = ((leftD D fs).getD j ([], 0)).2 := ⟨_, rfl⟩
  have hmemj := getD_mem_ (d := ([], 0)) hlt
  have hlk : lookD (leftD D fs) (((leftD D fs).map Prod.fst).getD j []) = some k := by rw [hnm, hk]; exact look_of hLs hmemj
  have hkl : k < D.files.length := hk ▸ hLok.num _ hmemj
  have hmj : mayD (((leftD D fs).map Prod.fst).getD j []) = true := by rw [hnm]; exact hLok.may _ hmemj
  have hfa := hS0.files.at_ k hkl
  have hfb := hfa.blk
  have hfr : RB w (H.V k) (D.files.getD k ([], 0)).1 := RB.ofOwn hfa.row
  have hfl := hL.files _ (getD_mem_ (d := ([], 0)) hkl)
  have hsy := hS0.ok.syn _ (getD_mem_ (d := ([], 0)) hkl)
  refine wpF_skip (tN (hK61 _ _ (sk fun K62 hK62 => (wpF_block (sk fun K63 hK63 => (wt ?_))))))
  have hl66 : (enS ((((leftD D fs).map Prod.fst)).getD (j) ([] : List UInt8))).length = 1 := (RG.elem (RG.ofOwn hnr) ([] : List UInt8) (by omega))
  refine oS rfl (Yk.atRG dwb_ty43 dwb_szg9 (by decide) ([] : List UInt8) (RG.of (RG.ofOwn hnr) T45) T47 (by omega) fun v64 hp65 => (oS rfl (Yk.loadC dwb_ty9 rfl (PR.cell (PR.of hp65 (vr v64 rfl)) (show _ = some (St ((((leftD D fs).map Prod.fst)).getD (j) ([] : List UInt8)) : Value) from rfl)) (oA rfl (oZ ?_)))))
  clear hp65
  refine tN (hK63 _ _ (sk fun K67 hK67 => (wt (oM rfl (oM rfl (oS rfl (Yk.lookMS kStr isStr (fun _ _ => st_inj) dwb_ty60 zFile T5 (vr (St ((((leftD D fs).map Prod.fst)).getD (j) ([] : List UInt8))) rfl) hml (mayD_pos hmj).2 hlk (oA rfl (oZ ?_)))))))))
  have hfi_j0 := hfi
  refine tN (hK67 _ _ (sk fun K68 hK68 => ?_))
  have hx69 : Ext w59 (World.drew w59) := (Below.refl _ _).drew
  have hE := hE.trans hx69
  have hA8 := hA8.trans hx69
  have hml := hml.keep hx69
  have hnr := hnr.keep hx69
  have hbv := eb hx69 hbv
  have hFA : FAt w.heap.size (World.drew w59) vb (fs.drop (j + 1)) := (hFA.keep hx69)
  have hma := hma.keep hx69
  have hfi : FilesAt w.heap.size (World.drew w59) F1 V1 (cutN D fs (leftD D fs) j) := (hfi.keep hx69)
  refine wpF_float [(0, 54, .pointer (some ⟨(H.F k), 0, none⟩)), (1, 55, .pointer (some ⟨(H.F k), 0, none⟩)), (2, 56, .pointer (some ⟨(H.F k), 1, none⟩)), (3, 57, NI ((D.files.getD k ([], 0)).2)), (4, 58, .func (.func 27) #[] #[PQ n2 0]), (5, 59, .pointer (some ⟨(H.F k), 0, none⟩)), (6, 60, .pointer (some ⟨(H.F k), 0, none⟩)), (7, 61, .pointer (some ⟨(H.F k), 0, none⟩)), (8, 62, (H.V k)), (9, 63, NI (((D.files.getD k ([], 0)).1 : List UInt8).length)), (10, 64, .pointer (some ⟨(H.F k), 0, none⟩)), (11, 65, .pointer (some ⟨(H.F k), 0, none⟩)), (12, 66, .pointer (some ⟨(H.F k), 1, none⟩)), (13, 67, NI ((D.files.getD k ([], 0)).2)), (14, 68, NI ((((D.files.getD k ([], 0)).1 : List UInt8).length) - ((D.files.getD k ([], 0)).2)))] [15, 16, 17] (fun wz => Ext w wz ∧ True) (by kernel_rfl) (by kernel_rfl) (by kernel_rfl) ⟨hE, trivial⟩ ⟨fun w70 ⟨hE, _⟩ => Yk.move (vr (.pointer (some ⟨(H.F k), 0, none⟩)) rfl) ⟨rfl, rfl⟩, fun w70 ⟨hE, _⟩ => Yk.nilCheck (vr (.pointer (some ⟨(H.F k), 0, none⟩)) rfl) ⟨rfl, rfl⟩, fun w70 ⟨hE, _⟩ => Yk.fieldAt dwb_fo74_1 (vr (.pointer (some ⟨(H.F k), 0, none⟩)) rfl) ⟨rfl, rfl⟩, fun w70 ⟨hE, _⟩ => Yk.cell1 dwb_ty3 rfl (vr (.pointer (some ⟨(H.F k), 1, none⟩)) rfl) (cellAt (eb hE hfb) (show _ = some (NI ((D.files.getD k ([], 0)).2) : Value) from rfl)) ⟨rfl, rfl⟩, fun w70 ⟨hE, _⟩ => Yk.move T4 ⟨rfl, rfl⟩, fun w70 ⟨hE, _⟩ => Yk.move (vr (.pointer (some ⟨(H.F k), 0, none⟩)) rfl) ⟨rfl, rfl⟩, fun w70 ⟨hE, _⟩ => Yk.nilCheck (vr (.pointer (some ⟨(H.F k), 0, none⟩)) rfl) ⟨rfl, rfl⟩, fun w70 ⟨hE, _⟩ => Yk.fieldAt dwb_fo74_0 (vr (.pointer (some ⟨(H.F k), 0, none⟩)) rfl) ⟨rfl, rfl⟩, fun w70 ⟨hE, _⟩ => Yk.cell1 dwb_ty24 rfl (vr (.pointer (some ⟨(H.F k), 0, none⟩)) rfl) (cellAt (eb hE hfb) (show _ = some ((H.V k) : Value) from rfl)) ⟨rfl, rfl⟩, fun w70 ⟨hE, _⟩ => Yk.lenRB dwb_ty24 (RB.of (hfr.keep hE) (vr (H.V k) rfl)) ⟨rfl, rfl⟩, fun w70 ⟨hE, _⟩ => Yk.move (vr (.pointer (some ⟨(H.F k), 0, none⟩)) rfl) ⟨rfl, rfl⟩, fun w70 ⟨hE, _⟩ => Yk.nilCheck (vr (.pointer (some ⟨(H.F k), 0, none⟩)) rfl) ⟨rfl, rfl⟩, fun w70 ⟨hE, _⟩ => Yk.fieldAt dwb_fo74_1 (vr (.pointer (some ⟨(H.F k), 0, none⟩)) rfl) ⟨rfl, rfl⟩, fun w70 ⟨hE, _⟩ => Yk.cell1 dwb_ty3 rfl (vr (.pointer (some ⟨(H.F k), 1, none⟩)) rfl) (cellAt (eb hE hfb) (show _ = some (NI ((D.files.getD k ([], 0)).2) : Value) from rfl)) ⟨rfl, rfl⟩, fun w70 ⟨hE, _⟩ => Yk.bin (xv := NI (((D.files.getD k ([], 0)).1 : List UInt8).length)) (yv := NI ((D.files.getD k ([], 0)).2)) rfl rfl rfl (i64_sub _ _ _ (by omega) (by omega)) ⟨rfl, rfl⟩, trivial⟩ ?_
  have htb := tag_cells hbv
  refine chF_step rfl (Yk.clo dwb_pl27 (caps := #[PQ n2 0]) (vr (.func (.func 27) #[] #[PQ n2 0]) rfl) #[NI ((((D.files.getD k ([], 0)).1 : List UInt8).length) - ((D.files.getD k ([], 0)).2)), PQ n2 0] (by simp only [List.map_toArray, List.map_cons, List.map_nil, List.append_toArray, List.cons_append, List.nil_append]; exact congrArg List.toArray (list2 (vr (NI ((((D.files.getD k ([], 0)).1 : List UInt8).length) - ((D.files.getD k ([], 0)).2))) rfl) rfl)) ((take_any _ w.heap.size n2 hbfw vb fs (j + 1) hbv hFA ((((D.files.getD k ([], 0)).1 : List UInt8).length) - ((D.files.getD k ([], 0)).2)) (by omega)).mono ?_))
  rintro e w75 ⟨v74, rfl, hb71, hF72, hg73⟩
  refine ⟨_, rfl, ?_⟩
  have hE := row_fresh hE hg73 (Nat.le_trans (Nat.le_refl _) (by omega))
  have hA8 := row_fresh hA8 hg73 (Nat.le_trans (Nat.le_refl _) (by omega))
  have hml := MapF.other hml hg73 (some_ne (by omega))
  have hnr := OG.kept hnr hg73 hnrb
  have hma := MapF.other hma hg73 (some_ne (by omega))
  have hfi : FilesAt w.heap.size w75 F1 V1 (cutN D fs (leftD D fs) j) := FilesAt.setT hfi hg73 htb (by decide) (by decide)
  clear hbv
  clear hFA
  have hbv := hb71; clear hb71
  have hFA := hF72; clear hF72
  have hl76 := bl hbv
  refine ⟨.inr ⟨hE, trivial⟩, ?_⟩
  refine chF_step rfl (Yk.bin (xv := NI ((D.files.getD k ([], 0)).2)) (yv := NI (fateD fs (j + 1) ((((D.files.getD k ([], 0)).1 : List UInt8).length) - ((D.files.getD k ([], 0)).2) + 1))) rfl rfl rfl (i64_add _ _ _ (by have h := (cutD_len hS0.ok fs j k).2; change (cutD D fs j k).2 ≤ (D.files.getD k ([], 0)).1.length at h; show (cutD D fs j k).2 < _; omega)) ?_)
  refine ⟨.inr ⟨hE, trivial⟩, ?_⟩
  refine chF_step rfl (Yk.assign (vr (NI (((D.files.getD k ([], 0)).2) + ((fateD fs (j + 1) ((((D.files.getD k ([], 0)).1 : List UInt8).length) - ((D.files.getD k ([], 0)).2) + 1))))) rfl) ?_)
  refine ⟨.inl rfl, ?_⟩
  refine chF_nil ?_
  have hcut := cutD_len hS0.ok fs j k
  refine tN (hK68 _ _ (wt (oM rfl (oM rfl (oM rfl (oS rfl (Yk.nilCheck (vr (.pointer (some ⟨(H.F k), 0, none⟩)) rfl) (oS rfl (Yk.fieldAt dwb_fo74_0 (vr (.pointer (some ⟨(H.F k), 0, none⟩)) rfl) (oS rfl (Yk.cell1 dwb_ty24 rfl (vr (.pointer (some ⟨(H.F k), 0, none⟩)) rfl) (cellAt (eb hE hfb) (show _ = some ((H.V k) : Value) from rfl)) (oM rfl (oS rfl (Yk.sliceHi (xs := (D.files.getD k ([], 0)).1) (n := ((D.files.getD k ([], 0)).2) + ((fateD fs (j + 1) ((((D.files.getD k ([], 0)).1 : List UInt8).length) - ((D.files.getD k ([], 0)).2) + 1)))) dwb_ty24 dwb_sz5 (vr (H.V k) rfl) (hfr.keep hE) (vr (NI (((D.files.getD k ([], 0)).2) + ((fateD fs (j + 1) ((((D.files.getD k ([], 0)).1 : List UInt8).length) - ((D.files.getD k ([], 0)).2) + 1))))) rfl) (by exact (cutD_len hS0.ok fs j k).2) fun v77 hr78 ha79 => ?_))))))))))))))
  have hfi_c := hfi
  refine oS rfl (Yk.callA1 dwb_pl31 (vr v77 rfl) ((clone_any _ v77 (((D.files.getD k ([], 0)).1 : List UInt8).take (((D.files.getD k ([], 0)).2) + ((fateD fs (j + 1) ((((D.files.getD k ([], 0)).1 : List UInt8).length) - ((D.files.getD k ([], 0)).2) + 1))))) hr78 (by simp only [List.length_take]; omega)).mono ?_))
  rintro e w82 ⟨v80, rfl, hN81⟩
  refine ⟨_, rfl, ?_⟩
  have hA83 := Ext.refl w75
  have hea84 := hE
  have hea85 := hA8
  have hz86 := hE.size
  have hz87 := hA8.size
  have hap88 : OB v80 nl := own_older hN81.own hml.lt
  have hap89 : OB v80 na := own_older hN81.own hma.lt
  have hap90 : OB v80 n2 := own_older hN81.own (bl hbv)
  have hap91 : ApartV vn v80 := apartv_new hnr.2 hN81.own
  have hap92 : ApartV v80 vn := apartv_new' hnr.2 hN81.own
  have hE := hE.trans hN81.ext
  have hA8 := hA8.trans hN81.ext
  have hml := hml.keep hN81.ext
  have hnr := hnr.keep hN81.ext
  have hma := hma.keep hN81.ext
  have hbv := eb hN81.ext hbv
  have hA83 := hA83.trans hN81.ext
  have ho93 := hN81.own; clear hN81
  refine oM rfl ?_
  obtain ⟨ao_, n_, c_, hsl_⟩ : ∃ ao n c, v80 = .slice ao n c := RB.slice (RB.ofOwn ho93)
  refine oS rfl (Yk.build2 (v := .agg ([v80, NI (((D.files.getD k ([], 0)).2) + ((fateD fs (j + 1) ((((D.files.getD k ([], 0)).1 : List UInt8).length) - ((D.files.getD k ([], 0)).2) + 1))))] : List Value).toArray) (vr v80 rfl) (vr (NI (((D.files.getD k ([], 0)).2) + ((fateD fs (j + 1) ((((D.files.getD k ([], 0)).1 : List UInt8).length) - ((D.files.getD k ([], 0)).2) + 1))))) rfl) (fun w => by rw [hsl_]; exact dwb_bf _ _ _ _ w) ?_)
  have hzb := hE.size
  have hfi_j := (hfi.keep hA83)
  refine oS rfl (Yk.box (cs := ([v80, NI ((D.files.getD k ([], 0)).2 + (fateD fs (j + 1) ((D.files.getD k ([], 0)).1.length - (D.files.getD k ([], 0)).2 + 1)))] : List Value).toArray) (vr (.agg ([v80, NI (((D.files.getD k ([], 0)).2) + ((fateD fs (j + 1) ((((D.files.getD k ([], 0)).1 : List UInt8).length) - ((D.files.getD k ([], 0)).2) + 1))))] : List Value).toArray) rfl) fun n94 w95 hn96 hb97 hx98 hs99 => ?_)
  have hA100 := Ext.refl w82
  have hea101 := hE
  have hea102 := hA8
  have hea103 := hA83
  have hz104 := hE.size
  have hz105 := hA8.size
  have hz106 := hA83.size
  have hlt107 := lte hml.lt hn96
  have hlt108 := lte hma.lt hn96
  have hlt109 := lte (bl hbv) hn96
  have hap110 : OB vn n94 := own_newer hnr.2 (by omega)
  have hap111 : OB v80 n94 := own_newer ho93 (by omega)
  have hE := hE.trans hx98
  have hA8 := hA8.trans hx98
  have hml := hml.keep hx98
  have hnr := hnr.keep hx98
  have hma := hma.keep hx98
  have hbv := eb hx98 hbv
  have hA83 := hA83.trans hx98
  have ho93 := Stab.own _ _ _ _ _ _ _ _ ho93 hx98
  have hA100 := hA100.trans hx98
  have hb112 := hb97; clear hb97
  have hl113 : n94 < w95.heap.size := by omega
  have hgfw : w.heap.size ≤ n94 := by omega
  have hmc := MapF.congr (ev' := pF (updF F1 j n94)) hma (fun a y hy => by show PQ (updF _ _ _ _) 0 = _; rw [updF_lt _ _ (numN_lt hy)])
  have htm := MapF.tag hmc
  have hfi2 : FilesAt w.heap.size w95 (updF F1 j n94) (updF V1 j v80) (cutN D fs (leftD D fs) (j + 1)) := by
    have hl := cutN_len D fs (leftD D fs) hj
    have h := FilesAt.snoc (hfi.keep hA83) (f := n94) (v := v80) (x := cutD D fs j ((leftD D fs).getD j ([], 0)).2) ⟨by rw [← hk]; exact hb112, by rw [← hk]; exact ownsRow_base ho93 (by omega), hgfw⟩ (fun q hq e => by have := (bl (hfi_j.at_ q hq).blk); rw [e] at this; exact absurd this (by omega)) (fun q hq i hi e => by have h1 := ((hfi_c.at_ q hq).row.lt i hi).2; have h2 := (World.ownsRow.lt ho93 i e).1; omega)
    rw [hl] at h
    rw [cutN_succ hlt]
    exact h
  refine oS rfl (Yk.putM (ev := pF (updF F1 j n94)) (c := j) kStr isStr dwb_ty60 T8 (vr (St ((((leftD D fs).map Prod.fst)).getD (j) ([] : List UInt8))) rfl) (Eq.trans ((vr (PQ n94 0) rfl)) (by show _ = PQ (updF F1 j n94 j) 0; rw [updF_eq])) hmc (mayD_pos hmj).2 fun w114 hM115 hg116 hs117 => ?_)
  have hFA := (hFA.keep hA83)
  have hfi := hfi2
  have hE := row_fresh hE hg116 (Nat.le_trans (Nat.le_refl _) (by omega))
  have hA8 := row_fresh hA8 hg116 (Nat.le_trans (Nat.le_refl _) (by omega))
  have hml := MapF.other hml hg116 (some_ne (by omega))
  have hnr := OG.kept hnr hg116 hnra
  have hfi : FilesAt w.heap.size w114 (updF F1 j n94) (updF V1 j v80) (cutN D fs (leftD D fs) (j + 1)) := FilesAt.setT hfi hg116 htm (by decide) (by decide)
  have hbv := kb hg116 hbv (by omega)
  have hFA : FAt w.heap.size w114 v74 (fs.drop (j + 1 + 1)) := FAt.set hFA hg116 (by omega)
  clear hA83
  have ho93 := own_kept ho93 hg116 hap89
  clear hA100
  have hb112 := kb hg116 hb112 (by omega)
  clear hma
  have hma := hM115
  rw [hnm, numN_fun hLs hlt] at hma
  refine oZ (bN (tN (hK62 _ _ (wt (oS rfl (Yk.bin (xv := NI j) (yv := NI 1) T47 rfl rfl (i64_add _ _ _ (by omega)) (oM rfl (oL_ [(0, PQ H.g 0), (1, vf), (3, PQ n2 0), (4, .func (.func 27) #[] #[PQ n2 0]), (5, .map (some nl)), (8, .map (some na)), (10, St ((((leftD D fs).map Prod.fst)).getD (j) ([] : List UInt8))), (11, .pointer (some ⟨(H.F k), 0, none⟩)), (12, NI (((D.files.getD k ([], 0)).2) + ((fateD fs (j + 1) ((((D.files.getD k ([], 0)).1 : List UInt8).length) - ((D.files.getD k ([], 0)).2) + 1))))), (14, .bool (false)), (32, v31), (33, NI (((vs.take (fateD fs (0) (vs.length + 1)))).length)), (34, NI i), (45, vn), (46, NI ((((leftD D fs).map Prod.fst)).length)), (47, NI ((j) + (1)))] ⟨T0, T1, T3, T4, T5, T8, rfl, rfl, rfl, T14, T32, T33, T34, T45, T46, rfl, trivial⟩ fun ρ118 ⟨T0, T1, T3, T4, T5, T8, T10, T11, T12, T14, T32, T33, T34, T45, T46, T47, _⟩ => (tN (And.intro ⟨j + 1, v74, (updF F1 j n94), (updF V1 j v80), T0, T1, T3, T4, T5, T8, T14, T32, T33, T34, T45, T46, T47, hE, hA8, hml, hnr, hbv, hFA, hma, hfi, by omega, trivial⟩ ?_))))))))))
  show (leftD D fs).length - (intOf (ρ118 47)).toNat < (leftD D fs).length - (intOf (ρ58 47)).toNat
  rw [T47, q47]
  simp only [intOf, Int.toNat_natCast]; omega
 have hje : j = (leftD D fs).length := by have h := hc2; rw [List.length_map] at h; omega
 rw [hje] at hma hfi
 have hb17 := (eb hE hb)
 have hgl17 := (bl hb17)
 refine wpF_exit (thenF_exit (thenF_exit (inBlockF_hit (tN (hK52 _ _ (sk fun K119 hK119 => (wt (oM rfl (oM rfl (oM rfl (oM rfl (oM rfl ?_))))))))))))
 have hz17 := hE.size
 have hnal17 := MapF.lt hma
 refine oS rfl (Yk.callA1 dwb_pl28 T8 ((clone_map _ hma).mono ?_))
 rintro e w121 ⟨nb, rfl, hnbl, hmb17, hx120⟩
 refine ⟨_, rfl, ?_⟩
 have hE := hE.trans hx120
 have hA8 := hA8.trans hx120
 have hml := hml.keep hx120
 have hnr := hnr.keep hx120
 have hbv := eb hx120 hbv
 have hFA : FAt w.heap.size w121 vb (fs.drop (j + 1)) := (hFA.keep hx120)
 have hma := hma.keep hx120
 have hfi : FilesAt w.heap.size w121 F1 V1 (cutN D fs (leftD D fs) (leftD D fs).length) := (hfi.keep hx120)
 have hb17 := eb hx120 hb17
 have hfi17 := hfi
 have hma17 := hma
 have hhE17 := hE
 have htd17 := tag_cells hb17
 have hnbw : w.heap.size ≤ nb := by omega
 have hnabn : na ≠ nb := by omega
 have hgnb : H.g ≠ nb := by omega
 have hC2 : Chg (fun i => i = H.g) w121 w121 := Chg.refl _ _
 refine oS rfl (Yk.nilCheck T0 (oS rfl (Yk.fieldAt dwb_fo63_1 (vr (PQ H.g 0) rfl) (oS rfl (Yk.storeC (i := 1) (v := .map (some na)) (vr (PQ H.g 1) rfl) T8 hb17 (Nat.le_of_ble_eq_true rfl) dwb_isz60 rfl rfl fun w122 hb123 hg124 hs125 => ?_)))))
 clear hA8
 clear hnr
 have hbv := kb hg124 hbv (by omega)
 have hC2 : Chg (fun i => i = H.g) w121 w122 := Chg.set hC2 hg124 (.inl rfl)
 clear hb17
 have hb17 := hb123; clear hb123
 have hl126 := bl hb17
 refine oS rfl (Yk.nilCheck T0 (oS rfl (Yk.fieldAt dwb_fo63_2 (vr (PQ H.g 0) rfl) (oS rfl (Yk.storeC (i := 2) (v := .map (some nb)) (vr (PQ H.g 2) rfl) (vr (.map (some nb)) rfl) hb17 (Nat.le_of_ble_eq_true rfl) dwb_isz60 rfl rfl fun w127 hb128 hg129 hs130 => ?_)))))
 have hbv := kb hg129 hbv (by omega)
 have hC2 : Chg (fun i => i = H.g) w121 w127 := Chg.set hC2 hg129 (.inl rfl)
 clear hb17
 have hb17 := hb128; clear hb128
 have hl131 := bl hb17
 refine oS rfl (Yk.nilCheck T0 (oS rfl (Yk.fieldAt dwb_fo63_3 (vr (PQ H.g 0) rfl) (oS rfl (Yk.storeC (i := 3) (v := (Value.slice none 0 0)) (vr (PQ H.g 3) rfl) (vr (Value.slice none 0 0) rfl) hb17 (Nat.le_of_ble_eq_true rfl) dwb_isz61 rfl rfl fun w132 hb133 hg134 hs135 => ?_)))))
 have hbv := kb hg134 hbv (by omega)
 have hC2 : Chg (fun i => i = H.g) w121 w132 := Chg.set hC2 hg134 (.inl rfl)
 clear hb17
 have hb17 := hb133; clear hb133
 have hl136 := bl hb17
 refine oZ (tN (hK119 _ _ (wt (oM rfl (oM rfl (oS rfl (Yk.nilCheck T0 (oS rfl (Yk.fieldAt dwb_fo63_5 (vr (PQ H.g 0) rfl) (oS rfl (Yk.storeC (i := 5) (v := NI 0) (vr (PQ H.g 5) rfl) (vr (NI 0) rfl) hb17 (Nat.le_of_ble_eq_true rfl) dwb_isz3 rfl rfl fun w137 hb138 hg139 hs140 => ?_)))))))))))
 have hbv := kb hg139 hbv (by omega)
 have hC2 : Chg (fun i => i = H.g) w121 w137 := Chg.set hC2 hg139 (.inl rfl)
 clear hb17
 have hb17 := hb138; clear hb138
 have hl141 := bl hb17
 refine oS rfl (Yk.nilCheck T0 (oS rfl (Yk.fieldAt dwb_fo63_6 (vr (PQ H.g 0) rfl) (oS rfl (Yk.storeC (i := 6) (v := .bool (false)) (vr (PQ H.g 6) rfl) (vr (.bool (false)) rfl) hb17 (Nat.le_of_ble_eq_true rfl) dwb_isz4 rfl rfl fun w142 hb143 hg144 hs145 => ?_)))))
 have hbv := kb hg144 hbv (by omega)
 have hC2 : Chg (fun i => i = H.g) w121 w142 := Chg.set hC2 hg144 (.inl rfl)
 clear hb17
 have hb17 := hb143; clear hb143
 have hl146 := bl hb17
 refine oZ (postF_end (fn := Try.f11) [] rfl [] (.tuple #[]) rfl trivial ?_)
 have hCt := (Chg.ofExt hhE17 : Chg (fun i => i = H.g) w _).trans hC2 (fun i e => .inl e)
 have hTf := hS0.crashed (l := fs) hE00.size hCt hb17 (hma17.chg hC2 (fun e => hnag e)) (hmb17.chg hC2 (fun e => hgnb e.symm)) hnabn hnaw hnbw (hfi17.chg hC2 (fun k hk => ⟨fun e => tag_ne (tag_cells (hfi17.at_ k hk).blk) htd17 (by decide) e, fun i hi e => tag_ne (tag_own (hfi17.at_ k hk).row hi) htd17 (by decide) e⟩))
 exact ⟨_, rfl, hTf⟩
open Go.RowKit
set_option linter.unusedVariables false
def kindA (k : Int) : Nat := (Int.emod k ((6 + 1 : Nat) : Int)).toNat
theorem kindA_lt (k : Int) : kindA k < 7 := by
  have h1 := Int.emod_nonneg k (show ((6 + 1 : Nat) : Int) ≠ 0 by decide)
  have h2 := Int.emod_lt_of_pos k (show (0 : Int) < ((6 + 1 : Nat) : Int) by decide)
  show (Int.emod k ((6 + 1 : Nat) : Int)).toNat < 7
  have h1 : 0 ≤ Int.emod k ((6 + 1 : Nat) : Int) := h1
  have h2 : Int.emod k ((6 + 1 : Nat) : Int) < ((6 + 1 : Nat) : Int) := h2
  omega
def actP (D : Dsk) (a : Xact) : Dsk :=
  if kindA a.kind = 0 then (appendD D a.name a.bytes).1
  else if kindA a.kind = 1 then (syncD D a.name).1
  else if kindA a.kind = 2 then (moveD D a.name a.to).1
  else if kindA a.kind = 3 then (dropD D a.name).1
  else if kindA a.kind = 5 then { D with arm := a.n.toNat }
  else if kindA a.kind = 6 then crashD D a.fates else D
structure XactAt (w : World) (x : XactV) : Prop where
  bytes : RB w x.2.bytes x.1.bytes
  fates : RG 1 enI w x.2.fates x.1.fates
  n : x.1.n ≤ 9223372036854775807
theorem XactAt.keep {w w' : World} {x : XactV} (h : XactAt w x) (k : Ext w w') : XactAt w' x := ⟨h.bytes.keep k, h.fates.keep k, h.n⟩
structure DBd (n : Nat) (D : Dsk) : Prop where
  quota : D.quota ≤ 1073741824
  refused : D.refused ≤ n
  arm : D.arm ≤ 9223372036854775807
  acts : D.kept.length + D.acts.length ≤ n
  now : D.now.length ≤ n
  files : ∀ x ∈ D.files, x.1.length ≤ 300 * n
theorem DBd.file {n : Nat} {D : Dsk} (h : DBd n D) (k : Nat) : (fileD D k).1.length ≤ 300 * n := by
  by_cases hk : k < D.files.length
  · exact h.files _ (fileD_mem hk)
  · unfold fileD
    rw [List.getD_eq_getElem?_getD, List.getElem?_eq_none (by omega)]
    exact Nat.zero_le _
theorem sum_le_mul {l : List Nat} {m : Nat} (h : ∀ x ∈ l, x ≤ m) : l.sum ≤ l.length * m := by
  induction l with
  | nil => simp
  | cons a r ih =>
    have h1 := h a List.mem_cons_self
    have h2 := ih fun x hx => h x (List.mem_cons_of_mem _ hx)
    rw [List.sum_cons, List.length_cons, Nat.succ_mul]
    omega
theorem DBd.used {n : Nat} {D : Dsk} (h : DBd n D) : usedD D ≤ n * (300 * n) := by
  unfold usedD
  have h1 := sum_le_mul (l := D.now.map fun e => (fileD D e.2).1.length) (m := 300 * n) fun x hx => by
    obtain ⟨e, _, rfl⟩ := List.mem_map.1 hx
    exact h.file e.2
  rw [List.length_map] at h1
  exact Nat.le_trans h1 (Nat.mul_le_mul_right _ h.now)
theorem DBd.lt {n : Nat} {D : Dsk} (h : DBd n D) (hn : n ≤ 100000) : DLt D := by
  have h1 := h.used
  have h2 : n * (300 * n) ≤ 100000 * (300 * 100000) := Nat.mul_le_mul hn (Nat.mul_le_mul_left _ hn)
  have h3 := h.acts
  have h4 := h.now
  have h5 := h.refused
  have h6 := h.arm
  exact ⟨h.quota, by omega, by omega, by omega, by omega, by omega, by omega, fun x hx => by have := h.files x hx; omega⟩
theorem DBd.mono {n m : Nat} {D : Dsk} (h : DBd n D) (hn : n ≤ m) : DBd m D :=
  ⟨h.quota, Nat.le_trans h.refused hn, h.arm, Nat.le_trans h.acts hn, Nat.le_trans h.now hn, fun x hx => Nat.le_trans (h.files x hx) (Nat.mul_le_mul_left _ hn)⟩
theorem DBd.new {q : Nat} (hq : q ≤ 1073741824) : DBd 0 (newD q) := ⟨hq, Nat.le_refl _, Nat.zero_le _, Nat.le_refl _, Nat.le_refl _, fun x h => by cases h⟩
theorem DBd.armed {n : Nat} {D : Dsk} (h : DBd n D) : DBd n (armD D).1 := by
  unfold armD
  split
  · exact h
  · have := h.arm
    exact ⟨h.quota, h.refused, by show D.arm - 1 ≤ _; omega, h.acts, h.now, h.files⟩
theorem DBd.turned {n : Nat} {D : Dsk} (h : DBd n D) (a : ActD) : DBd (n + 1) (turnedD D a) := by
  have h1 := turn_len D.now a
  have h2 := h.acts
  have h3 := h.now
  refine ⟨h.quota, Nat.le_succ_of_le h.refused, h.arm, ?_, ?_, fun x hx => Nat.le_trans (h.files x hx) (Nat.mul_le_mul_left _ (Nat.le_succ n))⟩
  · show D.kept.length + (D.acts ++ [a]).length ≤ n + 1
    rw [List.length_append, List.length_singleton]
    omega
  · show (turnD D.now a).length ≤ n + 1
    omega
theorem DBd.add {n : Nat} {D : Dsk} (h : DBd n D) (s : List UInt8) {b : List UInt8} (hb : b.length ≤ 300) : DBd (n + 1) (addD D s b) := by
  unfold addD
  split
  · rename_i k _
    refine ⟨h.quota, Nat.le_succ_of_le h.refused, h.arm, Nat.le_succ_of_le h.acts, Nat.le_succ_of_le h.now, fun x hx => ?_⟩
    rcases List.mem_or_eq_of_mem_set hx with hx | rfl
    · have := h.files x hx
      omega
    · have := h.file k
      show ((fileD D k).1 ++ b).length ≤ _
      rw [List.length_append]
      omega
  · have h1 := h.turned ⟨[], s, D.files.length⟩
    refine ⟨h1.quota, h1.refused, h1.arm, h1.acts, h1.now, fun x hx => ?_⟩
    rcases List.mem_append.1 hx with hx | hx
    · have := h.files x hx
      omega
    · rw [List.mem_singleton.1 hx]
      show b.length ≤ _
      omega
theorem DBd.did {n : Nat} {D : Dsk} (h : DBd n D) {f : Dsk → Dsk} (hf : ∀ E, DBd n E → DBd (n + 1) (f E)) : DBd (n + 1) (doD D f).1 := by
  unfold doD
  split
  · exact h.armed.mono (Nat.le_succ n)
  · exact hf _ h.armed
theorem DBd.append {n : Nat} {D : Dsk} (h : DBd n D) (s : List UInt8) {b : List UInt8} (hb : b.length ≤ 300) : DBd (n + 1) (appendD D s b).1 := by
  unfold appendD
  split
  · exact h.mono (Nat.le_succ n)
  · split
    · exact ⟨h.quota, Nat.succ_le_succ h.refused, h.arm, Nat.le_succ_of_le h.acts, Nat.le_succ_of_le h.now, fun x hx => Nat.le_trans (h.files x hx) (Nat.mul_le_mul_left _ (Nat.le_succ n))⟩
    · exact h.did (f := fun d => addD d s b) fun E hE => hE.add s hb
theorem DBd.sync {n : Nat} {D : Dsk} (h : DBd n D) (s : List UInt8) : DBd (n + 1) (syncD D s).1 := by
  unfold syncD
  split
  · exact h.mono (Nat.le_succ n)
  · rename_i k _
    refine h.did fun E hE => ⟨hE.quota, Nat.le_succ_of_le hE.refused, hE.arm, ?_, Nat.le_succ_of_le hE.now, fun x hx => ?_⟩
    · have := hE.now
      show E.now.length + 0 ≤ _
      omega
    · rcases List.mem_or_eq_of_mem_set hx with hx | rfl
      · have := hE.files x hx
        omega
      · have := hE.file k
        show (fileD E k).1.length ≤ _
        omega
theorem DBd.move {n : Nat} {D : Dsk} (h : DBd n D) (s t : List UInt8) : DBd (n + 1) (moveD D s t).1 := by
  unfold moveD
  split
  · exact h.mono (Nat.le_succ n)
  · exact h.did fun E hE => hE.turned _
theorem DBd.drop {n : Nat} {D : Dsk} (h : DBd n D) (s : List UInt8) : DBd (n + 1) (dropD D s).1 := by
  unfold dropD
  split
  · exact h.mono (Nat.le_succ n)
  · exact h.did fun E hE => hE.turned _
theorem DBd.crash {n : Nat} {D : Dsk} (h : DBd n D) (l : List Int) : DBd n (crashD D l) := by
  have h1 := left_len D l
  have h2 := h.acts
  have h3 : (numD (leftD D l)).length = (leftD D l).length := by unfold numD; rw [List.length_mapIdx]
  refine ⟨h.quota, h.refused, Nat.zero_le _, ?_, ?_, fun x hx => ?_⟩
  · show (numD (leftD D l)).length + 0 ≤ n
    omega
  · show (numD (leftD D l)).length ≤ n
    omega
  · obtain ⟨i, hi, rfl⟩ := List.mem_mapIdx.1 hx
    have h4 := h.file ((leftD D l)[i]'hi).2
    unfold cutD
    simp only [List.length_take]
    omega
theorem DBd.act {n : Nat} {D : Dsk} (h : DBd n D) {a : Xact} (hb : a.bytes.length ≤ 300) (ha : a.n ≤ 9223372036854775807) : DBd (n + 1) (actP D a) := by
  unfold actP
  split
  · exact h.append _ hb
  split
  · exact h.sync _
  split
  · exact h.move _ _
  split
  · exact h.drop _
  split
  · have h1 := h.mono (Nat.le_succ n)
    exact ⟨h1.quota, h1.refused, by show a.n.toNat ≤ _; omega, h1.acts, h1.now, h1.files⟩
  split
  · exact (h.crash _).mono (Nat.le_succ n)
  · exact h.mono (Nat.le_succ n)
def playN (D : Dsk) (l : List XactV) (n : Nat) : Dsk := (l.take n).foldl (fun d x => actP d x.1) D
theorem playN_succ {D : Dsk} {l : List XactV} {n : Nat} (h : n < l.length) : playN D l (n + 1) = actP (playN D l n) (l.getD n dXac).1 := by
  unfold playN
  rw [List.take_succ_eq_append_getElem h, List.foldl_append, List.getD_eq_getElem?_getD, List.getElem?_eq_getElem h]
  rfl
def lightB (l : List XactV) (most : Nat) : Bool := !decide (most < l.length) && l.all fun x => !(decide (300 < x.1.bytes.length) || decide (100 < x.1.fates.length))
theorem lightB_get {l : List XactV} {most : Nat} (h : lightB l most = true) : l.length ≤ most ∧ ∀ x ∈ l, x.1.bytes.length ≤ 300 ∧ x.1.fates.length ≤ 100 := by
  unfold lightB at h
  obtain ⟨h1, h2⟩ := Bool.and_eq_true_iff.1 h
  refine ⟨by simpa using h1, fun x hx => ?_⟩
  have := List.all_eq_true.1 h2 x hx
  simpa using this
theorem DBd.play {q : Nat} {l : List XactV} {most : Nat} (hq : q ≤ 1073741824) (h : lightB l most = true) (hn : ∀ x ∈ l, x.1.n ≤ 9223372036854775807) : ∀ {n : Nat}, n ≤ l.length → DBd n (playN (newD q) l n)
  | 0, _ => DBd.new hq
  | n + 1, hl => by
    have hm : l.getD n dXac ∈ l := getD_mem_ (by omega)
    rw [playN_succ (by omega)]
    exact (DBd.play hq h hn (by omega)).act ((lightB_get h).2 _ hm).1 (hn _ hm)
section
variable {base : Nat} {w w' wb : World} {g : Nat} {H H' : Dk} {D D' : Dsk}
theorem DkS.low (h : DkS base w H D) {b' : Nat} (hb : b' ≤ base) : DkS b' w H D := by
  obtain ⟨vs, hv⟩ := h.acts
  exact ⟨h.blk, h.now, h.kept, h.ne, ⟨vs, ownsRow_base hv.row hb, hv.len, hv.at_⟩, h.files.low hb, h.ok, ⟨Nat.le_trans hb h.lo.1, Nat.le_trans hb h.lo.2.1, Nat.le_trans hb h.lo.2.2⟩⟩
structure DkG (wb w : World) (g : Nat) (H : Dk) (D : Dsk) : Prop where
  ext : Ext wb w
  st : DkS wb.heap.size w H D
  hg : H.g = g
theorem DkG.keep (h : DkG wb w g H D) (k : Ext w w') : DkG wb w' g H D := ⟨h.ext.trans k, h.st.keep k, h.hg⟩
theorem DkG.step (h : DkG wb w g H D) (k : DkT wb.heap.size w H D w' H' D') : DkG wb w' g H' D' := ⟨k.chg.ext h.ext (fun i q => (h.st.foot q).2.2), k.st, k.g.trans h.hg⟩
theorem DkG.box (h : DkG wb w g H D) (hc : Chg (Foot H D.files.length) w w') {b : Nat} {cs : Array Value} {t : TypeId} {fr : Nat × Nat} (hb : w.heap[b]? = some (.cells cs t fr)) (h1 : t ≠ 63) (h2 : t ≠ 74) (h3 : t ≠ 5) (h4 : t ≠ 68) : w'.heap[b]? = some (.cells cs t fr) :=
  (hc.blk b (bl hb) (h.st.offT hb h1 h2 h3 h4)).trans hb
theorem DkG.append (h : DkG wb w g H D) (s : List UInt8) (vb : Value) (b : List UInt8) (hrb : RB w vb b) (hoff : b = [] ∨ ∀ i, vb.ownBlock = some i → ¬ Foot H D.files.length i) (hbl : b.length < 1099511627776) (hL : DLt D) :
    Calls Try.prog 13 #[PQ g 0, St s, vb] w fun e w' => ∃ H', e = .returned (NI (appendD D s b).2) ∧ DkG wb w' g H' (appendD D s b).1 ∧ Chg (Foot H D.files.length) w w' := by
  rw [← h.hg]
  exact (append_at wb w h.ext H D h.st s vb b hrb hoff hbl hL).mono fun e w' ⟨H', he, hT⟩ => ⟨H', he, by rw [h.hg]; exact h.step hT, hT.chg⟩
theorem DkG.sync (h : DkG wb w g H D) (s : List UInt8) (hL : DLt D) :
    Calls Try.prog 14 #[PQ g 0, St s] w fun e w' => ∃ H', e = .returned (NI (syncD D s).2) ∧ DkG wb w' g H' (syncD D s).1 ∧ Chg (Foot H D.files.length) w w' := by
  rw [← h.hg]
  exact (sync_at wb w h.ext H D h.st s hL).mono fun e w' ⟨H', he, hT⟩ => ⟨H', he, by rw [h.hg]; exact h.step hT, hT.chg⟩
theorem DkG.crash (h : DkG wb w g H D) (vf : Value) (fs : List Int) (hrf : RG 1 enI w vf fs) (hL : DLt D) :
    Calls Try.prog 11 #[PQ g 0, vf] w fun e w' => ∃ H', e = .returned (.tuple #[]) ∧ DkG wb w' g H' (crashD D fs) ∧ Chg (Foot H D.files.length) w w' := by
  rw [← h.hg]
  exact (crash_at wb w h.ext H D h.st vf fs hrf hL).mono fun e w' ⟨H', he, hT⟩ => ⟨H', he, by rw [h.hg]; exact h.step hT, hT.chg⟩
theorem DkG.read (h : DkG wb w g H D) (s : List UInt8) (hL : DLt D) :
    Calls Try.prog 15 #[PQ g 0, St s] w fun e w' => ∃ v, e = .returned (.tuple #[v, NI (readD D s).2]) ∧ w'.ownsRow w.heap.size 5 1 v (readD D s).1.length (Lib.byteCells (readD D s).1) ∧ Ext w w' := by
  rw [← h.hg]
  exact read_at wb w H D h.st s hL
theorem DkG.list (h : DkG wb w g H D) (hL : DLt D) :
    Calls Try.prog 17 #[PQ g 0] w fun e w' => ∃ v, e = .returned v ∧ OG w.heap.size 9 1 enS w' v (listD D) ∧ Ext w w' := by
  rw [← h.hg]
  exact list_at _ w H D h.st hL.now
theorem DkG.used (h : DkG wb w g H D) (hL : DLt D) :
    Calls Try.prog 18 #[PQ g 0] w fun e w' => e = .returned (NI (usedR D)) ∧ Ext w w' := by
  rw [← h.hg]
  exact tused_at _ w H D h.st hL.used
theorem DkG.refused (h : DkG wb w g H D) :
    Calls Try.prog 24 #[PQ g 0] w fun e w' => e = .returned (NI D.refused) ∧ Ext w w' := by
  rw [← h.hg]
  exact trefused_at _ w H D h.st
theorem DkG.down (h : DkG wb w g H D) :
    Calls Try.prog 10 #[PQ g 0] w fun e w' => e = .returned (.bool D.down) ∧ Ext w w' := by
  rw [← h.hg]
  exact tdown_at _ w H D h.st
theorem Calls.res {P : Program} {F : FuncId} {args : Array Value} {n m : Nat} {Q : Dk → World → Prop} (h : Calls P F args w fun e w' => ∃ H', e = .returned (NI n) ∧ Q H' w') (hn : n = m) : Calls P F args w fun e w' => ∃ H', e = .returned (NI m) ∧ Q H' w' := by
  subst hn
  exact h
theorem Calls.resR {P : Program} {F : FuncId} {args : Array Value} {p q : List UInt8 × Nat} {b : Nat} (h : Calls P F args w fun e w' => ∃ v, e = .returned (.tuple #[v, NI p.2]) ∧ w'.ownsRow b 5 1 v p.1.length (Lib.byteCells p.1) ∧ Ext w w') (hq : p = q) :
    Calls P F args w fun e w' => ∃ v, e = .returned (.tuple #[v, NI q.2]) ∧ RB w' v q.1 ∧ Ext w w' := by
  subst hq
  exact h.mono fun e w2 ⟨v, he, hr, hx⟩ => ⟨v, he, RB.ofOwn hr, hx⟩
theorem new_g (wb w : World) (hE : Ext wb w) (q : Nat) (hq : q ≤ 1073741824) :
    Calls Try.prog 8 #[NI q] w fun e w' => ∃ g H, e = .returned (PQ g 0) ∧ DkG wb w' g H (newD q) ∧ Ext w w' :=
  (new_ok w q hq).mono fun e w' ⟨H, he, hS, hx⟩ => ⟨H.g, H, he, ⟨hE.trans hx, hS.low hE.size, rfl⟩, hx⟩
end
open Go.RowKit
set_option maxRecDepth 100000
open Go.ChangeShapes Go.WideShapes Go.ChangeAt Go.Deep
set_option linter.unusedVariables false
set_option linter.unusedSimpArgs false
instance : Inhabited XactV := ⟨dXac⟩
theorem enI1_len (a : Int) : (enI a).length = 1 := rfl
theorem open_xac_33 {H : Type} {enc : TypeId × Value → H} {W : World} : Opn enc Try.prog W 33 xacC (fun x : XactV => RB W x.2.bytes x.1.bytes ∧ -9223372036854775808 ≤ x.1.n ∧ x.1.n ≤ 9223372036854775807 ∧ RG 1 enI W x.2.fates x.1.fates) := fun fuel cs x h => by
 have ht : Try.prog.underlying 33 = some (.struct (Try.prog.fieldsOf 33)) := by kernel_rfl
 obtain ⟨a0, e0, k0⟩ := field_open (i := 0) (ty := 3) (o := 0) (k := 1) ht h (by kernel_rfl) (by kernel_rfl) (Opn.i64 (by kernel_rfl))
 obtain ⟨a1, e1, k1⟩ := field_open (i := 1) (ty := 9) (o := 1) (k := 1) ht h (by kernel_rfl) (by kernel_rfl) (Opn.str (by kernel_rfl))
 obtain ⟨a2, e2, k2⟩ := field_open (i := 2) (ty := 9) (o := 2) (k := 1) ht h (by kernel_rfl) (by kernel_rfl) (Opn.str (by kernel_rfl))
 obtain ⟨a3, e3, k3⟩ := field_open (i := 3) (ty := 24) (o := 3) (k := 1) ht h (by kernel_rfl) (by kernel_rfl) (Opn.bytes (e := 5) (by kernel_rfl) (by kernel_rfl) (by kernel_rfl))
 obtain ⟨a4, e4, k4⟩ := field_open (i := 4) (ty := 3) (o := 4) (k := 1) ht h (by kernel_rfl) (by kernel_rfl) (Opn.i64 (by kernel_rfl))
 obtain ⟨a5, e5, k5⟩ := field_open (i := 5) (ty := 25) (o := 5) (k := 1) ht h (by kernel_rfl) (by kernel_rfl) (Opn.slice (by kernel_rfl) (by kernel_rfl) (by decide) (Opn.i64 (t := 3) (by kernel_rfl)) (fun a _ => enI1_len a))
 have hl : cs.drop 6 = [] := List.drop_of_length_le (Nat.le_of_eq ((struct_len ht h).trans (by kernel_rfl)))
 refine ⟨(⟨a0, a1, a2, a3.2, a4, a5.2⟩, ⟨a3.1, a5.1⟩), ?_, ⟨k3, k4.1, k4.2, k5.1⟩⟩
 rw [show cs = cs.drop 0 from rfl]
 rw [e0]
 rw [show cs.drop (0 + 1) = _ from e1]
 rw [show cs.drop (1 + 1) = _ from e2]
 rw [show cs.drop (2 + 1) = _ from e3]
 rw [show cs.drop (3 + 1) = _ from e4]
 rw [show cs.drop (4 + 1) = _ from e5]
 rw [show cs.drop (5 + 1) = [] from hl]
 simp [xacC]
theorem opn_act {H : Type} {enc : TypeId × Value → H} {W : World} : Opn enc Try.prog W 33 xacC (fun x : XactV => XactAt W x) := fun fuel cs y h => by
 obtain ⟨x, h1, h2, h3, h4, h5⟩ := open_xac_33 fuel cs y h
 exact ⟨x, h1, h2, h5, h4⟩
theorem open_sl {H : Type} {enc : TypeId × Value → H} {P : Program} {W : World} {α : Type} [Inhabited α] {k : Nat} {f : α → List Value} {OK : α → Prop} {t e : TypeId} (ht : P.underlying t = some (.slice e)) (hc : P.cellsOf e = k) (hk : 0 < k) (hE : Opn enc P W e f OK) (hl : ∀ a, OK a → (f a).length = k)
  {r : Reach} {b0 : Nat} {v : Value} {d : DataW H} {ps : List MemPlace} (hval : Value.okWide P W r b0 t v) (hd : DataW.Trod enc P W 0 (fun _ => true) true t v d ps) : ∃ l, RG k f W v l ∧ (∀ a ∈ l, OK a) ∧ ∀ p ∈ ps, p.block < W.heap.size := by
 obtain ⟨a0, len0, cap0, rfl⟩ := okWide_slice ht hval
 obtain ⟨fuel, hf⟩ := hd
 have hlt := DataW.trod_lt fuel _ _ _ hf
 obtain ⟨a, h1, h2, h3⟩ := Opn.slice ht hc hk hE hl _ _ _ hf
 have h1 : [Value.slice a0 len0 cap0] = [a.1] := h1
 exact ⟨a.2, by rw [(List.cons.inj h1).1]; exact h2, h3, hlt⟩
theorem open_acts {H : Type} {enc : TypeId × Value → H} {W : World} {r : Reach} {b0 : Nat} {v : Value} {d : DataW H} {ps : List MemPlace} (hval : Value.okWide Try.prog W r b0 22 v) (hd : DataW.Trod enc Try.prog W 0 (fun _ => true) true 22 v d ps) :
  ∃ l : List XactV, RG 6 xacC W v l ∧ (∀ x ∈ l, XactAt W x) ∧ ∀ p ∈ ps, p.block < W.heap.size :=
 open_sl (by kernel_rfl) (by kernel_rfl) (by decide) opn_act (fun a _ => xac_len a) hval hd
open Go.RowKit
set_option maxRecDepth 100000
set_option linter.unusedVariables false
set_option linter.unusedSimpArgs false
theorem enI_len (l : List Int) : (l.flatMap enI).length = l.length * 1 := by
 induction l with
 | nil => rfl
 | cons a r ih => rw [List.flatMap_cons, List.length_append, ih, List.length_cons]; simp; omega
theorem rg_ints {w : World} {g : Nat} {e : TypeId} {fr : Nat × Nat} {l : List Int} (hl : l.length ≤ 1024) (h : w.heap[g]? = some (.cells (l.flatMap enI).toArray e fr)) : RG 1 enI w (.slice (some ⟨g, 0, none⟩) l.length l.length) l := by
 refine ⟨fun x hx => rfl, enI_len l, _, l.length, rfl, Nat.le_refl _, by simp [maxLen]; omega, (fun h => by cases h), fun q hq j u hu => ?_⟩
 cases hq
 rw [Addr.add_lit, Nat.zero_add]
 exact cellAt (l := l.flatMap enI) (t := e) (fr := fr) h hu
theorem all_stepX {α : Type} {f : α → Bool} {l : List α} {i : Nat} (d : α) (h : i < l.length) (hq : (l.take i).all f = true) (hn : f (l.getD i d) = true) : (l.take (i + 1)).all f = true := by
 rw [List.take_succ_eq_append_getElem h, List.all_append, hq, List.all_cons, List.all_nil]
 rw [List.getD_eq_getElem?_getD, List.getElem?_eq_getElem h] at hn
 simpa using hn
theorem lightB_no {l : List XactV} {most i : Nat} (h : i < l.length) (hn : (decide (300 < (l.getD i dXac).1.bytes.length) || decide (100 < (l.getD i dXac).1.fates.length)) = true) : lightB l most = false := by
 cases hb : lightB l most
 ·rfl
 ·have := (lightB_get hb).2 _ (getD_mem_ (d := dXac) h)
  rcases (Bool.or_eq_true _ _).mp hn with h | h
  ·have := of_decide_eq_true h
   omega
  ·have := of_decide_eq_true h
   omega
def awA : Dsk := (appendD (newD 100) [97] [120, 121]).1
def awB : Dsk := (syncD awA [97]).1
def awC : Dsk := (appendD awB [97] [122]).1
def awD : Dsk := crashD awC [0, 0]
def awE : Dsk := (appendD (newD 100) [97] [120]).1
def awF : Dsk := crashD awE [0]
theorem aw_b0 : DBd 0 (newD 100) := DBd.new (by decide)
theorem aw_b1 : DBd 1 awA := aw_b0.append _ (by decide)
theorem aw_b2 : DBd 2 awB := aw_b1.sync _
theorem aw_b3 : DBd 3 awC := aw_b2.append _ (by decide)
theorem aw_b4 : DBd 3 awD := aw_b3.crash _
theorem aw_b5 : DBd 1 awE := aw_b0.append _ (by decide)
theorem aw_b6 : DBd 1 awF := aw_b5.crash _
theorem aw_l0 : DLt (newD 100) := aw_b0.lt (by decide)
theorem aw_l1 : DLt awA := aw_b1.lt (by decide)
theorem aw_l2 : DLt awB := aw_b2.lt (by decide)
theorem aw_l3 : DLt awC := aw_b3.lt (by decide)
theorem aw_l4 : DLt awD := aw_b4.lt (by decide)
theorem aw_l5 : DLt awE := aw_b5.lt (by decide)
theorem aw_l6 : DLt awF := aw_b6.lt (by decide)
theorem dwc_ty22 : Try.prog.underlying 22 = some (.slice 33) := by kernel_rfl
theorem dwc_szg33 : ∀ w' : World, (sizeOf 33).run Try.prog w' = .ok 6 w' := fun _ => by kernel_rfl
theorem dwc_fo33_3 : FieldOff Try.prog 33 3 3 := fun b o w => by simp [go_sem]
theorem dwc_ty24 : Try.prog.underlying 24 = some (.slice 5) := by kernel_rfl
theorem dwc_fo33_5 : FieldOff Try.prog 33 5 5 := fun b o w => by simp [go_sem]
theorem dwc_ty25 : Try.prog.underlying 25 = some (.slice 3) := by kernel_rfl
theorem dwc_ty9 : Try.prog.underlying 9 = some (.string) := by kernel_rfl
theorem dwc_pl13 : Plain Try.prog 13 := fun _ _ => by kernel_rfl
theorem dwc_pl14 : Plain Try.prog 14 := fun _ _ => by kernel_rfl
theorem dwc_pl11 : Plain Try.prog 11 := fun _ _ => by kernel_rfl
theorem dwc_pl8 : Plain Try.prog 8 := fun _ _ => by kernel_rfl
theorem dwc_ty5 : Try.prog.underlying 5 = some (.int .u8) := by kernel_rfl
theorem dwc_l1_24 (z : Int) (w : World) : (Instr.buildSlice 24 1 #[(0, .int .u8 z)]).run Try.prog w = .ok (.slice (some ⟨w.heap.size, 0, none⟩) 1 1) (w.alloc (.cells #[.int .u8 z] 5)) := by kernel_rfl
theorem dwc_pl15 : Plain Try.prog 15 := fun _ _ => by kernel_rfl
theorem dwc_lk25 (z : Int) (w : World) : (Instr.buildSlice 25 1 #[(0, .int .i64 z)]).run Try.prog w = .ok (.slice (some ⟨w.heap.size, 0, none⟩) 1 1) (w.alloc (.cells #[.int .i64 z] 3)) := by kernel_rfl
set_option maxHeartbeats 1600000
theorem light_any (w : World) (v : Value) (l : List XactV) (hl : RG 6 xacC w v l) (hk : ∀ x ∈ l, XactAt w x) (most : Nat) (hmost : most ≤ 1000) :
  Calls Try.prog 7 #[v, NI most] w fun e w' => e = .returned (.bool (lightB l most)) ∧ Ext w w' := by
 refine calls_of_wpF (args := [v, NI most]) Try.func7 rfl 32 rfl (Nat.le_of_ble_eq_true rfl) ?_
 intro ρ0 hb
 have T0 : ρ0 0 = (v : Value) := hb.get 0
 have T1 : ρ0 1 = (NI most : Value) := hb.get 1
 clear hb
 have hE := Ext.refl w
 refine sk fun K1 hK1 => (wt (oA rfl (oZ (tN (hK1 _ _ (sk fun K2 hK2 => (sk fun K3 hK3 => (wt (oM rfl (oS rfl (Yk.lenRG dwc_ty22 (RG.of (hl.keep hE) T0) (oM rfl (oS rfl (Yk.eqI (a := (l.length : Nat)) (b := (most : Nat)) rfl T1 (k_gtr _ _ _ _) (oZ (tN (hK3 _ _ ?_)))))))))))))))))
 refine wpF_cond ((most) < (l.length)) (vr (.bool (decide ((most) < (l.length)))) rfl) (fun hc0 => ?_) (fun hc0 => ?_)
 ·have hV : lightB l most = false := by unfold lightB; rw [decide_eq_true (show most < l.length from hc0)]; rfl
  refine sk fun K4 hK4 => (wt (oA rfl (oZ (tN (hK4 _ _ (wpF_ret (thenF_ret (postF_ret (fn := Try.f7) _ rfl [.bool (false)] (.bool (false)) rfl ⟨rfl, trivial⟩ ?_))))))))
  exact ⟨by rw [hV], hE⟩
 refine wpF_skip (tN (hK2 _ _ (sk fun K5 hK5 => (sk fun K6 hK6 => (wt (oA rfl (oL_ [(0, v), (1, NI most), (4, .bool (false)), (5, NI 0)] ⟨T0, T1, rfl, rfl, trivial⟩ fun ρ7 ⟨T0, T1, T4, T5, _⟩ => (tN (hK6 _ _ (wpF_block (wpF_loop (fun (ρ : Slots) (wz : World) => ∃ i : Nat, ρ 0 = (v : Value) ∧ ρ 1 = (NI most : Value) ∧ ρ 5 = (NI i : Value) ∧ Ext w wz ∧ (i ≤ l.length) ∧ ((l.take i).all (fun x => !(decide (300 < x.1.bytes.length) || decide (100 < x.1.fates.length))) = true) ∧ True) (fun ρ _ => l.length - (intOf (ρ 5)).toNat) ⟨0, T0, T1, T5, hE, Nat.zero_le _, rfl, trivial⟩ ?_)))))))))))
 clear hE
 rintro ρ8 w9 ⟨i, T0, T1, T5, hE, hi, hq, -⟩
 have q5 := T5
 refine sk fun K10 hK10 => (sk fun K11 hK11 => (wt (oM rfl (oM rfl (oS rfl (Yk.lenRG dwc_ty22 (RG.of (hl.keep hE) T0) (oS rfl (Yk.eqI (a := (i : Nat)) (b := (l.length : Nat)) T5 rfl (k_lss _ _ _ _) (oZ (tN (hK11 _ _ ?_)))))))))))
 refine wpF_cond ((i) < (l.length)) (vr (.bool (decide ((i) < (l.length)))) rfl) (fun hc1 => ?_) (fun hc1 => ?_)
 ·have hlt : i < l.length := hc1
  have hx := hk _ (getD_mem_ (d := dXac) hlt)
  have hxb := (hx.keep hE).bytes
  have hxf := (hx.keep hE).fates
  refine wpF_skip (tN (hK10 _ _ (sk fun K12 hK12 => (wpF_block (sk fun K13 hK13 => (wt (oM rfl (oM rfl ?_))))))))
  have hl16 : (xacC (l.getD (i) dXac)).length = 6 := (RG.elem (hl.keep hE) dXac (by omega))
  refine oS rfl (Yk.atRG dwc_ty22 dwc_szg33 (by decide) dXac (RG.of (hl.keep hE) T0) T5 (by omega) fun v14 hp15 => (oS rfl (Yk.fieldPR (n := 1) dwc_fo33_3 (PR.of hp15 (vr v14 rfl)) fun v17 hp18 => ?_)))
  have hp18 : PCell ((l.getD (i) dXac).2.bytes) v17 w9 := PR.pcell ((xac_f3 (l.getD (i) dXac)) ▸ hp18)
  refine oS rfl (Yk.loadC dwc_ty24 rfl (PCell.of hp18 (vr v17 rfl)) (oS rfl (Yk.lenRB dwc_ty24 (RB.of hxb (vr ((l.getD (i) dXac).2.bytes) rfl)) (oS rfl (Yk.eqI (a := (((l.getD (i) dXac).1.bytes : List UInt8).length : Nat)) (b := (300 : Nat)) rfl rfl (k_gtr _ _ _ _) (oM rfl (opsF_mayV (v) rfl rfl (gF (vr (.bool (decide ((300) < (((l.getD (i) dXac).1.bytes : List UInt8).length)))) rfl)) (fun hG19 => Yk.move T0 ⟨rfl, rfl⟩) (opsF_mayV (NI i) rfl rfl (gF (vr (.bool (decide ((300) < (((l.getD (i) dXac).1.bytes : List UInt8).length)))) rfl)) (fun hG20 => Yk.move T5 ⟨rfl, rfl⟩) ?_))))))))
  have hl24 : (!(decide ((300) < (((l.getD (i) dXac).1.bytes : List UInt8).length)))) = true → (xacC (l.getD (i) dXac)).length = 6 := fun hG21 => (RG.elem (hl.keep hE) dXac (by first | omega | (simp only [gA, gB, gC, gD, gE] at hG21; omega)))
  refine opsF_mayX (fun v22 => PR (xacC (l.getD (i) dXac)) v22 w9) rfl rfl (gF (vr (.bool (decide ((300) < (((l.getD (i) dXac).1.bytes : List UInt8).length)))) rfl)) (fun hG21 => Yk.atRG dwc_ty22 dwc_szg33 (by decide) dXac (RG.of (hl.keep hE) (mayT (vr (cond (!(decide ((300) < (((l.getD (i) dXac).1.bytes : List UInt8).length)))) (v) undef) rfl) hG21)) (mayT (vr (cond (!(decide ((300) < (((l.getD (i) dXac).1.bytes : List UInt8).length)))) (NI i) undef) rfl) hG21) (by first | omega | (simp only [gA, gB, gC, gD, gE] at hG21; omega)) fun _ h => ⟨h, rfl⟩) fun v22 hp23 => ?_
  refine opsF_mayX (fun v26 => PCell ((l.getD (i) dXac).2.fates) v26 w9) rfl rfl (gF (vr (.bool (decide ((300) < (((l.getD (i) dXac).1.bytes : List UInt8).length)))) rfl)) (fun hG25 => ?_) fun v26 hp27 => ?_
  ·refine Yk.fieldPR (n := 1) dwc_fo33_5 (PR.of (hp23 hG25) (vr v22 rfl)) fun v26 hp27 => ?_
   have hp27 : PCell ((l.getD (i) dXac).2.fates) v26 w9 := PR.pcell ((xac_f5 (l.getD (i) dXac)) ▸ hp27)
   exact ⟨hp27, rfl⟩
  refine opsF_mayV ((l.getD (i) dXac).2.fates) rfl rfl (gF (vr (.bool (decide ((300) < (((l.getD (i) dXac).1.bytes : List UInt8).length)))) rfl)) (fun hG28 => Yk.loadC dwc_ty25 rfl (PCell.of (hp27 hG28) (vr v26 rfl)) ⟨rfl, rfl⟩) (opsF_mayV (NI (((l.getD (i) dXac).1.fates).length)) rfl rfl (gF (vr (.bool (decide ((300) < (((l.getD (i) dXac).1.bytes : List UInt8).length)))) rfl)) (fun hG29 => Yk.lenRG dwc_ty25 (RG.of hxf (mayT (vr (cond (!(decide ((300) < (((l.getD (i) dXac).1.bytes : List UInt8).length)))) ((l.getD (i) dXac).2.fates) undef) rfl) hG29)) ⟨rfl, rfl⟩) (opsF_mayV (.bool (decide ((100) < (((l.getD (i) dXac).1.fates).length)))) rfl rfl (gF (vr (.bool (decide ((300) < (((l.getD (i) dXac).1.bytes : List UInt8).length)))) rfl)) (fun hG30 => Yk.eqI (a := ((((l.getD (i) dXac).1.fates).length : Nat) : Int)) (b := ((100 : Nat) : Int)) (mayT (vr (cond (!(decide ((300) < (((l.getD (i) dXac).1.bytes : List UInt8).length)))) (NI (((l.getD (i) dXac).1.fates).length)) undef) rfl) hG30) (vr (NI 100) rfl) (k_gtr _ .i64 (((l.getD (i) dXac).1.fates).length) (100)) ⟨rfl, rfl⟩) (oS rfl (Yk.pickOrN (vr (.bool (decide ((300) < (((l.getD (i) dXac).1.bytes : List UInt8).length)))) rfl) (vr (.bool (true)) rfl) (fun hA => (mayT (vr (cond (!(decide ((300) < (((l.getD (i) dXac).1.bytes : List UInt8).length)))) (.bool (decide ((100) < (((l.getD (i) dXac).1.fates).length)))) undef) rfl) (not_i hA))) fun bb31 hbb32 => (oZ ?_)))))
  clear hp15
  clear hp18
  clear hp23
  clear hp27
  refine tN (hK13 _ _ ?_)
  refine wpF_condB (bb31) (vr (.bool (bb31)) rfl) (fun hc2 => ?_) (fun hc2 => ?_)
  ·subst hbb32
   refine sk fun K33 hK33 => (wt (oA rfl (oZ (tN (hK33 _ _ (wpF_ret (inBlockF_ret (thenF_ret (thenF_ret (inBlockF_ret (thenF_ret (postF_ret (fn := Try.f7) _ rfl [.bool (false)] (.bool (false)) rfl ⟨rfl, trivial⟩ ?_))))))))))))
   exact ⟨by rw [show lightB l most = false from lightB_no hlt hc2], hE⟩
  subst hbb32
  refine wpF_skip (bN (tN (hK12 _ _ (wt (oM rfl (oS rfl (Yk.bin (xv := NI i) (yv := NI 1) T5 rfl rfl (i64_add _ _ _ (by omega)) (oA rfl (oL_ [(0, v), (1, NI most), (5, NI ((i) + (1)))] ⟨T0, T1, rfl, trivial⟩ fun ρ34 ⟨T0, T1, T5, _⟩ => (tN (And.intro ⟨i + 1, T0, T1, T5, hE, by omega, all_stepX dXac hlt hq (by show (!(_ || _)) = true; exact (congrArg not hc2)), trivial⟩ ?_)))))))))))
  show l.length - (intOf (ρ34 5)).toNat < l.length - (intOf (ρ8 5)).toNat
  rw [T5, q5]
  simp only [intOf, Int.toNat_natCast]; omega
 refine wpF_exit (thenF_exit (thenF_exit (inBlockF_hit (tN (hK5 _ _ (sk fun K35 hK35 => (wt (oA rfl (oZ (tN (hK35 _ _ (wpF_ret (postF_ret (fn := Try.f7) _ rfl [.bool (true)] (.bool (true)) rfl ⟨rfl, trivial⟩ ?_)))))))))))))
 have hie : i = l.length := by have h := hc1; omega
 rw [hie, List.take_length] at hq
 exact ⟨by rw [show lightB l most = true from by unfold lightB; rw [decide_eq_false hc0, hq]; rfl], hE⟩

theorem awake06 (w : World) :
  Calls Try.prog 16 #[] w fun e w' => e = .returned (.bool true) ∧ Ext w w' := by
 refine calls_of_wpF (args := []) Try.func16 rfl 62 rfl (Nat.le_of_ble_eq_true rfl) ?_
 intro ρ0 hb
 clear hb
 have hE := Ext.refl w
 refine sk fun K1 hK1 => (wt (oA rfl (oZ (tN (hK1 _ _ (sk fun K2 hK2 => (wt (oS rfl (Yk.callA1 dwc_pl8 (vr (NI 100) rfl) ((new_g w _ hE 100 (by decide)).mono ?_))))))))))
 rintro e w4 ⟨g1, H1, rfl, hD1, hx3⟩
 refine ⟨_, rfl, ?_⟩
 have hE := hE.trans hx3
 refine oA rfl (oZ ?_)
 have hDb := hD1
 refine tN (hK2 _ _ (sk fun K5 hK5 => (sk fun K6 hK6 => (wt (oM rfl (oS rfl (Yk.litN (e := 5) ([120, 121] : List UInt8) (by decide) (fun _ _ => by kernel_rfl) fun v7 w8 hN9 => ?_)))))))
 have hA10 := Ext.refl w4
 have hea11 := hE
 have hz12 := hE.size
 have hE := hE.trans hN9.ext
 have hA10 := hA10.trans hN9.ext
 have ho13 := hN9.own; clear hN9
 have hoB := ho13
 have hoB := ho13
 refine oS rfl (Yk.convMark dwc_ty24 dwc_ty5 (vr v7 rfl) ho13 (by decide) fun w14 hr15 hg16 => ?_)
 have hE := ext_grew hE hg16 ho13 hz12
 have hA10 := ext_grew hA10 hg16 ho13 (Nat.le_refl _)
 clear ho13
 have hDc := (hD1.keep hA10)
 refine oS rfl (Yk.callA3 dwc_pl13 (vr (PQ g1 0) rfl) (vr (St (([97] : List UInt8))) rfl) (vr v7 rfl) ((Calls.res (hDc.append [97] v7 [120, 121] hr15 (.inr (fun i hi q => by have h1 := (hDb.st.foot q).2.1; have h2 := (hoB.lt i hi).1; omega)) (by decide) aw_l0) (show (appendD (newD 100) [97] [120, 121]).2 = 0 from by kernel_rfl)).mono ?_))
 rintro e w20 ⟨H17, rfl, hD18, hC19⟩
 refine ⟨_, rfl, ?_⟩
 have hE : Ext w w20 := hD18.ext
 clear hA10
 clear hr15
 have hD1 := hD18
 refine oS rfl (Yk.eqI (a := (0 : Nat)) (b := (0 : Nat)) rfl rfl (k_neq _ _ _ _) (oM rfl (oY (d := 13) rfl rfl (vr (.bool (false)) (congrArg Value.bool (decide_eq_false (by decide)))) (Yk.move (vr (PQ g1 0) rfl) ?_))))
 have hDc := hD1
 refine oY (d := 13) rfl rfl (vr (.bool (false)) (congrArg Value.bool (decide_eq_false (by decide)))) (Yk.callA2 dwc_pl14 (vr (PQ g1 0) rfl) (vr (St (([97] : List UInt8))) rfl) ((Calls.res (hDc.sync [97] aw_l1) (show (syncD awA [97]).2 = 0 from by kernel_rfl)).mono ?_))
 rintro e w24 ⟨H21, rfl, hD22, hC23⟩
 refine ⟨_, rfl, ?_⟩
 have hE : Ext w w24 := hD22.ext
 clear hD1
 have hD1 := hD22
 have hDb := hD1
 refine oY (d := 13) rfl rfl (vr (.bool (false)) (congrArg Value.bool (decide_eq_false (by decide)))) (Yk.eqI (a := (0 : Nat)) (b := (0 : Nat)) rfl rfl (k_neq _ _ _ _) (oS rfl (Yk.pickF (vr (.bool (false)) (congrArg Value.bool (decide_eq_false (by decide)))) (vr (.bool (false)) (congrArg Value.bool (decide_eq_false (by decide)))) (oM rfl (oY (d := 18) rfl rfl (vr (.bool (false)) rfl) (Yk.move (vr (PQ g1 0) rfl) (oY (d := 18) rfl rfl (vr (.bool (false)) rfl) (Yk.lit1 (b := 122) dwc_l1_24 (vr (B8 (122)) rfl) fun v25 w26 hN27 => ?_))))))))
 have hA28 := Ext.refl w24
 have hea29 := hE
 have hz30 := hE.size
 have hE := hE.trans hN27.ext
 have hA28 := hA28.trans hN27.ext
 have ho31 := hN27.own; clear hN27
 have hoB := ho31
 have hoB := ho31
 refine oY (d := 18) rfl rfl (vr (.bool (false)) rfl) (Yk.convMark dwc_ty24 dwc_ty5 (vr v25 rfl) ho31 (by decide) fun w32 hr33 hg34 => ?_)
 have hE := ext_grew hE hg34 ho31 hz30
 have hA28 := ext_grew hA28 hg34 ho31 (Nat.le_refl _)
 clear ho31
 have hDc := (hD1.keep hA28)
 refine oY (d := 18) rfl rfl (vr (.bool (false)) rfl) (Yk.callA3 dwc_pl13 (vr (PQ g1 0) rfl) (vr (St (([97] : List UInt8))) rfl) (vr v25 rfl) ((Calls.res (hDc.append [97] v25 [122] hr33 (.inr (fun i hi q => by have h1 := (hDb.st.foot q).2.1; have h2 := (hoB.lt i hi).1; omega)) (by decide) aw_l2) (show (appendD (awB) [97] [122]).2 = 0 from by kernel_rfl)).mono ?_))
 rintro e w38 ⟨H35, rfl, hD36, hC37⟩
 refine ⟨_, rfl, ?_⟩
 have hE : Ext w w38 := hD36.ext
 clear hA28
 clear hr33
 have hD1 := hD36
 refine oY (d := 18) rfl rfl (vr (.bool (false)) rfl) (Yk.eqI (a := (0 : Nat)) (b := (0 : Nat)) rfl rfl (k_neq _ _ _ _) (oS rfl (Yk.pickF (vr (.bool (false)) rfl) (vr (.bool (false)) (congrArg Value.bool (decide_eq_false (by decide)))) (oZ (tN (hK6 _ _ (wpF_false (vr (.bool (false)) rfl) (wpF_skip (tN (hK5 _ _ (sk fun K39 hK39 => (wt (oM rfl (oS rfl (Yk.lits (e := 3) (cs := #[.int .i64 0, .int .i64 0]) (fun w => by kernel_rfl) fun b40 w41 hn42 hb43 hx44 hs45 => ?_)))))))))))))))
 have hE := hE.trans hx44
 have hD1 := hD1.keep hx44
 have hr46 : RG 1 enI w41 (.slice (some ⟨b40, 0, none⟩) 2 2) [0, 0] := rg_ints (l := [0, 0]) (by decide) hb43
 have hDc := hD1
 refine oS rfl (Yk.callA2 dwc_pl11 (vr (PQ g1 0) rfl) (vr (.slice (some ⟨b40, 0, none⟩) 2 2) rfl) ((hDc.crash (.slice (some ⟨b40, 0, none⟩) 2 2) [0, 0] hr46 aw_l3).mono ?_))
 rintro e w50 ⟨H47, rfl, hD48, hC49⟩
 refine ⟨_, rfl, ?_⟩
 have hE : Ext w w50 := hD48.ext
 clear hD1
 clear hr46
 have hD1 := hD48
 refine oZ (tN (hK39 _ _ (sk fun K51 hK51 => (wt (oM rfl ?_)))))
 have hDc := hD1
 refine oS rfl (Yk.callA2 dwc_pl15 (vr (PQ g1 0) rfl) (vr (St (([97] : List UInt8))) rfl) ((Calls.resR (hDc.read [97] aw_l4) (show readD (awD) [97] = ([120, 121], 0) from by kernel_rfl)).mono ?_))
 rintro e w55 ⟨v52, rfl, hr53, hx54⟩
 refine ⟨_, rfl, ?_⟩
 have hE := hE.trans hx54
 have hD1 := hD1.keep hx54
 refine oM rfl (oS rfl (Yk.extract (vs := [v52, NI 0]) (vr (.tuple #[v52, NI 0]) rfl) (show _ = some (v52 : Value) from rfl) (oS rfl (Yk.extract (vs := [v52, NI 0]) (vr (.tuple #[v52, NI 0]) rfl) (show _ = some (NI 0 : Value) from rfl) (oA rfl (oA rfl (oZ (tN (hK51 _ _ (sk fun K56 hK56 => (wt ?_)))))))))))
 have hA57 := Ext.refl w55
 have hea58 := hE
 have hz59 := hE.size
 have hwb2 := hE
 refine oS rfl (Yk.callA1 dwc_pl8 (vr (NI 100) rfl) ((new_g w55 _ hA57 100 (by decide)).mono ?_))
 rintro e w61 ⟨g2, H2, rfl, hD2, hx60⟩
 refine ⟨_, rfl, ?_⟩
 have hE := hE.trans hx60
 have hA57 := hA57.trans hx60
 refine oA rfl (oZ ?_)
 have hDb := hD2
 refine tN (hK56 _ _ (sk fun K62 hK62 => (wt (oM rfl (oS rfl (Yk.lit1 (b := 120) dwc_l1_24 (vr (B8 (120)) rfl) fun v63 w64 hN65 => ?_))))))
 have hA66 := Ext.refl w61
 have hea67 := hE
 have hea68 := hA57
 have hz69 := hE.size
 have hz70 := hA57.size
 have hE := hE.trans hN65.ext
 have hA57 := hA57.trans hN65.ext
 have hA66 := hA66.trans hN65.ext
 have ho71 := hN65.own; clear hN65
 have hoB := ho71
 have hoB := ho71
 refine oS rfl (Yk.convMark dwc_ty24 dwc_ty5 (vr v63 rfl) ho71 (by decide) fun w72 hr73 hg74 => ?_)
 have hE := ext_grew hE hg74 ho71 hz69
 have hA57 := ext_grew hA57 hg74 ho71 hz70
 have hA66 := ext_grew hA66 hg74 ho71 (Nat.le_refl _)
 clear ho71
 have hDc := (hD2.keep hA66)
 refine oS rfl (Yk.callA3 dwc_pl13 (vr (PQ g2 0) rfl) (vr (St (([97] : List UInt8))) rfl) (vr v63 rfl) ((Calls.res (hDc.append [97] v63 [120] hr73 (.inr (fun i hi q => by have h1 := (hDb.st.foot q).2.1; have h2 := (hoB.lt i hi).1; omega)) (by decide) aw_l0) (show (appendD (newD 100) [97] [120]).2 = 0 from by kernel_rfl)).mono ?_))
 rintro e w78 ⟨H75, rfl, hD76, hC77⟩
 refine ⟨_, rfl, ?_⟩
 have hE : Ext w w78 := hwb2.trans hD76.ext
 have hA57 : Ext w55 w78 := hD76.ext
 clear hA66
 clear hr73
 have hD2 := hD76
 refine oZ (tN (hK62 _ _ (sk fun K79 hK79 => (wt (oM rfl (oS rfl (Yk.lit1S (a := 0) (enc := enI) (vr (NI 0) rfl) rfl (fun w => dwc_lk25 _ w) fun v80 w81 hr82 hx83 => ?_)))))))
 have hE := hE.trans hx83
 have hA57 := hA57.trans hx83
 have hD2 := hD2.keep hx83
 have hDc := hD2
 refine oS rfl (Yk.callA2 dwc_pl11 (vr (PQ g2 0) rfl) (vr v80 rfl) ((hDc.crash v80 [0] hr82 aw_l5).mono ?_))
 rintro e w87 ⟨H84, rfl, hD85, hC86⟩
 refine ⟨_, rfl, ?_⟩
 have hE : Ext w w87 := hwb2.trans hD85.ext
 have hA57 : Ext w55 w87 := hD85.ext
 clear hD2
 clear hr82
 have hD2 := hD85
 refine oZ (tN (hK79 _ _ (sk fun K88 hK88 => (wt (oM rfl ?_)))))
 have hDc := hD2
 refine oS rfl (Yk.callA2 dwc_pl15 (vr (PQ g2 0) rfl) (vr (St (([97] : List UInt8))) rfl) ((Calls.resR (hDc.read [97] aw_l6) (show readD (awF) [97] = ([], 4) from by kernel_rfl)).mono ?_))
 rintro e w92 ⟨v89, rfl, hr90, hx91⟩
 refine ⟨_, rfl, ?_⟩
 have hE := hE.trans hx91
 have hA57 := hA57.trans hx91
 have hD2 := hD2.keep hx91
 refine oM rfl (oS rfl (Yk.extract (vs := [v89, NI 4]) (vr (.tuple #[v89, NI 4]) rfl) (show _ = some (v89 : Value) from rfl) (oS rfl (Yk.extract (vs := [v89, NI 4]) (vr (.tuple #[v89, NI 4]) rfl) (show _ = some (NI 4 : Value) from rfl) (oA rfl (oA rfl (oL_ [(0, .bool (false)), (1, PQ g1 0), (2, v52), (3, NI 0), (4, PQ g2 0), (6, NI 4), (24, .bool (false))] ⟨rfl, rfl, rfl, rfl, rfl, rfl, rfl, trivial⟩ fun ρ93 ⟨T0, T1, T2, T3, T4, T6, T24, _⟩ => (tN (hK88 _ _ (sk fun K94 hK94 => (wt (oM rfl (oS rfl (Yk.eqI (a := (0 : Nat)) (b := (0 : Nat)) T3 rfl (k_eql _ _ _ _) (oM rfl (oY (d := 48) rfl rfl (vr (.bool (true)) (congrArg Value.bool (decide_eq_true (rfl)))) (Yk.move T2 (oY (d := 48) rfl rfl (vr (.bool (true)) (congrArg Value.bool (decide_eq_true (rfl)))) (Yk.convRB dwc_ty24 dwc_ty5 dwc_ty9 (RB.of (hr53.keep hA57) (vr v52 rfl)) (oY (d := 48) rfl rfl (vr (.bool (true)) (congrArg Value.bool (decide_eq_true (rfl)))) (Yk.eqSt (l := [120, 121]) (m := ([120, 121] : List UInt8)) (.inl rfl) (vr (St ([120, 121])) rfl) (vr (St (([120, 121] : List UInt8))) rfl) (decide (([120, 121] : List UInt8) = (([120, 121] : List UInt8) : List UInt8))) rfl (oS rfl (Yk.pickT (vr (.bool (true)) (congrArg Value.bool (decide_eq_true (rfl)))) (vr (.bool (true)) (congrArg Value.bool (decide_eq_true (rfl)))) ?_)))))))))))))))))))))))
 refine oM rfl (oY (d := 53) rfl rfl (vr (.bool (true)) rfl) (Yk.move T6 (oY (d := 53) rfl rfl (vr (.bool (true)) rfl) (Yk.eqI (a := (4 : Nat)) (b := (4 : Nat)) rfl rfl (k_eql _ _ _ _) (oS rfl (Yk.pickT (vr (.bool (true)) rfl) (vr (.bool (true)) (congrArg Value.bool (decide_eq_true (rfl)))) (oM rfl (oY (d := 57) rfl rfl (vr (.bool (true)) rfl) (Yk.move T4 ?_)))))))))
 have hDc := hD2
 refine oY (d := 57) rfl rfl (vr (.bool (true)) rfl) (Yk.callA3 dwc_pl13 (vr (PQ g2 0) rfl) (vr (St (([] : List UInt8))) rfl) (vr (Value.slice none 0 0) rfl) ((Calls.res (hDc.append [] ((Value.slice none 0 0)) [] (RB.nil _) (.inl rfl) (by decide) aw_l6) (show (appendD (awF) [] []).2 = 10 from by kernel_rfl)).mono ?_))
 rintro e w98 ⟨H95, rfl, hD96, hC97⟩
 refine ⟨_, rfl, ?_⟩
 have hE : Ext w w98 := hwb2.trans hD96.ext
 have hA57 : Ext w55 w98 := hD96.ext
 clear hD2
 clear hr90
 have hD2 := hD96
 refine oY (d := 57) rfl rfl (vr (.bool (true)) rfl) (Yk.eqI (a := (10 : Nat)) (b := (10 : Nat)) rfl rfl (k_eql _ _ _ _) (oS rfl (Yk.pickT (vr (.bool (true)) rfl) (vr (.bool (true)) (congrArg Value.bool (decide_eq_true (rfl)))) (oA rfl (oZ (tN (hK94 _ _ (wpF_ret (postF_ret (fn := Try.f16) _ rfl [.bool (true)] (.bool (true)) rfl ⟨rfl, trivial⟩ ?_)))))))))
 exact ⟨rfl, hE⟩

open Go.RowKit
set_option maxRecDepth 100000
set_option linter.unusedVariables false
set_option linter.unusedSimpArgs false
def renC (x : List UInt8 × Nat) : List Value := St (x.1) :: NI (x.2) :: []
theorem ren_len (x : List UInt8 × Nat) : (renC x).length = 2 := by simp [renC, Lib.byteCells_length]
theorem ren_one {x : List UInt8 × Nat} : ∀ u ∈ renC x, u.oneCell' = true := by
  intro u hu
  simp only [renC, List.mem_cons, List.mem_append, List.not_mem_nil, or_false] at hu
  rcases hu with rfl | rfl
  · rfl
  · rfl
theorem ren_g0 (x : List UInt8 × Nat) : (renC x)[0]? = some (St (x.1)) := by
  rfl
theorem ren_f0 (x : List UInt8 × Nat) : ((renC x).drop 0).take 1 = [St (x.1)] := by
  exact take1 (ren_g0 x)
theorem ren_g1 (x : List UInt8 × Nat) : (renC x)[1]? = some (NI (x.2)) := by
  rfl
theorem ren_f1 (x : List UInt8 × Nat) : ((renC x).drop 1).take 1 = [NI (x.2)] := by
  exact take1 (ren_g1 x)
def racC (x : ActD) : List Value := St (x.frm) :: St (x.to) :: NI (x.file) :: []
theorem rac_len (x : ActD) : (racC x).length = 3 := by simp [racC, Lib.byteCells_length]
theorem rac_one {x : ActD} : ∀ u ∈ racC x, u.oneCell' = true := by
  intro u hu
  simp only [racC, List.mem_cons, List.mem_append, List.not_mem_nil, or_false] at hu
  rcases hu with rfl | rfl | rfl
  · rfl
  · rfl
  · rfl
theorem rac_g0 (x : ActD) : (racC x)[0]? = some (St (x.frm)) := by
  rfl
theorem rac_g1 (x : ActD) : (racC x)[1]? = some (St (x.to)) := by
  rfl
theorem rac_s1 (x : ActD) (v : Bs) : (racC x).set 1 (St (v)) = racC ({ x with to := v }) := by
  rfl
theorem rac_g2 (x : ActD) : (racC x)[2]? = some (NI (x.file)) := by
  rfl
structure Rdk where
  made : Bool
  quota : Int
  files : List Bs
  synced : List Int
  now : Dir
  kept : Dir
  acts : List ActD
  refused : Nat
  arm : Nat
  down : Bool
structure RdkW where
  files : Value
  synced : Value
  now : Value
  kept : Value
  acts : Value
abbrev RdkV := Rdk × RdkW
def rdkC (x : RdkV) : List Value := .bool (x.1.made) :: .int .i64 (x.1.quota) :: x.2.files :: x.2.synced :: x.2.now :: x.2.kept :: x.2.acts :: NI (x.1.refused) :: NI (x.1.arm) :: .bool (x.1.down) :: []
theorem rdk_len (x : RdkV) : (rdkC x).length = 10 := by simp [rdkC, Lib.byteCells_length]
theorem rdk_one {x : RdkV} (h0 : x.2.files.oneCell' = true) (h1 : x.2.synced.oneCell' = true) (h2 : x.2.now.oneCell' = true) (h3 : x.2.kept.oneCell' = true) (h4 : x.2.acts.oneCell' = true) : ∀ u ∈ rdkC x, u.oneCell' = true := by
  intro u hu
  simp only [rdkC, List.mem_cons, List.mem_append, List.not_mem_nil, or_false] at hu
  rcases hu with rfl | rfl | rfl | rfl | rfl | rfl | rfl | rfl | rfl | rfl
  · rfl
  · rfl
  · exact h0
  · exact h1
  · exact h2
  · exact h3
  · exact h4
  · rfl
  · rfl
  · rfl
theorem rdk_g0 (x : RdkV) : (rdkC x)[0]? = some (.bool (x.1.made)) := by
  rfl
theorem rdk_g1 (x : RdkV) : (rdkC x)[1]? = some (.int .i64 (x.1.quota)) := by
  rfl
theorem rdk_g2 (x : RdkV) : (rdkC x)[2]? = some (x.2.files) := by
  rfl
theorem rdk_s2 (x : RdkV) (v : Value) (l : List Bs) : (rdkC x).set 2 (v) = rdkC (({ x.1 with files := l }, { x.2 with files := v })) := by
  rfl
theorem rdk_g3 (x : RdkV) : (rdkC x)[3]? = some (x.2.synced) := by
  rfl
theorem rdk_s3 (x : RdkV) (v : Value) (l : List Int) : (rdkC x).set 3 (v) = rdkC (({ x.1 with synced := l }, { x.2 with synced := v })) := by
  rfl
theorem rdk_g4 (x : RdkV) : (rdkC x)[4]? = some (x.2.now) := by
  rfl
theorem rdk_s4 (x : RdkV) (v : Value) (l : Dir) : (rdkC x).set 4 (v) = rdkC (({ x.1 with now := l }, { x.2 with now := v })) := by
  rfl
theorem rdk_g5 (x : RdkV) : (rdkC x)[5]? = some (x.2.kept) := by
  rfl
theorem rdk_s5 (x : RdkV) (v : Value) (l : Dir) : (rdkC x).set 5 (v) = rdkC (({ x.1 with kept := l }, { x.2 with kept := v })) := by
  rfl
theorem rdk_g6 (x : RdkV) : (rdkC x)[6]? = some (x.2.acts) := by
  rfl
theorem rdk_s6 (x : RdkV) (v : Value) (l : List ActD) : (rdkC x).set 6 (v) = rdkC (({ x.1 with acts := l }, { x.2 with acts := v })) := by
  rfl
theorem rdk_g7 (x : RdkV) : (rdkC x)[7]? = some (NI (x.1.refused)) := by
  rfl
theorem rdk_s7 (x : RdkV) (v : Nat) : (rdkC x).set 7 (NI (v)) = rdkC (({ x.1 with refused := v }, x.2)) := by
  rfl
theorem rdk_g8 (x : RdkV) : (rdkC x)[8]? = some (NI (x.1.arm)) := by
  rfl
theorem rdk_s8 (x : RdkV) (v : Nat) : (rdkC x).set 8 (NI (v)) = rdkC (({ x.1 with arm := v }, x.2)) := by
  rfl
theorem rdk_g9 (x : RdkV) : (rdkC x)[9]? = some (.bool (x.1.down)) := by
  rfl
theorem rdk_s9 (x : RdkV) (v : Bool) : (rdkC x).set 9 (.bool (v)) = rdkC (({ x.1 with down := v }, x.2)) := by
  rfl
open Go.RowKit
set_option linter.unusedVariables false
def refP (D : Dsk) : Rdk := ⟨true, ((D.quota : Nat) : Int), D.files.map Prod.fst, D.files.map fun x => ((x.2 : Nat) : Int), D.now, D.kept, D.acts, D.refused, D.arm, D.down⟩
theorem RG.chg {α : Type} {k : Nat} {enc : α → List Value} {w w' : World} {v : Value} {l : List α} {B : Nat → Prop} (h : RG k enc w v l) (hc : Chg B w w') (hB : l = [] ∨ ∀ i, v.ownBlock = some i → ¬ B i) : RG k enc w' v l := by
  rcases hB with rfl | hB
  · exact rg_nil_any h
  · obtain ⟨h0, h1, ao, cap, rfl, h2, h3, h4, h5⟩ := h
    refine ⟨h0, h1, ao, cap, rfl, h2, h3, h4, fun a ha j u hu => ?_⟩
    have hl := h5 a ha j u hu
    have hlt := World.block_lt_of_cell? w _ hl
    have hn : ¬ B (a.add j).block := hB _ (by rw [ha]; obtain ⟨a1, a2, a3⟩ := a; simp only [Value.ownBlock, Addr.add]; split <;> rfl)
    have hb := hc.blk _ hlt hn
    unfold World.cell? at hl ⊢
    rw [hb]
    exact hl
def RgP (P : Nat → Prop) {α : Type} (k : Nat) (enc : α → List Value) (w : World) (v : Value) (l : List α) : Prop := RG k enc w v l ∧ (l = [] ∨ ∃ b, v.ownBlock = some b ∧ b < w.heap.size ∧ P b)
theorem RgP.keep {P : Nat → Prop} {α : Type} {k : Nat} {enc : α → List Value} {w w' : World} {v : Value} {l : List α} (h : RgP P k enc w v l) (hE : Ext w w') : RgP P k enc w' v l :=
  ⟨h.1.keep hE, h.2.imp id fun ⟨b, q1, q2, q3⟩ => ⟨b, q1, Nat.lt_of_lt_of_le q2 hE.size, q3⟩⟩
theorem RgP.chg {P P' B : Nat → Prop} {α : Type} {k : Nat} {enc : α → List Value} {w w' : World} {v : Value} {l : List α} (h : RgP P k enc w v l) (hc : Chg B w w') (hB : ∀ b, b < w.heap.size → P b → ¬ B b ∧ P' b) : RgP P' k enc w' v l :=
  ⟨h.1.chg hc (h.2.imp id fun ⟨b, q1, q2, q3⟩ i hi => by rw [q1] at hi; cases hi; exact (hB _ q2 q3).1), h.2.imp id fun ⟨b, q1, q2, q3⟩ => ⟨b, q1, Nat.lt_of_lt_of_le q2 hc.size, (hB b q2 q3).2⟩⟩
theorem RgP.own {P : Nat → Prop} {α : Type} {k base : Nat} {t : TypeId} {enc : α → List Value} {w : World} {v : Value} {l : List α} (h : OG base t k enc w v l) (hk : 0 < k) (hP : ∀ b, base ≤ b → P b) : RgP P k enc w v l := by
  refine ⟨RG.ofOwn h, ?_⟩
  rcases h.2.2 with ⟨-, h0⟩ | ⟨g, cap, cur, rfl, hb, hc, -⟩
  · exact .inl (List.eq_nil_of_length_eq_zero h0)
  · exact .inr ⟨g, rfl, (Array.getElem?_eq_some_iff.1 hc).1, hP g (h.2.lt g rfl).1⟩
structure RowsP (P : Nat → Prop) (w : World) (vs : List Value) (ls : List (List UInt8)) : Prop where
  len : vs.length = ls.length
  at_ : ∀ i, i < ls.length → RB w (vs.getD i undef) (ls.getD i []) ∧ (ls.getD i [] = [] ∨ ∃ b, (vs.getD i undef).ownBlock = some b ∧ b < w.heap.size ∧ P b)
theorem RowsP.keep {P : Nat → Prop} {w w' : World} {vs : List Value} {ls : List (List UInt8)} (h : RowsP P w vs ls) (hE : Ext w w') : RowsP P w' vs ls :=
  ⟨h.len, fun i hi => ⟨(h.at_ i hi).1.keep hE, (h.at_ i hi).2.imp id fun ⟨b, q1, q2, q3⟩ => ⟨b, q1, Nat.lt_of_lt_of_le q2 hE.size, q3⟩⟩⟩
theorem RowsP.chg {P P' B : Nat → Prop} {w w' : World} {vs : List Value} {ls : List (List UInt8)} (h : RowsP P w vs ls) (hc : Chg B w w') (hB : ∀ b, b < w.heap.size → P b → ¬ B b ∧ P' b) : RowsP P' w' vs ls :=
  ⟨h.len, fun i hi => ⟨(h.at_ i hi).1.chg hc ((h.at_ i hi).2.imp id fun ⟨b, q1, q2, q3⟩ i hi => by rw [q1] at hi; cases hi; exact (hB _ q2 q3).1), (h.at_ i hi).2.imp id fun ⟨b, q1, q2, q3⟩ => ⟨b, q1, Nat.lt_of_lt_of_le q2 hc.size, (hB b q2 q3).2⟩⟩⟩
structure RowsO (base : Nat) (w : World) (vs : List Value) (ls : List (List UInt8)) : Prop where
  len : vs.length = ls.length
  own : ∀ i, i < ls.length → w.ownsRow base 5 1 (vs.getD i undef) (ls.getD i []).length (Lib.byteCells (ls.getD i []))
  apart : ∀ i j, i < ls.length → j < ls.length → i ≠ j → ∀ x, (vs.getD i undef).ownBlock = some x → (vs.getD j undef).ownBlock ≠ some x
theorem RowsO.nil (base : Nat) (w : World) : RowsO base w [] [] := ⟨rfl, fun i h => absurd h (Nat.not_lt_zero _), fun i j h => absurd h (Nat.not_lt_zero _)⟩
theorem RowsO.chg {B : Nat → Prop} {base : Nat} {w w' : World} {vs : List Value} {ls : List (List UInt8)} (h : RowsO base w vs ls) (hc : Chg B w w') (hB : ∀ i, i < ls.length → ∀ x, (vs.getD i undef).ownBlock = some x → ¬ B x) : RowsO base w' vs ls :=
  ⟨h.len, fun i hi => ownsRow_chg hc (h.own i hi) (hB i hi), h.apart⟩
theorem RowsO.keep {base : Nat} {w w' : World} {vs : List Value} {ls : List (List UInt8)} (h : RowsO base w vs ls) (hE : Ext w w') : RowsO base w' vs ls := h.chg (B := fun _ => False) (Chg.ofExt hE) fun _ _ _ _ q => q
theorem RowsO.grew {base : Nat} {w w' : World} {vs : List Value} {ls : List (List UInt8)} (h : RowsO base w vs ls) {v v' : Value} (hg : Grew w w' v v') {b k n : Nat} {t : TypeId} {xs : List Value} (hv : w.ownsRow b t k v n xs) (ht : t ≠ 5) : RowsO base w' vs ls :=
  h.chg (B := fun i => v.ownBlock = some i) (Chg.ofGrown hg.by_ fun i e => .inl e) fun i hi x hx e => tag_ne (tag_own (h.own i hi) hx) (tag_own hv e) (fun q => ht (by simpa using q.symm)) rfl
theorem RowsO.set {base : Nat} {w w' : World} {vs : List Value} {ls : List (List UInt8)} (h : RowsO base w vs ls) {g : Nat} (hg : w.grownBy w' (some g)) {cs : Array Value} {t : TypeId} {fr : Nat × Nat} (hb : w.heap[g]? = some (.cells cs t fr)) (ht : t ≠ 5) : RowsO base w' vs ls :=
  h.chg (B := fun i => i = g) (Chg.ofGrown hg fun i e => .inl (Option.some.inj e).symm) fun i hi x hx e => tag_ne (tag_own (h.own i hi) hx) (tag_cells hb) (fun q => ht (by simpa using q.symm)) e
theorem getD_snocV {l : List Value} {v : Value} : (l ++ [v]).getD l.length undef = v := by simp [List.getD_eq_getElem?_getD]
theorem RowsO.snoc {base : Nat} {w : World} {vs : List Value} {ls : List (List UInt8)} (h : RowsO base w vs ls) {v : Value} {l : List UInt8} (hv : w.ownsRow base 5 1 v l.length (Lib.byteCells l)) (ha : ∀ i, i < ls.length → ∀ x, (vs.getD i undef).ownBlock = some x → v.ownBlock ≠ some x) : RowsO base w (vs ++ [v]) (ls ++ [l]) := by
  have hl := h.len
  have e1 : ∀ {i}, i < ls.length → (vs ++ [v]).getD i undef = vs.getD i undef := fun {i} hi => by rw [List.getD_eq_getElem?_getD, List.getElem?_append_left (by omega), ← List.getD_eq_getElem?_getD]
  have e2 : (vs ++ [v]).getD ls.length undef = v := by rw [← hl]; exact getD_snocV
  have e3 : ∀ {i}, i < ls.length → (ls ++ [l]).getD i [] = ls.getD i [] := fun {i} hi => by rw [List.getD_eq_getElem?_getD, List.getElem?_append_left hi, ← List.getD_eq_getElem?_getD]
  have e4 : (ls ++ [l]).getD ls.length [] = l := by simp [List.getD_eq_getElem?_getD]
  refine ⟨by simp [hl], fun i hi => ?_, fun i j hi hj hne x hx => ?_⟩
  · rw [List.length_append, List.length_singleton] at hi
    by_cases q : i = ls.length
    · subst q
      rw [e2, e4]
      exact hv
    · rw [e1 (by omega), e3 (by omega)]
      exact h.own i (by omega)
  · rw [List.length_append, List.length_singleton] at hi hj
    by_cases qi : i = ls.length <;> by_cases qj : j = ls.length
    · omega
    · subst qi
      rw [e2] at hx
      rw [e1 (by omega)]
      exact fun y => ha j (by omega) x y hx
    · subst qj
      rw [e1 (by omega)] at hx
      rw [e2]
      exact ha i (by omega) x hx
    · rw [e1 (by omega)] at hx ⊢
      exact h.apart i j (by omega) (by omega) hne x hx
theorem RowsO.rows {P : Nat → Prop} {base : Nat} {w : World} {vs : List Value} {ls : List (List UInt8)} (h : RowsO base w vs ls) (hP : ∀ b, base ≤ b → P b) : RowsP P w vs ls :=
  ⟨h.len, fun i hi => ⟨RB.ofOwn (h.own i hi), by
    rcases (h.own i hi).2 with ⟨-, h0⟩ | ⟨g, cap, cur, e, hb, hc, -⟩
    · exact .inl (List.eq_nil_of_length_eq_zero h0)
    · have e1 : (vs.getD i undef).ownBlock = some g := by rw [e]; rfl
      exact .inr ⟨g, e1, (Array.getElem?_eq_some_iff.1 hc).1, hP g ((h.own i hi).lt g e1).1⟩⟩⟩
structure RdAt (P : Nat → Prop) (w : World) (D : Dsk) (V : RdkW) : Prop where
  files : ∃ vs, RowsP P w vs (D.files.map Prod.fst) ∧ RgP P 1 enV w V.files vs
  synced : RgP P 1 enI w V.synced (D.files.map fun x => ((x.2 : Nat) : Int))
  now : RgP P 2 renC w V.now D.now
  kept : RgP P 2 renC w V.kept D.kept
  acts : RgP P 3 racC w V.acts D.acts
structure RdO (base : Nat) (w : World) (D : Dsk) (V : RdkW) : Prop where
  files : ∃ vs, RowsO base w vs (D.files.map Prod.fst) ∧ OG base 24 1 enV w V.files vs
  synced : OG base 3 1 enI w V.synced (D.files.map fun x => ((x.2 : Nat) : Int))
  now : OG base 89 2 renC w V.now D.now
  kept : OG base 89 2 renC w V.kept D.kept
  acts : OG base 98 3 racC w V.acts D.acts
section
variable {P P' B : Nat → Prop} {w w' : World} {D : Dsk} {V : RdkW}
theorem RdAt.keep (h : RdAt P w D V) (hE : Ext w w') : RdAt P w' D V := by
  obtain ⟨vs, h1, h2⟩ := h.files
  exact ⟨⟨vs, h1.keep hE, h2.keep hE⟩, h.synced.keep hE, h.now.keep hE, h.kept.keep hE, h.acts.keep hE⟩
theorem RdAt.chg (h : RdAt P w D V) (hc : Chg B w w') (hB : ∀ b, b < w.heap.size → P b → ¬ B b ∧ P' b) : RdAt P' w' D V := by
  obtain ⟨vs, h1, h2⟩ := h.files
  exact ⟨⟨vs, h1.chg hc hB, h2.chg hc hB⟩, h.synced.chg hc hB, h.now.chg hc hB, h.kept.chg hc hB, h.acts.chg hc hB⟩
theorem RdO.at_ {base : Nat} (h : RdO base w D V) (hP : ∀ b, base ≤ b → P b) : RdAt P w D V := by
  obtain ⟨vs, h1, h2⟩ := h.files
  exact ⟨⟨vs, h1.rows hP, RgP.own h2 (by decide) hP⟩, RgP.own h.synced (by decide) hP, RgP.own h.now (by decide) hP, RgP.own h.kept (by decide) hP, RgP.own h.acts (by decide) hP⟩
end
theorem lookD_first {l : Dir} {s : List UInt8} {i : Nat} (hi : i < l.length) (hb : ∀ e ∈ l.take i, e.1 ≠ s) (he : (l.getD i ([], 0)).1 = s) : lookD l s = some (l.getD i ([], 0)).2 := by
  have e1 : l = l.take i ++ l.getD i ([], 0) :: l.drop (i + 1) := by
    rw [List.getD_eq_getElem?_getD, List.getElem?_eq_getElem hi]
    simp
  rw [e1, look_app, look_none.2 (by intro e h; exact hb e h), Option.none_or, look_cons]
  rw [← e1, if_pos he]
def lookZ (l : Dir) (s : List UInt8) : Int := match lookD l s with | some k => ((k : Nat) : Int) | none => -1
theorem lookZ_some {l : Dir} {s : List UInt8} {k : Nat} (h : lookD l s = some k) : lookZ l s = ((k : Nat) : Int) := by unfold lookZ; rw [h]
theorem lookZ_none {l : Dir} {s : List UInt8} (h : lookD l s = none) : lookZ l s = -1 := by unfold lookZ; rw [h]
theorem tmod_up (x : Int) (m : Nat) : ((Int.emod x ((m + 1 : Nat) : Int)).toNat : Int) = if Int.tmod x ((m + 1 : Nat) : Int) < 0 then Int.tmod x ((m + 1 : Nat) : Int) + ((m + 1 : Nat) : Int) else Int.tmod x ((m + 1 : Nat) : Int) := by
  have hb := tmod_bd x m
  have h3 : Int.tmod x ((m + 1 : Nat) : Int) = x - ((m + 1 : Nat) : Int) * Int.tdiv x ((m + 1 : Nat) : Int) := Int.tmod_def _ _
  have h5 : 0 ≤ Int.emod x ((m + 1 : Nat) : Int) := Int.emod_nonneg x (show ((m + 1 : Nat) : Int) ≠ 0 by omega)
  rw [Int.toNat_of_nonneg h5]
  by_cases hn : Int.tmod x ((m + 1 : Nat) : Int) < 0
  · rw [if_pos hn]
    have e : Int.tmod x ((m + 1 : Nat) : Int) + ((m + 1 : Nat) : Int) = x + ((m + 1 : Nat) : Int) * (1 - Int.tdiv x ((m + 1 : Nat) : Int)) := by
      rw [h3, Int.mul_sub, Int.mul_one]
      omega
    have h6 : (Int.tmod x ((m + 1 : Nat) : Int) + ((m + 1 : Nat) : Int)) % ((m + 1 : Nat) : Int) = x % ((m + 1 : Nat) : Int) := by rw [e, Int.add_mul_emod_self_left]
    rw [Int.emod_eq_of_lt (by omega) (by omega)] at h6
    exact h6.symm
  · rw [if_neg hn]
    have e : Int.tmod x ((m + 1 : Nat) : Int) = x + ((m + 1 : Nat) : Int) * (- Int.tdiv x ((m + 1 : Nat) : Int)) := by
      rw [h3, Int.mul_neg]
      omega
    have h6 : (Int.tmod x ((m + 1 : Nat) : Int)) % ((m + 1 : Nat) : Int) = x % ((m + 1 : Nat) : Int) := by
      rw [e, Int.add_mul_emod_self_left]
    rw [Int.emod_eq_of_lt (by omega) (by omega)] at h6
    exact h6.symm
open Go.RowKit
theorem getD_memO {α : Type} {l : List α} {i : Nat} (d : α) (h : i < l.length) : l.getD i d ∈ l := by rw [List.getD_eq_getElem?_getD, List.getElem?_eq_getElem h]; exact List.getElem_mem h
theorem flatMap_len {α : Type} {enc : α → List Value} {k : Nat} : ∀ (l : List α) (_ : ∀ x ∈ l, (enc x).length = k), (l.flatMap enc).length = l.length * k
  | [], _ => by simp
  | a :: l, h => by rw [List.flatMap_cons, List.length_append, h a (by simp), flatMap_len l (fun x hx => h x (by simp [hx])), List.length_cons, Nat.succ_mul, Nat.add_comm]
theorem flatMap_cut {α : Type} {enc : α → List Value} {k : Nat} (d : α) : ∀ (l : List α) (i : Nat) (x : α) (_ : ∀ y ∈ l, (enc y).length = k) (_ : i < l.length),
    l.flatMap enc = (l.take i).flatMap enc ++ enc (l.getD i d) ++ (l.drop (i + 1)).flatMap enc ∧ (l.set i x).flatMap enc = (l.take i).flatMap enc ++ enc x ++ (l.drop (i + 1)).flatMap enc
  | [], _, _, _, h => by simp at h
  | a :: l, 0, x, _, _ => by simp
  | a :: l, i + 1, x, h, hi => by
    obtain ⟨h1, h2⟩ := flatMap_cut d l i x (fun y hy => h y (by simp [hy])) (by simpa using hi)
    constructor
    · rw [List.flatMap_cons, h1]; simp
    · rw [List.set_cons_succ, List.flatMap_cons, h2]; simp
theorem OG.block {α : Type} {b k : Nat} {t : TypeId} {enc : α → List Value} {w : World} {v : Value} {l : List α} (h : OG b t k enc w v l) {i : Nat} (hi : i < l.length) : ∃ g, v.ownBlock = some g := by
  obtain ⟨-, -, ⟨-, h⟩ | ⟨g, cap, cur, rfl, -⟩⟩ := h
  · omega
  · exact ⟨g, rfl⟩
theorem own_block {b : Nat} {t : TypeId} {w : World} {v : Value} {n z : Nat} {xs : List Value} (h : w.ownsRow b t z v n xs) {i : Nat} (hi : i < n) : ∃ g, v.ownBlock = some g := by
  obtain ⟨-, ⟨-, h⟩ | ⟨g, cap, cur, rfl, -⟩⟩ := h
  · omega
  · exact ⟨g, rfl⟩
section
variable {P : Program} {K : Value → World → Prop} {ρ : Slots} {w : World} {d : Option Tmp} {ty : TypeId} {pos : String} {af : Array Edge} {gd : Option (Nat × Bool)}
theorem Yk.atOwnK {k : Nat} {t e : TypeId} (ht : P.underlying t = some (.slice e)) (he : ∀ w' : World, (sizeOf e).run P w' = .ok k w') {b n g : Nat} {xs : List Value} {e' : TypeId} {v : Value} {x y : Operand} (hx : evalR ρ x = v) (h : w.ownsRow b e' k v n xs) (hg : v.ownBlock = some g) {kd : IntKind} {i : Nat} (hy : evalR ρ y = .int kd (i : Int)) (hi : i < n)
    (hk : K (PQ g (i * k)) w) : Yk P K ((execOp (evalR ρ) ⟨d, .indexAddr t x y, ty, pos, af, gd⟩).run P w) := by
  obtain ⟨-, ⟨-, h0⟩ | ⟨g', cap, cur, rfl, -⟩⟩ := h
  · omega
  · obtain rfl : g' = g := by simpa [Value.ownBlock] using hg
    refine Yk.value (v := PQ g' (i * k)) (w' := w) ?_ hk
    have hE : P.elem t = e := by simp [Program.elem, ht]
    have hr := run_indexAt_slice (P := P) w t ⟨g', 0, none⟩ n cap kd (i : Int) (by rw [hE]; exact ht)
    rw [if_pos (by omega), hE, he] at hr
    unfold execOp
    simp only [hx, hy, Sem.run_bind, hr, Result.andThen_ok, Sem.run_pure]
    simp [Addr.add_lit]
end
open Go.RowKit
section
variable {P : Program}
theorem run_reslice_readsW {t e : TypeId} {size : Nat} (ht : P.underlying t = some (.slice e)) (he : ∀ w' : World, (sizeOf e).run P w' = .ok size w') {w : World} {v : Value} {n : Nat} {xs : List Value} (hr : Reads w size v n xs) (lo hi : Option Value) (l h : Nat) (hlh : l ≤ h) (hn : h ≤ n)
    (hlo : lo = none ∧ l = 0 ∨ ∃ k, lo = some (.int k l)) (hhi : hi = none ∧ h = n ∨ ∃ k, hi = some (.int k h)) :
    ∃ ao c, ((∀ w : World, (Instr.sliceAt t v lo hi none).run P w = .ok (.slice ao (h - l) c) w) ∧ (Value.slice ao (h - l) c).ownBlock = v.ownBlock) ∧ Reads w size (.slice ao (h - l) c) (h - l) ((xs.drop (l * size)).take ((h - l) * size)) := by
  obtain ⟨h1, ao, cap, rfl, h2, h3, h4, h5⟩ := hr
  have hE : P.elem t = e := by simp [Program.elem, ht]
  have ht' : P.underlying t = some (.slice (P.elem t)) := by rw [hE]; exact ht
  refine ⟨if cap = l then ao else ao.map (·.add (l * size)), cap - l, ⟨?_, ?_⟩, ?_, _, _, rfl, by omega, by omega, ?_, ?_⟩
  · intro w
    rw [run_sliceAt_slice (P := P) w t _ _ _ _ ht']
    have hl' : (l : Int) ≤ (h : Int) := by omega
    have hh' : (h : Int) ≤ (cap : Int) := by omega
    have hn' : (l : Int) ≤ (n : Int) := by omega
    rcases hlo with ⟨rfl, rfl⟩ | ⟨k, rfl⟩ <;> rcases hhi with ⟨rfl, rfl⟩ | ⟨k', rfl⟩
    · rw [run_slice_all (P := P) w t ao h cap ht', hE, he]
      simp [Result.andThen, sliced]
    · rw [run_slice_h (P := P) w t ao n cap ht' k' h (by omega) hh', hE, he]
      simp [Result.andThen, sliced]
    · rw [run_slice_l (P := P) w t ao h cap ht' k l (by omega) hl', hE, he]
      simp [Result.andThen, sliced]
    · rw [run_slice_lh (P := P) w t ao n cap ht' k k' l h (by omega) hl' hh', hE, he]
      simp [Result.andThen, sliced]
  · cases ao with
    | none => simp [Value.ownBlock]
    | some x =>
      split
      · rfl
      · simp only [Option.map_some, Value.ownBlock, Option.some.injEq]
        unfold Addr.add
        split <;> rfl
  · rw [List.length_take, List.length_drop, h1]
    have : (h - l) * size ≤ n * size - l * size := by rw [← Nat.sub_mul]; exact Nat.mul_le_mul_right _ (by omega)
    omega
  · intro hnone
    have : ao = none := by
      cases ao with
      | none => rfl
      | some x => split at hnone <;> simp at hnone
    obtain ⟨h6, h7⟩ := h4 this
    omega
  · intro a ha j u hu
    have hj : j < ((xs.drop (l * size)).take ((h - l) * size)).length := (List.getElem?_eq_some_iff.1 hu).1
    have hj2 : j < (h - l) * size := by rw [List.length_take] at hj; omega
    have hhl : h - l ≠ 0 := fun e => by rw [e] at hj2; simp at hj2
    rw [if_neg (by omega)] at ha
    cases ao with
    | none => simp at ha
    | some x =>
      simp at ha
      subst ha
      rw [addr_add_add]
      refine h5 x rfl _ _ ?_
      rw [List.getElem?_take, if_pos hj2, List.getElem?_drop] at hu
      exact hu
end
section
variable {P : Program} {K : Value → World → Prop} {ρ : Slots} {w w0 : World} {d : Option Tmp} {ty : TypeId} {pos : String} {af : Array Edge} {gd : Option (Nat × Bool)}
variable {α : Type} {k : Nat} {enc : α → List Value} {t e : TypeId}
theorem Yk.sliceLoW (ht : P.underlying t = some (.slice e)) (he : ∀ w' : World, (sizeOf e).run P w' = .ok k w') {x lo : Operand} {v : Value} {xs : List α} (hx : evalR ρ x = v) (h : RG k enc w0 v xs) {kd : IntKind} {l : Nat} (hlo : evalR ρ lo = .int kd (l : Int)) (hl : l ≤ xs.length)
    (hk : ∀ v', RG k enc w0 v' (xs.drop l) → v'.ownBlock = v.ownBlock → K v' w) : Yk P K ((execOp (evalR ρ) ⟨d, .slice t x (some lo) none none, ty, pos, af, gd⟩).run P w) := by
  obtain ⟨ao, c, ⟨hrun, hb⟩, hR⟩ := run_reslice_readsW ht he h.2 (some (.int kd l)) none l xs.length hl (Nat.le_refl _) (.inr ⟨kd, rfl⟩) (.inl ⟨rfl, rfl⟩)
  have hR' := RG.cut h.1 hl (Nat.le_refl _) hR
  rw [List.take_of_length_le (by rw [List.length_drop]; exact Nat.le_refl _)] at hR'
  refine Yk.value (v := .slice ao (xs.length - l) c) (w' := w) ?_ (hk _ hR' hb)
  unfold execOp
  simp only [hx, hlo, Option.map_some, Option.map_none, hrun, Sem.run_bind, Sem.run_pure, Result.andThen_ok]
theorem Yk.sliceHiW (ht : P.underlying t = some (.slice e)) (he : ∀ w' : World, (sizeOf e).run P w' = .ok k w') {x hi : Operand} {v : Value} {xs : List α} (hx : evalR ρ x = v) (h : RG k enc w0 v xs) {kd : IntKind} {n : Nat} (hhi : evalR ρ hi = .int kd (n : Int)) (hl : n ≤ xs.length)
    (hk : ∀ v', RG k enc w0 v' (xs.take n) → v'.ownBlock = v.ownBlock → K v' w) : Yk P K ((execOp (evalR ρ) ⟨d, .slice t x none (some hi) none, ty, pos, af, gd⟩).run P w) := by
  obtain ⟨ao, c, ⟨hrun, hb⟩, hR⟩ := run_reslice_readsW ht he h.2 none (some (.int kd n)) 0 n (Nat.zero_le _) hl (.inl ⟨rfl, rfl⟩) (.inr ⟨kd, rfl⟩)
  have hR' := RG.cut h.1 (Nat.zero_le _) hl hR
  rw [List.drop_zero, Nat.sub_zero] at hR'
  refine Yk.value (v := .slice ao (n - 0) c) (w' := w) ?_ (hk _ hR' hb)
  unfold execOp
  simp only [hx, hhi, Option.map_some, Option.map_none, hrun, Sem.run_bind, Sem.run_pure, Result.andThen_ok]
end
open Go.RowKit
set_option maxRecDepth 100000
set_option linter.unusedVariables false
set_option linter.unusedSimpArgs false
theorem ne_step {l : Dir} {s : List UInt8} {i : Nat} (hi : i < l.length) (hq : ∀ e ∈ l.take i, e.1 ≠ s) (hn : ¬ (l.getD i ([], 0)).1 = s) : ∀ e ∈ l.take (i + 1), e.1 ≠ s := by
 rw [List.take_succ_eq_append_getElem hi]
 rw [List.getD_eq_getElem?_getD, List.getElem?_eq_getElem hi] at hn
 intro e he
 rcases List.mem_append.1 he with he | he
 ·exact hq e he
 ·rw [List.mem_singleton.1 he]; exact hn
theorem lt_step {l : Dir} {s : List UInt8} {i : Nat} (hi : i < l.length) (hq : ∀ e ∈ l.take i, Op.bytesLess e.1 s = true) (hn : Op.bytesLess (l.getD i ([], 0)).1 s = true) : ∀ e ∈ l.take (i + 1), Op.bytesLess e.1 s = true := by
 rw [List.take_succ_eq_append_getElem hi]
 rw [List.getD_eq_getElem?_getD, List.getElem?_eq_getElem hi] at hn
 intro e he
 rcases List.mem_append.1 he with he | he
 ·exact hq e he
 ·rw [List.mem_singleton.1 he]; exact hn
theorem wo_ne {l : Dir} {s : List UInt8} {i : Nat} (hi : i < l.length) (hn : (l.getD i ([], 0)).1 ≠ s) : woD (l.take i) s ++ [l.getD i ([], 0)] = woD (l.take (i + 1)) s := by
 unfold woD
 rw [List.take_succ_eq_append_getElem hi, List.filter_append]
 rw [List.getD_eq_getElem?_getD, List.getElem?_eq_getElem hi] at hn ⊢
 rw [List.filter_cons_of_pos (by simpa using hn)]
 rfl
theorem wo_eq {l : Dir} {s : List UInt8} {i : Nat} (hi : i < l.length) (hn : ¬ (l.getD i ([], 0)).1 ≠ s) : woD (l.take i) s = woD (l.take (i + 1)) s := by
 unfold woD
 rw [List.take_succ_eq_append_getElem hi, List.filter_append]
 rw [List.getD_eq_getElem?_getD, List.getElem?_eq_getElem hi] at hn
 rw [List.filter_cons_of_neg (by simpa using hn)]
 simp
theorem takeWhile_cut {α : Type} {f : α → Bool} : ∀ {l : List α} {i : Nat} (d : α), i ≤ l.length → (∀ e ∈ l.take i, f e = true) → (l.length = i ∨ (i < l.length ∧ f (l.getD i d) = false)) → l.takeWhile f = l.take i ∧ l.dropWhile f = l.drop i
 | [], i, d, _, _, _ => by simp
 | a :: l, 0, d, _, _, h => by
  rcases h with h | ⟨_, h⟩
  ·simp at h
  ·have h : f a = false := h
   simp [List.takeWhile_cons, List.dropWhile_cons, h]
 | a :: l, i + 1, d, hi, hq, h => by
  have ha : f a = true := hq a (by simp)
  have ih := takeWhile_cut (l := l) (i := i) (f := f) d (by simpa using hi) (fun e he => hq e (by simp [he])) (by simpa using h)
  simp [List.takeWhile_cons, List.dropWhile_cons, ha, ih.1, ih.2]
theorem ins_cut {l : Dir} {s : List UInt8} {k i : Nat} (hi : i ≤ l.length) (hq : ∀ e ∈ l.take i, Op.bytesLess e.1 s = true) (h : l.length = i ∨ (i < l.length ∧ Op.bytesLess (l.getD i ([], 0)).1 s = false)) : l.take i ++ (s, k) :: l.drop i = insD l s k := by
 obtain ⟨h1, h2⟩ := takeWhile_cut (f := fun e : List UInt8 × Nat => Op.bytesLess e.1 s) ([], 0) hi hq h
 unfold insD
 rw [h1, h2]
theorem rd1_ty47 : Try.prog.underlying 47 = some (.slice 89) := by kernel_rfl
theorem rd1_szg89 : ∀ w' : World, (sizeOf 89).run Try.prog w' = .ok 2 w' := fun _ => by kernel_rfl
theorem rd1_fo89_0 : FieldOff Try.prog 89 0 0 := fun b o w => by simp [go_sem]
theorem rd1_ty9 : Try.prog.underlying 9 = some (.string) := by kernel_rfl
theorem rd1_fo89_1 : FieldOff Try.prog 89 1 1 := fun b o w => by simp [go_sem]
theorem rd1_ty3 : Try.prog.underlying 3 = some (.int .i64) := by kernel_rfl
theorem rd1_ty89 : ∃ fs, Try.prog.underlying 89 = some (.struct fs) := struct_of (by kernel_rfl)
theorem rd1_isz89 : (Try.prog.info? 89).map (·.size) = some 2 := by kernel_rfl
theorem rd1_lh47 (c0 c1 : Value) (w : World) : (Instr.buildSlice 47 1 #[(0, .agg #[c0, c1])]).run Try.prog w = .ok (.slice (some ⟨w.heap.size, 0, none⟩) 1 1) (w.alloc (.cells #[c0, c1] 89)) := by kernel_rfl
theorem rd1_lg47 : ∀ (cs : Array Value), cs.size = 2 → ∀ w : World, (Instr.buildSlice 47 1 #[(0, .agg cs)]).run Try.prog w = .ok (.slice (some ⟨w.heap.size, 0, none⟩) 1 1) (w.alloc (.cells cs 89))
 | ⟨[c0, c1]⟩, _, w => rd1_lh47 c0 c1 w
theorem rd1_ig89 : ∃ z, (Try.prog.info? 89).map (fun i => (i.zero, i.size, i.bytes)) = some (some z, 2, 24) ∧ z.cells.size = 2 := info_ex (by kernel_rfl)
theorem rd1_fo98_0 : FieldOff Try.prog 98 0 0 := fun b o w => by simp [go_sem]
theorem rd1_pl64 : Plain Try.prog 64 := fun _ _ => by kernel_rfl
theorem rd1_fo98_1 : FieldOff Try.prog 98 1 1 := fun b o w => by simp [go_sem]
theorem rd1_fo98_2 : FieldOff Try.prog 98 2 2 := fun b o w => by simp [go_sem]
theorem rd1_bs89_0_1h (z0 : ByteArray) (z1 : Int) (w : World) : (Instr.build 89 #[(0, .string z0), (1, .int .i64 z1)]).run Try.prog w = .ok (.agg #[.string z0, .int .i64 z1]) w := by kernel_rfl
theorem rd1_bs89_0_1 (z0 : List UInt8) (z1 : Nat) (w : World) : (Instr.build 89 #[(0, St z0), (1, NI z1)]).run Try.prog w = .ok (.agg (St (z0) :: (NI (z1) :: ([]))).toArray) w := by
 exact rd1_bs89_0_1h _ _ w
set_option maxHeartbeats 1600000
theorem rlook_any (w : World) (v : Value) (l : Dir) (s : List UInt8) (hl : RG 2 (renC) w v l) (hll : l.length < 1099511627776) :
  Calls Try.prog 57 #[v, St s] w fun e w' => e = .returned (.int .i64 (lookZ l s)) ∧ Ext w w' := by
 refine calls_of_wpF (args := [v, St (s)]) Try.func57 rfl 24 rfl (Nat.le_of_ble_eq_true rfl) ?_
 intro ρ0 hb
 have T0 : ρ0 0 = (v : Value) := hb.get 0
 have T1 : ρ0 1 = (St (s) : Value) := hb.get 1
 clear hb
 have hE := Ext.refl w
 refine sk fun K1 hK1 => (wt (oA rfl (oZ (tN (hK1 _ _ (sk fun K2 hK2 => (sk fun K3 hK3 => (wt (oA rfl (oL_ [(0, v), (1, St (s)), (4, NI 0), (5, NI 0)] ⟨T0, T1, rfl, rfl, trivial⟩ fun ρ4 ⟨T0, T1, T4, T5, _⟩ => (tN (hK3 _ _ (wpF_block (wpF_loop (fun (ρ : Slots) (wz : World) => ∃ i : Nat, ρ 0 = (v : Value) ∧ ρ 1 = (St (s) : Value) ∧ ρ 5 = (NI i : Value) ∧ Ext w wz ∧ (i ≤ l.length) ∧ (∀ e ∈ l.take i, e.1 ≠ s) ∧ True) (fun ρ _ => l.length - (intOf (ρ 5)).toNat) ⟨0, T0, T1, T5, hE, Nat.zero_le _, (fun _ h => by cases h), trivial⟩ ?_))))))))))))))
 clear hE
 rintro ρ5 w6 ⟨i, T0, T1, T5, hE, hi, hq, -⟩
 have q5 := T5
 refine sk fun K7 hK7 => (sk fun K8 hK8 => (wt (oM rfl (oM rfl (oS rfl (Yk.lenRG rd1_ty47 (RG.of (hl.keep hE) T0) (oS rfl (Yk.eqI (a := (i : Nat)) (b := (l.length : Nat)) T5 rfl (k_lss _ _ _ _) (oZ (tN (hK8 _ _ ?_)))))))))))
 refine wpF_cond ((i) < (l.length)) (vr (.bool (decide ((i) < (l.length)))) rfl) (fun hc0 => ?_) (fun hc0 => ?_)
 ·have hlt : i < l.length := hc0
  refine wpF_skip (tN (hK7 _ _ (sk fun K9 hK9 => (wpF_block (sk fun K10 hK10 => (wt (oM rfl (oM rfl ?_))))))))
  have hl13 : (renC (l.getD (i) (([], 0) : List UInt8 × Nat))).length = 2 := (RG.elem (hl.keep hE) (([], 0) : List UInt8 × Nat) (by omega))
  refine oS rfl (Yk.atRG rd1_ty47 rd1_szg89 (by decide) (([], 0) : List UInt8 × Nat) (RG.of (hl.keep hE) T0) T5 (by omega) fun v11 hp12 => (oS rfl (Yk.fieldPR (n := 1) rd1_fo89_0 (PR.of hp12 (vr v11 rfl)) fun v14 hp15 => ?_)))
  have hp15 : PCell (St ((l.getD (i) (([], 0) : List UInt8 × Nat)).1)) v14 w6 := PR.pcell ((ren_f0 (l.getD (i) (([], 0) : List UInt8 × Nat))) ▸ hp15)
  refine oS rfl (Yk.loadC rd1_ty9 rfl (PCell.of hp15 (vr v14 rfl)) (oM rfl (oS rfl (Yk.eqSt (l := (l.getD (i) (([], 0) : List UInt8 × Nat)).1) (m := s) (.inl rfl) (vr (St ((l.getD (i) (([], 0) : List UInt8 × Nat)).1)) rfl) T1 (decide ((l.getD (i) (([], 0) : List UInt8 × Nat)).1 = s)) rfl (oZ ?_)))))
  clear hp12
  clear hp15
  refine tN (hK10 _ _ ?_)
  refine wpF_cond ((l.getD (i) (([], 0) : List UInt8 × Nat)).1 = s) (vr (.bool (decide ((l.getD (i) (([], 0) : List UInt8 × Nat)).1 = s))) rfl) (fun hc1 => ?_) (fun hc1 => ?_)
  ·refine sk fun K16 hK16 => (wt (oM rfl (oM rfl ?_)))
   have hl19 : (renC (l.getD (i) (([], 0) : List UInt8 × Nat))).length = 2 := (RG.elem (hl.keep hE) (([], 0) : List UInt8 × Nat) (by omega))
   refine oS rfl (Yk.atRG rd1_ty47 rd1_szg89 (by decide) (([], 0) : List UInt8 × Nat) (RG.of (hl.keep hE) T0) T5 (by omega) fun v17 hp18 => (oS rfl (Yk.fieldPR (n := 1) rd1_fo89_1 (PR.of hp18 (vr v17 rfl)) fun v20 hp21 => ?_)))
   have hp21 : PCell (NI ((l.getD (i) (([], 0) : List UInt8 × Nat)).2)) v20 w6 := PR.pcell ((ren_f1 (l.getD (i) (([], 0) : List UInt8 × Nat))) ▸ hp21)
   refine oS rfl (Yk.loadC rd1_ty3 rfl (PCell.of hp21 (vr v20 rfl)) (oA rfl (oZ ?_)))
   clear hp18
   clear hp21
   refine tN (hK16 _ _ (wpF_ret (inBlockF_ret (thenF_ret (thenF_ret (inBlockF_ret (thenF_ret (postF_ret (fn := Try.f57) _ rfl [NI ((l.getD (i) (([], 0) : List UInt8 × Nat)).2)] (NI ((l.getD (i) (([], 0) : List UInt8 × Nat)).2)) rfl ⟨rfl, trivial⟩ ?_))))))))
   exact ⟨by rw [lookZ_some (lookD_first hlt hq hc1)], hE⟩
  refine wpF_skip (bN (tN (hK9 _ _ (wt (oM rfl (oS rfl (Yk.bin (xv := NI i) (yv := NI 1) T5 rfl rfl (i64_add _ _ _ (by omega)) (oA rfl (oL_ [(0, v), (1, St (s)), (5, NI ((i) + (1)))] ⟨T0, T1, rfl, trivial⟩ fun ρ22 ⟨T0, T1, T5, _⟩ => (tN (And.intro ⟨i + 1, T0, T1, T5, hE, by omega, ne_step hlt hq hc1, trivial⟩ ?_)))))))))))
  show l.length - (intOf (ρ22 5)).toNat < l.length - (intOf (ρ5 5)).toNat
  rw [T5, q5]
  simp only [intOf, Int.toNat_natCast]; omega
 refine wpF_exit (thenF_exit (thenF_exit (inBlockF_hit (tN (hK2 _ _ (sk fun K23 hK23 => (wt (oA rfl (oZ (tN (hK23 _ _ (wpF_ret (postF_ret (fn := Try.f57) _ rfl [.int .i64 (-1 : Int)] (.int .i64 (-1 : Int)) rfl ⟨rfl, trivial⟩ ?_)))))))))))))
 have hie : i = l.length := by have h := hc0; omega
 rw [hie, List.take_length] at hq
 exact ⟨by rw [lookZ_none (look_none.2 hq)], hE⟩

theorem without_any (w : World) (v : Value) (l : Dir) (s : List UInt8) (hl : RG 2 (renC) w v l) (hll : l.length < 1099511627776) :
  Calls Try.prog 64 #[v, St s] w fun e w' => ∃ v', e = .returned v' ∧ OG w.heap.size 89 2 (renC) w' v' (woD l s) ∧ Ext w w' := by
 refine calls_of_wpF (args := [v, St (s)]) Try.func64 rfl 28 rfl (Nat.le_of_ble_eq_true rfl) ?_
 intro ρ0 hb
 have T0 : ρ0 0 = (v : Value) := hb.get 0
 have T1 : ρ0 1 = (St (s) : Value) := hb.get 1
 clear hb
 have hE := Ext.refl w
 refine sk fun K1 hK1 => (wt (oA rfl (oZ (tN (hK1 _ _ (sk fun K2 hK2 => (wt (oA rfl (oZ ?_)))))))))
 have hlw0 : w.heap.size ≤ w.heap.size := hE.size
 refine tN (hK2 _ _ (sk fun K3 hK3 => (sk fun K4 hK4 => (wt (oA rfl (oL_ [(0, v), (1, St (s)), (4, (Value.slice none 0 0)), (5, (Value.slice none 0 0)), (6, NI 0)] ⟨T0, T1, rfl, rfl, rfl, trivial⟩ fun ρ5 ⟨T0, T1, T4, T5, T6, _⟩ => ?_))))))
 have hrow0 : OG w.heap.size 89 2 (renC) w (Value.slice none 0 0) ([] : List (List UInt8 × Nat)) := OG.nil _ _ _ _ _
 refine tN (hK4 _ _ (wpF_block (wpF_loop (fun (ρ : Slots) (wz : World) => ∃ i : Nat, ∃ r : Value, ρ 0 = (v : Value) ∧ ρ 1 = (St (s) : Value) ∧ ρ 4 = ((Value.slice none 0 0) : Value) ∧ ρ 6 = (NI i : Value) ∧ ρ 5 = (r : Value) ∧ Ext w wz ∧ OG w.heap.size 89 2 (renC) wz r (woD (l.take i) s) ∧ (i ≤ l.length) ∧ True) (fun ρ _ => l.length - (intOf (ρ 6)).toNat) ⟨0, (Value.slice none 0 0), T0, T1, T4, T6, T5, hE, og_eq hrow0 (rfl), Nat.zero_le _, trivial⟩ ?_)))
 clear hrow0
 clear hE
 rintro ρ6 w7 ⟨i, r, T0, T1, T4, T6, T5, hE, hr_r, hi, -⟩
 have q6 := T6
 refine sk fun K8 hK8 => (sk fun K9 hK9 => (wt (oM rfl (oM rfl (oS rfl (Yk.lenRG rd1_ty47 (RG.of (hl.keep hE) T0) (oS rfl (Yk.eqI (a := (i : Nat)) (b := (l.length : Nat)) T6 rfl (k_lss _ _ _ _) (oZ (tN (hK9 _ _ ?_)))))))))))
 refine wpF_cond ((i) < (l.length)) (vr (.bool (decide ((i) < (l.length)))) rfl) (fun hc0 => ?_) (fun hc0 => ?_)
 ·have hlt : i < l.length := hc0
  refine wpF_skip (tN (hK8 _ _ (sk fun K10 hK10 => (wpF_block (sk fun K11 hK11 => (wt (oM rfl (oM rfl ?_))))))))
  have hl14 : (renC (l.getD (i) (([], 0) : List UInt8 × Nat))).length = 2 := (RG.elem (hl.keep hE) (([], 0) : List UInt8 × Nat) (by omega))
  refine oS rfl (Yk.atRG rd1_ty47 rd1_szg89 (by decide) (([], 0) : List UInt8 × Nat) (RG.of (hl.keep hE) T0) T6 (by omega) fun v12 hp13 => (oS rfl (Yk.fieldPR (n := 1) rd1_fo89_0 (PR.of hp13 (vr v12 rfl)) fun v15 hp16 => ?_)))
  have hp16 : PCell (St ((l.getD (i) (([], 0) : List UInt8 × Nat)).1)) v15 w7 := PR.pcell ((ren_f0 (l.getD (i) (([], 0) : List UInt8 × Nat))) ▸ hp16)
  refine oS rfl (Yk.loadC rd1_ty9 rfl (PCell.of hp16 (vr v15 rfl)) (oM rfl (oS rfl (Yk.eqSt (l := (l.getD (i) (([], 0) : List UInt8 × Nat)).1) (m := s) (.inr rfl) (vr (St ((l.getD (i) (([], 0) : List UInt8 × Nat)).1)) rfl) T1 (decide ((l.getD (i) (([], 0) : List UInt8 × Nat)).1 ≠ s)) rfl (oZ ?_)))))
  clear hp13
  clear hp16
  refine tN (hK11 _ _ ?_)
  refine wpF_cond ((l.getD (i) (([], 0) : List UInt8 × Nat)).1 ≠ s) (vr (.bool (decide ((l.getD (i) (([], 0) : List UInt8 × Nat)).1 ≠ s))) rfl) (fun hc1 => ?_) (fun hc1 => ?_)
  ·have hwl := Nat.le_trans (wo_len (l.take i) s) (List.length_take_le i l)
   refine wt (oM rfl (oM rfl (oM rfl ?_)))
   have hl19 : (renC (l.getD (i) (([], 0) : List UInt8 × Nat))).length = 2 := (RG.elem (hl.keep hE) (([], 0) : List UInt8 × Nat) (by omega))
   refine oS rfl (Yk.atRG rd1_ty47 rd1_szg89 (by decide) (([], 0) : List UInt8 × Nat) (RG.of (hl.keep hE) T0) T6 (by omega) fun v17 hp18 => (oS rfl (Yk.loadPR (PR.of hp18 (vr v17 rfl)) (rd1_ty89).choose_spec rfl (by rw [ren_len]; exact rd1_isz89) (oS rfl (Yk.lit1G (a := (l.getD (i) (([], 0) : List UInt8 × Nat))) (enc := renC) (vr (.agg (renC (l.getD (i) (([], 0) : List UInt8 × Nat))).toArray) rfl) (ren_len _) rd1_lg47 fun v20 w21 hr22 hx23 => ?_)))))
   have hE := hE.trans hx23
   have hr_r := hr_r.keep hx23
   have hp18 := PR.keep hp18 hx23
   refine oS rfl (Yk.appendRG _ _ w.heap.size _ 24 rd1_ty47 rd1_ig89.choose_spec.1 rd1_ig89.choose_spec.2 rd1_ty47 (woD (l.take i) s) ([(l.getD (i) (([], 0) : List UInt8 × Nat))]) (OG.of hr_r T5) (RG.of hr22 (vr v20 rfl)) (fun _ _ => ren_one) (by rw [List.length_singleton]; show (woD (l.take i) s).length + 1 ≤ 281474976710656; omega) (by rw [List.length_singleton]; show ((woD (l.take i) s).length + 1) * 24 ≤ 140737488355328; omega) hE.size fun v24 w25 ho26 hg27 => ?_)
   have hg27 : Grew w21 w25 r v24 := .eqv T5 hg27
   have hE := ext_grew hE hg27 hr_r.2 (Nat.le_refl _)
   clear hp18
   clear hr22
   clear hr_r
   refine oA rfl (oZ (bN (tN (hK10 _ _ (wt (oM rfl (oS rfl (Yk.bin (xv := NI i) (yv := NI 1) T6 rfl rfl (i64_add _ _ _ (by omega)) (oA rfl (oL_ [(0, v), (1, St (s)), (4, (Value.slice none 0 0)), (5, v24), (6, NI ((i) + (1)))] ⟨T0, T1, T4, rfl, rfl, trivial⟩ fun ρ28 ⟨T0, T1, T4, T5, T6, _⟩ => (tN (And.intro ⟨i + 1, v24, T0, T1, T4, T6, T5, hE, og_eq ho26 ((wo_ne hlt hc1)), by omega, trivial⟩ ?_))))))))))))
   show l.length - (intOf (ρ28 6)).toNat < l.length - (intOf (ρ6 6)).toNat
   rw [T6, q6]
   simp only [intOf, Int.toNat_natCast]; omega
  refine wpF_skip (bN (tN (hK10 _ _ (wt (oM rfl (oS rfl (Yk.bin (xv := NI i) (yv := NI 1) T6 rfl rfl (i64_add _ _ _ (by omega)) (oA rfl (oL_ [(0, v), (1, St (s)), (4, (Value.slice none 0 0)), (5, r), (6, NI ((i) + (1)))] ⟨T0, T1, T4, T5, rfl, trivial⟩ fun ρ29 ⟨T0, T1, T4, T5, T6, _⟩ => (tN (And.intro ⟨i + 1, r, T0, T1, T4, T6, T5, hE, og_eq hr_r ((wo_eq hlt hc1)), by omega, trivial⟩ ?_)))))))))))
  show l.length - (intOf (ρ29 6)).toNat < l.length - (intOf (ρ6 6)).toNat
  rw [T6, q6]
  simp only [intOf, Int.toNat_natCast]; omega
 have hie : i = l.length := by have h := hc0; omega
 refine wpF_exit (thenF_exit (thenF_exit (inBlockF_hit (tN (hK3 _ _ (sk fun K30 hK30 => (wt (oM rfl (oA rfl (oZ (tN (hK30 _ _ (wpF_ret (postF_ret (fn := Try.f64) _ rfl [r] (r) rfl ⟨T5, trivial⟩ ?_))))))))))))))
 have h := hr_r
 rw [hie, List.take_length] at h
 exact ⟨_, rfl, OG.low h hlw0, hE⟩

theorem turned_any (w : World) (v : Value) (l : Dir) (a : ActD) (hl : RG 2 (renC) w v l) (hll : l.length < 1099511627776) :
  Calls Try.prog 58 #[v, .agg (racC a).toArray] w fun e w' => ∃ v', e = .returned v' ∧ OG w.heap.size 89 2 (renC) w' v' (turnD l a) ∧ Ext w w' := by
 refine calls_of_wpF (args := [v, .agg (racC a).toArray]) Try.func58 rfl 55 rfl (Nat.le_of_ble_eq_true rfl) ?_
 intro ρ0 hb
 have T0 : ρ0 0 = (v : Value) := hb.get 0
 have T1 : ρ0 1 = (.agg (racC a).toArray : Value) := hb.get 1
 clear hb
 have hE := Ext.refl w
 refine sk fun K1 hK1 => (wt (oS rfl (Yk.box (cs := (racC a : List Value).toArray) T1 fun n2 w3 hn4 hb5 hx6 hs7 => ?_)))
 have hE := hE.trans hx6
 have hb8 := hb5; clear hb5
 have hl9 : n2 < w3.heap.size := by omega
 refine oA rfl (oZ (tN (hK1 _ _ (sk fun K10 hK10 => (wt (oM rfl (oS rfl (Yk.fieldAt rd1_fo98_0 (vr (PQ n2 0) rfl) (oS rfl (Yk.cell1 rd1_ty9 rfl (vr (PQ n2 0) rfl) (cellAt hb8 (show (racC a)[0]? = some (St (a.frm) : Value) from rac_g0 a)) ?_))))))))))
 have hA14 := Ext.refl w3
 have hea15 := hE
 have hz16 := hE.size
 refine oS rfl (Yk.callA2 rd1_pl64 T0 (vr (St (a.frm)) rfl) ((without_any _ v (l) a.frm (hl.keep hE) (hll)).mono ?_))
 rintro e w17 ⟨v11, rfl, ho12, hx13⟩
 refine ⟨_, rfl, ?_⟩
 have hap18 : OB v11 n2 := own_older ho12.2 (bl hb8)
 have hE := hE.trans hx13
 have hb8 := eb hx13 hb8
 have hA14 := hA14.trans hx13
 refine oA rfl (oZ (tN (hK10 _ _ (sk fun K19 hK19 => (sk fun K20 hK20 => (wt (oS rfl (Yk.fieldAt rd1_fo98_1 (vr (PQ n2 0) rfl) (oS rfl (Yk.cell1 rd1_ty9 rfl (vr (PQ n2 1) rfl) (cellAt hb8 (show (racC a)[1]? = some (St (a.to) : Value) from rac_g1 a)) (oS rfl (Yk.lenSt (l := a.to) rd1_ty9 (vr (St (a.to)) rfl) (oS rfl (Yk.eqI (a := ((a.to : List UInt8).length : Nat)) (b := (0 : Nat)) rfl rfl (k_eql _ _ _ _) (oZ (tN (hK20 _ _ ?_)))))))))))))))))
 refine wpF_cond (((a.to : List UInt8).length : Nat) = (0)) (vr (.bool (decide (((a.to : List UInt8).length : Nat) = (0)))) rfl) (fun hc0 => ?_) (fun hc0 => ?_)
 ·refine sk fun K21 hK21 => (wt (oM rfl (oA rfl (oZ (tN (hK21 _ _ (wpF_ret (thenF_ret (postF_ret (fn := Try.f58) _ rfl [v11] (v11) rfl ⟨rfl, trivial⟩ ?_)))))))))
  have h := ho12
  exact ⟨_, rfl, by rw [show turnD l a = woD l a.frm from if_pos hc0]; exact OG.low h (by omega), hE⟩
 refine wpF_skip (tN (hK19 _ _ (sk fun K22 hK22 => (wt (oM rfl (oS rfl (Yk.fieldAt rd1_fo98_1 (vr (PQ n2 0) rfl) (oS rfl (Yk.cell1 rd1_ty9 rfl (vr (PQ n2 1) rfl) (cellAt hb8 (show (racC a)[1]? = some (St (a.to) : Value) from rac_g1 a)) ?_)))))))))
 have hA26 := Ext.refl w17
 have hea27 := hE
 have hea28 := hA14
 have hz29 := hE.size
 have hz30 := hA14.size
 refine oS rfl (Yk.callA2 rd1_pl64 (vr v11 rfl) (vr (St (a.to)) rfl) ((without_any _ v11 (woD (l) a.frm) a.to (RG.ofOwn ho12) (Nat.lt_of_le_of_lt (wo_len _ _) hll)).mono ?_))
 rintro e w31 ⟨v23, rfl, ho24, hx25⟩
 refine ⟨_, rfl, ?_⟩
 have hap32 : OB v23 n2 := own_older ho24.2 (bl hb8)
 have hap33 : ApartV v11 v23 := apartv_new ho12.2 ho24.2
 have hap34 : ApartV v23 v11 := apartv_new' ho12.2 ho24.2
 have hE := hE.trans hx25
 have hb8 := eb hx25 hb8
 have hA14 := hA14.trans hx25
 have ho12 := ho12.keep hx25
 have hA26 := hA26.trans hx25
 refine oA rfl (oZ ?_)
 have hml := Nat.le_trans (wo_len (woD l a.frm) a.to) (wo_len l a.frm)
 refine tN (hK22 _ _ (sk fun K35 hK35 => (wt (oA rfl (oL_ [(0, v), (1, .agg (racC a).toArray), (3, PQ n2 0), (4, (Value.slice none 0 0)), (5, v23), (6, NI 0)] ⟨T0, T1, rfl, rfl, rfl, rfl, trivial⟩ fun ρ36 ⟨T0, T1, T3, T4, T5, T6, _⟩ => (tN (hK35 _ _ (sk fun K37 hK37 => (wpF_block (wpF_loop (fun (ρ : Slots) (wz : World) => ∃ i : Nat, ρ 0 = (v : Value) ∧ ρ 1 = (.agg (racC a).toArray : Value) ∧ ρ 3 = (PQ n2 0 : Value) ∧ ρ 4 = ((Value.slice none 0 0) : Value) ∧ ρ 5 = (v23 : Value) ∧ ρ 6 = (NI i : Value) ∧ Ext w wz ∧ wz.heap[n2]? = some (.cells (racC a).toArray 98 (0, 0)) ∧ Ext w3 wz ∧ OG w3.heap.size 89 2 (renC) wz v11 (woD (l) a.frm) ∧ Ext w17 wz ∧ OG w17.heap.size 89 2 (renC) wz v23 (woD (woD (l) a.frm) a.to) ∧ (i ≤ (woD (woD l a.frm) a.to).length) ∧ (∀ e ∈ (woD (woD l a.frm) a.to).take i, Op.bytesLess e.1 a.to = true) ∧ True) (fun ρ _ => (woD (woD l a.frm) a.to).length - (intOf (ρ 6)).toNat) ⟨0, T0, T1, T3, T4, T5, T6, hE, hb8, hA14, ho12, hA26, ho24, Nat.zero_le _, (fun _ h => by cases h), trivial⟩ ?_))))))))))
 clear hE hb8 hA14 ho12 hA26 ho24
 rintro ρ38 w39 ⟨i, T0, T1, T3, T4, T5, T6, hE, hb8, hA14, ho12, hA26, ho24, hi, hq, -⟩
 have q6 := T6
 by_cases hlt : i < (woD (woD l a.frm) a.to).length
 ·refine sk fun K40 hK40 => (sk fun K41 hK41 => ?_)
  refine wpF_draw [Is (NI i), Is (v23), Is (NI ((woD (woD (l) a.frm) a.to).length)), Is (.bool (true)), Is (.bool (true)), Is (v23), Is (NI i), fun x w' => PR (renC ((woD (woD (l) a.frm) a.to).getD (i) (([], 0) : List UInt8 × Nat))) x w', PCell (St (((woD (woD (l) a.frm) a.to).getD (i) (([], 0) : List UInt8 × Nat)).1)), Is (St (((woD (woD (l) a.frm) a.to).getD (i) (([], 0) : List UInt8 × Nat)).1)), Is (PQ n2 1), Is (St (a.to)), Is (.bool (Op.bytesLess (((woD (woD (l) a.frm) a.to).getD (i) (([], 0) : List UInt8 × Nat)).1) a.to)), Is (.bool (Op.bytesLess (((woD (woD (l) a.frm) a.to).getD (i) (([], 0) : List UInt8 × Nat)).1) a.to))] (by kernel_rfl) [21, 22, 23, 24, 25, 26, 27, 28, 29, 30, 31, 32, 33, 34] (by kernel_rfl) (by kernel_rfl) (si7 ⟨(fun _ _ _ h k => PR.keep h k), Stab.pcell _, (si5 trivial)⟩) ?hs1006 ?hQ1006
  case hs1006 =>
   refine ⟨?_, ?_, ?_, ?_, ?_, ?_, ?_, ?_, ?_, ?_, ?_, ?_, ?_, ?_, trivial⟩
   ·refine stepN rfl fun σ w1 hC h => ?_
    have e6 := (eqo (h 6 (by decide))).trans T6
    exact Yk.move e6 ⟨Ext.refl _, rfl⟩
   ·refine stepN rfl fun σ w1 hC h => ?_
    have e5 := (eqo (h 5 (by decide))).trans T5
    exact Yk.move e5 ⟨Ext.refl _, rfl⟩
   ·refine stepN rfl fun σ w1 hC h => ?_
    have e22 := eqo (h 22 (by decide))
    exact Yk.lenRG rd1_ty47 (RG.of (RG.ofOwn (ho24.keep hC)) e22) ⟨Ext.refl _, rfl⟩
   ·refine stepN rfl fun σ w1 hC h => ?_
    have e21 := eqo (h 21 (by decide))
    have e23 := eqo (h 23 (by decide))
    exact Yk.eqI (a := (i : Nat)) (b := ((woD (woD (l) a.frm) a.to).length : Nat)) e21 e23 (k_lss _ _ _ _) ⟨Ext.refl _, (congrArg Value.bool (decide_eq_true (hlt)))⟩
   ·refine stepN rfl fun σ w1 hC h => ?_
    have e24 := eqo (h 24 (by decide))
    exact Yk.move e24 ⟨Ext.refl _, rfl⟩
   ·refine stepY 4 true 25 rfl rfl (fun _ _ h => h) fun σ w1 hC h => ?_
    have e5 := (eqo (h 5 (by decide))).trans T5
    exact Yk.move e5 ⟨Ext.refl _, rfl⟩
   ·refine stepY 4 true 25 rfl rfl (fun _ _ h => h) fun σ w1 hC h => ?_
    have e6 := (eqo (h 6 (by decide))).trans T6
    exact Yk.move e6 ⟨Ext.refl _, rfl⟩
   ·refine stepY 4 true 25 rfl rfl (fun _ _ h => h) fun σ w1 hC h => ?_
    have e26 := eqo (h 26 (by decide))
    have e27 := eqo (h 27 (by decide))
    exact Yk.atRG rd1_ty47 rd1_szg89 (by decide) (([], 0) : List UInt8 × Nat) (RG.of (RG.ofOwn (ho24.keep hC)) e26) e27 (by omega) fun v h => ⟨Ext.refl _, h⟩
   ·refine stepY 4 true 25 rfl rfl (fun _ _ h => h) fun σ w1 hC h => ?_
    have e28 : (fun x w' => PR (renC ((woD (woD (l) a.frm) a.to).getD (i) (([], 0) : List UInt8 × Nat))) x w') (σ 28) w1 := h 28 (by decide)
    exact Yk.fieldPR (n := 1) rd1_fo89_0 e28 fun v h => ⟨Ext.refl _, PR.pcell (by rw [ren_f0] at h; exact h)⟩
   ·refine stepY 4 true 25 rfl rfl (fun _ _ h => h) fun σ w1 hC h => ?_
    have e29 : (PCell (St (((woD (woD (l) a.frm) a.to).getD (i) (([], 0) : List UInt8 × Nat)).1))) (σ 29) w1 := h 29 (by decide)
    exact Yk.loadC rd1_ty9 rfl e29 ⟨Ext.refl _, rfl⟩
   ·refine stepY 4 true 25 rfl rfl (fun _ _ h => h) fun σ w1 hC h => ?_
    have e3 := (eqo (h 3 (by decide))).trans T3
    exact Yk.fieldAt rd1_fo98_1 e3 ⟨Ext.refl _, rfl⟩
   ·refine stepY 4 true 25 rfl rfl (fun _ _ h => h) fun σ w1 hC h => ?_
    have e31 := eqo (h 31 (by decide))
    exact Yk.cell1 rd1_ty9 rfl e31 (cellAt (eb hC hb8) (show (racC a)[1]? = some (St (a.to) : Value) from rac_g1 a)) ⟨Ext.refl _, rfl⟩
   ·refine stepY 4 true 25 rfl rfl (fun _ _ h => h) fun σ w1 hC h => ?_
    have e30 := eqo (h 30 (by decide))
    have e32 := eqo (h 32 (by decide))
    exact Yk.ltSt (l := ((woD (woD (l) a.frm) a.to).getD (i) (([], 0) : List UInt8 × Nat)).1) (m := a.to) (.inl rfl) e30 e32 (Op.bytesLess (((woD (woD (l) a.frm) a.to).getD (i) (([], 0) : List UInt8 × Nat)).1) a.to) rfl ⟨Ext.refl _, rfl⟩
   ·refine stepN rfl fun σ w1 hC h => ?_
    have e25 := eqo (h 25 (by decide))
    have e33 := eqo (h 33 (by decide))
    exact Yk.pickT e25 e33 ⟨Ext.refl _, rfl⟩
  intro ρ42 w43 hx44 he hf
  obtain ⟨-, -, -, -, -, -, -, -, -, -, -, -, -, k34, -⟩ := hf
  obtain ⟨T0, T1, T3, T4, T5, T6, -⟩ := he.hold [(0, _), (1, _), (3, _), (4, _), (5, _), (6, _)] ⟨T0, T1, T3, T4, T5, T6, trivial⟩ rfl
  clear he
  have hE := hE.trans hx44
  have hb8 := eb hx44 hb8
  have hA14 := hA14.trans hx44
  have ho12 := ho12.keep hx44
  have hA26 := hA26.trans hx44
  have ho24 := ho24.keep hx44
  have T34 : ρ42 34 = .bool (Op.bytesLess (((woD (woD (l) a.frm) a.to).getD (i) (([], 0) : List UInt8 × Nat)).1) a.to) := k34
  clear k34
  refine tN (hK41 _ _ ?_)
  refine wpF_condB (Op.bytesLess (((woD (woD (l) a.frm) a.to).getD (i) (([], 0) : List UInt8 × Nat)).1) a.to) T34 (fun hc1 => ?_) (fun hc1 => ?_)
  ·refine wpF_skip (tN (hK40 _ _ (wpF_block (wt (oM rfl (oS rfl (Yk.bin (xv := NI i) (yv := NI 1) T6 rfl rfl (i64_add _ _ _ (by omega)) (oA rfl (oL_ [(0, v), (1, .agg (racC a).toArray), (3, PQ n2 0), (4, (Value.slice none 0 0)), (5, v23), (6, NI ((i) + (1)))] ⟨T0, T1, T3, T4, T5, rfl, trivial⟩ fun ρ45 ⟨T0, T1, T3, T4, T5, T6, _⟩ => (bN (tN (And.intro ⟨i + 1, T0, T1, T3, T4, T5, T6, hE, hb8, hA14, ho12, hA26, ho24, by omega, lt_step hlt hq hc1, trivial⟩ ?_))))))))))))
   show (woD (woD l a.frm) a.to).length - (intOf (ρ45 6)).toNat < (woD (woD l a.frm) a.to).length - (intOf (ρ38 6)).toNat
   rw [T6, q6]
   simp only [intOf, Int.toNat_natCast]; omega
  refine wpF_exit (thenF_exit (thenF_exit (inBlockF_hit (tN (hK37 _ _ (sk fun K46 hK46 => (wt (oA rfl (oZ ?_)))))))))
  have hins := ins_cut (k := a.file) hi hq (.inr ⟨hlt, hc1⟩)
  have hwl := Nat.le_trans (wo_len (woD l a.frm) a.to) (wo_len l a.frm)
  have hA47 := Ext.refl w43
  have hea48 := hE
  have hea49 := hA14
  have hea50 := hA26
  have hz51 := hE.size
  have hz52 := hA14.size
  have hz53 := hA26.size
  have hrow0 : OG w43.heap.size 89 2 (renC) w43 (Value.slice none 0 0) ([] : List (List UInt8 × Nat)) := OG.nil _ _ _ _ _
  have hap54 : Value.ownBlock (Value.slice none 0 0) ≠ some n2 := fun e_ => by cases e_
  have hap55 : ApartV (Value.slice none 0 0) v11 := fun k_ e_ => by cases e_
  have hap56 : ApartV v11 (Value.slice none 0 0) := fun k_ _ e_ => by cases e_
  have hap57 : ApartV (Value.slice none 0 0) v23 := fun k_ e_ => by cases e_
  have hap58 : ApartV v23 (Value.slice none 0 0) := fun k_ _ e_ => by cases e_
  refine tN (hK46 _ _ (sk fun K59 hK59 => (wt (oM rfl (oM rfl (oM rfl (oS rfl (Yk.sliceHiW rd1_ty47 rd1_szg89 T5 (RG.ofOwn ho24) T6 (by omega) fun v60 hr61 ha62 => (oS rfl (Yk.appendRG _ _ w43.heap.size _ 24 rd1_ty47 rd1_ig89.choose_spec.1 rd1_ig89.choose_spec.2 rd1_ty47 ([]) ((woD (woD (l) a.frm) a.to).take (i)) (OG.of hrow0 (vr (Value.slice none 0 0) rfl)) (RG.of hr61 (vr v60 rfl)) (fun _ _ => ren_one) (by simp only [List.length_append, List.length_take, List.length_drop, List.length_nil, List.length_singleton, List.length_cons]; omega) (by simp only [List.length_append, List.length_take, List.length_drop, List.length_nil, List.length_singleton, List.length_cons]; omega) hA47.size fun v63 w64 ho65 hg66 => ?_))))))))))
  have hg66 : Grew w43 w64 (Value.slice none 0 0) v63 := hg66
  have hap67 : OB v63 n2 := apart_grew hg66 hap54 (bl hb8)
  have hap68 : ApartV v63 v11 := apartv_grew hg66 hap55 ho12.2
  have hap69 : ApartV v11 v63 := fun k h1 h2 => hap68 k h2 h1
  have hap70 : ApartV v63 v23 := apartv_grew hg66 hap57 ho24.2
  have hap71 : ApartV v23 v63 := fun k h1 h2 => hap70 k h2 h1
  have hE := ext_grew hE hg66 hrow0.2 hz51
  have hb8 := blk_grew hb8 hg66 hap54
  have hA14 := ext_grew hA14 hg66 hrow0.2 hz52
  have ho12 := og_grew ho12 hg66 hap55
  have hA26 := ext_grew hA26 hg66 hrow0.2 hz53
  have ho24 := og_grew ho24 hg66 hap57
  have hA47 := ext_grew hA47 hg66 hrow0.2 (Nat.le_refl _)
  clear hr61
  clear hrow0
  refine oA rfl (oZ (tN (hK59 _ _ (sk fun K72 hK72 => (wt (oM rfl (oS rfl (Yk.fieldAt rd1_fo98_1 T3 (oS rfl (Yk.cell1 rd1_ty9 rfl (vr (PQ n2 1) rfl) (cellAt hb8 (show (racC a)[1]? = some (St (a.to) : Value) from rac_g1 a)) (oS rfl (Yk.fieldAt rd1_fo98_2 T3 (oS rfl (Yk.cell1 rd1_ty3 rfl (vr (PQ n2 2) rfl) (cellAt hb8 (show (racC a)[2]? = some (NI a.file : Value) from rac_g2 a)) (oS rfl (Yk.build2 (vr (St (a.to)) rfl) (vr (NI a.file) rfl) (fun w => rd1_bs89_0_1 a.to a.file w) (oS rfl (Yk.lit1G (a := (⟨a.to, a.file⟩ : List UInt8 × Nat)) (enc := renC) (vr (.agg (renC (⟨a.to, a.file⟩ : List UInt8 × Nat)).toArray) rfl) (ren_len _) rd1_lg47 fun v73 w74 hr75 hx76 => ?_))))))))))))))))))
  have hE := hE.trans hx76
  have hb8 := eb hx76 hb8
  have hA14 := hA14.trans hx76
  have ho12 := ho12.keep hx76
  have hA26 := hA26.trans hx76
  have ho24 := ho24.keep hx76
  have hA47 := hA47.trans hx76
  have ho65 := ho65.keep hx76
  refine oS rfl (Yk.appendRG _ _ w43.heap.size _ 24 rd1_ty47 rd1_ig89.choose_spec.1 rd1_ig89.choose_spec.2 rd1_ty47 (([]) ++ (woD (woD (l) a.frm) a.to).take (i)) ([(⟨a.to, a.file⟩ : List UInt8 × Nat)]) (OG.of ho65 (vr v63 rfl)) (RG.of hr75 (vr v73 rfl)) (fun _ _ => ren_one) (by simp only [List.length_append, List.length_take, List.length_drop, List.length_nil, List.length_singleton, List.length_cons]; omega) (by simp only [List.length_append, List.length_take, List.length_drop, List.length_nil, List.length_singleton, List.length_cons]; omega) hA47.size fun v77 w78 ho79 hg80 => ?_)
  have hg80 : Grew w74 w78 v63 v77 := hg80
  have hap81 : OB v77 n2 := apart_grew hg80 hap67 (bl hb8)
  have hap82 : ApartV v77 v11 := apartv_grew hg80 hap68 ho12.2
  have hap83 : ApartV v11 v77 := fun k h1 h2 => hap82 k h2 h1
  have hap84 : ApartV v77 v23 := apartv_grew hg80 hap70 ho24.2
  have hap85 : ApartV v23 v77 := fun k h1 h2 => hap84 k h2 h1
  have hE := ext_grew hE hg80 ho65.2 hz51
  have hb8 := blk_grew hb8 hg80 hap67
  have hA14 := ext_grew hA14 hg80 ho65.2 hz52
  have ho12 := og_grew ho12 hg80 hap68
  have hA26 := ext_grew hA26 hg80 ho65.2 hz53
  have ho24 := og_grew ho24 hg80 hap70
  have hA47 := ext_grew hA47 hg80 ho65.2 (Nat.le_refl _)
  clear hr75
  clear ho65
  refine oA rfl (oZ (tN (hK72 _ _ (sk fun K86 hK86 => (wt (oM rfl (oM rfl (oM rfl (oS rfl (Yk.sliceLoW rd1_ty47 rd1_szg89 T5 (RG.ofOwn ho24) T6 (by omega) fun v87 hr88 ha89 => (oS rfl (Yk.appendRG _ _ w43.heap.size _ 24 rd1_ty47 rd1_ig89.choose_spec.1 rd1_ig89.choose_spec.2 rd1_ty47 ((([]) ++ (woD (woD (l) a.frm) a.to).take (i)) ++ [(⟨a.to, a.file⟩ : List UInt8 × Nat)]) ((woD (woD (l) a.frm) a.to).drop (i)) (OG.of ho79 (vr v77 rfl)) (RG.of hr88 (vr v87 rfl)) (fun _ _ => ren_one) (by simp only [List.length_append, List.length_take, List.length_drop, List.length_nil, List.length_singleton, List.length_cons]; omega) (by simp only [List.length_append, List.length_take, List.length_drop, List.length_nil, List.length_singleton, List.length_cons]; omega) hA47.size fun v90 w91 ho92 hg93 => ?_))))))))))))
  have hg93 : Grew w78 w91 v77 v90 := hg93
  have hap94 : OB v90 n2 := apart_grew hg93 hap81 (bl hb8)
  have hap95 : ApartV v90 v11 := apartv_grew hg93 hap82 ho12.2
  have hap96 : ApartV v11 v90 := fun k h1 h2 => hap95 k h2 h1
  have hap97 : ApartV v90 v23 := apartv_grew hg93 hap84 ho24.2
  have hap98 : ApartV v23 v90 := fun k h1 h2 => hap97 k h2 h1
  have hE := ext_grew hE hg93 ho79.2 hz51
  have hb8 := blk_grew hb8 hg93 hap81
  have hA14 := ext_grew hA14 hg93 ho79.2 hz52
  have ho12 := og_grew ho12 hg93 hap82
  have hA26 := ext_grew hA26 hg93 ho79.2 hz53
  have ho24 := og_grew ho24 hg93 hap84
  have hA47 := ext_grew hA47 hg93 ho79.2 (Nat.le_refl _)
  clear hr88
  clear ho79
  refine oA rfl (oZ (tN (hK86 _ _ (wpF_ret (postF_ret (fn := Try.f58) _ rfl [v90] (v90) rfl ⟨rfl, trivial⟩ ?_)))))
  have h := ho92
  have e9 : turnD l a = insD (woD (woD l a.frm) a.to) a.to a.file := if_neg hc0
  rw [← hins] at e9
  exact ⟨_, rfl, by rw [e9]; exact OG.low (og_eq h (by simp)) (by omega), hE⟩
 refine sk fun K99 hK99 => (sk fun K100 hK100 => ?_)
 refine wpF_draw [Is (NI i), Is (v23), Is (NI ((woD (woD (l) a.frm) a.to).length)), Is (.bool (false)), Is (.bool (false)), Is undef, Is undef, Is undef, Is undef, Is undef, Is undef, Is undef, Is undef, Is (.bool (false))] (by kernel_rfl) [21, 22, 23, 24, 25, 26, 27, 28, 29, 30, 31, 32, 33, 34] (by kernel_rfl) (by kernel_rfl) (si2 (si12 trivial)) ?hs2006 ?hQ2006
 case hs2006 =>
  refine ⟨?_, ?_, ?_, ?_, ?_, ?_, ?_, ?_, ?_, ?_, ?_, ?_, ?_, ?_, trivial⟩
  ·refine stepN rfl fun σ w1 hC h => ?_
   have e6 := (eqo (h 6 (by decide))).trans T6
   exact Yk.move e6 ⟨Ext.refl _, rfl⟩
  ·refine stepN rfl fun σ w1 hC h => ?_
   have e5 := (eqo (h 5 (by decide))).trans T5
   exact Yk.move e5 ⟨Ext.refl _, rfl⟩
  ·refine stepN rfl fun σ w1 hC h => ?_
   have e22 := eqo (h 22 (by decide))
   exact Yk.lenRG rd1_ty47 (RG.of (RG.ofOwn (ho24.keep hC)) e22) ⟨Ext.refl _, rfl⟩
  ·refine stepN rfl fun σ w1 hC h => ?_
   have e21 := eqo (h 21 (by decide))
   have e23 := eqo (h 23 (by decide))
   exact Yk.eqI (a := (i : Nat)) (b := ((woD (woD (l) a.frm) a.to).length : Nat)) e21 e23 (k_lss _ _ _ _) ⟨Ext.refl _, (congrArg Value.bool (decide_eq_false (hlt)))⟩
  ·refine stepN rfl fun σ w1 hC h => ?_
   have e24 := eqo (h 24 (by decide))
   exact Yk.move e24 ⟨Ext.refl _, rfl⟩
  ·refine stepX 4 true 25 rfl rfl (fun x _ (h : x = .bool false) => by rw [h]; intro h; cases h) fun _ => rfl
  ·refine stepX 4 true 25 rfl rfl (fun x _ (h : x = .bool false) => by rw [h]; intro h; cases h) fun _ => rfl
  ·refine stepX 4 true 25 rfl rfl (fun x _ (h : x = .bool false) => by rw [h]; intro h; cases h) fun _ => rfl
  ·refine stepX 4 true 25 rfl rfl (fun x _ (h : x = .bool false) => by rw [h]; intro h; cases h) fun _ => rfl
  ·refine stepX 4 true 25 rfl rfl (fun x _ (h : x = .bool false) => by rw [h]; intro h; cases h) fun _ => rfl
  ·refine stepX 4 true 25 rfl rfl (fun x _ (h : x = .bool false) => by rw [h]; intro h; cases h) fun _ => rfl
  ·refine stepX 4 true 25 rfl rfl (fun x _ (h : x = .bool false) => by rw [h]; intro h; cases h) fun _ => rfl
  ·refine stepX 4 true 25 rfl rfl (fun x _ (h : x = .bool false) => by rw [h]; intro h; cases h) fun _ => rfl
  ·refine stepN rfl fun σ w1 hC h => ?_
   have e25 := eqo (h 25 (by decide))
   exact Yk.pickF e25 (vr (.bool (false)) rfl) ⟨Ext.refl _, rfl⟩
 intro ρ101 w102 hx103 he hf
 obtain ⟨-, -, -, -, -, -, -, -, -, -, -, -, -, k34, -⟩ := hf
 obtain ⟨T0, T1, T3, T4, T5, T6, -⟩ := he.hold [(0, _), (1, _), (3, _), (4, _), (5, _), (6, _)] ⟨T0, T1, T3, T4, T5, T6, trivial⟩ rfl
 clear he
 have hE := hE.trans hx103
 have hb8 := eb hx103 hb8
 have hA14 := hA14.trans hx103
 have ho12 := ho12.keep hx103
 have hA26 := hA26.trans hx103
 have ho24 := ho24.keep hx103
 have T34 : ρ101 34 = .bool (false) := k34
 clear k34
 refine tN (hK100 _ _ (wpF_false T34 (wpF_exit (thenF_exit (thenF_exit (inBlockF_hit (tN (hK37 _ _ (sk fun K104 hK104 => (wt (oA rfl (oZ ?_))))))))))))
 have hins := ins_cut (k := a.file) hi hq (.inl (by omega))
 have hwl := Nat.le_trans (wo_len (woD l a.frm) a.to) (wo_len l a.frm)
 have hA105 := Ext.refl w102
 have hea106 := hE
 have hea107 := hA14
 have hea108 := hA26
 have hz109 := hE.size
 have hz110 := hA14.size
 have hz111 := hA26.size
 have hrow0 : OG w102.heap.size 89 2 (renC) w102 (Value.slice none 0 0) ([] : List (List UInt8 × Nat)) := OG.nil _ _ _ _ _
 have hap112 : Value.ownBlock (Value.slice none 0 0) ≠ some n2 := fun e_ => by cases e_
 have hap113 : ApartV (Value.slice none 0 0) v11 := fun k_ e_ => by cases e_
 have hap114 : ApartV v11 (Value.slice none 0 0) := fun k_ _ e_ => by cases e_
 have hap115 : ApartV (Value.slice none 0 0) v23 := fun k_ e_ => by cases e_
 have hap116 : ApartV v23 (Value.slice none 0 0) := fun k_ _ e_ => by cases e_
 refine tN (hK104 _ _ (sk fun K117 hK117 => (wt (oM rfl (oM rfl (oM rfl (oS rfl (Yk.sliceHiW rd1_ty47 rd1_szg89 T5 (RG.ofOwn ho24) T6 (by omega) fun v118 hr119 ha120 => (oS rfl (Yk.appendRG _ _ w102.heap.size _ 24 rd1_ty47 rd1_ig89.choose_spec.1 rd1_ig89.choose_spec.2 rd1_ty47 ([]) ((woD (woD (l) a.frm) a.to).take (i)) (OG.of hrow0 (vr (Value.slice none 0 0) rfl)) (RG.of hr119 (vr v118 rfl)) (fun _ _ => ren_one) (by simp only [List.length_append, List.length_take, List.length_drop, List.length_nil, List.length_singleton, List.length_cons]; omega) (by simp only [List.length_append, List.length_take, List.length_drop, List.length_nil, List.length_singleton, List.length_cons]; omega) hA105.size fun v121 w122 ho123 hg124 => ?_))))))))))
 have hg124 : Grew w102 w122 (Value.slice none 0 0) v121 := hg124
 have hap125 : OB v121 n2 := apart_grew hg124 hap112 (bl hb8)
 have hap126 : ApartV v121 v11 := apartv_grew hg124 hap113 ho12.2
 have hap127 : ApartV v11 v121 := fun k h1 h2 => hap126 k h2 h1
 have hap128 : ApartV v121 v23 := apartv_grew hg124 hap115 ho24.2
 have hap129 : ApartV v23 v121 := fun k h1 h2 => hap128 k h2 h1
 have hE := ext_grew hE hg124 hrow0.2 hz109
 have hb8 := blk_grew hb8 hg124 hap112
 have hA14 := ext_grew hA14 hg124 hrow0.2 hz110
 have ho12 := og_grew ho12 hg124 hap113
 have hA26 := ext_grew hA26 hg124 hrow0.2 hz111
 have ho24 := og_grew ho24 hg124 hap115
 have hA105 := ext_grew hA105 hg124 hrow0.2 (Nat.le_refl _)
 clear hr119
 clear hrow0
 refine oA rfl (oZ (tN (hK117 _ _ (sk fun K130 hK130 => (wt (oM rfl (oS rfl (Yk.fieldAt rd1_fo98_1 T3 (oS rfl (Yk.cell1 rd1_ty9 rfl (vr (PQ n2 1) rfl) (cellAt hb8 (show (racC a)[1]? = some (St (a.to) : Value) from rac_g1 a)) (oS rfl (Yk.fieldAt rd1_fo98_2 T3 (oS rfl (Yk.cell1 rd1_ty3 rfl (vr (PQ n2 2) rfl) (cellAt hb8 (show (racC a)[2]? = some (NI a.file : Value) from rac_g2 a)) (oS rfl (Yk.build2 (vr (St (a.to)) rfl) (vr (NI a.file) rfl) (fun w => rd1_bs89_0_1 a.to a.file w) (oS rfl (Yk.lit1G (a := (⟨a.to, a.file⟩ : List UInt8 × Nat)) (enc := renC) (vr (.agg (renC (⟨a.to, a.file⟩ : List UInt8 × Nat)).toArray) rfl) (ren_len _) rd1_lg47 fun v131 w132 hr133 hx134 => ?_))))))))))))))))))
 have hE := hE.trans hx134
 have hb8 := eb hx134 hb8
 have hA14 := hA14.trans hx134
 have ho12 := ho12.keep hx134
 have hA26 := hA26.trans hx134
 have ho24 := ho24.keep hx134
 have hA105 := hA105.trans hx134
 have ho123 := ho123.keep hx134
 refine oS rfl (Yk.appendRG _ _ w102.heap.size _ 24 rd1_ty47 rd1_ig89.choose_spec.1 rd1_ig89.choose_spec.2 rd1_ty47 (([]) ++ (woD (woD (l) a.frm) a.to).take (i)) ([(⟨a.to, a.file⟩ : List UInt8 × Nat)]) (OG.of ho123 (vr v121 rfl)) (RG.of hr133 (vr v131 rfl)) (fun _ _ => ren_one) (by simp only [List.length_append, List.length_take, List.length_drop, List.length_nil, List.length_singleton, List.length_cons]; omega) (by simp only [List.length_append, List.length_take, List.length_drop, List.length_nil, List.length_singleton, List.length_cons]; omega) hA105.size fun v135 w136 ho137 hg138 => ?_)
 have hg138 : Grew w132 w136 v121 v135 := hg138
 have hap139 : OB v135 n2 := apart_grew hg138 hap125 (bl hb8)
 have hap140 : ApartV v135 v11 := apartv_grew hg138 hap126 ho12.2
 have hap141 : ApartV v11 v135 := fun k h1 h2 => hap140 k h2 h1
 have hap142 : ApartV v135 v23 := apartv_grew hg138 hap128 ho24.2
 have hap143 : ApartV v23 v135 := fun k h1 h2 => hap142 k h2 h1
 have hE := ext_grew hE hg138 ho123.2 hz109
 have hb8 := blk_grew hb8 hg138 hap125
 have hA14 := ext_grew hA14 hg138 ho123.2 hz110
 have ho12 := og_grew ho12 hg138 hap126
 have hA26 := ext_grew hA26 hg138 ho123.2 hz111
 have ho24 := og_grew ho24 hg138 hap128
 have hA105 := ext_grew hA105 hg138 ho123.2 (Nat.le_refl _)
 clear hr133
 clear ho123
 refine oA rfl (oZ (tN (hK130 _ _ (sk fun K144 hK144 => (wt (oM rfl (oM rfl (oM rfl (oS rfl (Yk.sliceLoW rd1_ty47 rd1_szg89 T5 (RG.ofOwn ho24) T6 (by omega) fun v145 hr146 ha147 => (oS rfl (Yk.appendRG _ _ w102.heap.size _ 24 rd1_ty47 rd1_ig89.choose_spec.1 rd1_ig89.choose_spec.2 rd1_ty47 ((([]) ++ (woD (woD (l) a.frm) a.to).take (i)) ++ [(⟨a.to, a.file⟩ : List UInt8 × Nat)]) ((woD (woD (l) a.frm) a.to).drop (i)) (OG.of ho137 (vr v135 rfl)) (RG.of hr146 (vr v145 rfl)) (fun _ _ => ren_one) (by simp only [List.length_append, List.length_take, List.length_drop, List.length_nil, List.length_singleton, List.length_cons]; omega) (by simp only [List.length_append, List.length_take, List.length_drop, List.length_nil, List.length_singleton, List.length_cons]; omega) hA105.size fun v148 w149 ho150 hg151 => ?_))))))))))))
 have hg151 : Grew w136 w149 v135 v148 := hg151
 have hap152 : OB v148 n2 := apart_grew hg151 hap139 (bl hb8)
 have hap153 : ApartV v148 v11 := apartv_grew hg151 hap140 ho12.2
 have hap154 : ApartV v11 v148 := fun k h1 h2 => hap153 k h2 h1
 have hap155 : ApartV v148 v23 := apartv_grew hg151 hap142 ho24.2
 have hap156 : ApartV v23 v148 := fun k h1 h2 => hap155 k h2 h1
 have hE := ext_grew hE hg151 ho137.2 hz109
 have hb8 := blk_grew hb8 hg151 hap139
 have hA14 := ext_grew hA14 hg151 ho137.2 hz110
 have ho12 := og_grew ho12 hg151 hap140
 have hA26 := ext_grew hA26 hg151 ho137.2 hz111
 have ho24 := og_grew ho24 hg151 hap142
 have hA105 := ext_grew hA105 hg151 ho137.2 (Nat.le_refl _)
 clear hr146
 clear ho137
 refine oA rfl (oZ (tN (hK144 _ _ (wpF_ret (postF_ret (fn := Try.f58) _ rfl [v148] (v148) rfl ⟨rfl, trivial⟩ ?_)))))
 have h := ho150
 have e9 : turnD l a = insD (woD (woD l a.frm) a.to) a.to a.file := if_neg hc0
 rw [← hins] at e9
 exact ⟨_, rfl, by rw [e9]; exact OG.low (og_eq h (by simp)) (by omega), hE⟩
open Go.RowKit
set_option maxRecDepth 100000
set_option linter.unusedVariables false
set_option linter.unusedSimpArgs false
def V0 : RdkW := ⟨.slice none 0 0, .slice none 0 0, .slice none 0 0, .slice none 0 0, .slice none 0 0⟩
theorem name_step {l : Dir} {i : Nat} (h : i < l.length) : (l.take i).map Prod.fst ++ [(l.getD i ([], 0)).1] = (l.take (i + 1)).map Prod.fst := by
 rw [List.take_succ_eq_append_getElem h, List.map_append, List.getD_eq_getElem?_getD, List.getElem?_eq_getElem h]
 rfl
def noR (q : Int) : RdkV := (⟨false, q, [], [], [], [], [], 0, 0, false⟩, ⟨.slice none 0 0, .slice none 0 0, .slice none 0 0, .slice none 0 0, .slice none 0 0⟩)
theorem getD_mapR {α β : Type} {f : α → β} {l : List α} {k : Nat} {d : α} {d2 : β} (h : d2 = f d) : (l.map f).getD k d2 = f (l.getD k d) := by
 rw [List.getD_eq_getElem?_getD, List.getD_eq_getElem?_getD, List.getElem?_map, h]
 cases l[k]? <;> rfl
theorem sum_getD {α : Type} {l : List α} {f : α → Nat} {i : Nat} (d : α) (h : i < l.length) : (((l.take (i + 1)).map f).sum = ((l.take i).map f).sum + f (l.getD i d)) ∧ ((l.take i).map f).sum + f (l.getD i d) ≤ (l.map f).sum := by
 have h1 : ((l.take (i + 1)).map f).sum = ((l.take i).map f).sum + f (l.getD i d) := by
  rw [List.take_succ_eq_append_getElem h, List.map_append, List.sum_append, List.getD_eq_getElem?_getD, List.getElem?_eq_getElem h]
  simp
 refine ⟨h1, ?_⟩
 rw [← h1]
 have h2 : (l.map f).sum = ((l.take (i + 1)).map f).sum + ((l.drop (i + 1)).map f).sum := by rw [← List.sum_append, ← List.map_append, List.take_append_drop]
 omega
def usT (D : Dsk) (i : Nat) : Nat := ((D.now.take i).map fun e => (fileD D e.2).1.length).sum
theorem usT_step {D : Dsk} {i : Nat} (h : i < D.now.length) : usT D (i + 1) = usT D i + (fileD D (D.now.getD i ([], 0)).2).1.length ∧ usT D i + (fileD D (D.now.getD i ([], 0)).2).1.length ≤ usedD D := sum_getD (f := fun e : List UInt8 × Nat => (fileD D e.2).1.length) ([], 0) h
theorem usT_all (D : Dsk) : usT D D.now.length = usedD D := by unfold usT; rw [List.take_length]; rfl
theorem fate_pos {l : List Int} {i n : Nat} (h : i < l.length) : fateD l i n = (Int.emod (l.getD i 0) ((n : Nat) : Int)).toNat := if_pos h
theorem take_eq_step {α : Type} {l m : List α} {i : Nat} (d : α) (h : i < l.length) (k : i < m.length) (hq : l.take i = m.take i) (he : l.getD i d = m.getD i d) : l.take (i + 1) = m.take (i + 1) := by
 rw [List.take_succ_eq_append_getElem h, List.take_succ_eq_append_getElem k, hq]
 rw [List.getD_eq_getElem?_getD, List.getElem?_eq_getElem h, List.getD_eq_getElem?_getD, List.getElem?_eq_getElem k] at he
 rw [show l[i] = m[i] from he]
theorem rd2_ty9 : Try.prog.underlying 9 = some (.string) := by kernel_rfl
theorem rd2_fo50_0 : FieldOff Try.prog 50 0 0 := fun b o w => by simp [go_sem]
theorem rd2_ty4 : Try.prog.underlying 4 = some (.bool) := by kernel_rfl
theorem rd2_fo50_9 : FieldOff Try.prog 50 9 9 := fun b o w => by simp [go_sem]
theorem rd2_pl63 : Plain Try.prog 63 := fun _ _ => by kernel_rfl
theorem rd2_fo50_4 : FieldOff Try.prog 50 4 4 := fun b o w => by simp [go_sem]
theorem rd2_ty47 : Try.prog.underlying 47 = some (.slice 89) := by kernel_rfl
theorem rd2_fo50_2 : FieldOff Try.prog 50 2 2 := fun b o w => by simp [go_sem]
theorem rd2_ty23 : Try.prog.underlying 23 = some (.slice 24) := by kernel_rfl
theorem rd2_szg89 : ∀ w' : World, (sizeOf 89).run Try.prog w' = .ok 2 w' := fun _ => by kernel_rfl
theorem rd2_fo89_1 : FieldOff Try.prog 89 1 1 := fun b o w => by simp [go_sem]
theorem rd2_ty3 : Try.prog.underlying 3 = some (.int .i64) := by kernel_rfl
theorem rd2_szg24 : ∀ w' : World, (sizeOf 24).run Try.prog w' = .ok 1 w' := fun _ => by kernel_rfl
theorem rd2_ty24 : Try.prog.underlying 24 = some (.slice 5) := by kernel_rfl
theorem rd2_ty25 : Try.prog.underlying 25 = some (.slice 3) := by kernel_rfl
theorem rd2_szg3 : ∀ w' : World, (sizeOf 3).run Try.prog w' = .ok 1 w' := fun _ => by kernel_rfl
theorem rd2_ty43 : Try.prog.underlying 43 = some (.slice 9) := by kernel_rfl
theorem rd2_szg9 : ∀ w' : World, (sizeOf 9).run Try.prog w' = .ok 1 w' := fun _ => by kernel_rfl
theorem rd2_al50 {d : Option Tmp} {ty : TypeId} {pos : String} {af : Array Edge} {gd : Option (Nat × Bool)} (σ : Operand → Value) (w : World) : (execOp σ ⟨d, .alloc 50, ty, pos, af, gd⟩).run Try.prog w = .ok (.value (PQ w.heap.size 0)) (w.alloc (.cells (rdkC ((⟨false, 0, [], [], [], [], [], 0, 0, false⟩, ⟨.slice none 0 0, .slice none 0 0, .slice none 0 0, .slice none 0 0, .slice none 0 0⟩) : RdkV)).toArray 50)) := by kernel_rfl
theorem rd2_bs50_0_1h (z0 : Bool) (z1 : Int) (w : World) : (Instr.build 50 #[(0, .bool z0), (1, .int .i64 z1)]).run Try.prog w = .ok (.agg #[.bool z0, .int .i64 z1, .slice none 0 0, .slice none 0 0, .slice none 0 0, .slice none 0 0, .slice none 0 0, .int .i64 0, .int .i64 0, .bool false]) w := by kernel_rfl
theorem rd2_bs50_0_1 (z0 : Bool) (z1 : Int) (w : World) : (Instr.build 50 #[(0, .bool z0), (1, .int .i64 z1)]).run Try.prog w = .ok (.agg (.bool (z0) :: (.int .i64 (z1) :: ((Value.slice none 0 0) :: ((Value.slice none 0 0) :: ((Value.slice none 0 0) :: ((Value.slice none 0 0) :: ((Value.slice none 0 0) :: (NI (0) :: (NI (0) :: (.bool (false) :: ([]))))))))))).toArray) w := by
 exact rd2_bs50_0_1h _ _ w
theorem rd2_isz50 : (Try.prog.info? 50).map (·.size) = some 10 := by kernel_rfl
theorem rd2_ty50 : ∃ fs, Try.prog.underlying 50 = some (.struct fs) := struct_of (by kernel_rfl)
theorem rd2_fo89_0 : FieldOff Try.prog 89 0 0 := fun b o w => by simp [go_sem]
theorem rd2_lk43 (z : ByteArray) (w : World) : (Instr.buildSlice 43 1 #[(0, .string z)]).run Try.prog w = .ok (.slice (some ⟨w.heap.size, 0, none⟩) 1 1) (w.alloc (.cells #[.string z] 9)) := by kernel_rfl
theorem rd2_ig9 : ∃ z, (Try.prog.info? 9).map (fun i => (i.zero, i.size, i.bytes)) = some (some z, 1, 16) ∧ z.cells.size = 1 := info_ex (by kernel_rfl)
theorem rd2_pl54 : Plain Try.prog 54 := fun _ _ => by kernel_rfl
theorem rd2_pl57 : Plain Try.prog 57 := fun _ _ => by kernel_rfl
theorem rd2_l0_24 (w : World) : (Instr.buildSlice 24 0 #[]).run Try.prog w = .ok (.slice (some ⟨w.heap.size, 0, none⟩) 0 0) (w.alloc (.cells #[] 5)) := by kernel_rfl
theorem rd2_inf5 : (Try.prog.info? 5).map (fun i => (i.zero, i.size, i.bytes)) = some (some (.int .u8 0), 1, 1) := by kernel_rfl
set_option maxHeartbeats 1600000
theorem rlook_is (w : World) (v : Value) (l : Dir) (s : List UInt8) (z : Int) (hl : RG 2 (renC) w v l) (hll : l.length < 1099511627776) (hz : lookZ l s = z) :
  Calls Try.prog 57 #[v, St s] w fun e w' => e = .returned (.int .i64 z) ∧ Ext w w' := by
 subst hz
 exact rlook_any w v l s hl hll

theorem rmay_any (w : World) (s : List UInt8) :
  Calls Try.prog 63 #[St s] w fun e w' => e = .returned (.bool (mayD s)) ∧ Ext w w' := by
 refine calls_of_wpF (args := [St (s)]) Try.func63 rfl 11 rfl (Nat.le_of_ble_eq_true rfl) ?_
 intro ρ0 hb
 have T0 : ρ0 0 = (St (s) : Value) := hb.get 0
 clear hb
 have hE := Ext.refl w
 refine sk fun K1 hK1 => (wt (oA rfl (oZ ?_)))
 by_cases h1 : 1 ≤ s.length
 ·refine tN (hK1 _ _ (sk fun K2 hK2 => (wt (oM rfl (oS rfl (Yk.lenSt (l := s) rd2_ty9 T0 (oS rfl (Yk.eqI (a := (s.length : Nat)) (b := (1 : Nat)) rfl rfl (k_geq _ _ _ _) (oM rfl (oY (d := 6) rfl rfl (vr (.bool (true)) (congrArg Value.bool (decide_eq_true (h1)))) (Yk.move T0 (oY (d := 6) rfl rfl (vr (.bool (true)) (congrArg Value.bool (decide_eq_true (h1)))) (Yk.lenSt (l := s) rd2_ty9 (vr (St (s)) rfl) (oY (d := 6) rfl rfl (vr (.bool (true)) (congrArg Value.bool (decide_eq_true (h1)))) (Yk.eqI (a := (s.length : Nat)) (b := (80 : Nat)) rfl rfl (k_leq _ _ _ _) (oS rfl (Yk.pickT (vr (.bool (true)) (congrArg Value.bool (decide_eq_true (h1)))) (vr (.bool (decide ((s.length) ≤ (80)))) rfl) (oA rfl (oZ (tN (hK2 _ _ (wpF_ret (postF_ret (fn := Try.f63) _ rfl [.bool (decide ((s.length) ≤ (80)))] (.bool (decide ((s.length) ≤ (80)))) rfl ⟨rfl, trivial⟩ ?_)))))))))))))))))))))))
  exact ⟨by unfold mayD; rw [decide_eq_true h1]; rfl, hE⟩
 refine tN (hK1 _ _ (sk fun K3 hK3 => (wt (oM rfl (oS rfl (Yk.lenSt (l := s) rd2_ty9 T0 (oS rfl (Yk.eqI (a := (s.length : Nat)) (b := (1 : Nat)) rfl rfl (k_geq _ _ _ _) (oM rfl (oN (d := 6) rfl rfl rfl (vr (.bool (false)) (congrArg Value.bool (decide_eq_false (h1)))) rfl (oN (d := 6) rfl rfl rfl (vr (.bool (false)) (congrArg Value.bool (decide_eq_false (h1)))) rfl (oN (d := 6) rfl rfl rfl (vr (.bool (false)) (congrArg Value.bool (decide_eq_false (h1)))) rfl (oS rfl (Yk.pickF (vr (.bool (false)) (congrArg Value.bool (decide_eq_false (h1)))) (vr (.bool (false)) rfl) (oA rfl (oZ (tN (hK3 _ _ (wpF_ret (postF_ret (fn := Try.f63) _ rfl [.bool (false)] (.bool (false)) rfl ⟨rfl, trivial⟩ ?_))))))))))))))))))))
 exact ⟨by unfold mayD; rw [decide_eq_false h1]; rfl, hE⟩

theorem rmay_is (w : World) (s : List UInt8) (b : Bool) (h : mayD s = b) :
  Calls Try.prog 63 #[St s] w fun e w' => e = .returned (.bool b) ∧ Ext w w' := by
 subst h
 exact rmay_any w s

theorem ready_any {P : Nat → Prop} (w : World) (D : Dsk) (V : RdkW) (hR : RdAt P w D V) (a b : List UInt8) :
  Calls Try.prog 54 #[.agg (rdkC (refP D, V)).toArray, St a, St b] w fun e w' => e = .returned (NI (readyD D a b)) ∧ Ext w w' := by
 obtain ⟨vs, hvs, hfiles0⟩ := hR.files
 have hfiles := hfiles0.1
 have hsynced := hR.synced.1
 have hnow := hR.now.1
 have hkept := hR.kept.1
 have hacts := hR.acts.1
 refine calls_of_wpF (args := [.agg (rdkC (refP D, V)).toArray, St (a), St (b)]) Try.func54 rfl 20 rfl (Nat.le_of_ble_eq_true rfl) ?_
 intro ρ0 hb
 have T0 : ρ0 0 = (.agg (rdkC (refP D, V)).toArray : Value) := hb.get 0
 have T1 : ρ0 1 = (St (a) : Value) := hb.get 1
 have T2 : ρ0 2 = (St (b) : Value) := hb.get 2
 clear hb
 have hE := Ext.refl w
 refine sk fun K1 hK1 => (wt (oS rfl (Yk.box (cs := (rdkC (refP D, V) : List Value).toArray) T0 fun n2 w3 hn4 hb5 hx6 hs7 => ?_)))
 have hE := hE.trans hx6
 have hb8 := hb5; clear hb5
 have hl9 : n2 < w3.heap.size := by omega
 refine oA rfl (oZ ?_)
 cases hd : D.down
 ·cases hm : mayD a
  ·refine tN (hK1 _ _ (sk fun K10 hK10 => (sk fun K11 hK11 => (wt (oS rfl (Yk.fieldAt rd2_fo50_0 (vr (PQ n2 0) rfl) (oS rfl (Yk.cell1 rd2_ty4 rfl (vr (PQ n2 0) rfl) (cellAt hb8 (show (rdkC (refP D, V))[0]? = some (.bool (true) : Value) from rdk_g0 (refP D, V))) (oS rfl (Yk.notB (vr (.bool (true)) rfl) (oZ (tN (hK11 _ _ (wpF_false (vr (.bool (false)) rfl) (wpF_skip (tN (hK10 _ _ (sk fun K12 hK12 => (sk fun K13 hK13 => (wt (oS rfl (Yk.fieldAt rd2_fo50_9 (vr (PQ n2 0) rfl) ?_))))))))))))))))))))))
   refine oS rfl (Yk.cell1 rd2_ty4 rfl (vr (PQ n2 9) rfl) (cellAt hb8 (show (rdkC (refP D, V))[9]? = some (.bool (D.down) : Value) from rdk_g9 (refP D, V))) (oL_ [(0, .agg (rdkC (refP D, V)).toArray), (1, St (a)), (2, St (b)), (3, PQ n2 0), (6, NI 0), (9, .bool (false)), (11, .bool (D.down))] ⟨T0, T1, T2, rfl, rfl, rfl, rfl, trivial⟩ fun ρ14 ⟨T0, T1, T2, T3, T6, T9, T11, _⟩ => (tN (hK13 _ _ (wpF_false (show _ = Value.bool false from (T11).trans (congrArg Value.bool (hd))) (wpF_skip (tN (hK12 _ _ (sk fun K15 hK15 => (sk fun K16 hK16 => (wt (oM rfl (oS rfl (Yk.callA1 rd2_pl63 T1 ((rmay_is _ a false hm).mono ?_)))))))))))))))
   rintro e w18 ⟨rfl, hx17⟩
   refine ⟨_, rfl, ?_⟩
   have hE := hE.trans hx17
   have hb8 := eb hx17 hb8
   refine oS rfl (Yk.notB (vr (.bool (false)) rfl) (oM rfl (oN (d := 15) rfl rfl rfl (vr (.bool (true)) rfl) rfl (oN (d := 15) rfl rfl rfl (vr (.bool (true)) rfl) rfl (oN (d := 15) rfl rfl rfl (vr (.bool (true)) rfl) rfl (oS rfl (Yk.pickT (vr (.bool (true)) rfl) (vr (.bool (true)) rfl) (oZ (tN (hK16 _ _ (wpF_true (vr (.bool (true)) rfl) (sk fun K19 hK19 => (wt (oA rfl (oZ (tN (hK19 _ _ (wpF_ret (thenF_ret (postF_ret (fn := Try.f54) _ rfl [NI 10] (NI 10) rfl ⟨rfl, trivial⟩ ?_))))))))))))))))))))
   exact ⟨by rw [show readyD D a b = 10 from (if_neg (by rw [hd]; decide)).trans (if_neg (by rw [hm]; simp))], hE⟩
  cases hm2 : mayD b
  ·refine tN (hK1 _ _ (sk fun K20 hK20 => (sk fun K21 hK21 => (wt (oS rfl (Yk.fieldAt rd2_fo50_0 (vr (PQ n2 0) rfl) (oS rfl (Yk.cell1 rd2_ty4 rfl (vr (PQ n2 0) rfl) (cellAt hb8 (show (rdkC (refP D, V))[0]? = some (.bool (true) : Value) from rdk_g0 (refP D, V))) (oS rfl (Yk.notB (vr (.bool (true)) rfl) (oZ (tN (hK21 _ _ (wpF_false (vr (.bool (false)) rfl) (wpF_skip (tN (hK20 _ _ (sk fun K22 hK22 => (sk fun K23 hK23 => (wt (oS rfl (Yk.fieldAt rd2_fo50_9 (vr (PQ n2 0) rfl) ?_))))))))))))))))))))))
   refine oS rfl (Yk.cell1 rd2_ty4 rfl (vr (PQ n2 9) rfl) (cellAt hb8 (show (rdkC (refP D, V))[9]? = some (.bool (D.down) : Value) from rdk_g9 (refP D, V))) (oL_ [(0, .agg (rdkC (refP D, V)).toArray), (1, St (a)), (2, St (b)), (3, PQ n2 0), (6, NI 0), (9, .bool (false)), (11, .bool (D.down))] ⟨T0, T1, T2, rfl, rfl, rfl, rfl, trivial⟩ fun ρ24 ⟨T0, T1, T2, T3, T6, T9, T11, _⟩ => (tN (hK23 _ _ (wpF_false (show _ = Value.bool false from (T11).trans (congrArg Value.bool (hd))) (wpF_skip (tN (hK22 _ _ (sk fun K25 hK25 => (sk fun K26 hK26 => (wt (oM rfl (oS rfl (Yk.callA1 rd2_pl63 T1 ((rmay_is _ a true hm).mono ?_)))))))))))))))
   rintro e w28 ⟨rfl, hx27⟩
   refine ⟨_, rfl, ?_⟩
   have hE := hE.trans hx27
   have hb8 := eb hx27 hb8
   refine oS rfl (Yk.notB (vr (.bool (true)) rfl) (oM rfl (oY (d := 15) rfl rfl (vr (.bool (false)) rfl) (Yk.move T2 (oY (d := 15) rfl rfl (vr (.bool (false)) rfl) (Yk.callA1 rd2_pl63 (vr (St (b)) rfl) ((rmay_is _ b false hm2).mono ?_)))))))
   rintro e w30 ⟨rfl, hx29⟩
   refine ⟨_, rfl, ?_⟩
   have hE := hE.trans hx29
   have hb8 := eb hx29 hb8
   refine oY (d := 15) rfl rfl (vr (.bool (false)) rfl) (Yk.notB (vr (.bool (false)) rfl) (oS rfl (Yk.pickF (vr (.bool (false)) rfl) (vr (.bool (true)) rfl) (oZ (tN (hK26 _ _ (wpF_true (vr (.bool (true)) rfl) (sk fun K31 hK31 => (wt (oA rfl (oZ (tN (hK31 _ _ (wpF_ret (thenF_ret (postF_ret (fn := Try.f54) _ rfl [NI 10] (NI 10) rfl ⟨rfl, trivial⟩ ?_))))))))))))))))
   exact ⟨by rw [show readyD D a b = 10 from (if_neg (by rw [hd]; decide)).trans (if_neg (by rw [hm2]; simp))], hE⟩
  refine tN (hK1 _ _ (sk fun K32 hK32 => (sk fun K33 hK33 => (wt (oS rfl (Yk.fieldAt rd2_fo50_0 (vr (PQ n2 0) rfl) (oS rfl (Yk.cell1 rd2_ty4 rfl (vr (PQ n2 0) rfl) (cellAt hb8 (show (rdkC (refP D, V))[0]? = some (.bool (true) : Value) from rdk_g0 (refP D, V))) (oS rfl (Yk.notB (vr (.bool (true)) rfl) (oZ (tN (hK33 _ _ (wpF_false (vr (.bool (false)) rfl) (wpF_skip (tN (hK32 _ _ (sk fun K34 hK34 => (sk fun K35 hK35 => (wt (oS rfl (Yk.fieldAt rd2_fo50_9 (vr (PQ n2 0) rfl) ?_))))))))))))))))))))))
  refine oS rfl (Yk.cell1 rd2_ty4 rfl (vr (PQ n2 9) rfl) (cellAt hb8 (show (rdkC (refP D, V))[9]? = some (.bool (D.down) : Value) from rdk_g9 (refP D, V))) (oL_ [(0, .agg (rdkC (refP D, V)).toArray), (1, St (a)), (2, St (b)), (3, PQ n2 0), (6, NI 0), (9, .bool (false)), (11, .bool (D.down))] ⟨T0, T1, T2, rfl, rfl, rfl, rfl, trivial⟩ fun ρ36 ⟨T0, T1, T2, T3, T6, T9, T11, _⟩ => (tN (hK35 _ _ (wpF_false (show _ = Value.bool false from (T11).trans (congrArg Value.bool (hd))) (wpF_skip (tN (hK34 _ _ (sk fun K37 hK37 => (sk fun K38 hK38 => (wt (oM rfl (oS rfl (Yk.callA1 rd2_pl63 T1 ((rmay_is _ a true hm).mono ?_)))))))))))))))
  rintro e w40 ⟨rfl, hx39⟩
  refine ⟨_, rfl, ?_⟩
  have hE := hE.trans hx39
  have hb8 := eb hx39 hb8
  refine oS rfl (Yk.notB (vr (.bool (true)) rfl) (oM rfl (oY (d := 15) rfl rfl (vr (.bool (false)) rfl) (Yk.move T2 (oY (d := 15) rfl rfl (vr (.bool (false)) rfl) (Yk.callA1 rd2_pl63 (vr (St (b)) rfl) ((rmay_is _ b true hm2).mono ?_)))))))
  rintro e w42 ⟨rfl, hx41⟩
  refine ⟨_, rfl, ?_⟩
  have hE := hE.trans hx41
  have hb8 := eb hx41 hb8
  refine oY (d := 15) rfl rfl (vr (.bool (false)) rfl) (Yk.notB (vr (.bool (true)) rfl) (oS rfl (Yk.pickF (vr (.bool (false)) rfl) (vr (.bool (false)) rfl) (oZ (tN (hK38 _ _ (wpF_false (vr (.bool (false)) rfl) (wpF_skip (tN (hK37 _ _ (sk fun K43 hK43 => (wt (oA rfl (oZ (tN (hK43 _ _ (wpF_ret (postF_ret (fn := Try.f54) _ rfl [NI 0] (NI 0) rfl ⟨rfl, trivial⟩ ?_))))))))))))))))))
  exact ⟨by rw [show readyD D a b = 0 from (if_neg (by rw [hd]; decide)).trans (if_pos ⟨hm, hm2⟩)], hE⟩
 refine tN (hK1 _ _ (sk fun K44 hK44 => (sk fun K45 hK45 => (wt (oS rfl (Yk.fieldAt rd2_fo50_0 (vr (PQ n2 0) rfl) (oS rfl (Yk.cell1 rd2_ty4 rfl (vr (PQ n2 0) rfl) (cellAt hb8 (show (rdkC (refP D, V))[0]? = some (.bool (true) : Value) from rdk_g0 (refP D, V))) (oS rfl (Yk.notB (vr (.bool (true)) rfl) (oZ (tN (hK45 _ _ (wpF_false (vr (.bool (false)) rfl) (wpF_skip (tN (hK44 _ _ (sk fun K46 hK46 => (sk fun K47 hK47 => (wt (oS rfl (Yk.fieldAt rd2_fo50_9 (vr (PQ n2 0) rfl) ?_))))))))))))))))))))))
 refine oS rfl (Yk.cell1 rd2_ty4 rfl (vr (PQ n2 9) rfl) (cellAt hb8 (show (rdkC (refP D, V))[9]? = some (.bool (D.down) : Value) from rdk_g9 (refP D, V))) (oL_ [(0, .agg (rdkC (refP D, V)).toArray), (1, St (a)), (2, St (b)), (3, PQ n2 0), (6, NI 0), (9, .bool (false)), (11, .bool (D.down))] ⟨T0, T1, T2, rfl, rfl, rfl, rfl, trivial⟩ fun ρ48 ⟨T0, T1, T2, T3, T6, T9, T11, _⟩ => (tN (hK47 _ _ (wpF_true (show _ = Value.bool true from (T11).trans (congrArg Value.bool (hd))) (sk fun K49 hK49 => (wt (oA rfl (oZ (tN (hK49 _ _ (wpF_ret (thenF_ret (postF_ret (fn := Try.f54) _ rfl [NI 9] (NI 9) rfl ⟨rfl, trivial⟩ ?_))))))))))))))
 exact ⟨by rw [show readyD D a b = 9 from if_pos hd], hE⟩

theorem ready_no (w : World) (q : Int) (a b : List UInt8) :
  Calls Try.prog 54 #[.agg (rdkC (noR q)).toArray, St a, St b] w fun e w' => e = .returned (NI 1) ∧ Ext w w' := by
 refine calls_of_wpF (args := [.agg (rdkC (noR q)).toArray, St (a), St (b)]) Try.func54 rfl 20 rfl (Nat.le_of_ble_eq_true rfl) ?_
 intro ρ0 hb
 have T0 : ρ0 0 = (.agg (rdkC (noR q)).toArray : Value) := hb.get 0
 have T1 : ρ0 1 = (St (a) : Value) := hb.get 1
 have T2 : ρ0 2 = (St (b) : Value) := hb.get 2
 clear hb
 have hE := Ext.refl w
 refine sk fun K1 hK1 => (wt (oS rfl (Yk.box (cs := (rdkC (noR q) : List Value).toArray) T0 fun n2 w3 hn4 hb5 hx6 hs7 => ?_)))
 have hE := hE.trans hx6
 have hb8 := hb5; clear hb5
 have hl9 : n2 < w3.heap.size := by omega
 refine oA rfl (oZ (tN (hK1 _ _ (sk fun K10 hK10 => (sk fun K11 hK11 => (wt (oS rfl (Yk.fieldAt rd2_fo50_0 (vr (PQ n2 0) rfl) (oS rfl (Yk.cell1 rd2_ty4 rfl (vr (PQ n2 0) rfl) (cellAt hb8 (show (rdkC (noR q))[0]? = some (.bool (false) : Value) from rdk_g0 (noR q))) (oS rfl (Yk.notB (vr (.bool (false)) rfl) (oZ (tN (hK11 _ _ (wpF_true (vr (.bool (true)) rfl) (sk fun K12 hK12 => (wt (oA rfl (oZ ?_))))))))))))))))))))
 refine tN (hK12 _ _ (wpF_ret (thenF_ret (postF_ret (fn := Try.f54) _ rfl [NI 1] (NI 1) rfl ⟨rfl, trivial⟩ ?_))))
 exact ⟨rfl, hE⟩

theorem used_any {P : Nat → Prop} (w : World) (D : Dsk) (V : RdkW) (hR : RdAt P w D V) (hok : DOk D) (hL : DLt D) :
  Calls Try.prog 21 #[.agg (rdkC (refP D, V)).toArray] w fun e w' => e = .returned (NI (usedD D)) ∧ Ext w w' := by
 obtain ⟨vs, hvs, hfiles0⟩ := hR.files
 have hfiles := hfiles0.1
 have hsynced := hR.synced.1
 have hnow := hR.now.1
 have hkept := hR.kept.1
 have hacts := hR.acts.1
 refine calls_of_wpF (args := [.agg (rdkC (refP D, V)).toArray]) Try.func21 rfl 26 rfl (Nat.le_of_ble_eq_true rfl) ?_
 intro ρ0 hb
 have T0 : ρ0 0 = (.agg (rdkC (refP D, V)).toArray : Value) := hb.get 0
 clear hb
 have hE := Ext.refl w
 refine sk fun K1 hK1 => (wt (oS rfl (Yk.box (cs := (rdkC (refP D, V) : List Value).toArray) T0 fun n2 w3 hn4 hb5 hx6 hs7 => ?_)))
 have hE := hE.trans hx6
 have hb8 := hb5; clear hb5
 have hl9 : n2 < w3.heap.size := by omega
 refine oA rfl (oZ (tN (hK1 _ _ (sk fun K10 hK10 => (wt (oA rfl (oZ (tN (hK10 _ _ (sk fun K11 hK11 => (sk fun K12 hK12 => (wt (oA rfl (oL_ [(0, .agg (rdkC (refP D, V)).toArray), (1, PQ n2 0), (2, NI 0), (3, NI 0), (4, NI 0)] ⟨T0, rfl, rfl, rfl, rfl, trivial⟩ fun ρ13 ⟨T0, T1, T2, T3, T4, _⟩ => (tN (hK12 _ _ (wpF_block (wpF_loop (fun (ρ : Slots) (wz : World) => ∃ i : Nat, ρ 0 = (.agg (rdkC (refP D, V)).toArray : Value) ∧ ρ 1 = (PQ n2 0 : Value) ∧ ρ 2 = (NI 0 : Value) ∧ ρ 4 = (NI i : Value) ∧ ρ 3 = (NI (usT D i) : Value) ∧ Ext w wz ∧ wz.heap[n2]? = some (.cells (rdkC (refP D, V)).toArray 50 (0, 0)) ∧ (i ≤ D.now.length) ∧ True) (fun ρ _ => D.now.length - (intOf (ρ 4)).toNat) ⟨0, T0, T1, T2, T4, T3, hE, hb8, Nat.zero_le _, trivial⟩ ?_))))))))))))))))))
 clear hE hb8
 rintro ρ14 w15 ⟨i, T0, T1, T2, T4, T3, hE, hb8, hi, -⟩
 have q4 := T4
 refine sk fun K16 hK16 => (sk fun K17 hK17 => (wt (oM rfl (oS rfl (Yk.fieldAt rd2_fo50_4 T1 (oS rfl (Yk.cell1 rd2_ty47 rfl (vr (PQ n2 4) rfl) (cellAt hb8 (show (rdkC (refP D, V))[4]? = some (V.now : Value) from rdk_g4 (refP D, V))) (oS rfl (Yk.lenRG rd2_ty47 (RG.of (hnow.keep hE) (vr V.now rfl)) (oS rfl (Yk.eqI (a := (i : Nat)) (b := ((D.now).length : Nat)) T4 rfl (k_lss _ _ _ _) (oZ (tN (hK17 _ _ ?_))))))))))))))
 refine wpF_cond ((i) < ((D.now).length)) (vr (.bool (decide ((i) < ((D.now).length)))) rfl) (fun hc0 => ?_) (fun hc0 => ?_)
 ·have hlt : i < D.now.length := hc0
  have hkn := hok.now.num _ (getD_mem_ (d := ([], 0)) hlt)
  have hvl : vs.length = D.files.length := by rw [hvs.len, List.length_map]
  have hfk := (hvs.at_ (D.now.getD (i) (([], 0) : List UInt8 × Nat)).2 (by rw [List.length_map]; exact hkn)).1
  have hfl : ((D.files.map Prod.fst).getD (D.now.getD (i) (([], 0) : List UInt8 × Nat)).2 []).length = (fileD D (D.now.getD (i) (([], 0) : List UInt8 × Nat)).2).1.length := by rw [getD_mapR (d := ([], 0)) rfl]; rfl
  have hsm := usT_step hlt
  have hul : usedD D < 4611686018427387904 := hL.used
  have hnl := hL.now
  refine wpF_skip (tN (hK16 _ _ (sk fun K18 hK18 => (wpF_block ?_))))
  refine wpF_draw [Is (NI (usT D i)), Is (PQ n2 2), Is (V.files), Is (PQ n2 4), Is (V.now), Is (NI i), fun x w' => PR (renC ((D.now).getD (i) (([], 0) : List UInt8 × Nat))) x w', PCell (NI (((D.now).getD (i) (([], 0) : List UInt8 × Nat)).2)), Is (NI (((D.now).getD (i) (([], 0) : List UInt8 × Nat)).2)), fun x w' => PR (enV (vs.getD (((D.now).getD (i) (([], 0) : List UInt8 × Nat)).2) undef)) x w', Is (vs.getD (((D.now).getD (i) (([], 0) : List UInt8 × Nat)).2) undef), Is (NI ((((D.files.map Prod.fst).getD (D.now.getD (i) (([], 0) : List UInt8 × Nat)).2 []) : List UInt8).length)), Is (NI ((usT D i) + ((((D.files.map Prod.fst).getD (D.now.getD (i) (([], 0) : List UInt8 × Nat)).2 []) : List UInt8).length))), Is (NI ((usT D i) + ((((D.files.map Prod.fst).getD (D.now.getD (i) (([], 0) : List UInt8 × Nat)).2 []) : List UInt8).length)))] (by kernel_rfl) [12, 13, 14, 15, 16, 17, 18, 19, 20, 21, 22, 23, 24, 3] (by kernel_rfl) (by kernel_rfl) (si6 ⟨(fun _ _ _ h k => PR.keep h k), Stab.pcell _, Stab.is _, (fun _ _ _ h k => PR.keep h k), (si4 trivial)⟩) ?hs1005 ?hQ1005
  case hs1005 =>
   refine ⟨?_, ?_, ?_, ?_, ?_, ?_, ?_, ?_, ?_, ?_, ?_, ?_, ?_, ?_, trivial⟩
   ·refine stepN rfl fun σ w1 hC h => ?_
    have e3 := (eqo (h 3 (by decide))).trans T3
    exact Yk.move e3 ⟨Ext.refl _, rfl⟩
   ·refine stepN rfl fun σ w1 hC h => ?_
    have e1 := (eqo (h 1 (by decide))).trans T1
    exact Yk.fieldAt rd2_fo50_2 e1 ⟨Ext.refl _, rfl⟩
   ·refine stepN rfl fun σ w1 hC h => ?_
    have e13 := eqo (h 13 (by decide))
    exact Yk.cell1 rd2_ty23 rfl e13 (cellAt (eb hC hb8) (show (rdkC (refP D, V))[2]? = some (V.files : Value) from rdk_g2 (refP D, V))) ⟨Ext.refl _, rfl⟩
   ·refine stepN rfl fun σ w1 hC h => ?_
    have e1 := (eqo (h 1 (by decide))).trans T1
    exact Yk.fieldAt rd2_fo50_4 e1 ⟨Ext.refl _, rfl⟩
   ·refine stepN rfl fun σ w1 hC h => ?_
    have e15 := eqo (h 15 (by decide))
    exact Yk.cell1 rd2_ty47 rfl e15 (cellAt (eb hC hb8) (show (rdkC (refP D, V))[4]? = some (V.now : Value) from rdk_g4 (refP D, V))) ⟨Ext.refl _, rfl⟩
   ·refine stepN rfl fun σ w1 hC h => ?_
    have e4 := (eqo (h 4 (by decide))).trans T4
    exact Yk.move e4 ⟨Ext.refl _, rfl⟩
   ·refine stepN rfl fun σ w1 hC h => ?_
    have e16 := eqo (h 16 (by decide))
    have e17 := eqo (h 17 (by decide))
    exact Yk.atRG rd2_ty47 rd2_szg89 (by decide) (([], 0) : List UInt8 × Nat) (RG.of (hnow.keep (hE.trans hC)) e16) e17 (by omega) fun v h => ⟨Ext.refl _, h⟩
   ·refine stepN rfl fun σ w1 hC h => ?_
    have e18 : (fun x w' => PR (renC ((D.now).getD (i) (([], 0) : List UInt8 × Nat))) x w') (σ 18) w1 := h 18 (by decide)
    exact Yk.fieldPR (n := 1) rd2_fo89_1 e18 fun v h => ⟨Ext.refl _, PR.pcell (by rw [ren_f1] at h; exact h)⟩
   ·refine stepN rfl fun σ w1 hC h => ?_
    have e19 : (PCell (NI (((D.now).getD (i) (([], 0) : List UInt8 × Nat)).2))) (σ 19) w1 := h 19 (by decide)
    exact Yk.loadC rd2_ty3 rfl e19 ⟨Ext.refl _, rfl⟩
   ·refine stepN rfl fun σ w1 hC h => ?_
    have e14 := eqo (h 14 (by decide))
    have e20 := eqo (h 20 (by decide))
    exact Yk.atRG rd2_ty23 rd2_szg24 (by decide) undef (RG.of (hfiles.keep (hE.trans hC)) e14) e20 (by omega) fun v h => ⟨Ext.refl _, h⟩
   ·refine stepN rfl fun σ w1 hC h => ?_
    have e21 : (fun x w' => PR (enV (vs.getD (((D.now).getD (i) (([], 0) : List UInt8 × Nat)).2) undef)) x w') (σ 21) w1 := h 21 (by decide)
    exact Yk.loadC rd2_ty24 rfl (PR.cell e21 (show _ = some (vs.getD (((D.now).getD (i) (([], 0) : List UInt8 × Nat)).2) undef : Value) from rfl)) ⟨Ext.refl _, rfl⟩
   ·refine stepN rfl fun σ w1 hC h => ?_
    have e22 := eqo (h 22 (by decide))
    exact Yk.lenRB rd2_ty24 (RB.of (hfk.keep (hE.trans hC)) e22) ⟨Ext.refl _, rfl⟩
   ·refine stepN rfl fun σ w1 hC h => ?_
    have e12 := eqo (h 12 (by decide))
    have e23 := eqo (h 23 (by decide))
    exact Yk.bin (xv := NI (usT D i)) (yv := NI ((((D.files.map Prod.fst).getD (D.now.getD (i) (([], 0) : List UInt8 × Nat)).2 []) : List UInt8).length)) e12 e23 rfl (i64_add _ _ _ (by omega)) ⟨Ext.refl _, rfl⟩
   ·refine stepN rfl fun σ w1 hC h => ?_
    have e24 := eqo (h 24 (by decide))
    exact Yk.assign e24 ⟨Ext.refl _, rfl⟩
  intro ρ19 w20 hx21 he hf
  obtain ⟨-, -, -, -, -, -, -, -, -, -, -, -, -, k3, -⟩ := hf
  obtain ⟨T0, T1, T2, T4, -⟩ := he.hold [(0, _), (1, _), (2, _), (4, _)] ⟨T0, T1, T2, T4, trivial⟩ rfl
  clear he
  have hE := hE.trans hx21
  have hb8 := eb hx21 hb8
  have T3 : ρ19 3 = NI ((usT D i) + ((((D.files.map Prod.fst).getD (D.now.getD (i) (([], 0) : List UInt8 × Nat)).2 []) : List UInt8).length)) := k3
  clear k3
  refine bN (tN (hK18 _ _ (wt (oM rfl (oS rfl (Yk.bin (xv := NI i) (yv := NI 1) T4 rfl rfl (i64_add _ _ _ (by omega)) (oA rfl (oL_ [(0, .agg (rdkC (refP D, V)).toArray), (1, PQ n2 0), (2, NI 0), (3, NI ((usT D i) + ((((D.files.map Prod.fst).getD (D.now.getD (i) (([], 0) : List UInt8 × Nat)).2 []) : List UInt8).length))), (4, NI ((i) + (1)))] ⟨T0, T1, T2, T3, rfl, trivial⟩ fun ρ22 ⟨T0, T1, T2, T3, T4, _⟩ => (tN (And.intro ⟨i + 1, T0, T1, T2, T4, (T3).trans (congrArg NI ((congrArg (_ + ·) hfl).trans hsm.1.symm)), hE, hb8, by omega, trivial⟩ ?_))))))))))
  show D.now.length - (intOf (ρ22 4)).toNat < D.now.length - (intOf (ρ14 4)).toNat
  rw [T4, q4]
  simp only [intOf, Int.toNat_natCast]; omega
 refine wpF_exit (thenF_exit (thenF_exit (inBlockF_hit (tN (hK11 _ _ (sk fun K23 hK23 => (wt (oM rfl (oA rfl (oZ (tN (hK23 _ _ (wpF_ret (postF_ret (fn := Try.f21) _ rfl [NI (usT D i)] (NI (usT D i)) rfl ⟨T3, trivial⟩ ?_))))))))))))))
 have hie : i = D.now.length := by have h := hc0; omega
 exact ⟨by rw [hie, usT_all], hE⟩

theorem fate_any (w : World) (v : Value) (l : List Int) (hl : RG 1 (enI) w v l) (i m : Nat) (hm : m < 1099511627776) (hll : l.length < 1099511627776) :
  Calls Try.prog 59 #[v, NI i, NI (m + 1)] w fun e w' => e = .returned (NI (fateD l i (m + 1))) ∧ Ext w w' := by
 refine calls_of_wpF (args := [v, NI i, NI (m + 1)]) Try.func59 rfl 24 rfl (Nat.le_of_ble_eq_true rfl) ?_
 intro ρ0 hb
 have T0 : ρ0 0 = (v : Value) := hb.get 0
 have T1 : ρ0 1 = (NI i : Value) := hb.get 1
 have T2 : ρ0 2 = (NI (m + 1) : Value) := hb.get 2
 clear hb
 have hE := Ext.refl w
 refine sk fun K1 hK1 => (wt (oA rfl (oZ (tN (hK1 _ _ (sk fun K2 hK2 => (sk fun K3 hK3 => (wt (oM rfl (oM rfl (oS rfl (Yk.lenRG rd2_ty25 (RG.of (hl.keep hE) T0) (oS rfl (Yk.eqI (a := (i : Nat)) (b := (l.length : Nat)) T1 rfl (k_geq _ _ _ _) (oZ (tN (hK3 _ _ ?_)))))))))))))))))
 refine wpF_cond ((l.length) ≤ (i)) (vr (.bool (decide ((l.length) ≤ (i)))) rfl) (fun hc0 => ?_) (fun hc0 => ?_)
 ·refine sk fun K4 hK4 => (wt (oA rfl (oZ (tN (hK4 _ _ (wpF_ret (thenF_ret (postF_ret (fn := Try.f59) _ rfl [NI 0] (NI 0) rfl ⟨rfl, trivial⟩ ?_))))))))
  exact ⟨by rw [show fateD l i (m + 1) = 0 from if_neg (by omega)], hE⟩
 have hlt : i < l.length := by have h := hc0; omega
 have hbd := tmod_bd (l.getD i 0) m
 refine wpF_skip (tN (hK2 _ _ (sk fun K5 hK5 => (wt (oM rfl (oM rfl ?_))))))
 have hl8 : (enI (l.getD (i) (0 : Int))).length = 1 := (RG.elem (hl.keep hE) (0 : Int) (by omega))
 refine oS rfl (Yk.atRG rd2_ty25 rd2_szg3 (by decide) (0 : Int) (RG.of (hl.keep hE) T0) T1 (by omega) fun v6 hp7 => (oS rfl (Yk.loadC rd2_ty3 rfl (PR.cell (PR.of hp7 (vr v6 rfl)) (show _ = some (.int .i64 (l.getD (i) (0 : Int) : Int) : Value) from rfl)) (oM rfl (oS rfl (Yk.bin (xv := .int .i64 (l.getD (i) (0 : Int))) (yv := NI (m + 1)) rfl T2 rfl (zi_rem _ (l.getD (i) (0 : Int)) ((m + 1 : Nat) : Int) (by omega)) (oA rfl (oZ ?_))))))))
 clear hp7
 refine tN (hK5 _ _ (sk fun K9 hK9 => (sk fun K10 hK10 => (wt (oM rfl (oS rfl (Yk.eqI (vr (.int .i64 ((Int.tmod (l.getD i 0) ((m + 1 : Nat) : Int)) : Int)) rfl) (vr (NI 0) rfl) (z_lss _ .i64 ((Int.tmod (l.getD i 0) ((m + 1 : Nat) : Int)) : Int) ((0 : Nat) : Int)) (oZ (tN (hK10 _ _ ?_))))))))))
 refine wpF_cond (((Int.tmod (l.getD i 0) ((m + 1 : Nat) : Int)) : Int) < ((0 : Nat) : Int)) (vr (.bool (decide (((Int.tmod (l.getD i 0) ((m + 1 : Nat) : Int)) : Int) < ((0 : Nat) : Int)))) rfl) (fun hc1 => ?_) (fun hc1 => ?_)
 ·refine wt (oM rfl (oM rfl (oS rfl (Yk.bin (xv := .int .i64 ((Int.tmod (l.getD i 0) ((m + 1 : Nat) : Int)))) (yv := .int .i64 (((m + 1 : Nat) : Int))) rfl T2 rfl (zi_add _ ((Int.tmod (l.getD i 0) ((m + 1 : Nat) : Int))) (((m + 1 : Nat) : Int)) (by omega)) (oA rfl (oZ (tN (hK9 _ _ (sk fun K11 hK11 => (wt (oM rfl (oA rfl (oZ (tN (hK11 _ _ (wpF_ret (postF_ret (fn := Try.f59) _ rfl [.int .i64 ((((Int.tmod (l.getD i 0) ((m + 1 : Nat) : Int))) + (((m + 1 : Nat) : Int))) : Int)] (.int .i64 ((((Int.tmod (l.getD i 0) ((m + 1 : Nat) : Int))) + (((m + 1 : Nat) : Int))) : Int)) rfl ⟨rfl, trivial⟩ ?_)))))))))))))))))
  exact ⟨congrArg (fun z => Ending.returned (.int .i64 z)) (show _ = ((fateD l i (m + 1) : Nat) : Int) from by rw [fate_pos hlt, tmod_up]; exact (if_pos hc1).symm), hE⟩
 refine wpF_skip (tN (hK9 _ _ (sk fun K12 hK12 => (wt (oM rfl (oA rfl (oZ (tN (hK12 _ _ (wpF_ret (postF_ret (fn := Try.f59) _ rfl [.int .i64 ((Int.tmod (l.getD i 0) ((m + 1 : Nat) : Int)) : Int)] (.int .i64 ((Int.tmod (l.getD i 0) ((m + 1 : Nat) : Int)) : Int)) rfl ⟨rfl, trivial⟩ ?_)))))))))))
 exact ⟨congrArg (fun z => Ending.returned (.int .i64 z)) (show _ = ((fateD l i (m + 1) : Nat) : Int) from by rw [fate_pos hlt, tmod_up]; exact (if_neg hc1).symm), hE⟩

theorem texts_any (w : World) (v v2 : Value) (l m : List (List UInt8)) (hl : RG 1 (enS) w v l) (hm : RG 1 (enS) w v2 m) (hll : l.length < 1099511627776) :
  Calls Try.prog 22 #[v, v2] w fun e w' => e = .returned (.bool (decide (l = m))) ∧ Ext w w' := by
 refine calls_of_wpF (args := [v, v2]) Try.func22 rfl 26 rfl (Nat.le_of_ble_eq_true rfl) ?_
 intro ρ0 hb
 have T0 : ρ0 0 = (v : Value) := hb.get 0
 have T1 : ρ0 1 = (v2 : Value) := hb.get 1
 clear hb
 have hE := Ext.refl w
 refine sk fun K1 hK1 => (wt (oA rfl (oZ (tN (hK1 _ _ (sk fun K2 hK2 => (sk fun K3 hK3 => (wt (oM rfl (oS rfl (Yk.lenRG rd2_ty43 (RG.of (hl.keep hE) T0) (oM rfl (oS rfl (Yk.lenRG rd2_ty43 (RG.of (hm.keep hE) T1) (oS rfl (Yk.eqI (a := (l.length : Nat)) (b := (m.length : Nat)) rfl rfl (k_neq _ _ _ _) (oZ (tN (hK3 _ _ ?_)))))))))))))))))))
 refine wpF_cond ((l.length : Nat) ≠ (m.length)) (vr (.bool (decide ((l.length : Nat) ≠ (m.length)))) rfl) (fun hc0 => ?_) (fun hc0 => ?_)
 ·refine sk fun K4 hK4 => (wt (oA rfl (oZ (tN (hK4 _ _ (wpF_ret (thenF_ret (postF_ret (fn := Try.f22) _ rfl [.bool (false)] (.bool (false)) rfl ⟨rfl, trivial⟩ ?_))))))))
  exact ⟨by rw [decide_eq_false (fun q => hc0 (congrArg List.length q))], hE⟩
 have hlen : l.length = m.length := by have h := hc0; omega
 refine wpF_skip (tN (hK2 _ _ (sk fun K5 hK5 => (sk fun K6 hK6 => (wt (oA rfl (oL_ [(0, v), (1, v2), (4, .bool (false)), (5, NI 0)] ⟨T0, T1, rfl, rfl, trivial⟩ fun ρ7 ⟨T0, T1, T4, T5, _⟩ => (tN (hK6 _ _ (wpF_block (wpF_loop (fun (ρ : Slots) (wz : World) => ∃ i : Nat, ρ 0 = (v : Value) ∧ ρ 1 = (v2 : Value) ∧ ρ 5 = (NI i : Value) ∧ Ext w wz ∧ (i ≤ l.length) ∧ (l.take i = m.take i) ∧ True) (fun ρ _ => l.length - (intOf (ρ 5)).toNat) ⟨0, T0, T1, T5, hE, Nat.zero_le _, rfl, trivial⟩ ?_)))))))))))
 clear hE
 rintro ρ8 w9 ⟨i, T0, T1, T5, hE, hi, hq, -⟩
 have q5 := T5
 refine sk fun K10 hK10 => (sk fun K11 hK11 => (wt (oM rfl (oM rfl (oS rfl (Yk.lenRG rd2_ty43 (RG.of (hl.keep hE) T0) (oS rfl (Yk.eqI (a := (i : Nat)) (b := (l.length : Nat)) T5 rfl (k_lss _ _ _ _) (oZ (tN (hK11 _ _ ?_)))))))))))
 refine wpF_cond ((i) < (l.length)) (vr (.bool (decide ((i) < (l.length)))) rfl) (fun hc1 => ?_) (fun hc1 => ?_)
 ·have hlt : i < l.length := hc1
  refine wpF_skip (tN (hK10 _ _ (sk fun K12 hK12 => (wpF_block (sk fun K13 hK13 => ?_)))))
  refine wpF_draw [Is (v), Is (NI i), fun x w' => PR (enS (l.getD (i) ([] : List UInt8))) x w', Is (St (l.getD (i) ([] : List UInt8))), Is (v2), Is (NI i), fun x w' => PR (enS (m.getD (i) ([] : List UInt8))) x w', Is (St (m.getD (i) ([] : List UInt8))), Is (.bool (decide ((l.getD (i) ([] : List UInt8) : List UInt8) ≠ (m.getD (i) ([] : List UInt8) : List UInt8))))] (by kernel_rfl) [17, 18, 19, 20, 21, 22, 23, 24, 25] (by kernel_rfl) (by kernel_rfl) (si2 ⟨(fun _ _ _ h k => PR.keep h k), (si3 ⟨(fun _ _ _ h k => PR.keep h k), (si2 trivial)⟩)⟩) ?hs1006 ?hQ1006
  case hs1006 =>
   refine ⟨?_, ?_, ?_, ?_, ?_, ?_, ?_, ?_, ?_, trivial⟩
   ·refine stepN rfl fun σ w1 hC h => ?_
    have e0 := (eqo (h 0 (by decide))).trans T0
    exact Yk.move e0 ⟨Ext.refl _, rfl⟩
   ·refine stepN rfl fun σ w1 hC h => ?_
    have e5 := (eqo (h 5 (by decide))).trans T5
    exact Yk.move e5 ⟨Ext.refl _, rfl⟩
   ·refine stepN rfl fun σ w1 hC h => ?_
    have e17 := eqo (h 17 (by decide))
    have e18 := eqo (h 18 (by decide))
    exact Yk.atRG rd2_ty43 rd2_szg9 (by decide) ([] : List UInt8) (RG.of (hl.keep (hE.trans hC)) e17) e18 (by omega) fun v h => ⟨Ext.refl _, h⟩
   ·refine stepN rfl fun σ w1 hC h => ?_
    have e19 : (fun x w' => PR (enS (l.getD (i) ([] : List UInt8))) x w') (σ 19) w1 := h 19 (by decide)
    exact Yk.loadC rd2_ty9 rfl (PR.cell e19 (show _ = some (St (l.getD (i) ([] : List UInt8)) : Value) from rfl)) ⟨Ext.refl _, rfl⟩
   ·refine stepN rfl fun σ w1 hC h => ?_
    have e1 := (eqo (h 1 (by decide))).trans T1
    exact Yk.move e1 ⟨Ext.refl _, rfl⟩
   ·refine stepN rfl fun σ w1 hC h => ?_
    have e5 := (eqo (h 5 (by decide))).trans T5
    exact Yk.move e5 ⟨Ext.refl _, rfl⟩
   ·refine stepN rfl fun σ w1 hC h => ?_
    have e21 := eqo (h 21 (by decide))
    have e22 := eqo (h 22 (by decide))
    exact Yk.atRG rd2_ty43 rd2_szg9 (by decide) ([] : List UInt8) (RG.of (hm.keep (hE.trans hC)) e21) e22 (by omega) fun v h => ⟨Ext.refl _, h⟩
   ·refine stepN rfl fun σ w1 hC h => ?_
    have e23 : (fun x w' => PR (enS (m.getD (i) ([] : List UInt8))) x w') (σ 23) w1 := h 23 (by decide)
    exact Yk.loadC rd2_ty9 rfl (PR.cell e23 (show _ = some (St (m.getD (i) ([] : List UInt8)) : Value) from rfl)) ⟨Ext.refl _, rfl⟩
   ·refine stepN rfl fun σ w1 hC h => ?_
    have e20 := eqo (h 20 (by decide))
    have e24 := eqo (h 24 (by decide))
    exact Yk.eqSt (l := l.getD (i) ([] : List UInt8)) (m := m.getD (i) ([] : List UInt8)) (.inr rfl) e20 e24 (decide ((l.getD (i) ([] : List UInt8) : List UInt8) ≠ (m.getD (i) ([] : List UInt8) : List UInt8))) rfl ⟨Ext.refl _, rfl⟩
  intro ρ14 w15 hx16 he hf
  obtain ⟨-, -, -, -, -, -, -, -, k25, -⟩ := hf
  obtain ⟨T0, T1, T5, -⟩ := he.hold [(0, _), (1, _), (5, _)] ⟨T0, T1, T5, trivial⟩ rfl
  clear he
  have hE := hE.trans hx16
  have T25 : ρ14 25 = .bool (decide ((l.getD (i) ([] : List UInt8) : List UInt8) ≠ (m.getD (i) ([] : List UInt8) : List UInt8))) := k25
  clear k25
  refine tN (hK13 _ _ ?_)
  refine wpF_cond ((l.getD (i) ([] : List UInt8) : List UInt8) ≠ (m.getD (i) ([] : List UInt8) : List UInt8)) T25 (fun hc2 => ?_) (fun hc2 => ?_)
  ·refine sk fun K17 hK17 => (wt (oA rfl (oZ (tN (hK17 _ _ (wpF_ret (inBlockF_ret (thenF_ret (thenF_ret (inBlockF_ret (thenF_ret (postF_ret (fn := Try.f22) _ rfl [.bool (false)] (.bool (false)) rfl ⟨rfl, trivial⟩ ?_))))))))))))
   exact ⟨by rw [decide_eq_false (fun q => hc2 (by rw [q]))], hE⟩
  refine wpF_skip (bN (tN (hK12 _ _ (wt (oM rfl (oS rfl (Yk.bin (xv := NI i) (yv := NI 1) T5 rfl rfl (i64_add _ _ _ (by omega)) (oA rfl (oL_ [(0, v), (1, v2), (5, NI ((i) + (1)))] ⟨T0, T1, rfl, trivial⟩ fun ρ18 ⟨T0, T1, T5, _⟩ => (tN (And.intro ⟨i + 1, T0, T1, T5, hE, by omega, take_eq_step ([] : List UInt8) hlt (by omega) hq (Classical.not_not.1 hc2), trivial⟩ ?_)))))))))))
  show l.length - (intOf (ρ18 5)).toNat < l.length - (intOf (ρ8 5)).toNat
  rw [T5, q5]
  simp only [intOf, Int.toNat_natCast]; omega
 refine wpF_exit (thenF_exit (thenF_exit (inBlockF_hit (tN (hK5 _ _ (sk fun K19 hK19 => (wt (oA rfl (oZ (tN (hK19 _ _ (wpF_ret (postF_ret (fn := Try.f22) _ rfl [.bool (true)] (.bool (true)) rfl ⟨rfl, trivial⟩ ?_)))))))))))))
 have hie : i = l.length := by have h := hc1; omega
 rw [hie, List.take_length, hlen, List.take_length] at hq
 exact ⟨by rw [decide_eq_true hq], hE⟩

theorem newR_any (w : World) (q : Nat) (hq : q ≤ 1073741824) :
  Calls Try.prog 19 #[NI q] w fun e w' => e = .returned (.agg (rdkC (refP (newD q), V0)).toArray) ∧ Ext w w' := by
 refine calls_of_wpF (args := [NI q]) Try.func19 rfl 11 rfl (Nat.le_of_ble_eq_true rfl) ?_
 intro ρ0 hb
 have T0 : ρ0 0 = (NI q : Value) := hb.get 0
 clear hb
 have hE := Ext.refl w
 refine sk fun K1 hK1 => (wt (oS rfl (Yk.alloc (cs := (rdkC ((⟨false, 0, [], [], [], [], [], 0, 0, false⟩, ⟨.slice none 0 0, .slice none 0 0, .slice none 0 0, .slice none 0 0, .slice none 0 0⟩) : RdkV)).toArray) rd2_al50 fun n2 w3 hn4 hb5 hx6 hs7 => ?_)))
 have hE := hE.trans hx6
 have hb8 := hb5; clear hb5
 have hl9 : n2 < w3.heap.size := by omega
 refine oZ (tN (hK1 _ _ (sk fun K10 hK10 => (wt (oM rfl (oS rfl (Yk.eqI (a := (q : Nat)) (b := (0 : Nat)) T0 rfl (k_geq _ _ _ _) (oM rfl (oY (d := 5) rfl rfl (vr (.bool (true)) (congrArg Value.bool (decide_eq_true (by omega)))) (Yk.move T0 (oY (d := 5) rfl rfl (vr (.bool (true)) (congrArg Value.bool (decide_eq_true (by omega)))) (Yk.eqI (a := (q : Nat)) (b := (1073741824 : Nat)) rfl rfl (k_leq _ _ _ _) (oS rfl (Yk.pickT (vr (.bool (true)) (congrArg Value.bool (decide_eq_true (by omega)))) (vr (.bool (true)) (congrArg Value.bool (decide_eq_true (hq)))) (oM rfl (oS rfl (Yk.build2 (vr (.bool (true)) rfl) T0 (fun w => rd2_bs50_0_1 true ((q : Nat) : Int) w) (oS rfl (Yk.storeAll (vr (PQ n2 0) rfl) (vr (.agg (rdkC ((⟨true, ((q : Nat) : Int), [], [], [], [], [], 0, 0, false⟩, ⟨(Value.slice none 0 0), (Value.slice none 0 0), (Value.slice none 0 0), (Value.slice none 0 0), (Value.slice none 0 0)⟩) : RdkV)).toArray) rfl) hb8 (by simp only [List.size_toArray, rdk_len]) (st_isz (rdk_len _) rd2_isz50) (rdk_one (x := ((⟨true, ((q : Nat) : Int), [], [], [], [], [], 0, 0, false⟩, ⟨(Value.slice none 0 0), (Value.slice none 0 0), (Value.slice none 0 0), (Value.slice none 0 0), (Value.slice none 0 0)⟩) : RdkV)) rfl rfl rfl rfl rfl) fun w11 hb12 hg13 hs14 => ?_)))))))))))))))))))
 have hE := row_fresh hE hg13 (Nat.le_trans (Nat.le_refl _) (by omega))
 clear hb8
 have hb8 : w11.heap[n2]? = some (.cells (rdkC ((⟨true, ((q : Nat) : Int), [], [], [], [], [], 0, 0, false⟩, ⟨(Value.slice none 0 0), (Value.slice none 0 0), (Value.slice none 0 0), (Value.slice none 0 0), (Value.slice none 0 0)⟩) : RdkV)).toArray 50 (0, 0)) := hb12; clear hb12
 have hl15 := bl hb8
 refine oZ (tN (hK10 _ _ (wpF_ret (postF_ret (fn := Try.f19) _ rfl [.agg (rdkC ((⟨true, ((q : Nat) : Int), [], [], [], [], [], 0, 0, false⟩, ⟨(Value.slice none 0 0), (Value.slice none 0 0), (Value.slice none 0 0), (Value.slice none 0 0), (Value.slice none 0 0)⟩) : RdkV)).toArray] (.agg (rdkC ((⟨true, ((q : Nat) : Int), [], [], [], [], [], 0, 0, false⟩, ⟨(Value.slice none 0 0), (Value.slice none 0 0), (Value.slice none 0 0), (Value.slice none 0 0), (Value.slice none 0 0)⟩) : RdkV)).toArray) rfl ⟨ResF.row rfl hb8 (rd2_ty50).choose_spec rfl (st_isz (rdk_len _) rd2_isz50), trivial⟩ ?_))))
 exact ⟨rfl, hE⟩

theorem newN_any (w : World) (q : Int) (hq : q < 0 ∨ 1073741824 < q) :
  Calls Try.prog 19 #[.int .i64 q] w fun e w' => e = .returned (.agg (rdkC (noR q)).toArray) ∧ Ext w w' := by
 refine calls_of_wpF (args := [.int .i64 (q : Int)]) Try.func19 rfl 11 rfl (Nat.le_of_ble_eq_true rfl) ?_
 intro ρ0 hb
 have T0 : ρ0 0 = (.int .i64 (q : Int) : Value) := hb.get 0
 clear hb
 have hE := Ext.refl w
 refine sk fun K1 hK1 => (wt (oS rfl (Yk.alloc (cs := (rdkC ((⟨false, 0, [], [], [], [], [], 0, 0, false⟩, ⟨.slice none 0 0, .slice none 0 0, .slice none 0 0, .slice none 0 0, .slice none 0 0⟩) : RdkV)).toArray) rd2_al50 fun n2 w3 hn4 hb5 hx6 hs7 => ?_)))
 have hE := hE.trans hx6
 have hb8 := hb5; clear hb5
 have hl9 : n2 < w3.heap.size := by omega
 refine oZ ?_
 by_cases hq0 : q ≥ 0
 ·refine tN (hK1 _ _ (sk fun K10 hK10 => (wt (oM rfl (oS rfl (Yk.eqI T0 (vr (NI 0) rfl) (z_geq _ .i64 (q : Int) ((0 : Nat) : Int)) (oM rfl (oY (d := 5) rfl rfl (vr (.bool (true)) (congrArg Value.bool (decide_eq_true (hq0)))) (Yk.move T0 (oY (d := 5) rfl rfl (vr (.bool (true)) (congrArg Value.bool (decide_eq_true (hq0)))) (Yk.eqI (vr (.int .i64 (q : Int)) rfl) (vr (NI 1073741824) rfl) (z_leq _ .i64 (q : Int) ((1073741824 : Nat) : Int)) (oS rfl (Yk.pickT (vr (.bool (true)) (congrArg Value.bool (decide_eq_true (hq0)))) (vr (.bool (false)) (congrArg Value.bool (decide_eq_false (by omega)))) (oM rfl (oS rfl (Yk.build2 (vr (.bool (false)) rfl) T0 (fun w => rd2_bs50_0_1 false q w) (oS rfl (Yk.storeAll (vr (PQ n2 0) rfl) (vr (.agg (rdkC ((⟨false, q, [], [], [], [], [], 0, 0, false⟩, ⟨(Value.slice none 0 0), (Value.slice none 0 0), (Value.slice none 0 0), (Value.slice none 0 0), (Value.slice none 0 0)⟩) : RdkV)).toArray) rfl) hb8 (by simp only [List.size_toArray, rdk_len]) (st_isz (rdk_len _) rd2_isz50) (rdk_one (x := ((⟨false, q, [], [], [], [], [], 0, 0, false⟩, ⟨(Value.slice none 0 0), (Value.slice none 0 0), (Value.slice none 0 0), (Value.slice none 0 0), (Value.slice none 0 0)⟩) : RdkV)) rfl rfl rfl rfl rfl) fun w11 hb12 hg13 hs14 => ?_))))))))))))))))))
  have hE := row_fresh hE hg13 (Nat.le_trans (Nat.le_refl _) (by omega))
  clear hb8
  have hb8 : w11.heap[n2]? = some (.cells (rdkC ((⟨false, q, [], [], [], [], [], 0, 0, false⟩, ⟨(Value.slice none 0 0), (Value.slice none 0 0), (Value.slice none 0 0), (Value.slice none 0 0), (Value.slice none 0 0)⟩) : RdkV)).toArray 50 (0, 0)) := hb12; clear hb12
  have hl15 := bl hb8
  refine oZ (tN (hK10 _ _ (wpF_ret (postF_ret (fn := Try.f19) _ rfl [.agg (rdkC ((⟨false, q, [], [], [], [], [], 0, 0, false⟩, ⟨(Value.slice none 0 0), (Value.slice none 0 0), (Value.slice none 0 0), (Value.slice none 0 0), (Value.slice none 0 0)⟩) : RdkV)).toArray] (.agg (rdkC ((⟨false, q, [], [], [], [], [], 0, 0, false⟩, ⟨(Value.slice none 0 0), (Value.slice none 0 0), (Value.slice none 0 0), (Value.slice none 0 0), (Value.slice none 0 0)⟩) : RdkV)).toArray) rfl ⟨ResF.row rfl hb8 (rd2_ty50).choose_spec rfl (st_isz (rdk_len _) rd2_isz50), trivial⟩ ?_))))
  exact ⟨rfl, hE⟩
 refine tN (hK1 _ _ (sk fun K16 hK16 => (wt (oM rfl (oS rfl (Yk.eqI T0 (vr (NI 0) rfl) (z_geq _ .i64 (q : Int) ((0 : Nat) : Int)) (oM rfl (oN (d := 5) rfl rfl rfl (vr (.bool (false)) (congrArg Value.bool (decide_eq_false (hq0)))) rfl (oN (d := 5) rfl rfl rfl (vr (.bool (false)) (congrArg Value.bool (decide_eq_false (hq0)))) rfl (oS rfl (Yk.pickF (vr (.bool (false)) (congrArg Value.bool (decide_eq_false (hq0)))) (vr (.bool (false)) rfl) (oM rfl (oS rfl (Yk.build2 (vr (.bool (false)) rfl) T0 (fun w => rd2_bs50_0_1 false q w) (oS rfl (Yk.storeAll (vr (PQ n2 0) rfl) (vr (.agg (rdkC ((⟨false, q, [], [], [], [], [], 0, 0, false⟩, ⟨(Value.slice none 0 0), (Value.slice none 0 0), (Value.slice none 0 0), (Value.slice none 0 0), (Value.slice none 0 0)⟩) : RdkV)).toArray) rfl) hb8 (by simp only [List.size_toArray, rdk_len]) (st_isz (rdk_len _) rd2_isz50) (rdk_one (x := ((⟨false, q, [], [], [], [], [], 0, 0, false⟩, ⟨(Value.slice none 0 0), (Value.slice none 0 0), (Value.slice none 0 0), (Value.slice none 0 0), (Value.slice none 0 0)⟩) : RdkV)) rfl rfl rfl rfl rfl) fun w17 hb18 hg19 hs20 => ?_))))))))))))))))
 have hE := row_fresh hE hg19 (Nat.le_trans (Nat.le_refl _) (by omega))
 clear hb8
 have hb8 : w17.heap[n2]? = some (.cells (rdkC ((⟨false, q, [], [], [], [], [], 0, 0, false⟩, ⟨(Value.slice none 0 0), (Value.slice none 0 0), (Value.slice none 0 0), (Value.slice none 0 0), (Value.slice none 0 0)⟩) : RdkV)).toArray 50 (0, 0)) := hb18; clear hb18
 have hl21 := bl hb8
 refine oZ (tN (hK16 _ _ (wpF_ret (postF_ret (fn := Try.f19) _ rfl [.agg (rdkC ((⟨false, q, [], [], [], [], [], 0, 0, false⟩, ⟨(Value.slice none 0 0), (Value.slice none 0 0), (Value.slice none 0 0), (Value.slice none 0 0), (Value.slice none 0 0)⟩) : RdkV)).toArray] (.agg (rdkC ((⟨false, q, [], [], [], [], [], 0, 0, false⟩, ⟨(Value.slice none 0 0), (Value.slice none 0 0), (Value.slice none 0 0), (Value.slice none 0 0), (Value.slice none 0 0)⟩) : RdkV)).toArray) rfl ⟨ResF.row rfl hb8 (rd2_ty50).choose_spec rfl (st_isz (rdk_len _) rd2_isz50), trivial⟩ ?_))))
 exact ⟨rfl, hE⟩

theorem rlist_any {P : Nat → Prop} (w : World) (D : Dsk) (V : RdkW) (hR : RdAt P w D V) (hL : DLt D) :
  Calls Try.prog 23 #[.agg (rdkC (refP D, V)).toArray] w fun e w' => ∃ v', e = .returned v' ∧ OG w.heap.size 9 1 (enS) w' v' (listD D) ∧ Ext w w' := by
 obtain ⟨vs, hvs, hfiles0⟩ := hR.files
 have hfiles := hfiles0.1
 have hsynced := hR.synced.1
 have hnow := hR.now.1
 have hkept := hR.kept.1
 have hacts := hR.acts.1
 refine calls_of_wpF (args := [.agg (rdkC (refP D, V)).toArray]) Try.func23 rfl 31 rfl (Nat.le_of_ble_eq_true rfl) ?_
 intro ρ0 hb
 have T0 : ρ0 0 = (.agg (rdkC (refP D, V)).toArray : Value) := hb.get 0
 clear hb
 have hE := Ext.refl w
 refine sk fun K1 hK1 => (wt (oS rfl (Yk.box (cs := (rdkC (refP D, V) : List Value).toArray) T0 fun n2 w3 hn4 hb5 hx6 hs7 => ?_)))
 have hE := hE.trans hx6
 have hb8 := hb5; clear hb5
 have hl9 : n2 < w3.heap.size := by omega
 refine oA rfl (oZ ?_)
 cases hd : D.down
 ·refine tN (hK1 _ _ (sk fun K10 hK10 => (wt (oA rfl (oZ ?_)))))
  have hlw0 : w.heap.size ≤ w3.heap.size := hE.size
  refine tN (hK10 _ _ (sk fun K11 hK11 => (sk fun K12 hK12 => (wt (oA rfl (oL_ [(0, .agg (rdkC (refP D, V)).toArray), (1, PQ n2 0), (2, (Value.slice none 0 0)), (3, (Value.slice none 0 0)), (4, NI 0)] ⟨T0, rfl, rfl, rfl, rfl, trivial⟩ fun ρ13 ⟨T0, T1, T2, T3, T4, _⟩ => ?_))))))
  have hA14 := Ext.refl w3
  have hea15 := hE
  have hz16 := hE.size
  have hrow0 : OG w3.heap.size 9 1 (enS) w3 (Value.slice none 0 0) ([] : List (List UInt8)) := OG.nil _ _ _ _ _
  have hap17 : Value.ownBlock (Value.slice none 0 0) ≠ some n2 := fun e_ => by cases e_
  have hnl := hL.now
  refine tN (hK12 _ _ (wpF_block (wpF_loop (fun (ρ : Slots) (wz : World) => ∃ i : Nat, ∃ r : Value, ρ 0 = (.agg (rdkC (refP D, V)).toArray : Value) ∧ ρ 1 = (PQ n2 0 : Value) ∧ ρ 2 = ((Value.slice none 0 0) : Value) ∧ ρ 4 = (NI i : Value) ∧ ρ 3 = (r : Value) ∧ Ext w wz ∧ wz.heap[n2]? = some (.cells (rdkC (refP D, V)).toArray 50 (0, 0)) ∧ Ext w3 wz ∧ OG w3.heap.size 9 1 (enS) wz r ((D.now.take i).map Prod.fst) ∧ (i ≤ D.now.length) ∧ (i = 0 ∨ D.down = false) ∧ (OB r n2) ∧ True) (fun ρ _ => D.now.length - (intOf (ρ 4)).toNat) ⟨0, (Value.slice none 0 0), T0, T1, T2, T4, T3, hE, hb8, hA14, og_eq hrow0 (rfl), Nat.zero_le _, .inl rfl, hap17, trivial⟩ ?_)))
  clear hrow0
  clear hE hb8 hA14
  rintro ρ18 w19 ⟨i, r, T0, T1, T2, T4, T3, hE, hb8, hA14, hr_r, hi, hdn, hap_r_n2, -⟩
  have q4 := T4
  by_cases hlt : i < D.now.length
  ·refine sk fun K20 hK20 => (sk fun K21 hK21 => (wt (oM rfl (oS rfl (Yk.fieldAt rd2_fo50_4 T1 (oS rfl (Yk.cell1 rd2_ty47 rfl (vr (PQ n2 4) rfl) (cellAt hb8 (show (rdkC (refP D, V))[4]? = some (V.now : Value) from rdk_g4 (refP D, V))) (oS rfl (Yk.lenRG rd2_ty47 (RG.of (hnow.keep hE) (vr V.now rfl)) (oS rfl (Yk.eqI (a := (i : Nat)) (b := ((D.now).length : Nat)) T4 rfl (k_lss _ _ _ _) (oM rfl (oY (d := 10) rfl rfl (vr (.bool (true)) (congrArg Value.bool (decide_eq_true (hlt)))) (Yk.fieldAt rd2_fo50_0 T1 (oY (d := 10) rfl rfl (vr (.bool (true)) (congrArg Value.bool (decide_eq_true (hlt)))) (Yk.cell1 rd2_ty4 rfl (vr (PQ n2 0) rfl) (cellAt hb8 (show (rdkC (refP D, V))[0]? = some (.bool (true) : Value) from rdk_g0 (refP D, V))) (oS rfl (Yk.pickT (vr (.bool (true)) (congrArg Value.bool (decide_eq_true (hlt)))) (vr (.bool (true)) rfl) (oM rfl (oY (d := 14) rfl rfl (vr (.bool (true)) rfl) (Yk.fieldAt rd2_fo50_9 T1 (oY (d := 14) rfl rfl (vr (.bool (true)) rfl) (Yk.cell1 rd2_ty4 rfl (vr (PQ n2 9) rfl) (cellAt hb8 (show (rdkC (refP D, V))[9]? = some (.bool false : Value) from (rdk_g9 (refP D, V)).trans (congrArg (fun b => some (Value.bool b)) (show (refP D).down = _ from hd)))) (oY (d := 14) rfl rfl (vr (.bool (true)) rfl) (Yk.notB (vr (.bool (false)) rfl) ?_)))))))))))))))))))))))))
   refine oS rfl (Yk.pickT (vr (.bool (true)) rfl) (vr (.bool (true)) rfl) (oZ (tN (hK21 _ _ (wpF_true (vr (.bool (true)) rfl) (wpF_skip (tN (hK20 _ _ (sk fun K22 hK22 => (wpF_block (wt (oM rfl (oS rfl (Yk.fieldAt rd2_fo50_4 T1 (oS rfl (Yk.cell1 rd2_ty47 rfl (vr (PQ n2 4) rfl) (cellAt hb8 (show (rdkC (refP D, V))[4]? = some (V.now : Value) from rdk_g4 (refP D, V))) (oM rfl ?_)))))))))))))))))
   have hl25 : (renC ((D.now).getD (i) (([], 0) : List UInt8 × Nat))).length = 2 := (RG.elem (hnow.keep hE) (([], 0) : List UInt8 × Nat) (by omega))
   refine oS rfl (Yk.atRG rd2_ty47 rd2_szg89 (by decide) (([], 0) : List UInt8 × Nat) (RG.of (hnow.keep hE) (vr V.now rfl)) T4 (by omega) fun v23 hp24 => (oS rfl (Yk.fieldPR (n := 1) rd2_fo89_0 (PR.of hp24 (vr v23 rfl)) fun v26 hp27 => ?_)))
   have hp27 : PCell (St (((D.now).getD (i) (([], 0) : List UInt8 × Nat)).1)) v26 w19 := PR.pcell ((ren_f0 ((D.now).getD (i) (([], 0) : List UInt8 × Nat))) ▸ hp27)
   refine oS rfl (Yk.loadC rd2_ty9 rfl (PCell.of hp27 (vr v26 rfl)) (oS rfl (Yk.lit1S (a := ((D.now).getD (i) (([], 0) : List UInt8 × Nat)).1) (enc := enS) (vr (St (((D.now).getD (i) (([], 0) : List UInt8 × Nat)).1)) rfl) rfl (fun w => rd2_lk43 _ w) fun v28 w29 hr30 hx31 => ?_)))
   have hE := hE.trans hx31
   have hb8 := eb hx31 hb8
   have hA14 := hA14.trans hx31
   have hr_r := hr_r.keep hx31
   have hp24 := PR.keep hp24 hx31
   have hp27 := hp27.keep hx31
   refine oS rfl (Yk.appendRG _ _ w3.heap.size _ 16 rd2_ty43 rd2_ig9.choose_spec.1 rd2_ig9.choose_spec.2 rd2_ty43 ((D.now.take i).map Prod.fst) ([((D.now).getD (i) (([], 0) : List UInt8 × Nat)).1]) (OG.of hr_r T3) (RG.of hr30 (vr v28 rfl)) (fun y hy u hu => by rw [List.mem_singleton.1 hu]; rfl) (by simp only [List.length_map, List.length_take, List.length_singleton]; omega) (by simp only [List.length_map, List.length_take, List.length_singleton]; omega) hA14.size fun v32 w33 ho34 hg35 => ?_)
   have hg35 : Grew w29 w33 r v32 := .eqv T3 hg35
   have hap36 : OB v32 n2 := apart_grew hg35 hap_r_n2 (bl hb8)
   have hE := ext_grew hE hg35 hr_r.2 hz16
   have hb8 := blk_grew hb8 hg35 hap_r_n2
   have hA14 := ext_grew hA14 hg35 hr_r.2 (Nat.le_refl _)
   clear hp24
   clear hp27
   clear hr30
   clear hr_r
   refine oA rfl (oZ (bN (tN (hK22 _ _ (wt (oM rfl (oS rfl (Yk.bin (xv := NI i) (yv := NI 1) T4 rfl rfl (i64_add _ _ _ (by omega)) (oA rfl (oL_ [(0, .agg (rdkC (refP D, V)).toArray), (1, PQ n2 0), (2, (Value.slice none 0 0)), (3, v32), (4, NI ((i) + (1))), (18, .bool (true))] ⟨T0, T1, T2, rfl, rfl, rfl, trivial⟩ fun ρ37 ⟨T0, T1, T2, T3, T4, T18, _⟩ => (tN (And.intro ⟨i + 1, v32, T0, T1, T2, T4, T3, hE, hb8, hA14, og_eq ho34 (name_step hlt), by omega, .inr hd, hap36, trivial⟩ ?_))))))))))))
   show D.now.length - (intOf (ρ37 4)).toNat < D.now.length - (intOf (ρ18 4)).toNat
   rw [T4, q4]
   simp only [intOf, Int.toNat_natCast]; omega
  refine sk fun K38 hK38 => (sk fun K39 hK39 => (wt (oM rfl (oS rfl (Yk.fieldAt rd2_fo50_4 T1 (oS rfl (Yk.cell1 rd2_ty47 rfl (vr (PQ n2 4) rfl) (cellAt hb8 (show (rdkC (refP D, V))[4]? = some (V.now : Value) from rdk_g4 (refP D, V))) (oS rfl (Yk.lenRG rd2_ty47 (RG.of (hnow.keep hE) (vr V.now rfl)) (oS rfl (Yk.eqI (a := (i : Nat)) (b := ((D.now).length : Nat)) T4 rfl (k_lss _ _ _ _) (oM rfl (oN (d := 10) rfl rfl rfl (vr (.bool (false)) (congrArg Value.bool (decide_eq_false (hlt)))) rfl (oN (d := 10) rfl rfl rfl (vr (.bool (false)) (congrArg Value.bool (decide_eq_false (hlt)))) rfl (oS rfl (Yk.pickF (vr (.bool (false)) (congrArg Value.bool (decide_eq_false (hlt)))) (vr (.bool (false)) rfl) (oM rfl (oN (d := 14) rfl rfl rfl (vr (.bool (false)) rfl) rfl (oN (d := 14) rfl rfl rfl (vr (.bool (false)) rfl) rfl (oN (d := 14) rfl rfl rfl (vr (.bool (false)) rfl) rfl ?_))))))))))))))))))))
  refine oS rfl (Yk.pickF (vr (.bool (false)) rfl) (vr (.bool (false)) rfl) (oZ (tN (hK39 _ _ (wpF_false (vr (.bool (false)) rfl) (wpF_exit (thenF_exit (thenF_exit (inBlockF_hit (tN (hK11 _ _ (sk fun K40 hK40 => (wt (oM rfl (oA rfl (oZ (tN (hK40 _ _ (wpF_ret (postF_ret (fn := Try.f23) _ rfl [r] (r) rfl ⟨T3, trivial⟩ ?_))))))))))))))))))))
  have h := hr_r
  have hie : i = D.now.length := by omega
  rw [hie, List.take_length] at h
  exact ⟨_, rfl, by rw [show listD D = D.now.map Prod.fst from if_neg (by rw [hd]; decide)]; exact OG.low h hlw0, hE⟩
 refine tN (hK1 _ _ (sk fun K41 hK41 => (wt (oA rfl (oZ ?_)))))
 have hlw0 : w.heap.size ≤ w3.heap.size := hE.size
 refine tN (hK41 _ _ (sk fun K42 hK42 => (sk fun K43 hK43 => (wt (oA rfl (oL_ [(0, .agg (rdkC (refP D, V)).toArray), (1, PQ n2 0), (2, (Value.slice none 0 0)), (3, (Value.slice none 0 0)), (4, NI 0)] ⟨T0, rfl, rfl, rfl, rfl, trivial⟩ fun ρ44 ⟨T0, T1, T2, T3, T4, _⟩ => ?_))))))
 have hA45 := Ext.refl w3
 have hea46 := hE
 have hz47 := hE.size
 have hrow0 : OG w3.heap.size 9 1 (enS) w3 (Value.slice none 0 0) ([] : List (List UInt8)) := OG.nil _ _ _ _ _
 have hap48 : Value.ownBlock (Value.slice none 0 0) ≠ some n2 := fun e_ => by cases e_
 have hnl := hL.now
 refine tN (hK43 _ _ (wpF_block (wpF_loop (fun (ρ : Slots) (wz : World) => ∃ i : Nat, ∃ r : Value, ρ 0 = (.agg (rdkC (refP D, V)).toArray : Value) ∧ ρ 1 = (PQ n2 0 : Value) ∧ ρ 2 = ((Value.slice none 0 0) : Value) ∧ ρ 4 = (NI i : Value) ∧ ρ 3 = (r : Value) ∧ Ext w wz ∧ wz.heap[n2]? = some (.cells (rdkC (refP D, V)).toArray 50 (0, 0)) ∧ Ext w3 wz ∧ OG w3.heap.size 9 1 (enS) wz r ((D.now.take i).map Prod.fst) ∧ (i ≤ D.now.length) ∧ (i = 0 ∨ D.down = false) ∧ (OB r n2) ∧ True) (fun ρ _ => D.now.length - (intOf (ρ 4)).toNat) ⟨0, (Value.slice none 0 0), T0, T1, T2, T4, T3, hE, hb8, hA45, og_eq hrow0 (rfl), Nat.zero_le _, .inl rfl, hap48, trivial⟩ ?_)))
 clear hrow0
 clear hE hb8 hA45
 rintro ρ49 w50 ⟨i, r, T0, T1, T2, T4, T3, hE, hb8, hA45, hr_r, hi, hdn, hap_r_n2, -⟩
 have q4 := T4
 by_cases hlt : i < D.now.length
 ·refine sk fun K51 hK51 => (sk fun K52 hK52 => (wt (oM rfl (oS rfl (Yk.fieldAt rd2_fo50_4 T1 (oS rfl (Yk.cell1 rd2_ty47 rfl (vr (PQ n2 4) rfl) (cellAt hb8 (show (rdkC (refP D, V))[4]? = some (V.now : Value) from rdk_g4 (refP D, V))) (oS rfl (Yk.lenRG rd2_ty47 (RG.of (hnow.keep hE) (vr V.now rfl)) (oS rfl (Yk.eqI (a := (i : Nat)) (b := ((D.now).length : Nat)) T4 rfl (k_lss _ _ _ _) (oM rfl (oY (d := 10) rfl rfl (vr (.bool (true)) (congrArg Value.bool (decide_eq_true (hlt)))) (Yk.fieldAt rd2_fo50_0 T1 (oY (d := 10) rfl rfl (vr (.bool (true)) (congrArg Value.bool (decide_eq_true (hlt)))) (Yk.cell1 rd2_ty4 rfl (vr (PQ n2 0) rfl) (cellAt hb8 (show (rdkC (refP D, V))[0]? = some (.bool (true) : Value) from rdk_g0 (refP D, V))) (oS rfl (Yk.pickT (vr (.bool (true)) (congrArg Value.bool (decide_eq_true (hlt)))) (vr (.bool (true)) rfl) (oM rfl (oY (d := 14) rfl rfl (vr (.bool (true)) rfl) (Yk.fieldAt rd2_fo50_9 T1 (oY (d := 14) rfl rfl (vr (.bool (true)) rfl) (Yk.cell1 rd2_ty4 rfl (vr (PQ n2 9) rfl) (cellAt hb8 (show (rdkC (refP D, V))[9]? = some (.bool true : Value) from (rdk_g9 (refP D, V)).trans (congrArg (fun b => some (Value.bool b)) (show (refP D).down = _ from hd)))) (oY (d := 14) rfl rfl (vr (.bool (true)) rfl) (Yk.notB (vr (.bool (true)) rfl) ?_)))))))))))))))))))))))))
  refine oS rfl (Yk.pickT (vr (.bool (true)) rfl) (vr (.bool (false)) rfl) (oZ (tN (hK52 _ _ (wpF_false (vr (.bool (false)) rfl) (wpF_exit (thenF_exit (thenF_exit (inBlockF_hit (tN (hK42 _ _ (sk fun K53 hK53 => (wt (oM rfl (oA rfl (oZ (tN (hK53 _ _ (wpF_ret (postF_ret (fn := Try.f23) _ rfl [r] (r) rfl ⟨T3, trivial⟩ ?_))))))))))))))))))))
  have h := hr_r
  obtain rfl : i = 0 := by rcases hdn with h0 | h0; exact h0; rw [hd] at h0; cases h0
  exact ⟨_, rfl, by rw [show listD D = [] from if_pos hd]; exact OG.low h hlw0, hE⟩
 refine sk fun K54 hK54 => (sk fun K55 hK55 => (wt (oM rfl (oS rfl (Yk.fieldAt rd2_fo50_4 T1 (oS rfl (Yk.cell1 rd2_ty47 rfl (vr (PQ n2 4) rfl) (cellAt hb8 (show (rdkC (refP D, V))[4]? = some (V.now : Value) from rdk_g4 (refP D, V))) (oS rfl (Yk.lenRG rd2_ty47 (RG.of (hnow.keep hE) (vr V.now rfl)) (oS rfl (Yk.eqI (a := (i : Nat)) (b := ((D.now).length : Nat)) T4 rfl (k_lss _ _ _ _) (oM rfl (oN (d := 10) rfl rfl rfl (vr (.bool (false)) (congrArg Value.bool (decide_eq_false (hlt)))) rfl (oN (d := 10) rfl rfl rfl (vr (.bool (false)) (congrArg Value.bool (decide_eq_false (hlt)))) rfl (oS rfl (Yk.pickF (vr (.bool (false)) (congrArg Value.bool (decide_eq_false (hlt)))) (vr (.bool (false)) rfl) (oM rfl (oN (d := 14) rfl rfl rfl (vr (.bool (false)) rfl) rfl (oN (d := 14) rfl rfl rfl (vr (.bool (false)) rfl) rfl (oN (d := 14) rfl rfl rfl (vr (.bool (false)) rfl) rfl ?_))))))))))))))))))))
 refine oS rfl (Yk.pickF (vr (.bool (false)) rfl) (vr (.bool (false)) rfl) (oZ (tN (hK55 _ _ (wpF_false (vr (.bool (false)) rfl) (wpF_exit (thenF_exit (thenF_exit (inBlockF_hit (tN (hK42 _ _ (sk fun K56 hK56 => (wt (oM rfl (oA rfl (oZ (tN (hK56 _ _ (wpF_ret (postF_ret (fn := Try.f23) _ rfl [r] (r) rfl ⟨T3, trivial⟩ ?_))))))))))))))))))))
 have h := hr_r
 obtain rfl : i = 0 := by rcases hdn with h0 | h0; exact h0; rw [hd] at h0; cases h0
 exact ⟨_, rfl, by rw [show listD D = [] from if_pos hd]; exact OG.low h hlw0, hE⟩

theorem rlist_no (w : World) (q : Int) :
  Calls Try.prog 23 #[.agg (rdkC (noR q)).toArray] w fun e w' => e = .returned (.slice none 0 0) ∧ Ext w w' := by
 refine calls_of_wpF (args := [.agg (rdkC (noR q)).toArray]) Try.func23 rfl 31 rfl (Nat.le_of_ble_eq_true rfl) ?_
 intro ρ0 hb
 have T0 : ρ0 0 = (.agg (rdkC (noR q)).toArray : Value) := hb.get 0
 clear hb
 have hE := Ext.refl w
 refine sk fun K1 hK1 => (wt (oS rfl (Yk.box (cs := (rdkC (noR q) : List Value).toArray) T0 fun n2 w3 hn4 hb5 hx6 hs7 => ?_)))
 have hE := hE.trans hx6
 have hb8 := hb5; clear hb5
 have hl9 : n2 < w3.heap.size := by omega
 refine oA rfl (oZ (tN (hK1 _ _ (sk fun K10 hK10 => (wt (oA rfl (oZ (tN (hK10 _ _ (sk fun K11 hK11 => (sk fun K12 hK12 => (wt (oA rfl (oL_ [(0, .agg (rdkC (noR q)).toArray), (1, PQ n2 0), (2, (Value.slice none 0 0)), (3, (Value.slice none 0 0)), (4, NI 0)] ⟨T0, rfl, rfl, rfl, rfl, trivial⟩ fun ρ13 ⟨T0, T1, T2, T3, T4, _⟩ => (tN (hK12 _ _ (wpF_block (wpF_loop (fun (ρ : Slots) (wz : World) => ρ 0 = (.agg (rdkC (noR q)).toArray : Value) ∧ ρ 1 = (PQ n2 0 : Value) ∧ ρ 2 = ((Value.slice none 0 0) : Value) ∧ ρ 4 = (NI 0 : Value) ∧ ρ 3 = ((Value.slice none 0 0) : Value) ∧ Ext w wz ∧ wz.heap[n2]? = some (.cells (rdkC (noR q)).toArray 50 (0, 0)) ∧ True) (fun ρ _ => (intOf (ρ 4)).toNat) ⟨T0, T1, T2, T4, T3, hE, hb8, trivial⟩ ?_))))))))))))))))))
 clear hE hb8
 rintro ρ14 w15 ⟨T0, T1, T2, T4, T3, hE, hb8, -⟩
 have q4 := T4
 refine sk fun K16 hK16 => (sk fun K17 hK17 => (wt (oM rfl (oS rfl (Yk.fieldAt rd2_fo50_4 T1 (oS rfl (Yk.cell1 rd2_ty47 rfl (vr (PQ n2 4) rfl) (cellAt hb8 (show (rdkC (noR q))[4]? = some ((Value.slice none 0 0) : Value) from rdk_g4 (noR q))) (oS rfl (Yk.lenSl rd2_ty47 (vr (Value.slice none 0 0) rfl) (oS rfl (Yk.eqI (a := (0 : Nat)) (b := (0 : Nat)) T4 rfl (k_lss _ _ _ _) (oM rfl (oN (d := 10) rfl rfl rfl (vr (.bool (false)) (congrArg Value.bool (decide_eq_false (by decide)))) rfl (oN (d := 10) rfl rfl rfl (vr (.bool (false)) (congrArg Value.bool (decide_eq_false (by decide)))) rfl (oS rfl (Yk.pickF (vr (.bool (false)) (congrArg Value.bool (decide_eq_false (by decide)))) (vr (.bool (false)) rfl) (oM rfl (oN (d := 14) rfl rfl rfl (vr (.bool (false)) rfl) rfl (oN (d := 14) rfl rfl rfl (vr (.bool (false)) rfl) rfl (oN (d := 14) rfl rfl rfl (vr (.bool (false)) rfl) rfl ?_))))))))))))))))))))
 refine oS rfl (Yk.pickF (vr (.bool (false)) rfl) (vr (.bool (false)) rfl) (oZ (tN (hK17 _ _ (wpF_false (vr (.bool (false)) rfl) (wpF_exit (thenF_exit (thenF_exit (inBlockF_hit (tN (hK11 _ _ (sk fun K18 hK18 => (wt (oM rfl (oA rfl (oZ (tN (hK18 _ _ (wpF_ret (postF_ret (fn := Try.f23) _ rfl [(Value.slice none 0 0)] ((Value.slice none 0 0)) rfl ⟨T3, trivial⟩ ?_))))))))))))))))))))
 exact ⟨rfl, hE⟩

theorem rread_any {P : Nat → Prop} (w : World) (D : Dsk) (V : RdkW) (hR : RdAt P w D V) (hok : DOk D) (hL : DLt D) (s : List UInt8) :
  Calls Try.prog 43 #[.agg (rdkC (refP D, V)).toArray, St s] w fun e w' => ∃ v', e = .returned (.tuple #[v', NI (readD D s).2]) ∧ w'.ownsRow w.heap.size 5 1 v' (readD D s).1.length (Lib.byteCells (readD D s).1) ∧ Ext w w' := by
 obtain ⟨vs, hvs, hfiles0⟩ := hR.files
 have hfiles := hfiles0.1
 have hsynced := hR.synced.1
 have hnow := hR.now.1
 have hkept := hR.kept.1
 have hacts := hR.acts.1
 refine calls_of_wpF (args := [.agg (rdkC (refP D, V)).toArray, St (s)]) Try.func43 rfl 28 rfl (Nat.le_of_ble_eq_true rfl) ?_
 intro ρ0 hb
 have T0 : ρ0 0 = (.agg (rdkC (refP D, V)).toArray : Value) := hb.get 0
 have T1 : ρ0 1 = (St (s) : Value) := hb.get 1
 clear hb
 have hE := Ext.refl w
 refine sk fun K1 hK1 => (wt (oS rfl (Yk.box (cs := (rdkC (refP D, V) : List Value).toArray) T0 fun n2 w3 hn4 hb5 hx6 hs7 => ?_)))
 have hE := hE.trans hx6
 have hb8 := hb5; clear hb5
 have hl9 : n2 < w3.heap.size := by omega
 refine oA rfl (oA rfl (oZ (tN (hK1 _ _ (sk fun K10 hK10 => (sk fun K11 hK11 => (wt (oS rfl (Yk.loadAll (vr (PQ n2 0) rfl) hb8 (rd2_ty50).choose_spec rfl (st_isz (rdk_len (refP D, V)) rd2_isz50) (oM rfl (oM rfl (oS rfl (Yk.callA3 rd2_pl54 (vr (.agg (rdkC (refP D, V)).toArray) rfl) T1 T1 ((ready_any _ D V (hR.keep hE) s s).mono ?_))))))))))))))
 rintro e w13 ⟨rfl, hx12⟩
 refine ⟨_, rfl, ?_⟩
 have hE := hE.trans hx12
 have hb8 := eb hx12 hb8
 refine oA rfl (oZ (tN (hK11 _ _ (sk fun K14 hK14 => (wt (oM rfl (oS rfl (Yk.eqI (a := ((readyD D s s) : Nat)) (b := (0 : Nat)) rfl rfl (k_neq _ _ _ _) (oZ (tN (hK14 _ _ ?_)))))))))))
 refine wpF_cond (((readyD D s s) : Nat) ≠ (0)) (vr (.bool (decide (((readyD D s s) : Nat) ≠ (0)))) rfl) (fun hc0 => ?_) (fun hc0 => ?_)
 ·refine sk fun K15 hK15 => (wt (oM rfl (oA rfl (oA rfl (oZ (tN (hK15 _ _ (wpF_ret (thenF_ret (postF_ret (fn := Try.f43) _ rfl [(Value.slice none 0 0), NI (readyD D s s)] (.tuple #[(Value.slice none 0 0), NI (readyD D s s)]) rfl ⟨rfl, rfl, trivial⟩ ?_))))))))))
  have e9 : readD D s = ([], readyD D s s) := by unfold readD hasD; rw [if_pos (show readyD D s s ≠ 0 from hc0)]
  exact ⟨_, by rw [e9], by rw [e9]; exact World.ownsRow_nil _ _ _ 1, hE⟩
 cases hk : lookD D.now s
 ·have hlz := lookZ_none hk
  refine wpF_skip (tN (hK10 _ _ (sk fun K16 hK16 => (wt (oS rfl (Yk.fieldAt rd2_fo50_4 (vr (PQ n2 0) rfl) (oS rfl (Yk.cell1 rd2_ty47 rfl (vr (PQ n2 4) rfl) (cellAt hb8 (show (rdkC (refP D, V))[4]? = some (V.now : Value) from rdk_g4 (refP D, V))) (oM rfl (oS rfl (Yk.callA2 rd2_pl57 (vr V.now rfl) T1 ((rlook_is _ V.now D.now s (-1) (hnow.keep hE) hL.now hlz).mono ?_))))))))))))
  rintro e w18 ⟨rfl, hx17⟩
  refine ⟨_, rfl, ?_⟩
  have hE := hE.trans hx17
  have hb8 := eb hx17 hb8
  refine oA rfl (oZ (tN (hK16 _ _ (sk fun K19 hK19 => (sk fun K20 hK20 => (wt (oM rfl (oS rfl (Yk.eqI (vr (.int .i64 (-1 : Int)) rfl) (vr (NI 0) rfl) (z_lss _ .i64 (-1 : Int) ((0 : Nat) : Int)) (oZ (tN (hK20 _ _ (wpF_true (vr (.bool (true)) (congrArg Value.bool (decide_eq_true (by decide)))) (sk fun K21 hK21 => (wt (oA rfl (oA rfl (oZ ?_))))))))))))))))))
  refine tN (hK21 _ _ (wpF_ret (thenF_ret (postF_ret (fn := Try.f43) _ rfl [(Value.slice none 0 0), NI 4] (.tuple #[(Value.slice none 0 0), NI 4]) rfl ⟨rfl, rfl, trivial⟩ ?_))))
  have e9 : readD D s = ([], 4) := by unfold readD hasD; rw [if_neg (show ¬ readyD D s s ≠ 0 from hc0), hk]
  exact ⟨_, by rw [e9], by rw [e9]; exact World.ownsRow_nil _ _ _ 1, hE⟩
 rename_i k
 have hlz := lookZ_some hk
 have hkn := (hok.now.look hk).1
 have hvl : vs.length = D.files.length := by rw [hvs.len, List.length_map]
 have hfk := (hvs.at_ k (by rw [List.length_map]; exact hkn)).1
 rw [getD_mapR (d := (([], 0) : List UInt8 × Nat)) rfl] at hfk
 have hfb := hL.files _ (getD_mem_ (d := ([], 0)) hkn)
 refine wpF_skip (tN (hK10 _ _ (sk fun K22 hK22 => (wt (oS rfl (Yk.fieldAt rd2_fo50_4 (vr (PQ n2 0) rfl) (oS rfl (Yk.cell1 rd2_ty47 rfl (vr (PQ n2 4) rfl) (cellAt hb8 (show (rdkC (refP D, V))[4]? = some (V.now : Value) from rdk_g4 (refP D, V))) (oM rfl (oS rfl (Yk.callA2 rd2_pl57 (vr V.now rfl) T1 ((rlook_is _ V.now D.now s ((k : Nat) : Int) (hnow.keep hE) hL.now hlz).mono ?_))))))))))))
 rintro e w24 ⟨rfl, hx23⟩
 refine ⟨_, rfl, ?_⟩
 have hE := hE.trans hx23
 have hb8 := eb hx23 hb8
 refine oA rfl (oZ (tN (hK22 _ _ (sk fun K25 hK25 => (sk fun K26 hK26 => (wt (oM rfl (oS rfl (Yk.eqI (a := (k : Nat)) (b := (0 : Nat)) rfl rfl (k_lss _ _ _ _) (oZ (tN (hK26 _ _ (wpF_false (vr (.bool (false)) (congrArg Value.bool (decide_eq_false (by omega)))) (wpF_skip (tN (hK25 _ _ (sk fun K27 hK27 => (wt (oS rfl (Yk.lit0 rd2_l0_24 fun v28 w29 hN30 => ?_))))))))))))))))))))
 have hA31 := Ext.refl w24
 have hea32 := hE
 have hz33 := hE.size
 have hap34 : OB v28 n2 := own_older hN30.own (bl hb8)
 have hE := hE.trans hN30.ext
 have hb8 := eb hN30.ext hb8
 have hA31 := hA31.trans hN30.ext
 have ho35 := hN30.own; clear hN30
 refine oS rfl (Yk.fieldAt rd2_fo50_2 (vr (PQ n2 0) rfl) (oS rfl (Yk.cell1 rd2_ty23 rfl (vr (PQ n2 2) rfl) (cellAt hb8 (show (rdkC (refP D, V))[2]? = some (V.files : Value) from rdk_g2 (refP D, V))) (oM rfl ?_))))
 have hl38 : (enV (vs.getD (k) undef)).length = 1 := (RG.elem (hfiles.keep hE) undef (by omega))
 refine oS rfl (Yk.atRG rd2_ty23 rd2_szg24 (by decide) undef (RG.of (hfiles.keep hE) (vr V.files rfl)) (vr (NI k) rfl) (by omega) fun v36 hp37 => (oS rfl (Yk.loadC rd2_ty24 rfl (PR.cell (PR.of hp37 (vr v36 rfl)) (show _ = some (vs.getD (k) undef : Value) from rfl)) (oS rfl (Yk.appendRB _ _ w24.heap.size (.int .u8 0) rd2_ty24 rd2_inf5 rfl rd2_ty24 (([] : List UInt8)) ((D.files.getD k ([], 0)).1) (own_of ho35 (vr v28 rfl)) (RB.of (hfk.keep hE) (vr (vs.getD (k) undef) rfl)) (by simp only [List.length_nil]; omega) hA31.size fun v39 w40 ho41 hg42 => ?_)))))
 have hg42 : Grew w29 w40 v28 v39 := hg42
 have hap43 : OB v39 n2 := apart_grew hg42 hap34 (bl hb8)
 have hE := ext_grew hE hg42 ho35 hz33
 have hb8 := blk_grew hb8 hg42 hap34
 have hA31 := ext_grew hA31 hg42 ho35 (Nat.le_refl _)
 clear hp37
 clear ho35
 refine oA rfl (oA rfl (oZ (tN (hK27 _ _ (wpF_ret (postF_ret (fn := Try.f43) _ rfl [v39, NI 0] (.tuple #[v39, NI 0]) rfl ⟨rfl, rfl, trivial⟩ ?_))))))
 have e9 : readD D s = ((D.files.getD k ([], 0)).1, 0) := by unfold readD hasD; rw [if_neg (show ¬ readyD D s s ≠ 0 from hc0), hk]; rfl
 have h := ho41
 exact ⟨_, by rw [e9], by rw [e9]; exact ownsRow_base (show World.ownsRow _ _ _ _ _ _ _ from by simpa using h) (by omega), hE⟩

theorem rread_no (w : World) (q : Int) (s : List UInt8) :
  Calls Try.prog 43 #[.agg (rdkC (noR q)).toArray, St s] w fun e w' => e = .returned (.tuple #[.slice none 0 0, NI 1]) ∧ Ext w w' := by
 refine calls_of_wpF (args := [.agg (rdkC (noR q)).toArray, St (s)]) Try.func43 rfl 28 rfl (Nat.le_of_ble_eq_true rfl) ?_
 intro ρ0 hb
 have T0 : ρ0 0 = (.agg (rdkC (noR q)).toArray : Value) := hb.get 0
 have T1 : ρ0 1 = (St (s) : Value) := hb.get 1
 clear hb
 have hE := Ext.refl w
 refine sk fun K1 hK1 => (wt (oS rfl (Yk.box (cs := (rdkC (noR q) : List Value).toArray) T0 fun n2 w3 hn4 hb5 hx6 hs7 => ?_)))
 have hE := hE.trans hx6
 have hb8 := hb5; clear hb5
 have hl9 : n2 < w3.heap.size := by omega
 refine oA rfl (oA rfl (oZ (tN (hK1 _ _ (sk fun K10 hK10 => (sk fun K11 hK11 => (wt (oS rfl (Yk.loadAll (vr (PQ n2 0) rfl) hb8 (rd2_ty50).choose_spec rfl (st_isz (rdk_len (noR q)) rd2_isz50) (oM rfl (oM rfl (oS rfl (Yk.callA3 rd2_pl54 (vr (.agg (rdkC (noR q)).toArray) rfl) T1 T1 ((ready_no _ q s s).mono ?_))))))))))))))
 rintro e w13 ⟨rfl, hx12⟩
 refine ⟨_, rfl, ?_⟩
 have hE := hE.trans hx12
 have hb8 := eb hx12 hb8
 refine oA rfl (oZ (tN (hK11 _ _ (sk fun K14 hK14 => (wt (oM rfl (oS rfl (Yk.eqI (a := (1 : Nat)) (b := (0 : Nat)) rfl rfl (k_neq _ _ _ _) (oZ (tN (hK14 _ _ (wpF_true (vr (.bool (true)) (congrArg Value.bool (decide_eq_true (by decide)))) (sk fun K15 hK15 => (wt (oM rfl (oA rfl (oA rfl (oZ ?_))))))))))))))))))
 refine tN (hK15 _ _ (wpF_ret (thenF_ret (postF_ret (fn := Try.f43) _ rfl [(Value.slice none 0 0), NI 1] (.tuple #[(Value.slice none 0 0), NI 1]) rfl ⟨rfl, rfl, trivial⟩ ?_))))
 exact ⟨rfl, hE⟩
open Go.RowKit
set_option maxRecDepth 100000
set_option linter.unusedVariables false
set_option linter.unusedSimpArgs false
theorem take_rows {base : Nat} {w : World} {vs : List Value} {l : List (List UInt8 × Nat)} {i : Nat} (h : RowsO base w vs ((l.map Prod.fst).take i ++ [(l.getD i ([], 0)).1])) (hi : i < l.length) : RowsO base w vs ((l.map Prod.fst).take (i + 1)) := by
 rw [List.take_succ_eq_append_getElem (by rwa [List.length_map])]
 rw [List.getD_eq_getElem?_getD, List.getElem?_eq_getElem hi] at h
 simpa using h
theorem rd3_al50 {d : Option Tmp} {ty : TypeId} {pos : String} {af : Array Edge} {gd : Option (Nat × Bool)} (σ : Operand → Value) (w : World) : (execOp σ ⟨d, .alloc 50, ty, pos, af, gd⟩).run Try.prog w = .ok (.value (PQ w.heap.size 0)) (w.alloc (.cells (rdkC ((⟨false, 0, [], [], [], [], [], 0, 0, false⟩, ⟨.slice none 0 0, .slice none 0 0, .slice none 0 0, .slice none 0 0, .slice none 0 0⟩) : RdkV)).toArray 50)) := by kernel_rfl
theorem rd3_fo50_8 : FieldOff Try.prog 50 8 8 := fun b o w => by simp [go_sem]
theorem rd3_ty3 : Try.prog.underlying 3 = some (.int .i64) := by kernel_rfl
theorem rd3_ty50 : ∃ fs, Try.prog.underlying 50 = some (.struct fs) := struct_of (by kernel_rfl)
theorem rd3_isz50 : (Try.prog.info? 50).map (·.size) = some 10 := by kernel_rfl
theorem rd3_isz3 : (Try.prog.info? 3).map (·.size) = some 1 := by kernel_rfl
theorem rd3_fo50_9 : FieldOff Try.prog 50 9 9 := fun b o w => by simp [go_sem]
theorem rd3_isz4 : (Try.prog.info? 4).map (·.size) = some 1 := by kernel_rfl
theorem rd3_ty4 : Try.prog.underlying 4 = some (.bool) := by kernel_rfl
theorem rd3_fo50_2 : FieldOff Try.prog 50 2 2 := fun b o w => by simp [go_sem]
theorem rd3_ty23 : Try.prog.underlying 23 = some (.slice 24) := by kernel_rfl
theorem rd3_l0_24 (w : World) : (Instr.buildSlice 24 0 #[]).run Try.prog w = .ok (.slice (some ⟨w.heap.size, 0, none⟩) 0 0) (w.alloc (.cells #[] 5)) := by kernel_rfl
theorem rd3_szg24 : ∀ w' : World, (sizeOf 24).run Try.prog w' = .ok 1 w' := fun _ => by kernel_rfl
theorem rd3_ty24 : Try.prog.underlying 24 = some (.slice 5) := by kernel_rfl
theorem rd3_inf5 : (Try.prog.info? 5).map (fun i => (i.zero, i.size, i.bytes)) = some (some (.int .u8 0), 1, 1) := by kernel_rfl
theorem rd3_lk23 (ao : Option Addr) (n : Nat) (c : Nat) (w : World) : (Instr.buildSlice 23 1 #[(0, .slice ao n c)]).run Try.prog w = .ok (.slice (some ⟨w.heap.size, 0, none⟩) 1 1) (w.alloc (.cells #[.slice ao n c] 24)) := by kernel_rfl
theorem rd3_ig24 : ∃ z, (Try.prog.info? 24).map (fun i => (i.zero, i.size, i.bytes)) = some (some z, 1, 24) ∧ z.cells.size = 1 := info_ex (by kernel_rfl)
theorem rd3_isz23 : (Try.prog.info? 23).map (·.size) = some 1 := by kernel_rfl
theorem rd3_l0_25 (w : World) : (Instr.buildSlice 25 0 #[]).run Try.prog w = .ok (.slice (some ⟨w.heap.size, 0, none⟩) 0 0) (w.alloc (.cells #[] 3)) := by kernel_rfl
theorem rd3_fo50_3 : FieldOff Try.prog 50 3 3 := fun b o w => by simp [go_sem]
theorem rd3_ty25 : Try.prog.underlying 25 = some (.slice 3) := by kernel_rfl
theorem rd3_ig3 : ∃ z, (Try.prog.info? 3).map (fun i => (i.zero, i.size, i.bytes)) = some (some z, 1, 8) ∧ z.cells.size = 1 := info_ex (by kernel_rfl)
theorem rd3_isz25 : (Try.prog.info? 25).map (·.size) = some 1 := by kernel_rfl
theorem rd3_l0_47 (w : World) : (Instr.buildSlice 47 0 #[]).run Try.prog w = .ok (.slice (some ⟨w.heap.size, 0, none⟩) 0 0) (w.alloc (.cells #[] 89)) := by kernel_rfl
theorem rd3_fo50_4 : FieldOff Try.prog 50 4 4 := fun b o w => by simp [go_sem]
theorem rd3_ty47 : Try.prog.underlying 47 = some (.slice 89) := by kernel_rfl
theorem rd3_ig89 : ∃ z, (Try.prog.info? 89).map (fun i => (i.zero, i.size, i.bytes)) = some (some z, 2, 24) ∧ z.cells.size = 2 := info_ex (by kernel_rfl)
theorem rd3_isz47 : (Try.prog.info? 47).map (·.size) = some 1 := by kernel_rfl
theorem rd3_fo50_5 : FieldOff Try.prog 50 5 5 := fun b o w => by simp [go_sem]
theorem rd3_l0_48 (w : World) : (Instr.buildSlice 48 0 #[]).run Try.prog w = .ok (.slice (some ⟨w.heap.size, 0, none⟩) 0 0) (w.alloc (.cells #[] 98)) := by kernel_rfl
theorem rd3_fo50_6 : FieldOff Try.prog 50 6 6 := fun b o w => by simp [go_sem]
theorem rd3_ty48 : Try.prog.underlying 48 = some (.slice 98) := by kernel_rfl
theorem rd3_ig98 : ∃ z, (Try.prog.info? 98).map (fun i => (i.zero, i.size, i.bytes)) = some (some z, 3, 40) ∧ z.cells.size = 3 := info_ex (by kernel_rfl)
theorem rd3_isz48 : (Try.prog.info? 48).map (·.size) = some 1 := by kernel_rfl
set_option maxHeartbeats 1600000
theorem armed_any {P : Nat → Prop} (w : World) (D : Dsk) (V : RdkW) (hR : RdAt P w D V) (hL : DLt D) :
  Calls Try.prog 56 #[.agg (rdkC (refP D, V)).toArray] w fun e w' => e = .returned (.tuple #[.agg (rdkC (refP (armD D).1, V)).toArray, .bool (armD D).2]) ∧ Ext w w' := by
 obtain ⟨vs, hvs, hfiles0⟩ := hR.files
 have hfiles := hfiles0.1
 have hsynced := hR.synced.1
 have hnow := hR.now.1
 have hkept := hR.kept.1
 have hacts := hR.acts.1
 have harm := hL.arm
 refine calls_of_wpF (args := [.agg (rdkC (refP D, V)).toArray]) Try.func56 rfl 19 rfl (Nat.le_of_ble_eq_true rfl) ?_
 intro ρ0 hb
 have T0 : ρ0 0 = (.agg (rdkC (refP D, V)).toArray : Value) := hb.get 0
 clear hb
 have hE := Ext.refl w
 refine sk fun K1 hK1 => (wt (oS rfl (Yk.box (cs := (rdkC (refP D, V) : List Value).toArray) T0 fun n2 w3 hn4 hb5 hx6 hs7 => ?_)))
 have hE := hE.trans hx6
 have hb8 := hb5; clear hb5
 have hl9 : n2 < w3.heap.size := by omega
 refine oS rfl (Yk.alloc (cs := (rdkC ((⟨false, 0, [], [], [], [], [], 0, 0, false⟩, ⟨.slice none 0 0, .slice none 0 0, .slice none 0 0, .slice none 0 0, .slice none 0 0⟩) : RdkV)).toArray) rd3_al50 fun n10 w11 hn12 hb13 hx14 hs15 => ?_)
 have hA16 := Ext.refl w3
 have hea17 := hE
 have hz18 := hE.size
 have hlt19 := lte (bl hb8) hn12
 have hE := hE.trans hx14
 have hb8 := eb hx14 hb8
 have hA16 := hA16.trans hx14
 have hb20 := hb13; clear hb13
 have hl21 : n10 < w11.heap.size := by omega
 refine oA rfl (oZ ?_)
 by_cases ha : D.arm = 0
 ·refine tN (hK1 _ _ (sk fun K22 hK22 => (sk fun K23 hK23 => (wt (oS rfl (Yk.fieldAt rd3_fo50_8 (vr (PQ n2 0) rfl) (oS rfl (Yk.cell1 rd3_ty3 rfl (vr (PQ n2 8) rfl) (cellAt hb8 (show (rdkC (refP D, V))[8]? = some (NI D.arm : Value) from rdk_g8 (refP D, V))) (oS rfl (Yk.eqI (a := (D.arm : Nat)) (b := (0 : Nat)) rfl rfl (k_eql _ _ _ _) (oZ (tN (hK23 _ _ (wpF_true (vr (.bool (true)) (congrArg Value.bool (decide_eq_true (ha)))) (sk fun K24 hK24 => (wt (oS rfl (Yk.loadAll (vr (PQ n2 0) rfl) hb8 (rd3_ty50).choose_spec rfl (st_isz (rdk_len (refP D, V)) rd3_isz50) (oS rfl (Yk.storeAll (vr (PQ n10 0) rfl) (vr (.agg (rdkC (refP D, V)).toArray) rfl) hb20 (by simp only [List.size_toArray, rdk_len]) (st_isz (rdk_len _) rd3_isz50) (rdk_one (x := (refP D, V)) (RG.one (hfiles.keep hE)).2 (RG.one (hsynced.keep hE)).2 (RG.one (hnow.keep hE)).2 (RG.one (hkept.keep hE)).2 (RG.one (hacts.keep hE)).2) fun w25 hb26 hg27 hs28 => ?_))))))))))))))))))))
  have hE := row_fresh hE hg27 (Nat.le_trans hz18 (by omega))
  have hb8 := kb hg27 hb8 (by omega)
  have hA16 := row_fresh hA16 hg27 (Nat.le_trans (Nat.le_refl _) (by omega))
  clear hb20
  have hb20 : w25.heap[n10]? = some (.cells (rdkC (refP D, V)).toArray 50 (0, 0)) := hb26; clear hb26
  have hl29 := bl hb20
  refine oA rfl (oZ (tN (hK24 _ _ (wpF_ret (thenF_ret (postF_ret (fn := Try.f56) _ rfl [.agg (rdkC (refP D, V)).toArray, .bool (false)] (.tuple #[.agg (rdkC (refP D, V)).toArray, .bool (false)]) rfl ⟨ResF.row rfl hb20 (rd3_ty50).choose_spec rfl (st_isz (rdk_len _) rd3_isz50), rfl, trivial⟩ ?_))))))
  rw [show armD D = (D, false) from if_pos ha]
  exact ⟨rfl, hE⟩
 refine tN (hK1 _ _ (sk fun K30 hK30 => (sk fun K31 hK31 => (wt (oS rfl (Yk.fieldAt rd3_fo50_8 (vr (PQ n2 0) rfl) (oS rfl (Yk.cell1 rd3_ty3 rfl (vr (PQ n2 8) rfl) (cellAt hb8 (show (rdkC (refP D, V))[8]? = some (NI D.arm : Value) from rdk_g8 (refP D, V))) (oS rfl (Yk.eqI (a := (D.arm : Nat)) (b := (0 : Nat)) rfl rfl (k_eql _ _ _ _) (oZ (tN (hK31 _ _ (wpF_false (vr (.bool (false)) (congrArg Value.bool (decide_eq_false (ha)))) (wpF_skip (tN (hK30 _ _ (sk fun K32 hK32 => (wt (oS rfl (Yk.fieldAt rd3_fo50_8 (vr (PQ n2 0) rfl) (oS rfl (Yk.cell1 rd3_ty3 rfl (vr (PQ n2 8) rfl) (cellAt hb8 (show (rdkC (refP D, V))[8]? = some (NI D.arm : Value) from rdk_g8 (refP D, V))) ?_)))))))))))))))))))))))
 refine oS rfl (Yk.bin (xv := NI D.arm) (yv := NI 1) rfl rfl rfl (i64_sub _ _ _ (by omega) (by omega)) (oS rfl (Yk.fieldAt rd3_fo50_8 (vr (PQ n2 0) rfl) (oS rfl (Yk.storeC (i := 8) (v := NI ((D.arm) - (1))) (vr (PQ n2 8) rfl) (vr (NI ((D.arm) - (1))) rfl) hb8 (by rw [rdk_len]; decide) rd3_isz3 rfl rfl fun w33 hb34 hg35 hs36 => ?_)))))
 have hE := row_fresh hE hg35 (Nat.le_trans (Nat.le_refl _) (by omega))
 clear hA16
 have hb20 := kb hg35 hb20 (by omega)
 clear hb8
 have hb8 : w33.heap[n2]? = some (.cells (rdkC ((⟨true, ((D.quota : Nat) : Int), (D.files.map Prod.fst), (D.files.map fun x => ((x.2 : Nat) : Int)), D.now, D.kept, D.acts, D.refused, ((D.arm) - (1)), D.down⟩, ⟨V.files, V.synced, V.now, V.kept, V.acts⟩) : RdkV)).toArray 50 (0, 0)) := blk_eq hb34 (rdk_s8 (refP D, V) ((D.arm) - (1))); clear hb34
 have hl37 := bl hb8
 refine oZ (tN (hK32 _ _ (sk fun K38 hK38 => (wt (oS rfl (Yk.fieldAt rd3_fo50_8 (vr (PQ n2 0) rfl) (oS rfl (Yk.cell1 rd3_ty3 rfl (vr (PQ n2 8) rfl) (cellAt hb8 (show (rdkC ((⟨true, ((D.quota : Nat) : Int), (D.files.map Prod.fst), (D.files.map fun x => ((x.2 : Nat) : Int)), D.now, D.kept, D.acts, D.refused, ((D.arm) - (1)), D.down⟩, ⟨V.files, V.synced, V.now, V.kept, V.acts⟩) : RdkV))[8]? = some (NI ((D.arm) - (1)) : Value) from rdk_g8 ((⟨true, ((D.quota : Nat) : Int), (D.files.map Prod.fst), (D.files.map fun x => ((x.2 : Nat) : Int)), D.now, D.kept, D.acts, D.refused, ((D.arm) - (1)), D.down⟩, ⟨V.files, V.synced, V.now, V.kept, V.acts⟩) : RdkV))) (oS rfl (Yk.eqI (a := (((D.arm) - (1)) : Nat)) (b := (0 : Nat)) rfl rfl (k_eql _ _ _ _) (oS rfl (Yk.fieldAt rd3_fo50_9 (vr (PQ n2 0) rfl) (oS rfl (Yk.storeC (i := 9) (v := .bool (decide ((((D.arm) - (1)) : Nat) = (0)))) (vr (PQ n2 9) rfl) (vr (.bool (decide ((((D.arm) - (1)) : Nat) = (0)))) rfl) hb8 (by rw [rdk_len]; decide) rd3_isz4 rfl rfl fun w39 hb40 hg41 hs42 => ?_))))))))))))))
 have hE := row_fresh hE hg41 (Nat.le_trans (Nat.le_refl _) (by omega))
 have hb20 := kb hg41 hb20 (by omega)
 clear hb8
 have hb8 : w39.heap[n2]? = some (.cells (rdkC ((⟨true, ((D.quota : Nat) : Int), (D.files.map Prod.fst), (D.files.map fun x => ((x.2 : Nat) : Int)), D.now, D.kept, D.acts, D.refused, ((D.arm) - (1)), (decide ((((D.arm) - (1)) : Nat) = (0)))⟩, ⟨V.files, V.synced, V.now, V.kept, V.acts⟩) : RdkV)).toArray 50 (0, 0)) := blk_eq hb40 (rdk_s9 ((⟨true, ((D.quota : Nat) : Int), (D.files.map Prod.fst), (D.files.map fun x => ((x.2 : Nat) : Int)), D.now, D.kept, D.acts, D.refused, ((D.arm) - (1)), D.down⟩, ⟨V.files, V.synced, V.now, V.kept, V.acts⟩) : RdkV) (decide ((((D.arm) - (1)) : Nat) = (0)))); clear hb40
 have hl43 := bl hb8
 refine oZ (tN (hK38 _ _ (sk fun K44 hK44 => ?_)))
 have hx45 : Ext w39 (World.drew w39) := (Below.refl _ _).drew
 have hE := hE.trans hx45
 have hb20 := eb hx45 hb20
 have hb8 := eb hx45 hb8
 refine wpF_float [(1, 17, PQ n2 9), (2, 18, .bool ((decide ((((D.arm) - (1)) : Nat) = (0)))))] [0, 3, 4] (fun wz => Ext w wz ∧ wz.heap[n2]? = some (.cells (rdkC ((⟨true, ((D.quota : Nat) : Int), (D.files.map Prod.fst), (D.files.map fun x => ((x.2 : Nat) : Int)), D.now, D.kept, D.acts, D.refused, ((D.arm) - (1)), (decide ((((D.arm) - (1)) : Nat) = (0)))⟩, ⟨V.files, V.synced, V.now, V.kept, V.acts⟩) : RdkV)).toArray 50 (0, 0)) ∧ True) (by kernel_rfl) (by kernel_rfl) (by kernel_rfl) ⟨hE, hb8, trivial⟩ ⟨fun w46 ⟨hE, hb8, _⟩ => Yk.fieldAt rd3_fo50_9 (vr (PQ n2 0) rfl) ⟨rfl, rfl⟩, fun w46 ⟨hE, hb8, _⟩ => Yk.cell1 rd3_ty4 rfl (vr (PQ n2 9) rfl) (cellAt hb8 (show (rdkC ((⟨true, ((D.quota : Nat) : Int), (D.files.map Prod.fst), (D.files.map fun x => ((x.2 : Nat) : Int)), D.now, D.kept, D.acts, D.refused, ((D.arm) - (1)), (decide ((((D.arm) - (1)) : Nat) = (0)))⟩, ⟨V.files, V.synced, V.now, V.kept, V.acts⟩) : RdkV))[9]? = some (.bool ((decide ((((D.arm) - (1)) : Nat) = (0)))) : Value) from rdk_g9 ((⟨true, ((D.quota : Nat) : Int), (D.files.map Prod.fst), (D.files.map fun x => ((x.2 : Nat) : Int)), D.now, D.kept, D.acts, D.refused, ((D.arm) - (1)), (decide ((((D.arm) - (1)) : Nat) = (0)))⟩, ⟨V.files, V.synced, V.now, V.kept, V.acts⟩) : RdkV))) ⟨rfl, rfl⟩, trivial⟩ (chF_step rfl (Yk.loadAll (vr (PQ n2 0) rfl) hb8 (rd3_ty50).choose_spec rfl (st_isz (rdk_len ((⟨true, ((D.quota : Nat) : Int), (D.files.map Prod.fst), (D.files.map fun x => ((x.2 : Nat) : Int)), D.now, D.kept, D.acts, D.refused, ((D.arm) - (1)), (decide ((((D.arm) - (1)) : Nat) = (0)))⟩, ⟨V.files, V.synced, V.now, V.kept, V.acts⟩) : RdkV)) rd3_isz50) ?_))
 refine ⟨.inr ⟨hE, hb8, trivial⟩, ?_⟩
 refine chF_step rfl (Yk.storeAll (vr (PQ n10 0) rfl) (vr (.agg (rdkC ((⟨true, ((D.quota : Nat) : Int), (D.files.map Prod.fst), (D.files.map fun x => ((x.2 : Nat) : Int)), D.now, D.kept, D.acts, D.refused, ((D.arm) - (1)), (decide ((((D.arm) - (1)) : Nat) = (0)))⟩, ⟨V.files, V.synced, V.now, V.kept, V.acts⟩) : RdkV)).toArray) rfl) hb20 (by simp only [List.size_toArray, rdk_len]) (st_isz (rdk_len _) rd3_isz50) (rdk_one (x := ((⟨true, ((D.quota : Nat) : Int), (D.files.map Prod.fst), (D.files.map fun x => ((x.2 : Nat) : Int)), D.now, D.kept, D.acts, D.refused, ((D.arm) - (1)), (decide ((((D.arm) - (1)) : Nat) = (0)))⟩, ⟨V.files, V.synced, V.now, V.kept, V.acts⟩) : RdkV)) (RG.one (hfiles.keep hE)).2 (RG.one (hsynced.keep hE)).2 (RG.one (hnow.keep hE)).2 (RG.one (hkept.keep hE)).2 (RG.one (hacts.keep hE)).2) fun w47 hb48 hg49 hs50 => ?_)
 have hE := row_fresh hE hg49 (Nat.le_trans hz18 (by omega))
 have hb8 := kb hg49 hb8 (by omega)
 clear hb20
 have hb20 : w47.heap[n10]? = some (.cells (rdkC ((⟨true, ((D.quota : Nat) : Int), (D.files.map Prod.fst), (D.files.map fun x => ((x.2 : Nat) : Int)), D.now, D.kept, D.acts, D.refused, ((D.arm) - (1)), (decide ((((D.arm) - (1)) : Nat) = (0)))⟩, ⟨V.files, V.synced, V.now, V.kept, V.acts⟩) : RdkV)).toArray 50 (0, 0)) := hb48; clear hb48
 have hl51 := bl hb20
 refine ⟨.inr ⟨hE, hb8, trivial⟩, ?_⟩
 refine chF_step rfl (Yk.assign (vr (.bool ((decide ((((D.arm) - (1)) : Nat) = (0))))) rfl) ?_)
 refine ⟨.inl rfl, ?_⟩
 refine chF_nil (tN (hK44 _ _ (wpF_ret (postF_ret (fn := Try.f56) _ rfl [.agg (rdkC ((⟨true, ((D.quota : Nat) : Int), (D.files.map Prod.fst), (D.files.map fun x => ((x.2 : Nat) : Int)), D.now, D.kept, D.acts, D.refused, ((D.arm) - (1)), (decide ((((D.arm) - (1)) : Nat) = (0)))⟩, ⟨V.files, V.synced, V.now, V.kept, V.acts⟩) : RdkV)).toArray, .bool ((decide ((((D.arm) - (1)) : Nat) = (0))))] (.tuple #[.agg (rdkC ((⟨true, ((D.quota : Nat) : Int), (D.files.map Prod.fst), (D.files.map fun x => ((x.2 : Nat) : Int)), D.now, D.kept, D.acts, D.refused, ((D.arm) - (1)), (decide ((((D.arm) - (1)) : Nat) = (0)))⟩, ⟨V.files, V.synced, V.now, V.kept, V.acts⟩) : RdkV)).toArray, .bool ((decide ((((D.arm) - (1)) : Nat) = (0))))]) rfl ⟨ResF.row rfl hb20 (rd3_ty50).choose_spec rfl (st_isz (rdk_len _) rd3_isz50), rfl, trivial⟩ ?_))))
 rw [show armD D = _ from if_neg ha]
 exact ⟨rfl, hE⟩

theorem copy_any {P : Nat → Prop} (w : World) (D : Dsk) (V : RdkW) (hR : RdAt P w D V) (hL : DLt D) (hfn : D.files.length < 1099511627776) :
  Calls Try.prog 55 #[.agg (rdkC (refP D, V)).toArray] w fun e w' => ∃ V', e = .returned (.agg (rdkC (refP D, V')).toArray) ∧ RdO w.heap.size w' D V' ∧ Ext w w' := by
 obtain ⟨vs, hvs, hfiles0⟩ := hR.files
 have hfiles := hfiles0.1
 have hsynced := hR.synced.1
 have hnow := hR.now.1
 have hkept := hR.kept.1
 have hacts := hR.acts.1
 have hnl := hL.now
 have hkl := hL.kept
 have hal := hL.acts
 refine calls_of_wpF (args := [.agg (rdkC (refP D, V)).toArray]) Try.func55 rfl 45 rfl (Nat.le_of_ble_eq_true rfl) ?_
 intro ρ0 hb
 have T0 : ρ0 0 = (.agg (rdkC (refP D, V)).toArray : Value) := hb.get 0
 clear hb
 have hE := Ext.refl w
 refine sk fun K1 hK1 => (wt (oS rfl (Yk.box (cs := (rdkC (refP D, V) : List Value).toArray) T0 fun n2 w3 hn4 hb5 hx6 hs7 => ?_)))
 have hE := hE.trans hx6
 have hb8 := hb5; clear hb5
 have hl9 : n2 < w3.heap.size := by omega
 refine oS rfl (Yk.alloc (cs := (rdkC ((⟨false, 0, [], [], [], [], [], 0, 0, false⟩, ⟨.slice none 0 0, .slice none 0 0, .slice none 0 0, .slice none 0 0, .slice none 0 0⟩) : RdkV)).toArray) rd3_al50 fun n10 w11 hn12 hb13 hx14 hs15 => ?_)
 have hA16 := Ext.refl w3
 have hea17 := hE
 have hz18 := hE.size
 have hlt19 := lte (bl hb8) hn12
 have hE := hE.trans hx14
 have hb8 := eb hx14 hb8
 have hA16 := hA16.trans hx14
 have hb20 := hb13; clear hb13
 have hl21 : n10 < w11.heap.size := by omega
 refine oZ (tN (hK1 _ _ (sk fun K22 hK22 => (wt (oA rfl (oZ (tN (hK22 _ _ (sk fun K23 hK23 => (sk fun K24 hK24 => (wt (oA rfl (oL_ [(0, .agg (rdkC (refP D, V)).toArray), (1, PQ n2 0), (2, PQ n10 0), (3, (Value.slice none 0 0)), (4, NI 0)] ⟨T0, rfl, rfl, rfl, rfl, trivial⟩ fun ρ25 ⟨T0, T1, T2, T3, T4, _⟩ => ?_)))))))))))))
 have hA26 := Ext.refl w11
 have hea27 := hE
 have hea28 := hA16
 have hz29 := hE.size
 have hz30 := hA16.size
 have hrow0 : OG w11.heap.size 24 1 (enV) w11 (Value.slice none 0 0) ([] : List Value) := OG.nil _ _ _ _ _
 have hap31 : Value.ownBlock (Value.slice none 0 0) ≠ some n2 := fun e_ => by cases e_
 have hap32 : Value.ownBlock (Value.slice none 0 0) ≠ some n10 := fun e_ => by cases e_
 have hlw0 : w.heap.size ≤ w11.heap.size := hE.size
 have hvl : vs.length = D.files.length := by rw [hvs.len, List.length_map]
 have hfl := hL.files
 have hsl : (D.files.map fun x => ((x.2 : Nat) : Int)).length = D.files.length := List.length_map _
 refine tN (hK24 _ _ (wpF_block (wpF_loop (fun (ρ : Slots) (wz : World) => ∃ i : Nat, ∃ us : List Value, ∃ r : Value, ρ 0 = (.agg (rdkC (refP D, V)).toArray : Value) ∧ ρ 1 = (PQ n2 0 : Value) ∧ ρ 2 = (PQ n10 0 : Value) ∧ ρ 4 = (NI i : Value) ∧ ρ 3 = (r : Value) ∧ Ext w wz ∧ wz.heap[n2]? = some (.cells (rdkC (refP D, V)).toArray 50 (0, 0)) ∧ Ext w3 wz ∧ wz.heap[n10]? = some (.cells (rdkC ((⟨false, 0, [], [], [], [], [], 0, 0, false⟩, ⟨.slice none 0 0, .slice none 0 0, .slice none 0 0, .slice none 0 0, .slice none 0 0⟩) : RdkV)).toArray 50 (0, 0)) ∧ Ext w11 wz ∧ RowsO w.heap.size wz us ((D.files.map Prod.fst).take i) ∧ OG w11.heap.size 24 1 (enV) wz r (us) ∧ (i ≤ D.files.length) ∧ (us.length = i) ∧ (OB r n2) ∧ (OB r n10) ∧ True) (fun ρ _ => D.files.length - (intOf (ρ 4)).toNat) ⟨0, [], (Value.slice none 0 0), T0, T1, T2, T4, T3, hE, hb8, hA16, hb20, hA26, RowsO.nil _ _, og_eq hrow0 (rfl), Nat.zero_le _, rfl, hap31, hap32, trivial⟩ ?_)))
 clear hrow0
 clear hE hb8 hA16 hb20 hA26
 rintro ρ33 w34 ⟨i, us, r, T0, T1, T2, T4, T3, hE, hb8, hA16, hb20, hA26, hFs, hr_r, hi, hul, hap_r_n2, hap_r_n10, -⟩
 have q4 := T4
 refine sk fun K35 hK35 => (sk fun K36 hK36 => (wt (oM rfl (oS rfl (Yk.fieldAt rd3_fo50_2 T1 (oS rfl (Yk.cell1 rd3_ty23 rfl (vr (PQ n2 2) rfl) (cellAt hb8 (show (rdkC (refP D, V))[2]? = some (V.files : Value) from rdk_g2 (refP D, V))) (oS rfl (Yk.lenRG rd3_ty23 (RG.of (hfiles.keep hE) (vr V.files rfl)) (oS rfl (Yk.eqI (a := (i : Nat)) (b := (vs.length : Nat)) T4 rfl (k_lss _ _ _ _) (oZ (tN (hK36 _ _ ?_))))))))))))))
 refine wpF_cond ((i) < (vs.length)) (vr (.bool (decide ((i) < (vs.length)))) rfl) (fun hc0 => ?_) (fun hc0 => ?_)
 ·have hA37 := Ext.refl w34
  have hea38 := hE
  have hea39 := hA16
  have hea40 := hA26
  have hz41 := hE.size
  have hz42 := hA16.size
  have hz43 := hA26.size
  have hlt : i < D.files.length := by omega
  have hfk := (hvs.at_ i (by rw [List.length_map]; exact hlt)).1
  rw [getD_mapR (d := (([], 0) : List UInt8 × Nat)) rfl] at hfk
  have hfb := hL.files _ (getD_mem_ (d := ([], 0)) hlt)
  have hFs0 := hFs
  refine wpF_skip (tN (hK35 _ _ (sk fun K44 hK44 => (wpF_block (wt (oM rfl (oS rfl (Yk.lit0 rd3_l0_24 fun v45 w46 hN47 => ?_))))))))
  have hap48 : OB v45 n2 := own_older hN47.own (bl hb8)
  have hap49 : OB v45 n10 := own_older hN47.own (bl hb20)
  have hap50 : ApartV r v45 := apartv_new hr_r.2 hN47.own
  have hap51 : ApartV v45 r := apartv_new' hr_r.2 hN47.own
  have hE := hE.trans hN47.ext
  have hb8 := eb hN47.ext hb8
  have hA16 := hA16.trans hN47.ext
  have hb20 := eb hN47.ext hb20
  have hA26 := hA26.trans hN47.ext
  have hr_r := hr_r.keep hN47.ext
  have hA37 := hA37.trans hN47.ext
  have ho52 := hN47.own; clear hN47
  refine oS rfl (Yk.fieldAt rd3_fo50_2 T1 (oS rfl (Yk.cell1 rd3_ty23 rfl (vr (PQ n2 2) rfl) (cellAt hb8 (show (rdkC (refP D, V))[2]? = some (V.files : Value) from rdk_g2 (refP D, V))) (oM rfl ?_))))
  have hl55 : (enV (vs.getD (i) undef)).length = 1 := (RG.elem (hfiles.keep hE) undef (by omega))
  refine oS rfl (Yk.atRG rd3_ty23 rd3_szg24 (by decide) undef (RG.of (hfiles.keep hE) (vr V.files rfl)) T4 (by omega) fun v53 hp54 => (oS rfl (Yk.loadC rd3_ty24 rfl (PR.cell (PR.of hp54 (vr v53 rfl)) (show _ = some (vs.getD (i) undef : Value) from rfl)) (oS rfl (Yk.appendRB _ _ w34.heap.size (.int .u8 0) rd3_ty24 rd3_inf5 rfl rd3_ty24 (([] : List UInt8)) ((D.files.getD i ([], 0)).1) (own_of ho52 (vr v45 rfl)) (RB.of (hfk.keep hE) (vr (vs.getD (i) undef) rfl)) (by simp only [List.length_nil]; omega) hA37.size fun v56 w57 ho58 hg59 => ?_)))))
  have hg59 : Grew w46 w57 v45 v56 := hg59
  have hap60 : OB v56 n2 := apart_grew hg59 hap48 (bl hb8)
  have hap61 : OB v56 n10 := apart_grew hg59 hap49 (bl hb20)
  have hap62 : ApartV v56 r := apartv_grew hg59 hap51 hr_r.2
  have hap63 : ApartV r v56 := fun k h1 h2 => hap62 k h2 h1
  have hE := ext_grew hE hg59 ho52 hz41
  have hb8 := blk_grew hb8 hg59 hap48
  have hA16 := ext_grew hA16 hg59 ho52 hz42
  have hb20 := blk_grew hb20 hg59 hap49
  have hA26 := ext_grew hA26 hg59 ho52 hz43
  have hr_r := og_grew hr_r hg59 hap51
  have hA37 := ext_grew hA37 hg59 ho52 (Nat.le_refl _)
  clear hp54
  clear ho52
  have hve := RB.slice (RB.ofOwn ho58)
  have hve1 := (own_one ho58).2
  have hpart : ∀ j, j < ((D.files.map Prod.fst).take i).length → ∀ x, (us.getD j undef).ownBlock = some x → OB v56 x := fun j hj x hx e => by have h1 := ((hFs0.own j hj).lt x hx).2; have h2 := (ho58.lt x e).1; omega
  refine oS rfl (Yk.lit1S (a := (v56)) (enc := enV) (vr v56 rfl) rfl (fun w => by obtain ⟨_, _, _, rfl⟩ := hve; exact rd3_lk23 _ _ _ w) fun v64 w65 hr66 hx67 => ?_)
  have hE := hE.trans hx67
  have hb8 := eb hx67 hb8
  have hA16 := hA16.trans hx67
  have hb20 := eb hx67 hb20
  have hA26 := hA26.trans hx67
  have hr_r := hr_r.keep hx67
  have hA37 := hA37.trans hx67
  have ho58 := Stab.own _ _ _ _ _ _ _ _ ho58 hx67
  have hFs := (hFs.keep hA37)
  refine oS rfl (Yk.appendRG _ _ w11.heap.size _ 24 rd3_ty23 rd3_ig24.choose_spec.1 rd3_ig24.choose_spec.2 rd3_ty23 (us) ([(v56)]) (OG.of hr_r T3) (RG.of hr66 (vr v64 rfl)) (fun y hy u hu => by rw [List.mem_singleton.1 hu, List.mem_singleton.1 hy]; exact hve1) (by simp only [List.length_append, List.length_map, List.length_nil, List.length_singleton]; omega) (by simp only [List.length_append, List.length_map, List.length_nil, List.length_singleton]; omega) hA26.size fun v68 w69 ho70 hg71 => ?_)
  have hg71 : Grew w65 w69 r v68 := .eqv T3 hg71
  have hap72 : OB v68 n2 := apart_grew hg71 hap_r_n2 (bl hb8)
  have hap73 : OB v68 n10 := apart_grew hg71 hap_r_n10 (bl hb20)
  have hap74 : ApartV v68 v56 := apartv_grew hg71 hap63 ho58
  have hap75 : ApartV v56 v68 := fun k h1 h2 => hap74 k h2 h1
  have hE := ext_grew hE hg71 hr_r.2 hz29
  have hb8 := blk_grew hb8 hg71 hap_r_n2
  have hA16 := ext_grew hA16 hg71 hr_r.2 hz30
  have hb20 := blk_grew hb20 hg71 hap_r_n10
  have hA26 := ext_grew hA26 hg71 hr_r.2 (Nat.le_refl _)
  have hFs : RowsO w.heap.size w69 us ((D.files.map Prod.fst).take i) := RowsO.grew hFs hg71 hr_r.2 (by decide)
  clear hA37
  have ho58 := own_grew ho58 hg71 hap63
  clear hr66
  clear hr_r
  refine oA rfl (oZ ?_)
  have hFs2 := take_rows (hFs.snoc (own_eq (l' := (D.files.getD i ([], 0)).1) (ownsRow_base ho58 (by omega)) (by simp)) hpart) hlt
  refine bN (tN (hK44 _ _ (wt (oM rfl (oS rfl (Yk.bin (xv := NI i) (yv := NI 1) T4 rfl rfl (i64_add _ _ _ (by omega)) (oA rfl (oL_ [(0, .agg (rdkC (refP D, V)).toArray), (1, PQ n2 0), (2, PQ n10 0), (3, v68), (4, NI ((i) + (1)))] ⟨T0, T1, T2, rfl, rfl, trivial⟩ fun ρ76 ⟨T0, T1, T2, T3, T4, _⟩ => (tN (And.intro ⟨i + 1, us ++ [v56], v68, T0, T1, T2, T4, T3, hE, hb8, hA16, hb20, hA26, hFs2, og_eq ho70 (rfl), by omega, by rw [List.length_append, List.length_singleton]; omega, hap72, hap73, trivial⟩ ?_))))))))))
  show D.files.length - (intOf (ρ76 4)).toNat < D.files.length - (intOf (ρ33 4)).toNat
  rw [T4, q4]
  simp only [intOf, Int.toNat_natCast]; omega
 have hie : i = D.files.length := by have h := hc0; omega
 rw [hie, show D.files.length = (D.files.map Prod.fst).length from (List.length_map _).symm, List.take_length] at hFs
 refine wpF_exit (thenF_exit (thenF_exit (inBlockF_hit (tN (hK23 _ _ (sk fun K77 hK77 => (wt (oM rfl (oS rfl (Yk.fieldAt rd3_fo50_2 T1 (oS rfl (Yk.storeC (i := 2) (v := r) (vr (PQ n2 2) rfl) T3 hb8 (by rw [rdk_len]; decide) rd3_isz23 (RG.one (RG.ofOwn hr_r)).1 (RG.one (RG.ofOwn hr_r)).2 fun w78 hb79 hg80 hs81 => ?_))))))))))))
 have hE := row_fresh hE hg80 (Nat.le_trans (Nat.le_refl _) (by omega))
 clear hA16
 have hb20 := kb hg80 hb20 (by omega)
 clear hA26
 have hFs : RowsO w.heap.size w78 us ((D.files.map Prod.fst)) := RowsO.set hFs hg80 hb8 (by decide)
 have hr_r := OG.kept hr_r hg80 hap_r_n2
 clear hb8
 have hb8 : w78.heap[n2]? = some (.cells (rdkC ((⟨true, ((D.quota : Nat) : Int), (D.files.map Prod.fst), (D.files.map fun x => ((x.2 : Nat) : Int)), D.now, D.kept, D.acts, D.refused, D.arm, D.down⟩, ⟨r, V.synced, V.now, V.kept, V.acts⟩) : RdkV)).toArray 50 (0, 0)) := blk_eq hb79 (rdk_s2 (refP D, V) r ((D.files.map Prod.fst))); clear hb79
 have hl82 := bl hb8
 refine oZ (tN (hK77 _ _ (sk fun K83 hK83 => (wt ?_))))
 have hA88 := Ext.refl w78
 have hea89 := hE
 have hz90 := hE.size
 refine oS rfl (Yk.lit0G (k := 1) (enc := enI) rd3_l0_25 fun v84 w85 ho86 hx87 => ?_)
 have hap91 : OB v84 n10 := own_older ho86.2 (bl hb20)
 have hap92 : OB v84 n2 := own_older ho86.2 (bl hb8)
 have hap93 : ApartV r v84 := apartv_new hr_r.2 ho86.2
 have hap94 : ApartV v84 r := apartv_new' hr_r.2 ho86.2
 have hE := hE.trans hx87
 have hb20 := eb hx87 hb20
 have hFs : RowsO w.heap.size w85 us ((D.files.map Prod.fst)) := (hFs.keep hx87)
 have hr_r := hr_r.keep hx87
 have hb8 := eb hx87 hb8
 have hA88 := hA88.trans hx87
 refine oS rfl (Yk.fieldAt rd3_fo50_3 T1 (oS rfl (Yk.cell1 rd3_ty25 rfl (vr (PQ n2 3) rfl) (cellAt hb8 (show (rdkC ((⟨true, ((D.quota : Nat) : Int), (D.files.map Prod.fst), (D.files.map fun x => ((x.2 : Nat) : Int)), D.now, D.kept, D.acts, D.refused, D.arm, D.down⟩, ⟨r, V.synced, V.now, V.kept, V.acts⟩) : RdkV))[3]? = some (V.synced : Value) from rdk_g3 ((⟨true, ((D.quota : Nat) : Int), (D.files.map Prod.fst), (D.files.map fun x => ((x.2 : Nat) : Int)), D.now, D.kept, D.acts, D.refused, D.arm, D.down⟩, ⟨r, V.synced, V.now, V.kept, V.acts⟩) : RdkV))) (oS rfl (Yk.appendRG _ _ w78.heap.size _ 8 rd3_ty25 rd3_ig3.choose_spec.1 rd3_ig3.choose_spec.2 rd3_ty25 ([]) ((D.files.map fun x => ((x.2 : Nat) : Int))) (OG.of ho86 (vr v84 rfl)) (RG.of (hsynced.keep hE) (vr V.synced rfl)) (fun y hy u hu => by rw [List.mem_singleton.1 hu]; rfl) (by simp only [List.length_append, List.length_map, List.length_nil, List.length_singleton]; omega) (by simp only [List.length_append, List.length_map, List.length_nil, List.length_singleton]; omega) hA88.size fun v95 w96 ho97 hg98 => ?_)))))
 have hg98 : Grew w85 w96 v84 v95 := hg98
 have hap99 : OB v95 n10 := apart_grew hg98 hap91 (bl hb20)
 have hap100 : OB v95 n2 := apart_grew hg98 hap92 (bl hb8)
 have hap101 : ApartV v95 r := apartv_grew hg98 hap94 hr_r.2
 have hap102 : ApartV r v95 := fun k h1 h2 => hap101 k h2 h1
 have hE := ext_grew hE hg98 ho86.2 hz90
 have hb20 := blk_grew hb20 hg98 hap91
 have hFs : RowsO w.heap.size w96 us ((D.files.map Prod.fst)) := RowsO.grew hFs hg98 ho86.2 (by decide)
 have hr_r := og_grew hr_r hg98 hap94
 have hb8 := blk_grew hb8 hg98 hap92
 have hA88 := ext_grew hA88 hg98 ho86.2 (Nat.le_refl _)
 clear ho86
 refine oS rfl (Yk.fieldAt rd3_fo50_3 T1 (oS rfl (Yk.storeC (i := 3) (v := v95) (vr (PQ n2 3) rfl) (vr v95 rfl) hb8 (by rw [rdk_len]; decide) rd3_isz25 (RG.one (RG.ofOwn ho97)).1 (RG.one (RG.ofOwn ho97)).2 fun w103 hb104 hg105 hs106 => ?_)))
 have hE := row_fresh hE hg105 (Nat.le_trans (Nat.le_refl _) (by omega))
 have hb20 := kb hg105 hb20 (by omega)
 have hFs : RowsO w.heap.size w103 us ((D.files.map Prod.fst)) := RowsO.set hFs hg105 hb8 (by decide)
 have hr_r := OG.kept hr_r hg105 hap_r_n2
 clear hA88
 have ho97 := OG.kept ho97 hg105 hap100
 clear hb8
 have hb8 : w103.heap[n2]? = some (.cells (rdkC ((⟨true, ((D.quota : Nat) : Int), (D.files.map Prod.fst), (D.files.map fun x => ((x.2 : Nat) : Int)), D.now, D.kept, D.acts, D.refused, D.arm, D.down⟩, ⟨r, v95, V.now, V.kept, V.acts⟩) : RdkV)).toArray 50 (0, 0)) := blk_eq hb104 (rdk_s3 ((⟨true, ((D.quota : Nat) : Int), (D.files.map Prod.fst), (D.files.map fun x => ((x.2 : Nat) : Int)), D.now, D.kept, D.acts, D.refused, D.arm, D.down⟩, ⟨r, V.synced, V.now, V.kept, V.acts⟩) : RdkV) v95 ((D.files.map fun x => ((x.2 : Nat) : Int)))); clear hb104
 have hl107 := bl hb8
 refine oZ (tN (hK83 _ _ (sk fun K108 hK108 => (wt ?_))))
 have hA113 := Ext.refl w103
 have hea114 := hE
 have hz115 := hE.size
 refine oS rfl (Yk.lit0G (k := 2) (enc := renC) rd3_l0_47 fun v109 w110 ho111 hx112 => ?_)
 have hap116 : OB v109 n10 := own_older ho111.2 (bl hb20)
 have hap117 : OB v109 n2 := own_older ho111.2 (bl hb8)
 have hap118 : ApartV r v109 := apartv_new hr_r.2 ho111.2
 have hap119 : ApartV v109 r := apartv_new' hr_r.2 ho111.2
 have hap120 : ApartV v95 v109 := apartv_new ho97.2 ho111.2
 have hap121 : ApartV v109 v95 := apartv_new' ho97.2 ho111.2
 have hE := hE.trans hx112
 have hb20 := eb hx112 hb20
 have hFs : RowsO w.heap.size w110 us ((D.files.map Prod.fst)) := (hFs.keep hx112)
 have hr_r := hr_r.keep hx112
 have ho97 := ho97.keep hx112
 have hb8 := eb hx112 hb8
 have hA113 := hA113.trans hx112
 refine oS rfl (Yk.fieldAt rd3_fo50_4 T1 (oS rfl (Yk.cell1 rd3_ty47 rfl (vr (PQ n2 4) rfl) (cellAt hb8 (show (rdkC ((⟨true, ((D.quota : Nat) : Int), (D.files.map Prod.fst), (D.files.map fun x => ((x.2 : Nat) : Int)), D.now, D.kept, D.acts, D.refused, D.arm, D.down⟩, ⟨r, v95, V.now, V.kept, V.acts⟩) : RdkV))[4]? = some (V.now : Value) from rdk_g4 ((⟨true, ((D.quota : Nat) : Int), (D.files.map Prod.fst), (D.files.map fun x => ((x.2 : Nat) : Int)), D.now, D.kept, D.acts, D.refused, D.arm, D.down⟩, ⟨r, v95, V.now, V.kept, V.acts⟩) : RdkV))) (oS rfl (Yk.appendRG _ _ w103.heap.size _ 24 rd3_ty47 rd3_ig89.choose_spec.1 rd3_ig89.choose_spec.2 rd3_ty47 ([]) (D.now) (OG.of ho111 (vr v109 rfl)) (RG.of (hnow.keep hE) (vr V.now rfl)) (fun _ _ => ren_one) (by simp only [List.length_append, List.length_map, List.length_nil, List.length_singleton]; omega) (by simp only [List.length_append, List.length_map, List.length_nil, List.length_singleton]; omega) hA113.size fun v122 w123 ho124 hg125 => ?_)))))
 have hg125 : Grew w110 w123 v109 v122 := hg125
 have hap126 : OB v122 n10 := apart_grew hg125 hap116 (bl hb20)
 have hap127 : OB v122 n2 := apart_grew hg125 hap117 (bl hb8)
 have hap128 : ApartV v122 r := apartv_grew hg125 hap119 hr_r.2
 have hap129 : ApartV r v122 := fun k h1 h2 => hap128 k h2 h1
 have hap130 : ApartV v122 v95 := apartv_grew hg125 hap121 ho97.2
 have hap131 : ApartV v95 v122 := fun k h1 h2 => hap130 k h2 h1
 have hE := ext_grew hE hg125 ho111.2 hz115
 have hb20 := blk_grew hb20 hg125 hap116
 have hFs : RowsO w.heap.size w123 us ((D.files.map Prod.fst)) := RowsO.grew hFs hg125 ho111.2 (by decide)
 have hr_r := og_grew hr_r hg125 hap119
 have ho97 := og_grew ho97 hg125 hap121
 have hb8 := blk_grew hb8 hg125 hap117
 have hA113 := ext_grew hA113 hg125 ho111.2 (Nat.le_refl _)
 clear ho111
 refine oS rfl (Yk.fieldAt rd3_fo50_4 T1 (oS rfl (Yk.storeC (i := 4) (v := v122) (vr (PQ n2 4) rfl) (vr v122 rfl) hb8 (by rw [rdk_len]; decide) rd3_isz47 (RG.one (RG.ofOwn ho124)).1 (RG.one (RG.ofOwn ho124)).2 fun w132 hb133 hg134 hs135 => ?_)))
 have hE := row_fresh hE hg134 (Nat.le_trans (Nat.le_refl _) (by omega))
 have hb20 := kb hg134 hb20 (by omega)
 have hFs : RowsO w.heap.size w132 us ((D.files.map Prod.fst)) := RowsO.set hFs hg134 hb8 (by decide)
 have hr_r := OG.kept hr_r hg134 hap_r_n2
 have ho97 := OG.kept ho97 hg134 hap100
 clear hA113
 have ho124 := OG.kept ho124 hg134 hap127
 clear hb8
 have hb8 : w132.heap[n2]? = some (.cells (rdkC ((⟨true, ((D.quota : Nat) : Int), (D.files.map Prod.fst), (D.files.map fun x => ((x.2 : Nat) : Int)), D.now, D.kept, D.acts, D.refused, D.arm, D.down⟩, ⟨r, v95, v122, V.kept, V.acts⟩) : RdkV)).toArray 50 (0, 0)) := blk_eq hb133 (rdk_s4 ((⟨true, ((D.quota : Nat) : Int), (D.files.map Prod.fst), (D.files.map fun x => ((x.2 : Nat) : Int)), D.now, D.kept, D.acts, D.refused, D.arm, D.down⟩, ⟨r, v95, V.now, V.kept, V.acts⟩) : RdkV) v122 (D.now)); clear hb133
 have hl136 := bl hb8
 refine oZ (tN (hK108 _ _ (sk fun K137 hK137 => (wt ?_))))
 have hA142 := Ext.refl w132
 have hea143 := hE
 have hz144 := hE.size
 refine oS rfl (Yk.lit0G (k := 2) (enc := renC) rd3_l0_47 fun v138 w139 ho140 hx141 => ?_)
 have hap145 : OB v138 n10 := own_older ho140.2 (bl hb20)
 have hap146 : OB v138 n2 := own_older ho140.2 (bl hb8)
 have hap147 : ApartV r v138 := apartv_new hr_r.2 ho140.2
 have hap148 : ApartV v138 r := apartv_new' hr_r.2 ho140.2
 have hap149 : ApartV v95 v138 := apartv_new ho97.2 ho140.2
 have hap150 : ApartV v138 v95 := apartv_new' ho97.2 ho140.2
 have hap151 : ApartV v122 v138 := apartv_new ho124.2 ho140.2
 have hap152 : ApartV v138 v122 := apartv_new' ho124.2 ho140.2
 have hE := hE.trans hx141
 have hb20 := eb hx141 hb20
 have hFs : RowsO w.heap.size w139 us ((D.files.map Prod.fst)) := (hFs.keep hx141)
 have hr_r := hr_r.keep hx141
 have ho97 := ho97.keep hx141
 have ho124 := ho124.keep hx141
 have hb8 := eb hx141 hb8
 have hA142 := hA142.trans hx141
 refine oS rfl (Yk.fieldAt rd3_fo50_5 T1 (oS rfl (Yk.cell1 rd3_ty47 rfl (vr (PQ n2 5) rfl) (cellAt hb8 (show (rdkC ((⟨true, ((D.quota : Nat) : Int), (D.files.map Prod.fst), (D.files.map fun x => ((x.2 : Nat) : Int)), D.now, D.kept, D.acts, D.refused, D.arm, D.down⟩, ⟨r, v95, v122, V.kept, V.acts⟩) : RdkV))[5]? = some (V.kept : Value) from rdk_g5 ((⟨true, ((D.quota : Nat) : Int), (D.files.map Prod.fst), (D.files.map fun x => ((x.2 : Nat) : Int)), D.now, D.kept, D.acts, D.refused, D.arm, D.down⟩, ⟨r, v95, v122, V.kept, V.acts⟩) : RdkV))) (oS rfl (Yk.appendRG _ _ w132.heap.size _ 24 rd3_ty47 rd3_ig89.choose_spec.1 rd3_ig89.choose_spec.2 rd3_ty47 ([]) (D.kept) (OG.of ho140 (vr v138 rfl)) (RG.of (hkept.keep hE) (vr V.kept rfl)) (fun _ _ => ren_one) (by simp only [List.length_append, List.length_map, List.length_nil, List.length_singleton]; omega) (by simp only [List.length_append, List.length_map, List.length_nil, List.length_singleton]; omega) hA142.size fun v153 w154 ho155 hg156 => ?_)))))
 have hg156 : Grew w139 w154 v138 v153 := hg156
 have hap157 : OB v153 n10 := apart_grew hg156 hap145 (bl hb20)
 have hap158 : OB v153 n2 := apart_grew hg156 hap146 (bl hb8)
 have hap159 : ApartV v153 r := apartv_grew hg156 hap148 hr_r.2
 have hap160 : ApartV r v153 := fun k h1 h2 => hap159 k h2 h1
 have hap161 : ApartV v153 v95 := apartv_grew hg156 hap150 ho97.2
 have hap162 : ApartV v95 v153 := fun k h1 h2 => hap161 k h2 h1
 have hap163 : ApartV v153 v122 := apartv_grew hg156 hap152 ho124.2
 have hap164 : ApartV v122 v153 := fun k h1 h2 => hap163 k h2 h1
 have hE := ext_grew hE hg156 ho140.2 hz144
 have hb20 := blk_grew hb20 hg156 hap145
 have hFs : RowsO w.heap.size w154 us ((D.files.map Prod.fst)) := RowsO.grew hFs hg156 ho140.2 (by decide)
 have hr_r := og_grew hr_r hg156 hap148
 have ho97 := og_grew ho97 hg156 hap150
 have ho124 := og_grew ho124 hg156 hap152
 have hb8 := blk_grew hb8 hg156 hap146
 have hA142 := ext_grew hA142 hg156 ho140.2 (Nat.le_refl _)
 clear ho140
 refine oS rfl (Yk.fieldAt rd3_fo50_5 T1 (oS rfl (Yk.storeC (i := 5) (v := v153) (vr (PQ n2 5) rfl) (vr v153 rfl) hb8 (by rw [rdk_len]; decide) rd3_isz47 (RG.one (RG.ofOwn ho155)).1 (RG.one (RG.ofOwn ho155)).2 fun w165 hb166 hg167 hs168 => ?_)))
 have hE := row_fresh hE hg167 (Nat.le_trans (Nat.le_refl _) (by omega))
 have hb20 := kb hg167 hb20 (by omega)
 have hFs : RowsO w.heap.size w165 us ((D.files.map Prod.fst)) := RowsO.set hFs hg167 hb8 (by decide)
 have hr_r := OG.kept hr_r hg167 hap_r_n2
 have ho97 := OG.kept ho97 hg167 hap100
 have ho124 := OG.kept ho124 hg167 hap127
 clear hA142
 have ho155 := OG.kept ho155 hg167 hap158
 clear hb8
 have hb8 : w165.heap[n2]? = some (.cells (rdkC ((⟨true, ((D.quota : Nat) : Int), (D.files.map Prod.fst), (D.files.map fun x => ((x.2 : Nat) : Int)), D.now, D.kept, D.acts, D.refused, D.arm, D.down⟩, ⟨r, v95, v122, v153, V.acts⟩) : RdkV)).toArray 50 (0, 0)) := blk_eq hb166 (rdk_s5 ((⟨true, ((D.quota : Nat) : Int), (D.files.map Prod.fst), (D.files.map fun x => ((x.2 : Nat) : Int)), D.now, D.kept, D.acts, D.refused, D.arm, D.down⟩, ⟨r, v95, v122, V.kept, V.acts⟩) : RdkV) v153 (D.kept)); clear hb166
 have hl169 := bl hb8
 refine oZ (tN (hK137 _ _ (sk fun K170 hK170 => (wt ?_))))
 have hA175 := Ext.refl w165
 have hea176 := hE
 have hz177 := hE.size
 refine oS rfl (Yk.lit0G (k := 3) (enc := racC) rd3_l0_48 fun v171 w172 ho173 hx174 => ?_)
 have hap178 : OB v171 n10 := own_older ho173.2 (bl hb20)
 have hap179 : OB v171 n2 := own_older ho173.2 (bl hb8)
 have hap180 : ApartV r v171 := apartv_new hr_r.2 ho173.2
 have hap181 : ApartV v171 r := apartv_new' hr_r.2 ho173.2
 have hap182 : ApartV v95 v171 := apartv_new ho97.2 ho173.2
 have hap183 : ApartV v171 v95 := apartv_new' ho97.2 ho173.2
 have hap184 : ApartV v122 v171 := apartv_new ho124.2 ho173.2
 have hap185 : ApartV v171 v122 := apartv_new' ho124.2 ho173.2
 have hap186 : ApartV v153 v171 := apartv_new ho155.2 ho173.2
 have hap187 : ApartV v171 v153 := apartv_new' ho155.2 ho173.2
 have hE := hE.trans hx174
 have hb20 := eb hx174 hb20
 have hFs : RowsO w.heap.size w172 us ((D.files.map Prod.fst)) := (hFs.keep hx174)
 have hr_r := hr_r.keep hx174
 have ho97 := ho97.keep hx174
 have ho124 := ho124.keep hx174
 have ho155 := ho155.keep hx174
 have hb8 := eb hx174 hb8
 have hA175 := hA175.trans hx174
 refine oS rfl (Yk.fieldAt rd3_fo50_6 T1 (oS rfl (Yk.cell1 rd3_ty48 rfl (vr (PQ n2 6) rfl) (cellAt hb8 (show (rdkC ((⟨true, ((D.quota : Nat) : Int), (D.files.map Prod.fst), (D.files.map fun x => ((x.2 : Nat) : Int)), D.now, D.kept, D.acts, D.refused, D.arm, D.down⟩, ⟨r, v95, v122, v153, V.acts⟩) : RdkV))[6]? = some (V.acts : Value) from rdk_g6 ((⟨true, ((D.quota : Nat) : Int), (D.files.map Prod.fst), (D.files.map fun x => ((x.2 : Nat) : Int)), D.now, D.kept, D.acts, D.refused, D.arm, D.down⟩, ⟨r, v95, v122, v153, V.acts⟩) : RdkV))) (oS rfl (Yk.appendRG _ _ w165.heap.size _ 40 rd3_ty48 rd3_ig98.choose_spec.1 rd3_ig98.choose_spec.2 rd3_ty48 ([]) (D.acts) (OG.of ho173 (vr v171 rfl)) (RG.of (hacts.keep hE) (vr V.acts rfl)) (fun _ _ => rac_one) (by simp only [List.length_append, List.length_map, List.length_nil, List.length_singleton]; omega) (by simp only [List.length_append, List.length_map, List.length_nil, List.length_singleton]; omega) hA175.size fun v188 w189 ho190 hg191 => ?_)))))
 have hg191 : Grew w172 w189 v171 v188 := hg191
 have hap192 : OB v188 n10 := apart_grew hg191 hap178 (bl hb20)
 have hap193 : OB v188 n2 := apart_grew hg191 hap179 (bl hb8)
 have hap194 : ApartV v188 r := apartv_grew hg191 hap181 hr_r.2
 have hap195 : ApartV r v188 := fun k h1 h2 => hap194 k h2 h1
 have hap196 : ApartV v188 v95 := apartv_grew hg191 hap183 ho97.2
 have hap197 : ApartV v95 v188 := fun k h1 h2 => hap196 k h2 h1
 have hap198 : ApartV v188 v122 := apartv_grew hg191 hap185 ho124.2
 have hap199 : ApartV v122 v188 := fun k h1 h2 => hap198 k h2 h1
 have hap200 : ApartV v188 v153 := apartv_grew hg191 hap187 ho155.2
 have hap201 : ApartV v153 v188 := fun k h1 h2 => hap200 k h2 h1
 have hE := ext_grew hE hg191 ho173.2 hz177
 have hb20 := blk_grew hb20 hg191 hap178
 have hFs : RowsO w.heap.size w189 us ((D.files.map Prod.fst)) := RowsO.grew hFs hg191 ho173.2 (by decide)
 have hr_r := og_grew hr_r hg191 hap181
 have ho97 := og_grew ho97 hg191 hap183
 have ho124 := og_grew ho124 hg191 hap185
 have ho155 := og_grew ho155 hg191 hap187
 have hb8 := blk_grew hb8 hg191 hap179
 have hA175 := ext_grew hA175 hg191 ho173.2 (Nat.le_refl _)
 clear ho173
 refine oS rfl (Yk.fieldAt rd3_fo50_6 T1 (oS rfl (Yk.storeC (i := 6) (v := v188) (vr (PQ n2 6) rfl) (vr v188 rfl) hb8 (by rw [rdk_len]; decide) rd3_isz48 (RG.one (RG.ofOwn ho190)).1 (RG.one (RG.ofOwn ho190)).2 fun w202 hb203 hg204 hs205 => ?_)))
 have hE := row_fresh hE hg204 (Nat.le_trans (Nat.le_refl _) (by omega))
 have hb20 := kb hg204 hb20 (by omega)
 have hFs : RowsO w.heap.size w202 us ((D.files.map Prod.fst)) := RowsO.set hFs hg204 hb8 (by decide)
 have hr_r := OG.kept hr_r hg204 hap_r_n2
 have ho97 := OG.kept ho97 hg204 hap100
 have ho124 := OG.kept ho124 hg204 hap127
 have ho155 := OG.kept ho155 hg204 hap158
 clear hA175
 have ho190 := OG.kept ho190 hg204 hap193
 clear hb8
 have hb8 : w202.heap[n2]? = some (.cells (rdkC ((⟨true, ((D.quota : Nat) : Int), (D.files.map Prod.fst), (D.files.map fun x => ((x.2 : Nat) : Int)), D.now, D.kept, D.acts, D.refused, D.arm, D.down⟩, ⟨r, v95, v122, v153, v188⟩) : RdkV)).toArray 50 (0, 0)) := blk_eq hb203 (rdk_s6 ((⟨true, ((D.quota : Nat) : Int), (D.files.map Prod.fst), (D.files.map fun x => ((x.2 : Nat) : Int)), D.now, D.kept, D.acts, D.refused, D.arm, D.down⟩, ⟨r, v95, v122, v153, V.acts⟩) : RdkV) v188 (D.acts)); clear hb203
 have hl206 := bl hb8
 refine oZ (tN (hK170 _ _ (sk fun K207 hK207 => (wt (oS rfl (Yk.loadAll T1 hb8 (rd3_ty50).choose_spec rfl (st_isz (rdk_len ((⟨true, ((D.quota : Nat) : Int), (D.files.map Prod.fst), (D.files.map fun x => ((x.2 : Nat) : Int)), D.now, D.kept, D.acts, D.refused, D.arm, D.down⟩, ⟨r, v95, v122, v153, v188⟩) : RdkV)) rd3_isz50) (oS rfl (Yk.storeAll T2 (vr (.agg (rdkC ((⟨true, ((D.quota : Nat) : Int), (D.files.map Prod.fst), (D.files.map fun x => ((x.2 : Nat) : Int)), D.now, D.kept, D.acts, D.refused, D.arm, D.down⟩, ⟨r, v95, v122, v153, v188⟩) : RdkV)).toArray) rfl) hb20 (by simp only [List.size_toArray, rdk_len]) (st_isz (rdk_len _) rd3_isz50) (rdk_one (x := ((⟨true, ((D.quota : Nat) : Int), (D.files.map Prod.fst), (D.files.map fun x => ((x.2 : Nat) : Int)), D.now, D.kept, D.acts, D.refused, D.arm, D.down⟩, ⟨r, v95, v122, v153, v188⟩) : RdkV)) (RG.one (RG.ofOwn hr_r)).2 (RG.one (RG.ofOwn ho97)).2 (RG.one (RG.ofOwn ho124)).2 (RG.one (RG.ofOwn ho155)).2 (RG.one (RG.ofOwn ho190)).2) fun w208 hb209 hg210 hs211 => ?_))))))))
 have hE := row_fresh hE hg210 (Nat.le_trans hz18 (by omega))
 have hFs : RowsO w.heap.size w208 us ((D.files.map Prod.fst)) := RowsO.set hFs hg210 hb20 (by decide)
 have hr_r := OG.kept hr_r hg210 hap_r_n10
 have ho97 := OG.kept ho97 hg210 hap99
 have ho124 := OG.kept ho124 hg210 hap126
 have ho155 := OG.kept ho155 hg210 hap157
 have ho190 := OG.kept ho190 hg210 hap192
 have hb8 := kb hg210 hb8 (by omega)
 clear hb20
 have hb20 : w208.heap[n10]? = some (.cells (rdkC ((⟨true, ((D.quota : Nat) : Int), (D.files.map Prod.fst), (D.files.map fun x => ((x.2 : Nat) : Int)), D.now, D.kept, D.acts, D.refused, D.arm, D.down⟩, ⟨r, v95, v122, v153, v188⟩) : RdkV)).toArray 50 (0, 0)) := hb209; clear hb209
 have hl212 := bl hb20
 refine oZ (tN (hK207 _ _ (wpF_ret (postF_ret (fn := Try.f55) _ rfl [.agg (rdkC ((⟨true, ((D.quota : Nat) : Int), (D.files.map Prod.fst), (D.files.map fun x => ((x.2 : Nat) : Int)), D.now, D.kept, D.acts, D.refused, D.arm, D.down⟩, ⟨r, v95, v122, v153, v188⟩) : RdkV)).toArray] (.agg (rdkC ((⟨true, ((D.quota : Nat) : Int), (D.files.map Prod.fst), (D.files.map fun x => ((x.2 : Nat) : Int)), D.now, D.kept, D.acts, D.refused, D.arm, D.down⟩, ⟨r, v95, v122, v153, v188⟩) : RdkV)).toArray) rfl ⟨ResF.row T2 hb20 (rd3_ty50).choose_spec rfl (st_isz (rdk_len _) rd3_isz50), trivial⟩ ?_))))
 exact ⟨⟨r, v95, v122, v153, v188⟩, rfl, ⟨⟨us, hFs, (OG.low hr_r (by omega))⟩, (OG.low ho97 (by omega)), (OG.low ho124 (by omega)), (OG.low ho155 (by omega)), (OG.low ho190 (by omega))⟩, hE⟩
end Go.Proofs.Ytejpjjhkjdpeaaa
