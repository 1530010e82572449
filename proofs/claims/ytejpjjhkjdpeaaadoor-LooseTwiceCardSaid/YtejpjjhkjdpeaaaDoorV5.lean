/- Part 5 of what stands behind these statements: laws and walks of the functions that are reached. Conditions: those that each theorem names. -/
import Derived.Test.YtejpjjhkjdpeaaaDoorV4
set_option linter.unusedVariables false
set_option linter.unusedSimpArgs false
namespace Go.Proofs.YtejpjjhkjdpeaaaDoor
open Go.RowKit
set_option maxRecDepth 100000
set_option linter.unusedVariables false
set_option linter.unusedSimpArgs false
theorem put_len {D : Dsk} {b : List UInt8} {r : Dsk × List UInt8 × List UInt8 × Nat} (h : putL D b = r) : r.2.1.length = 32 := by
 have hf : ∀ x : Dsk × Nat, (finL x (Sha.sum b)).2.1.length = 32 := fun x => by
  unfold finL
  split
  ·rfl
  ·exact Sha.sum_length b
 subst h
 unfold putL
 split
 ·exact hf _
 split
 ·rfl
 split
 ·exact hf _
 split
 ·exact Sha.sum_length b
 ·exact hf _
section
variable (wb w : World) (g : Nat) (H : Dk) (D : Dsk) (hD : DkG wb w g H D) (hG : Laid wb)
include hD hG
theorem put_nm (vb : Value) (b : List UInt8) (hr : RB w vb b) (hoff : b = [] ∨ ∀ i, vb.ownBlock = some i → ¬ Foot H D.files.length i) (hbl : b.length ≤ 300) (n : Nat) (hB : DBd n D) (hn : n ≤ 99000) (r : Dsk × List UInt8 × List UInt8 × Nat) (hrr : putL D b = r) :
  Calls Tryd.prog 7 #[PQ g 0, vb] w fun e w' => ∃ H' vo, e = .returned (.tuple #[AB r.2.1, vo, NI r.2.2.2]) ∧ RB w' vo r.2.2.1 ∧ DkW wb w g H D w' H' r.1 := by
 subst hrr
 exact put_at wb w g H D hD hG vb b hr hoff hbl n hB hn
theorem get_nm (hL : DLt D) (id : List UInt8) (hid : id.length = 32) (r : List UInt8 × Nat) (hrr : getL D id = r) :
  Calls Tryd.prog 16 #[PQ g 0, AB id] w fun e w' => ∃ v, e = .returned (.tuple #[v, NI r.2]) ∧ RB w' v r.1 ∧ Ext w w' := by
 subst hrr
 exact get_at wb w g H D hD hG hL id hid
end
theorem twice_nm {a b : List UInt8} (ha : a.length ≤ 300) (hb : b.length ≤ 300) {r1 r2 r3 : Dsk × List UInt8 × List UInt8 × Nat} (h1 : putL (newD 1048576) a = r1) (h2 : putL r1.1 b = r2) (h3 : putL r2.1 b = r3) :
  (r2.2.2.2 = 7 → r3.2.2.2 = 7 ∧ a ≠ b) ∧ (r2.2.2.2 ≠ 7 → r2.2.2.2 = 0 ∧ r3.2.2.2 = 0 ∧ r3.2.1 = r2.2.1 ∧ usedR r3.1 = usedR r2.1 ∧ idsL r3.1 = idsL r2.1) := by
 subst h1
 subst h2
 subst h3
 exact twice ha hb
theorem list_le {n : Nat} {D : Dsk} (h : BdL n D) (hn : n ≤ 100000 := by omega) : (listD D).length ≤ 100000 := by
 have := h.now
 unfold listD
 split
 ·exact Nat.zero_le _
 ·rw [List.length_map]
  omega
theorem sasc_len {a b : List (List UInt8)} {m : List (List UInt8)} (ha : SAsc a) (hb : SAsc b) (h1 : ∀ x, x ∈ a ↔ x ∈ m) (h2 : ∀ x, x ∈ b ↔ x ∈ m) : a.length = b.length := by
 have hn : ∀ {l : List (List UInt8)}, SAsc l → l.Nodup := fun h => h.imp fun hab e => by rw [e, cmp_self] at hab; omega
 exact ((List.perm_ext_iff_of_nodup (hn ha) (hn hb)).2 fun x => (h1 x).trans (h2 x).symm).length_eq
theorem sasc_one {a : List (List UInt8)} {m : List (List UInt8)} {x : List UInt8} (ha : SAsc a) (h1 : ∀ y, y ∈ a ↔ y ∈ m) (hm : m = [x]) : a = [x] := by
 subst hm
 have h2 := sasc_len ha (List.pairwise_singleton _ x) h1 (fun _ => Iff.rfl)
 match a, h2 with
 | [y], _ => rw [List.mem_singleton.1 ((h1 y).1 (List.mem_singleton.2 rfl))]
def aid1 : List UInt8 := 1 :: List.replicate 31 0
theorem abc_sum : (Sha.sum [97, 98, 99]).getD 0 0 = 186 := by decide +kernel
theorem awP {r : Dsk × List UInt8 × List UInt8 × Nat} (h : putL (newD 1000) [97, 98, 99] = r) :
  DLt r.1 ∧ (listD r.1).length ≤ 100000 ∧ r.2.2.2 = 0 ∧ r.2.1 = Sha.sum [97, 98, 99] ∧ getL r.1 r.2.1 = ([97, 98, 99], 0) ∧ (getL r.1 aid1).2 = 12 ∧ idsL r.1 = [r.2.1] := by
 have hm : mayD (nmO (Sha.sum [97, 98, 99])) = true := nmO_may (Sha.sum_length _)
 have r0 : ReadyL (newD 1000) := ⟨rfl, rfl, ⟨DirOk.nil _, DirOk.nil _, (fun _ h => by cases h), (fun _ h => by cases h)⟩, List.Pairwise.nil⟩
 have hb : DBd 0 (newD 1000) := DBd.new (by decide)
 have e1 : appendD (newD 1000) (nmO (Sha.sum [97, 98, 99])) [97, 98, 99] = (addD (newD 1000) (nmO (Sha.sum [97, 98, 99])) [97, 98, 99], 0) := append_ok rfl rfl hm (by decide)
 have hbD := (DBd.append hb (nmO (Sha.sum [97, 98, 99])) (b := [97, 98, 99]) (by decide)).sync (nmO (Sha.sum [97, 98, 99]))
 rw [e1] at hbD
 have hnow : (addD (newD 1000) (nmO (Sha.sum [97, 98, 99])) [97, 98, 99]).now = [(nmO (Sha.sum [97, 98, 99]), 0)] := by
  rw [addL_new rfl]
  show turnD [] ⟨[], nmO (Sha.sum [97, 98, 99]), 0⟩ = _
  unfold turnD
  rw [if_neg (by have := (mayD_pos hm).1; show ¬ (nmO (Sha.sum [97, 98, 99])).length = 0; omega)]
  rfl
 obtain ⟨l1, l2⟩ := add_look (D := newD 1000) (b := [97, 98, 99]) hm rfl
 have e2 := sync_ok (r0.add hm [97, 98, 99]).down (r0.add hm [97, 98, 99]).arm hm l1
 obtain ⟨-, hSy⟩ := Sy.sync (r0.add hm [97, 98, 99]) hm l1
 rw [l2] at hSy
 have hp : putL (newD 1000) [97, 98, 99] = ((syncD (addD (newD 1000) (nmO (Sha.sum [97, 98, 99])) [97, 98, 99]) (nmO (Sha.sum [97, 98, 99]))).1, Sha.sum [97, 98, 99], [], 0) := by
  unfold putL
  rw [read_none rfl hm rfl, if_pos rfl, step_zero (a := .add _) (by show (appendD _ _ _).2 = 0; rw [e1])]
  show finL (stepsD (appendD _ _ _).1 _ _) _ = _
  rw [e1, step_zero (a := .sync) (by show (syncD _ _).2 = 0; rw [e2])]
  show finL ((syncD _ _).1, 0) _ = _
  exact fin_ok _ _
 rw [hp] at h
 subst h
 have hnow2 : (syncD (addD (newD 1000) (nmO (Sha.sum [97, 98, 99])) [97, 98, 99]) (nmO (Sha.sum [97, 98, 99]))).1.now = [(nmO (Sha.sum [97, 98, 99]), 0)] := by rw [e2]; exact hnow
 generalize (syncD (addD (newD 1000) (nmO (Sha.sum [97, 98, 99])) [97, 98, 99]) (nmO (Sha.sum [97, 98, 99]))).1 = E at *
 have hr : readD E (nmO (Sha.sum [97, 98, 99])) = ([97, 98, 99], 0) := by rw [read_ok hSy.down hm hSy.now, hSy.file]
 have hg : getL E (Sha.sum [97, 98, 99]) = ([97, 98, 99], 0) := by
  unfold getL
  rw [hr, if_neg (fun q => q.elim (by decide) fun q => q.2 rfl)]
 have hl : listD E = [nmO (Sha.sum [97, 98, 99])] := by
  unfold listD
  rw [if_neg (by rw [hSy.down]; decide), hnow2]
  rfl
 have hc : cutP [111, 45] (nmO (Sha.sum [97, 98, 99])) = (hexOf (Sha.sum [97, 98, 99]), true) := rfl
 refine ⟨hbD.lt (by decide), by rw [hl]; decide, rfl, rfl, hg, ?_, ?_⟩
 ·have hne : nmO aid1 ≠ nmO (Sha.sum [97, 98, 99]) := fun q => by
   have q1 : hexOf aid1 = hexOf (Sha.sum [97, 98, 99]) := List.append_cancel_left q
   have q2 := unhex_hexOf aid1 rfl
   rw [q1, unhex_hexOf _ (Sha.sum_length _)] at q2
   have q3 := congrArg (fun x : List UInt8 × Bool => x.1.getD 0 0) q2
   have q4 : (Sha.sum [97, 98, 99]).getD 0 0 = 1 := q3
   rw [abc_sum] at q4
   cases q4
  have hn : lookD E.now (nmO aid1) = none := by
   rw [hnow2, look_cons, if_neg (fun q => hne q.symm)]
   rfl
  unfold getL
  rw [read_none hSy.down (nmO_may rfl) hn, if_pos (.inl rfl)]
 ·unfold idsL
  rw [hl]
  have : idOf E (nmO (Sha.sum [97, 98, 99])) = some (Sha.sum [97, 98, 99]) := by
   unfold idOf
   rw [hc, unhex_hexOf _ (Sha.sum_length _)]
   show (if true = true ∧ true = true ∧ (getL E (Sha.sum [97, 98, 99])).2 = 0 then some _ else none) = _
   rw [hg, if_pos ⟨rfl, rfl, rfl⟩]
  rw [List.filterMap_cons_some this]
  rfl
theorem ls7_pl6 : Plain Tryd.prog 6 := fun _ _ => by kernel_rfl
theorem ls7_ty22 : Tryd.prog.underlying 22 = some (.slice 5) := by kernel_rfl
theorem ls7_ty5 : Tryd.prog.underlying 5 = some (.int .u8) := by kernel_rfl
theorem ls7_pl7 : Plain Tryd.prog 7 := fun _ _ => by kernel_rfl
theorem ls7_al26 {d : Option Tmp} {ty : TypeId} {pos : String} {af : Array Edge} {gd : Option (Nat × Bool)} (σ : Operand → Value) (w : World) : (execOp σ ⟨d, .alloc 26, ty, pos, af, gd⟩).run Tryd.prog w = .ok (.value (PQ w.heap.size 0)) (w.alloc (.cells (Lib.byteCells (List.replicate 32 0)).toArray 26)) := by kernel_rfl
theorem ls7_ty26 : Tryd.prog.underlying 26 = some (.array 32 5) := by kernel_rfl
theorem ls7_pl16 : Plain Tryd.prog 16 := fun _ _ => by kernel_rfl
theorem ls7_aid (w : World) : (Instr.build 26 #[(0, .int .u8 1)]).run Tryd.prog w = .ok (AB aid1) w := by kernel_rfl
theorem ls7_ty9 : Tryd.prog.underlying 9 = some (.string) := by kernel_rfl
theorem ls7_pl9 : Plain Tryd.prog 9 := fun _ _ => by kernel_rfl
theorem ls7_ty31 : Tryd.prog.underlying 31 = some (.slice 26) := by kernel_rfl
theorem ls7_pl34 : Plain Tryd.prog 34 := fun _ _ => by kernel_rfl
theorem ls7_eg26 : Tryd.prog.eqGuardType Tryd.prog.depth 26 = false := by kernel_rfl
theorem ls7_sz5 : ∀ w' : World, (sizeOf 5).run Tryd.prog w' = .ok 1 w' := fun _ => by kernel_rfl
theorem ls7_pl8 : Plain Tryd.prog 8 := fun _ _ => by kernel_rfl
theorem ls7_pl10 : Plain Tryd.prog 10 := fun _ _ => by kernel_rfl
set_option maxHeartbeats 1600000
theorem awake09 (w : World) (hG : Laid w) :
  Calls Tryd.prog 10 #[] w fun e w' => e = .returned (.bool true) ∧ Ext w w' := by
 refine calls_of_wpF (args := []) Tryd.func10 rfl 58 rfl (Nat.le_of_ble_eq_true rfl) ?_
 intro ρ0 hb
 clear hb
 have hE := Ext.refl w
 refine sk fun K1 hK1 => (wt (oA rfl (oZ (tN (hK1 _ _ (sk fun K2 hK2 => (wt (oS rfl (Yk.callA1 ls7_pl6 (vr (NI 1000) rfl) ((new_g w _ hE 1000 (by decide)).mono ?_))))))))))
 rintro e w4 ⟨g1, H1, rfl, hD, hx3⟩
 refine ⟨_, rfl, ?_⟩
 have hE := hE.trans hx3
 refine oA rfl (oZ ?_)
 have hDb0 := hD
 refine tN (hK2 _ _ (sk fun K5 hK5 => (wt (oM rfl (oS rfl (Yk.litN (e := 5) ([97, 98, 99] : List UInt8) (by decide) (fun _ _ => by kernel_rfl) fun v6 w7 hN8 => ?_))))))
 have hA9 := Ext.refl w4
 have hea10 := hE
 have hz11 := hE.size
 have hE := hE.trans hN8.ext
 have hA9 := hA9.trans hN8.ext
 have ho12 := hN8.own; clear hN8
 have hoff0 : ∀ i, v6.ownBlock = some i → ¬ Foot H1 (newD 1000).files.length i := fun i hi q => by have h1 := (hDb0.st.foot q).2.1; have h2 := (ho12.lt i hi).1; omega
 refine oS rfl (Yk.convMark ls7_ty22 ls7_ty5 (vr v6 rfl) ho12 (by decide) fun w13 hr14 hg15 => ?_)
 have hE := ext_grew hE hg15 ho12 hz11
 have hA9 := ext_grew hA9 hg15 ho12 (Nat.le_refl _)
 clear ho12
 have hDb := (hD.keep hA9)
 obtain ⟨r1, hr1⟩ : ∃ r, putL (newD 1000) ([97, 98, 99] : List UInt8) = r := ⟨_, rfl⟩
 have hDc := (hD.keep hA9)
 have hDb2 := hDc
 refine oS rfl (Yk.callA2 ls7_pl7 (vr (PQ g1 0) rfl) (vr v6 rfl) ((put_nm _ _ _ _ _ hDc hG v6 ([97, 98, 99] : List UInt8) hr14 (.inr hoff0) (by decide) 0 (DBd.new (by decide)) (by omega) r1 hr1).mono ?_))
 rintro e w22 ⟨H16, v17, rfl, hr18, hW19⟩
 refine ⟨_, rfl, ?_⟩
 have hD20 := hW19.g
 have hC21 := hW19.chg
 have haw := awP hr1
 have hE : Ext w w22 := hD20.ext
 clear hA9
 clear hr14
 have hD := hD20
 refine oM rfl (oS rfl (Yk.extract (vs := [AB r1.2.1, v17, NI r1.2.2.2]) (vr (.tuple #[AB r1.2.1, v17, NI r1.2.2.2]) rfl) (show _ = some (AB r1.2.1 : Value) from rfl) (oS rfl (Yk.extract (vs := [AB r1.2.1, v17, NI r1.2.2.2]) (vr (.tuple #[AB r1.2.1, v17, NI r1.2.2.2]) rfl) (show _ = some (v17 : Value) from rfl) (oS rfl (Yk.extract (vs := [AB r1.2.1, v17, NI r1.2.2.2]) (vr (.tuple #[AB r1.2.1, v17, NI r1.2.2.2]) rfl) (show _ = some (NI r1.2.2.2 : Value) from rfl) (oS rfl (Yk.alloc (cs := (Lib.byteCells (List.replicate 32 0)).toArray) ls7_al26 fun n23 w24 hn25 hb26 hx27 hs28 => ?_))))))))
 have hA29 := Ext.refl w22
 have hea30 := hE
 have hz31 := hE.size
 have hE := hE.trans hx27
 have hA29 := hA29.trans hx27
 have hb32 := hb26; clear hb26
 have hl33 : n23 < w24.heap.size := by omega
 refine oS rfl (Yk.storeAll (vr (PQ n23 0) rfl) (vr (AB r1.2.1) rfl) hb32 (by exact idsize (put_len hr1) List.length_replicate) (by exact sizeId_of (put_len hr1)) (byteCells_one _) fun w34 hb35 hg36 hs37 => ?_)
 have hE := row_fresh hE hg36 (Nat.le_trans hz31 (by omega))
 have hA29 := row_fresh hA29 hg36 (Nat.le_trans (Nat.le_refl _) (by omega))
 clear hb32
 have hb32 := hb35; clear hb35
 have hl38 := bl hb32
 refine oA rfl (oA rfl (oZ (tN (hK5 _ _ (sk fun K39 hK39 => (wt (oM rfl (oS rfl (Yk.loadAll (vr (PQ n23 0) rfl) hb32 ls7_ty26 rfl (by exact sizeId_of (put_len hr1)) ?_)))))))))
 have hDc := (hD.keep hA29)
 obtain ⟨r2, hr2⟩ : ∃ r, getL (r1.1) r1.2.1 = r := ⟨_, rfl⟩
 refine oS rfl (Yk.callA2 ls7_pl16 (vr (PQ g1 0) rfl) (vr (AB r1.2.1) rfl) ((get_nm _ _ _ _ _ hDc hG haw.1 r1.2.1 (put_len hr1) r2 hr2).mono ?_))
 rintro e w43 ⟨v40, rfl, hr41, hx42⟩
 refine ⟨_, rfl, ?_⟩
 have hE := hE.trans hx42
 have hA29 := hA29.trans hx42
 have hb32 := eb hx42 hb32
 refine oM rfl (oS rfl (Yk.extract (vs := [v40, NI r2.2]) (vr (.tuple #[v40, NI r2.2]) rfl) (show _ = some (v40 : Value) from rfl) (oS rfl (Yk.extract (vs := [v40, NI r2.2]) (vr (.tuple #[v40, NI r2.2]) rfl) (show _ = some (NI r2.2 : Value) from rfl) (oA rfl (oA rfl (oZ (tN (hK39 _ _ (sk fun K44 hK44 => (wt (oM rfl (oS rfl (Yk.build1 rfl (fun w => ls7_aid w) ?_))))))))))))))
 have hDc := (hD.keep hA29)
 obtain ⟨r3, hr3⟩ : ∃ r, getL (r1.1) aid1 = r := ⟨_, rfl⟩
 refine oS rfl (Yk.callA2 ls7_pl16 (vr (PQ g1 0) rfl) (vr (AB aid1) rfl) ((get_nm _ _ _ _ _ hDc hG haw.1 aid1 rfl r3 hr3).mono ?_))
 rintro e w48 ⟨v45, rfl, hr46, hx47⟩
 refine ⟨_, rfl, ?_⟩
 have hE := hE.trans hx47
 have hA29 := hA29.trans hx47
 have hb32 := eb hx47 hb32
 have hr41 := hr41.keep hx47
 refine oM rfl (oS rfl (Yk.extract (vs := [v45, NI r3.2]) (vr (.tuple #[v45, NI r3.2]) rfl) (show _ = some (v45 : Value) from rfl) (oS rfl (Yk.extract (vs := [v45, NI r3.2]) (vr (.tuple #[v45, NI r3.2]) rfl) (show _ = some (NI r3.2 : Value) from rfl) (oA rfl (oA rfl (oZ ?_)))))))
 have h2 : r2 = ([97, 98, 99], 0) := hr2.symm.trans haw.2.2.2.2.1
 have h3 : r3.2 = 12 := by rw [← hr3]; exact haw.2.2.2.2.2.1
 refine tN (hK44 _ _ (sk fun K49 hK49 => ?_))
 have hA50 := Ext.refl w48
 have hea51 := hE
 have hea52 := hA29
 have hz53 := hE.size
 have hz54 := hA29.size
 have hlt55 : n23 < w48.heap.size := (bl hb32)
 refine wpF_draw_rowsG w48.heap.size (Nat.le_refl _) [24] (fun m => if m = 24 then [17, 23] else []) (fun m => if m = 24 then [17, 23, 24] else []) [Is (NI r1.2.2.2), Is (.bool (true)), Is (.bool (true)), Is (NI r2.2), Is (.bool (true)), Is (.bool (true)), Is (.bool (true)), Is (v40), Is (St (r2.1)), Is (.bool (true)), Is (.bool (true)), Is (.bool (true)), Is (NI r3.2), Is (.bool (true)), Is (.bool (true)), Is (.bool (true)), Is (PQ g1 0), fun x w' => RG 32 (Lib.byteCells) w' x ([r1.2.1]), Is (NI (([r1.2.1]).length)), Is (.bool (true)), Is (.bool (true)), Is (.bool (true)), Is (AB r1.2.1), fun x w' => w'.ownsRow w48.heap.size 5 1 x ([97, 98, 99] : List UInt8).length (Lib.byteCells (([97, 98, 99] : List UInt8))), fun x w' => RB w' x (([97, 98, 99] : List UInt8)), Is (AB (Sha.sum ([97, 98, 99] : List UInt8))), Is (.bool (true)), Is (.bool (true)), Is (.bool (true))] (by kernel_rfl) [30, 31, 32, 33, 34, 35, 36, 37, 38, 39, 40, 41, 42, 43, 44, 45, 46, 47, 48, 49, 50, 51, 52, 53, 54, 55, 56, 57, 0] (by kernel_rfl) (by kernel_rfl) (by kernel_rfl) (by kernel_rfl) (si5 (si12 ⟨(fun _ _ _ h k => RG.keep h k), (si5 ⟨(Stab.own _ _ _ _ _), (fun _ _ _ h k => RB.keep h k), (si4 trivial)⟩)⟩)) ⟨⟨.inr (Stab.is _), .inr (Stab.is _), .inr (Stab.is _), .inr (Stab.is _), .inr (Stab.is _), .inr (Stab.is _), .inr (Stab.is _), .inr (Stab.is _), .inr (Stab.is _), .inr (Stab.is _), .inr (Stab.is _), .inr (Stab.is _), .inr (Stab.is _), .inr (Stab.is _), .inr (Stab.is _), .inr (Stab.is _), .inr (Stab.is _), .inl rfl, .inr (Stab.is _), .inr (Stab.is _), .inr (Stab.is _), .inr (Stab.is _), .inr (Stab.is _), .inl rfl, .inl rfl, .inr (Stab.is _), .inr (Stab.is _), .inr (Stab.is _), .inr (Stab.is _), trivial⟩, trivial⟩ ?hs1005 ?hQ1005
 case hs1005 =>
  refine ⟨?_, ?_, ?_, ?_, ?_, ?_, ?_, ?_, ?_, ?_, ?_, ?_, ?_, ?_, ?_, ?_, ?_, ?_, ?_, ?_, ?_, ?_, ?_, ?_, ?_, ?_, ?_, ?_, ?_, trivial⟩
  ·refine stepN rfl fun σ w1 hC h => ?_
   have hC : Ext w48 w1 := hC
   have e4 : σ 4 = NI r1.2.2.2 := (eqo (h 4 (by decide))).trans rfl
   exact Yk.move e4 ⟨Ext.refl _, rfl⟩
  ·refine stepN rfl fun σ w1 hC h => ?_
   have hC : Ext w48 w1 := hC
   have e30 := eqo (h 30 (by decide))
   exact Yk.eqI (a := (r1.2.2.2 : Nat)) (b := (0 : Nat)) e30 rfl (k_eql _ _ _ _) ⟨Ext.refl _, (congrArg Value.bool (decide_eq_true (haw.2.2.1)))⟩
  ·refine stepN rfl fun σ w1 hC h => ?_
   have hC : Ext w48 w1 := hC
   have e31 := eqo (h 31 (by decide))
   exact Yk.move e31 ⟨Ext.refl _, rfl⟩
  ·refine stepY 2 true 32 rfl rfl (fun _ _ h => h) fun σ w1 hC h => ?_
   have hC : Ext w48 w1 := hC
   have e6 : σ 6 = NI r2.2 := (eqo (h 6 (by decide))).trans rfl
   exact Yk.move e6 ⟨Ext.refl _, rfl⟩
  ·refine stepY 2 true 32 rfl rfl (fun _ _ h => h) fun σ w1 hC h => ?_
   have hC : Ext w48 w1 := hC
   have e33 := eqo (h 33 (by decide))
   exact Yk.eqI (a := (r2.2 : Nat)) (b := (0 : Nat)) e33 rfl (k_eql _ _ _ _) ⟨Ext.refl _, (congrArg Value.bool (decide_eq_true (congrArg Prod.snd h2)))⟩
  ·refine stepN rfl fun σ w1 hC h => ?_
   have hC : Ext w48 w1 := hC
   have e32 := eqo (h 32 (by decide))
   have e34 := eqo (h 34 (by decide))
   exact Yk.pickT e32 e34 ⟨Ext.refl _, rfl⟩
  ·refine stepN rfl fun σ w1 hC h => ?_
   have hC : Ext w48 w1 := hC
   have e35 := eqo (h 35 (by decide))
   exact Yk.move e35 ⟨Ext.refl _, rfl⟩
  ·refine stepY 6 true 36 rfl rfl (fun _ _ h => h) fun σ w1 hC h => ?_
   have hC : Ext w48 w1 := hC
   have e5 : σ 5 = v40 := (eqo (h 5 (by decide))).trans rfl
   exact Yk.move e5 ⟨Ext.refl _, rfl⟩
  ·refine stepY 6 true 36 rfl rfl (fun _ _ h => h) fun σ w1 hC h => ?_
   have hC : Ext w48 w1 := hC
   have e37 := eqo (h 37 (by decide))
   exact Yk.convRB ls7_ty22 ls7_ty5 ls7_ty9 (RB.of (hr41.keep (hA50.trans hC)) e37) ⟨Ext.refl _, rfl⟩
  ·refine stepY 6 true 36 rfl rfl (fun _ _ h => h) fun σ w1 hC h => ?_
   have hC : Ext w48 w1 := hC
   have e38 := eqo (h 38 (by decide))
   exact Yk.eqSt (l := r2.1) (m := ([97, 98, 99] : List UInt8)) (.inl rfl) e38 (vr (St (([97, 98, 99] : List UInt8))) rfl) (decide ((r2.1 : List UInt8) = (([97, 98, 99] : List UInt8) : List UInt8))) rfl ⟨Ext.refl _, (congrArg Value.bool (decide_eq_true (congrArg Prod.fst h2)))⟩
  ·refine stepN rfl fun σ w1 hC h => ?_
   have hC : Ext w48 w1 := hC
   have e36 := eqo (h 36 (by decide))
   have e39 := eqo (h 39 (by decide))
   exact Yk.pickT e36 e39 ⟨Ext.refl _, rfl⟩
  ·refine stepN rfl fun σ w1 hC h => ?_
   have hC : Ext w48 w1 := hC
   have e40 := eqo (h 40 (by decide))
   exact Yk.move e40 ⟨Ext.refl _, rfl⟩
  ·refine stepY 11 true 41 rfl rfl (fun _ _ h => h) fun σ w1 hC h => ?_
   have hC : Ext w48 w1 := hC
   have e8 : σ 8 = NI r3.2 := (eqo (h 8 (by decide))).trans rfl
   exact Yk.move e8 ⟨Ext.refl _, rfl⟩
  ·refine stepY 11 true 41 rfl rfl (fun _ _ h => h) fun σ w1 hC h => ?_
   have hC : Ext w48 w1 := hC
   have e42 := eqo (h 42 (by decide))
   exact Yk.eqI (a := (r3.2 : Nat)) (b := (12 : Nat)) e42 rfl (k_eql _ _ _ _) ⟨Ext.refl _, (congrArg Value.bool (decide_eq_true (h3)))⟩
  ·refine stepN rfl fun σ w1 hC h => ?_
   have hC : Ext w48 w1 := hC
   have e41 := eqo (h 41 (by decide))
   have e43 := eqo (h 43 (by decide))
   exact Yk.pickT e41 e43 ⟨Ext.refl _, rfl⟩
  ·refine stepN rfl fun σ w1 hC h => ?_
   have hC : Ext w48 w1 := hC
   have e44 := eqo (h 44 (by decide))
   exact Yk.move e44 ⟨Ext.refl _, rfl⟩
  ·refine stepY 15 true 45 rfl rfl (fun _ _ h => h) fun σ w1 hC h => ?_
   have hC : Ext w48 w1 := hC
   have e1 : σ 1 = PQ g1 0 := (eqo (h 1 (by decide))).trans rfl
   exact Yk.move e1 ⟨Ext.refl _, rfl⟩
  ·refine stepY 15 true 45 rfl rfl (fun _ _ h => h) fun σ w1 hC h => ?_
   have hC : Ext w48 w1 := hC
   have e46 := eqo (h 46 (by decide))
   refine Yk.callA1 ls7_pl9 e46 ((llist_at _ _ _ _ _ (hD.keep (hA29.trans hC)) hG haw.1 haw.2.1).mono ?_)
   rintro e w2 ⟨v, o, rfl, ho, hS, hM, hN, hx⟩
   exact ⟨_, rfl, hx, rg_eq (RG.ofOwn ho) (sasc_one hS hM haw.2.2.2.2.2.2)⟩
  ·refine stepY 15 true 45 rfl rfl (fun _ _ h => h) fun σ w1 hC h => ?_
   have hC : Ext w48 w1 := hC
   have e47 : (fun x w' => RG 32 (Lib.byteCells) w' x ([r1.2.1])) (σ 47) w1 := h 47 (by decide)
   exact Yk.lenRG ls7_ty31 e47 ⟨Ext.refl _, rfl⟩
  ·refine stepY 15 true 45 rfl rfl (fun _ _ h => h) fun σ w1 hC h => ?_
   have hC : Ext w48 w1 := hC
   have e48 := eqo (h 48 (by decide))
   exact Yk.eqI (a := (([r1.2.1]).length : Nat)) (b := (1 : Nat)) e48 rfl (k_eql _ _ _ _) ⟨Ext.refl _, (congrArg Value.bool (decide_eq_true (rfl)))⟩
  ·refine stepN rfl fun σ w1 hC h => ?_
   have hC : Ext w48 w1 := hC
   have e45 := eqo (h 45 (by decide))
   have e49 := eqo (h 49 (by decide))
   exact Yk.pickT e45 e49 ⟨Ext.refl _, rfl⟩
  ·refine stepN rfl fun σ w1 hC h => ?_
   have hC : Ext w48 w1 := hC
   have e50 := eqo (h 50 (by decide))
   exact Yk.move e50 ⟨Ext.refl _, rfl⟩
  ·refine stepY 21 true 51 rfl rfl (fun _ _ h => h) fun σ w1 hC h => ?_
   have hC : Ext w48 w1 := hC
   have e2 : σ 2 = PQ n23 0 := (eqo (h 2 (by decide))).trans rfl
   exact Yk.loadAll e2 (eb hC hb32) ls7_ty26 rfl (by exact sizeId_of (put_len hr1)) ⟨Ext.refl _, rfl⟩
  ·refine stepY 21 true 51 rfl rfl (fun _ _ h => h) fun σ w1 hC h => ?_
   have hC : Ext w48 w1 := hC
   exact Yk.litN (e := 5) ([97, 98, 99] : List UInt8) (by decide) (fun _ _ => by kernel_rfl) fun v w2 hN => ⟨hN.ext, ownsRow_base hN.own hC.size⟩
  ·refine stepY 21 true 51 rfl rfl (fun _ _ h => h) fun σ w1 hC h => ?_
   have hC : Ext w48 w1 := hC
   have e53 : (fun x w' => w'.ownsRow w48.heap.size 5 1 x ([97, 98, 99] : List UInt8).length (Lib.byteCells (([97, 98, 99] : List UInt8)))) (σ 53) w1 := h 53 (by decide)
   exact Yk.convMark ls7_ty22 ls7_ty5 rfl e53 (by decide) fun w2 hr hg => ⟨hg.below hC.size (fun k hk => (e53.lt k hk).1), hr⟩
  ·refine stepY 21 true 51 rfl rfl (fun _ _ h => h) fun σ w1 hC h => ?_
   have hC : Ext w48 w1 := hC
   have e54 : (fun x w' => RB w' x (([97, 98, 99] : List UInt8))) (σ 54) w1 := h 54 (by decide)
   refine Yk.callA1 ls7_pl34 rfl ((refSum_any _ (σ 54) ([97, 98, 99] : List UInt8) e54 (by decide)).mono ?_)
   rintro e w2 ⟨rfl, hx⟩
   exact ⟨_, rfl, hx, rfl⟩
  ·refine stepY 21 true 51 rfl rfl (fun _ _ h => h) fun σ w1 hC h => ?_
   have hC : Ext w48 w1 := hC
   have e52 := eqo (h 52 (by decide))
   have e55 := eqo (h 55 (by decide))
   exact Yk.eqArr (l1 := r1.2.1) (l2 := (Sha.sum ([97, 98, 99] : List UInt8))) ls7_ty26 ls7_ty5 ls7_sz5 ls7_eg26 e52 e55 ((put_len hr1)) ((Sha.sum_length _)) ⟨Ext.refl _, (congrArg Value.bool (decide_eq_true (haw.2.2.2.1)))⟩
  ·refine stepN rfl fun σ w1 hC h => ?_
   have hC : Ext w48 w1 := hC
   have e51 := eqo (h 51 (by decide))
   have e56 := eqo (h 56 (by decide))
   exact Yk.pickT e51 e56 ⟨Ext.refl _, rfl⟩
  ·refine stepN rfl fun σ w1 hC h => ?_
   have hC : Ext w48 w1 := hC
   have e57 := eqo (h 57 (by decide))
   exact Yk.assign e57 ⟨Ext.refl _, rfl⟩
 intro ρ56 w57 hx58 he hf
 obtain ⟨-, -, -, -, -, -, -, -, -, -, -, -, -, -, -, -, -, -, -, -, -, -, -, -, -, -, -, -, k0, -⟩ := hf
 obtain ⟨T1, T2, T4, T5, T6, T8, -⟩ := he.hold [(1, PQ g1 0), (2, PQ n23 0), (4, NI r1.2.2.2), (5, v40), (6, NI r2.2), (8, NI r3.2)] ⟨rfl, rfl, rfl, rfl, rfl, rfl, trivial⟩ rfl
 clear he
 have hx58 : Ext w48 w57 := hx58
 have hE := hE.trans hx58
 have hA29 := hA29.trans hx58
 have hb32 := eb hx58 hb32
 have hA50 := hA50.trans hx58
 have T0 : ρ56 0 = .bool (true) := k0
 clear k0
 refine tN (hK49 _ _ (wpF_ret (postF_ret (fn := Tryd.f10) _ rfl [.bool (true)] (.bool (true)) rfl ⟨T0, trivial⟩ ?_)))
 exact ⟨rfl, hE⟩

theorem looseTwice_walk (w : World) (hG : Laid w) (va vb : Value) (a b : List UInt8) (ha : RB w va a) (hb : RB w vb b) :
  Calls Tryd.prog 3 #[va, vb] w fun e w' => e = .returned (.bool true) ∧ Ext w w' := by
 refine calls_of_wpF (args := [va, vb]) Tryd.func3 rfl 84 rfl (Nat.le_of_ble_eq_true rfl) ?_
 intro ρ0 hb
 have T0 : ρ0 0 = (va : Value) := hb.get 0
 have T1 : ρ0 1 = (vb : Value) := hb.get 1
 clear hb
 have hE := Ext.refl w
 refine sk fun K1 hK1 => (wt (oA rfl (oZ (tN (hK1 _ _ (sk fun K2 hK2 => (sk fun K3 hK3 => (wt (oM rfl (oS rfl (Yk.lenRB ls7_ty22 (RB.of (ha.keep hE) T0) (oS rfl (Yk.eqI (a := (a.length : Nat)) (b := (300 : Nat)) rfl rfl (k_gtr _ _ _ _) (oM rfl (opsF_mayV (vb) rfl rfl (gF (vr (.bool (decide ((300) < (a.length)))) rfl)) (fun hG4 => Yk.move T1 ⟨rfl, rfl⟩) (opsF_mayV (NI b.length) rfl rfl (gF (vr (.bool (decide ((300) < (a.length)))) rfl)) (fun hG5 => Yk.lenRB ls7_ty22 (RB.of (hb.keep hE) (mayT (vr (cond (!(decide ((300) < (a.length)))) (vb) undef) rfl) hG5)) ⟨rfl, rfl⟩) (opsF_mayV (.bool (decide ((300) < (b.length)))) rfl rfl (gF (vr (.bool (decide ((300) < (a.length)))) rfl)) (fun hG6 => Yk.eqI (a := ((b.length : Nat) : Int)) (b := ((300 : Nat) : Int)) (mayT (vr (cond (!(decide ((300) < (a.length)))) (NI b.length) undef) rfl) hG6) (vr (NI 300) rfl) (k_gtr _ .i64 (b.length) (300)) ⟨rfl, rfl⟩) (oS rfl (Yk.pickOrN (vr (.bool (decide ((300) < (a.length)))) rfl) (vr (.bool (true)) rfl) (fun hA => (mayT (vr (cond (!(decide ((300) < (a.length)))) (.bool (decide ((300) < (b.length)))) undef) rfl) (not_i hA))) fun bb7 hbb8 => ?_)))))))))))))))))))
 refine oZ (tN (hK3 _ _ ?_))
 refine wpF_condB (bb7) (vr (.bool (bb7)) rfl) (fun hc0 => ?_) (fun hc0 => ?_)
 ·refine sk fun K9 hK9 => (wt (oA rfl (oZ (tN (hK9 _ _ (wpF_ret (thenF_ret (postF_ret (fn := Tryd.f3) _ rfl [.bool (true)] (.bool (true)) rfl ⟨rfl, trivial⟩ ?_))))))))
  exact ⟨rfl, hE⟩
 subst hbb8
 have hq := Bool.or_eq_false_iff.1 hc0
 have hla : a.length ≤ 300 := by have h := of_decide_eq_false hq.1; omega
 have hlb : b.length ≤ 300 := by have h := of_decide_eq_false hq.2; omega
 refine wpF_skip (tN (hK2 _ _ (sk fun K10 hK10 => (wt (oS rfl (Yk.callA1 ls7_pl6 (vr (NI 1048576) rfl) ((new_g w _ hE 1048576 (by decide)).mono ?_)))))))
 rintro e w12 ⟨g1, H1, rfl, hD, hx11⟩
 refine ⟨_, rfl, ?_⟩
 have hE := hE.trans hx11
 refine oA rfl (oZ (tN (hK10 _ _ (sk fun K13 hK13 => (wt (oM rfl (oM rfl ?_)))))))
 have hDc := hD
 obtain ⟨r1, hr1⟩ : ∃ r, putL (newD 1048576) a = r := ⟨_, rfl⟩
 refine oS rfl (Yk.callA2 ls7_pl7 (vr (PQ g1 0) rfl) T0 ((put_nm _ _ _ _ _ hDc hG va a (ha.keep hE) (hDc.off ha) (by omega) _ (BdL.new).bd (by omega) r1 hr1).mono ?_))
 rintro e w20 ⟨H14, v15, rfl, hr16, hW17⟩
 refine ⟨_, rfl, ?_⟩
 have hD18 := hW17.g
 have hC19 := hW17.chg
 have hBr1 : BdL (0 + 2) r1.1 := hr1 ▸ BdL.new.put (by omega)
 have hE : Ext w w20 := hD18.ext
 clear hD
 have hD := hD18
 refine oZ (tN (hK13 _ _ (sk fun K21 hK21 => (wt (oM rfl (oM rfl ?_))))))
 have hDc := hD
 obtain ⟨r2, hr2⟩ : ∃ r, putL (r1.1) b = r := ⟨_, rfl⟩
 refine oS rfl (Yk.callA2 ls7_pl7 (vr (PQ g1 0) rfl) T1 ((put_nm _ _ _ _ _ hDc hG vb b (hb.keep hE) (hDc.off hb) (by omega) _ (hBr1).bd (by omega) r2 hr2).mono ?_))
 rintro e w28 ⟨H22, v23, rfl, hr24, hW25⟩
 refine ⟨_, rfl, ?_⟩
 have hD26 := hW25.g
 have hC27 := hW25.chg
 have hBr2 : BdL (0 + 2 + 2) r2.1 := hr2 ▸ hBr1.put (by omega)
 have hE : Ext w w28 := hD26.ext
 clear hD
 clear hr16
 have hD := hD26
 refine oM rfl (oS rfl (Yk.extract (vs := [AB r2.2.1, v23, NI r2.2.2.2]) (vr (.tuple #[AB r2.2.1, v23, NI r2.2.2.2]) rfl) (show _ = some (AB r2.2.1 : Value) from rfl) (oS rfl (Yk.extract (vs := [AB r2.2.1, v23, NI r2.2.2.2]) (vr (.tuple #[AB r2.2.1, v23, NI r2.2.2.2]) rfl) (show _ = some (v23 : Value) from rfl) (oS rfl (Yk.extract (vs := [AB r2.2.1, v23, NI r2.2.2.2]) (vr (.tuple #[AB r2.2.1, v23, NI r2.2.2.2]) rfl) (show _ = some (NI r2.2.2.2 : Value) from rfl) (oS rfl (Yk.alloc (cs := (Lib.byteCells (List.replicate 32 0)).toArray) ls7_al26 fun n29 w30 hn31 hb32 hx33 hs34 => ?_))))))))
 have hA35 := Ext.refl w28
 have hea36 := hE
 have hz37 := hE.size
 have hE := hE.trans hx33
 have hA35 := hA35.trans hx33
 have hb38 := hb32; clear hb32
 have hl39 : n29 < w30.heap.size := by omega
 refine oS rfl (Yk.storeAll (vr (PQ n29 0) rfl) (vr (AB r2.2.1) rfl) hb38 (by exact idsize (put_len hr2) List.length_replicate) (by exact sizeId_of (put_len hr2)) (byteCells_one _) fun w40 hb41 hg42 hs43 => ?_)
 have hE := row_fresh hE hg42 (Nat.le_trans hz37 (by omega))
 have hA35 := row_fresh hA35 hg42 (Nat.le_trans (Nat.le_refl _) (by omega))
 clear hb38
 have hb38 := hb41; clear hb41
 have hl44 := bl hb38
 refine oA rfl (oA rfl (oZ (tN (hK21 _ _ (sk fun K45 hK45 => (wt (oM rfl ?_)))))))
 have hDc := (hD.keep hA35)
 refine oS rfl (Yk.callA1 ls7_pl8 (vr (PQ g1 0) rfl) ((hDc.used ((hBr2.bd).lt (by omega))).mono ?_))
 rintro e w47 ⟨rfl, hx46⟩
 refine ⟨_, rfl, ?_⟩
 have hE := hE.trans hx46
 have hA35 := hA35.trans hx46
 have hb38 := eb hx46 hb38
 refine oM rfl ?_
 have hDc := (hD.keep hA35)
 have hA54 := Ext.refl w47
 have hea55 := hE
 have hea56 := hA35
 have hz57 := hE.size
 have hz58 := hA35.size
 refine oS rfl (Yk.callA1 ls7_pl9 (vr (PQ g1 0) rfl) ((llist_at _ _ _ _ _ hDc hG ((hBr2.bd).lt (by omega)) (list_le hBr2)).mono ?_))
 rintro e w59 ⟨v48, o1, rfl, ho49, hS50, hM51, hN52, hx53⟩
 refine ⟨_, rfl, ?_⟩
 have hE := hE.trans hx53
 have hA35 := hA35.trans hx53
 have hb38 := eb hx53 hb38
 have hA54 := hA54.trans hx53
 have hSo1 := hS50
 have hMo1 := hM51
 have hNo1 := hN52
 refine oS rfl (Yk.lenRG ls7_ty31 (RG.of (RG.ofOwn ho49) (vr v48 rfl)) (oA rfl (oA rfl (oZ (tN (hK45 _ _ (sk fun K60 hK60 => (wt (oM rfl (oM rfl ?_))))))))))
 have hDc := (hD.keep hA35)
 obtain ⟨r3, hr3⟩ : ∃ r, putL (r2.1) b = r := ⟨_, rfl⟩
 refine oS rfl (Yk.callA2 ls7_pl7 (vr (PQ g1 0) rfl) T1 ((put_nm _ _ _ _ _ hDc hG vb b (hb.keep hE) (hDc.off hb) (by omega) _ (hBr2).bd (by omega) r3 hr3).mono ?_))
 rintro e w67 ⟨H61, v62, rfl, hr63, hW64⟩
 refine ⟨_, rfl, ?_⟩
 have hD65 := hW64.g
 have hC66 := hW64.chg
 have hBr3 : BdL (0 + 2 + 2 + 2) r3.1 := hr3 ▸ hBr2.put (by omega)
 have hE : Ext w w67 := hD65.ext
 have hb38 : w67.heap[n29]? = some (.cells (Lib.byteCells r2.2.1).toArray 26 (0, 0)) := DkG.box hDc hC66 hb38 (by decide) (by decide) (by decide) (by decide)
 have ho49 : OG w47.heap.size 26 32 (Lib.byteCells) w67 v48 o1 := DkG.og hDc hC66 ho49 (by decide) (by decide) (by decide) (by decide)
 clear hA35
 clear hA54
 have hD := hD65
 have htw := twice_nm hla hlb hr1 hr2 hr3
 refine oM rfl (oS rfl (Yk.extract (vs := [AB r3.2.1, v62, NI r3.2.2.2]) (vr (.tuple #[AB r3.2.1, v62, NI r3.2.2.2]) rfl) (show _ = some (AB r3.2.1 : Value) from rfl) (oS rfl (Yk.extract (vs := [AB r3.2.1, v62, NI r3.2.2.2]) (vr (.tuple #[AB r3.2.1, v62, NI r3.2.2.2]) rfl) (show _ = some (v62 : Value) from rfl) (oS rfl (Yk.extract (vs := [AB r3.2.1, v62, NI r3.2.2.2]) (vr (.tuple #[AB r3.2.1, v62, NI r3.2.2.2]) rfl) (show _ = some (NI r3.2.2.2 : Value) from rfl) (oS rfl (Yk.alloc (cs := (Lib.byteCells (List.replicate 32 0)).toArray) ls7_al26 fun n68 w69 hn70 hb71 hx72 hs73 => ?_))))))))
 have hA74 := Ext.refl w67
 have hea75 := hE
 have hz76 := hE.size
 have hlt77 := lte (bl hb38) hn70
 have hap78 : OB v48 n68 := own_newer ho49.2 (by omega)
 have hE := hE.trans hx72
 have hb38 := eb hx72 hb38
 have ho49 := ho49.keep hx72
 have hA74 := hA74.trans hx72
 have hb79 := hb71; clear hb71
 have hl80 : n68 < w69.heap.size := by omega
 refine oS rfl (Yk.storeAll (vr (PQ n68 0) rfl) (vr (AB r3.2.1) rfl) hb79 (by exact idsize (put_len hr3) List.length_replicate) (by exact sizeId_of (put_len hr3)) (byteCells_one _) fun w81 hb82 hg83 hs84 => ?_)
 have hE := row_fresh hE hg83 (Nat.le_trans hz76 (by omega))
 have hb38 := kb hg83 hb38 (by omega)
 have ho49 := OG.kept ho49 hg83 hap78
 have hA74 := row_fresh hA74 hg83 (Nat.le_trans (Nat.le_refl _) (by omega))
 clear hb79
 have hb79 := hb82; clear hb82
 have hl85 := bl hb79
 refine oA rfl (oA rfl (oL_ [(0, va), (1, vb), (4, .bool (false)), (5, PQ g1 0), (6, PQ n29 0), (8, NI r2.2.2.2), (9, NI (usedR r2.1)), (10, NI o1.length), (11, PQ n68 0), (13, NI r3.2.2.2)] ⟨T0, T1, rfl, rfl, rfl, rfl, rfl, rfl, rfl, rfl, trivial⟩ fun ρ86 ⟨T0, T1, T4, T5, T6, T8, T9, T10, T11, T13, _⟩ => (tN (hK60 _ _ (sk fun K87 hK87 => (sk fun K88 hK88 => (wt (oM rfl (oS rfl (Yk.eqI (a := (r2.2.2.2 : Nat)) (b := (7 : Nat)) T8 rfl (k_eql _ _ _ _) (oZ (tN (hK88 _ _ ?_)))))))))))))
 refine wpF_cond ((r2.2.2.2 : Nat) = (7)) (vr (.bool (decide ((r2.2.2.2 : Nat) = (7)))) rfl) (fun hc1 => ?_) (fun hc1 => ?_)
 ·have ht := htw.1 hc1
  refine sk fun K89 hK89 => (wt (oM rfl (oM rfl (oS rfl (Yk.eqI (a := (r3.2.2.2 : Nat)) (b := (r2.2.2.2 : Nat)) T13 T8 (k_eql _ _ _ _) (oM rfl (oY (d := 50) rfl rfl (vr (.bool (true)) (congrArg Value.bool (decide_eq_true (ht.1.trans hc1.symm)))) (Yk.move T0 (oY (d := 50) rfl rfl (vr (.bool (true)) (congrArg Value.bool (decide_eq_true (ht.1.trans hc1.symm)))) (Yk.convRB ls7_ty22 ls7_ty5 ls7_ty9 (RB.of (ha.keep hE) (vr va rfl)) (oY (d := 50) rfl rfl (vr (.bool (true)) (congrArg Value.bool (decide_eq_true (ht.1.trans hc1.symm)))) (Yk.move T1 (oY (d := 50) rfl rfl (vr (.bool (true)) (congrArg Value.bool (decide_eq_true (ht.1.trans hc1.symm)))) (Yk.convRB ls7_ty22 ls7_ty5 ls7_ty9 (RB.of (hb.keep hE) (vr vb rfl)) (oY (d := 50) rfl rfl (vr (.bool (true)) (congrArg Value.bool (decide_eq_true (ht.1.trans hc1.symm)))) (Yk.eqSt (l := a) (m := b) (.inr rfl) (vr (St (a)) rfl) (vr (St (b)) rfl) (decide (a ≠ b)) rfl (oS rfl (Yk.pickT (vr (.bool (true)) (congrArg Value.bool (decide_eq_true (ht.1.trans hc1.symm)))) (vr (.bool (true)) (congrArg Value.bool (decide_eq_true (ht.2)))) (oA rfl (oZ (tN (hK89 _ _ (wpF_ret (thenF_ret ?_))))))))))))))))))))))))
  refine postF_ret (fn := Tryd.f3) _ rfl [.bool (true)] (.bool (true)) rfl ⟨rfl, trivial⟩ ?_
  exact ⟨rfl, hE⟩
 have ht := htw.2 hc1
 refine wpF_skip (tN (hK87 _ _ (sk fun K90 hK90 => (wt (oM rfl (oS rfl (Yk.eqI (a := (r2.2.2.2 : Nat)) (b := (0 : Nat)) T8 rfl (k_eql _ _ _ _) (oM rfl (oY (d := 59) rfl rfl (vr (.bool (true)) (congrArg Value.bool (decide_eq_true (ht.1)))) (Yk.move T13 (oY (d := 59) rfl rfl (vr (.bool (true)) (congrArg Value.bool (decide_eq_true (ht.1)))) (Yk.eqI (a := (r3.2.2.2 : Nat)) (b := (0 : Nat)) rfl rfl (k_eql _ _ _ _) (oS rfl (Yk.pickT (vr (.bool (true)) (congrArg Value.bool (decide_eq_true (ht.1)))) (vr (.bool (true)) (congrArg Value.bool (decide_eq_true (ht.2.1)))) (oM rfl (oY (d := 63) rfl rfl (vr (.bool (true)) rfl) (Yk.loadAll T11 hb79 ls7_ty26 rfl (by exact sizeId_of (put_len hr3)) (oY (d := 63) rfl rfl (vr (.bool (true)) rfl) (Yk.loadAll T6 hb38 ls7_ty26 rfl (by exact sizeId_of (put_len hr2)) (oY (d := 63) rfl rfl (vr (.bool (true)) rfl) (Yk.eqArr (l1 := r3.2.1) (l2 := r2.2.1) ls7_ty26 ls7_ty5 ls7_sz5 ls7_eg26 (vr (AB r3.2.1) rfl) (vr (AB r2.2.1) rfl) ((put_len hr3)) ((put_len hr2)) (oS rfl (Yk.pickT (vr (.bool (true)) rfl) (vr (.bool (true)) (congrArg Value.bool (decide_eq_true (ht.2.2.1)))) (oM rfl ?_))))))))))))))))))))))))
 refine oY (d := 68) rfl rfl (vr (.bool (true)) rfl) (Yk.move T5 ?_)
 have hDc := (hD.keep hA74)
 refine oY (d := 68) rfl rfl (vr (.bool (true)) rfl) (Yk.callA1 ls7_pl8 (vr (PQ g1 0) rfl) ((hDc.used ((hBr3.bd).lt (by omega))).mono ?_))
 rintro e w92 ⟨rfl, hx91⟩
 refine ⟨_, rfl, ?_⟩
 have hE := hE.trans hx91
 have hb38 := eb hx91 hb38
 have ho49 := ho49.keep hx91
 have hA74 := hA74.trans hx91
 have hb79 := eb hx91 hb79
 refine oY (d := 68) rfl rfl (vr (.bool (true)) rfl) (Yk.move T9 (oY (d := 68) rfl rfl (vr (.bool (true)) rfl) (Yk.eqI (a := ((usedR r3.1) : Nat)) (b := ((usedR r2.1) : Nat)) rfl rfl (k_eql _ _ _ _) (oS rfl (Yk.pickT (vr (.bool (true)) rfl) (vr (.bool (true)) (congrArg Value.bool (decide_eq_true (ht.2.2.2.1)))) (oM rfl (oY (d := 74) rfl rfl (vr (.bool (true)) rfl) (Yk.move T5 ?_))))))))
 have hDc := (hD.keep hA74)
 have hA99 := Ext.refl w92
 have hea100 := hE
 have hea101 := hA74
 have hz102 := hE.size
 have hz103 := hA74.size
 refine oY (d := 74) rfl rfl (vr (.bool (true)) rfl) (Yk.callA1 ls7_pl9 (vr (PQ g1 0) rfl) ((llist_at _ _ _ _ _ hDc hG ((hBr3.bd).lt (by omega)) (list_le hBr3)).mono ?_))
 rintro e w104 ⟨v93, o2, rfl, ho94, hS95, hM96, hN97, hx98⟩
 refine ⟨_, rfl, ?_⟩
 have hE := hE.trans hx98
 have hb38 := eb hx98 hb38
 have ho49 := ho49.keep hx98
 have hA74 := hA74.trans hx98
 have hb79 := eb hx98 hb79
 have hA99 := hA99.trans hx98
 have hSo2 := hS95
 have hMo2 := hM96
 have hNo2 := hN97
 refine oY (d := 74) rfl rfl (vr (.bool (true)) rfl) (Yk.lenRG ls7_ty31 (RG.of (RG.ofOwn ho94) (vr v93 rfl)) (oY (d := 74) rfl rfl (vr (.bool (true)) rfl) (Yk.move T10 (oY (d := 74) rfl rfl (vr (.bool (true)) rfl) (Yk.eqI (a := (o2.length : Nat)) (b := (o1.length : Nat)) rfl rfl (k_eql _ _ _ _) (oS rfl (Yk.pickT (vr (.bool (true)) rfl) (vr (.bool (true)) (congrArg Value.bool (decide_eq_true (sasc_len hSo2 hSo1 hMo2 (ht.2.2.2.2 ▸ hMo1))))) (oM rfl (oY (d := 81) rfl rfl (vr (.bool (true)) rfl) (Yk.callA0 ls7_pl10  ((awake09 _ (hG.keep hE)).mono ?_)))))))))))
 rintro e w106 ⟨rfl, hx105⟩
 refine ⟨_, rfl, ?_⟩
 have hE := hE.trans hx105
 have hb38 := eb hx105 hb38
 have ho49 := ho49.keep hx105
 have hA74 := hA74.trans hx105
 have hb79 := eb hx105 hb79
 have hA99 := hA99.trans hx105
 have ho94 := ho94.keep hx105
 refine oS rfl (Yk.pickT (vr (.bool (true)) rfl) (vr (.bool (true)) rfl) (oA rfl (oZ (tN (hK90 _ _ (wpF_ret (postF_ret (fn := Tryd.f3) _ rfl [.bool (true)] (.bool (true)) rfl ⟨rfl, trivial⟩ ?_)))))))
 exact ⟨rfl, hE⟩
open Go.ChangeShapes Go.WideShapes Go.ChangeAt Go.RowKit
theorem g_first : Tryd.prog.globalNamed "variorum/sha.first" = some 0 := by kernel_rfl
theorem gt_first : (Tryd.prog.globals[0]?).map (·.type) = some 94 := by kernel_rfl
theorem gc_first : Tryd.prog.cellsOf 94 = 8 := by kernel_rfl
def zs_first : List Int := [1779033703, 3144134277, 1013904242, 2773480762, 1359893119, 2600822924, 528734635, 1541459225]
theorem zs_first_eq : (zs_first.map fun z => Value.int .u32 z).toArray = cellsU Sha.first := by kernel_rfl
theorem g_words : Tryd.prog.globalNamed "variorum/sha.words" = some 1 := by kernel_rfl
theorem gt_words : (Tryd.prog.globals[1]?).map (·.type) = some 95 := by kernel_rfl
theorem gc_words : Tryd.prog.cellsOf 95 = 64 := by kernel_rfl
def zs_words : List Int := [1116352408, 1899447441, 3049323471, 3921009573, 961987163, 1508970993, 2453635748, 2870763221, 3624381080, 310598401, 607225278, 1426881987, 1925078388, 2162078206, 2614888103, 3248222580, 3835390401, 4022224774, 264347078, 604807628, 770255983, 1249150122, 1555081692, 1996064986, 2554220882, 2821834349, 2952996808, 3210313671, 3336571891, 3584528711, 113926993, 338241895, 666307205, 773529912, 1294757372, 1396182291, 1695183700, 1986661051, 2177026350, 2456956037, 2730485921, 2820302411, 3259730800, 3345764771, 3516065817, 3600352804, 4094571909, 275423344, 430227734, 506948616, 659060556, 883997877, 958139571, 1322822218, 1537002063, 1747873779, 1955562222, 2024104815, 2227730452, 2361852424, 2428436474, 2756734187, 3204031479, 3329325298]
theorem zs_words_eq : (zs_words.map fun z => Value.int .u32 z).toArray = cellsU Sha.words := by kernel_rfl
theorem gc_u : Tryd.prog.cellsOf 93 = 1 := by kernel_rfl
theorem var_block {P : Program} {W : World} {name : String} {g : Nat} {cs : Array Value} (hg : P.globalNamed name = some g) (h : W.var? P name = some cs) : ∃ t fr, W.heap[g]? = some (.cells cs t fr) := by
 unfold World.var? at h
 rw [hg] at h
 simp only [Option.bind_some] at h
 split at h
 ·rename_i cs' t fr he
  cases h
  exact ⟨t, fr, he⟩
 ·cases h
theorem laid_of {W : World} (h : laidMetH Tryd.prog [("variorum/sha.first", Rows.laid_variorum_sha_first), ("variorum/sha.words", Rows.laid_variorum_sha_words)] W) : Laid W := by
 have h1 : Lib.TabIs Tryd.prog W "variorum/sha.first" .u32 zs_first := Lib.tabIs_of_head g_first gt_first Tryd.underlying94 Tryd.underlying93 gc_u gc_first h
 have h2 : Lib.TabIs Tryd.prog W "variorum/sha.words" .u32 zs_words := Lib.tabIs_of_head (rest := []) g_words gt_words Tryd.underlying95 Tryd.underlying93 gc_u gc_words (laidMet.tail h)
 unfold Lib.TabIs at h1 h2
 rw [zs_first_eq] at h1
 rw [zs_words_eq] at h2
 exact ⟨var_block g_first h1, var_block g_words h2⟩
noncomputable def laidWorld (os : Os) : World :=
 let h0 := (World.holding Tryd.prog os ⟨#[], #[], []⟩).heap
 let h1 := h0.modify 0 fun
   | .cells _ t frozen => .cells (cellsU Sha.first) t frozen
   | o => o
 let h2 := h1.modify 1 fun
   | .cells _ t frozen => .cells (cellsU Sha.words) t frozen
   | o => o
 { World.holding Tryd.prog os ⟨#[], #[], []⟩ with heap := h2 }
theorem laid_met (os : Os) (args : Array Value) : laidMet Tryd.prog [("variorum/sha.first", Rows.laid_variorum_sha_first), ("variorum/sha.words", Rows.laid_variorum_sha_words)] ((laidWorld os).forCall (fun _ _ => 0) ⟨#[], args, []⟩).memory :=
 laidMet_of_run' 8 (by kernel_rfl) (by kernel_rfl)
end Go.Proofs.YtejpjjhkjdpeaaaDoor
