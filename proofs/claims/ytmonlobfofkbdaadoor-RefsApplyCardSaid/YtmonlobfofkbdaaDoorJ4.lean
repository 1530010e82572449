/- Part 4 of what stands behind these statements: laws and walks of the functions that are reached. Conditions: those that each theorem names. -/
import Derived.Test.YtmonlobfofkbdaaDoorJ3
set_option linter.unusedVariables false
set_option linter.unusedSimpArgs false
namespace Go.Proofs.YtmonlobfofkbdaaDoor
open Go.RowKit
set_option maxRecDepth 100000
def e1B (y : Upd) : Bool := (!kindB y.kind) || (uE1 y || uE2 y)
theorem e1B_eq (y : Upd) : (((decide (y.kind.toNat < 1) || decide (3 < y.kind.toNat)) || ((decide (y.kind.toNat = 2) && !zeroB y.old) && !zeroB y.new)) || (decide (y.kind.toNat = 3) && (!zeroB y.old || zeroB y.new == decide (y.name = [])))) = e1B y := by
 have h1 : (decide (y.kind.toNat < 1) || decide (3 < y.kind.toNat)) = !kindB y.kind := by
  unfold kindB
  rcases (show y.kind.toNat < 1 ∨ y.kind.toNat = 1 ∨ y.kind.toNat = 2 ∨ y.kind.toNat = 3 ∨ 3 < y.kind.toNat by omega) with h | h | h | h | h
  ·rw [decide_eq_true h, decide_eq_false (show ¬ y.kind.toNat = 1 by omega), decide_eq_false (show ¬ y.kind.toNat = 2 by omega), decide_eq_false (show ¬ y.kind.toNat = 3 by omega)]; rfl
  ·rw [h]; rfl
  ·rw [h]; rfl
  ·rw [h]; rfl
  ·rw [decide_eq_true h, Bool.or_true, decide_eq_false (show ¬ y.kind.toNat = 1 by omega), decide_eq_false (show ¬ y.kind.toNat = 2 by omega), decide_eq_false (show ¬ y.kind.toNat = 3 by omega)]; rfl
 rw [h1, Bool.or_assoc, Bool.beq_comm]
 rfl
def e2B (y : Upd) : Bool := uE3 y
theorem e2B_eq (y : Upd) : (!nameB y.name && !(decide (y.kind.toNat = 3) && decide (y.name = []))) = e2B y := by
 unfold e2B uE3
 simp only [ne_eq, decide_not, Bool.not_and]
def lostB (r : Refs) (y : Upd) : Bool := (zeroB y.new && (!zeroB y.old)) && decide (r.head = y.name)
def oneP (r : Refs) (y : Upd) : Nat × Refs :=
 if e1B y = true then (1, r) else if e2B y = true then (10, r) else if y.kind.toNat = 3 then (0, ⟨r.branches, r.tags, y.name, y.new, r.log⟩)
 else if (lookN (if y.kind.toNat = 2 then r.tags else r.branches) y.name).1 ≠ y.old.1 then (15, r)
 else if (decide (y.kind.toNat = 1) && lostB r y) = true then (16, r)
 else if 64 < (putP (if y.kind.toNat = 2 then r.tags else r.branches) y.name y.new).length then (3, r)
 else if y.kind.toNat = 1 then (0, ⟨putP r.branches y.name y.new, r.tags, r.head, r.at_, r.log⟩) else (0, ⟨r.branches, putP r.tags y.name y.new, r.head, r.at_, r.log⟩)
section
variable {r : Refs} {y : Upd}
theorem kind_one (h : e1B y = false) (h2 : y.kind.toNat ≠ 2) (h3 : y.kind.toNat ≠ 3) : y.kind.toNat = 1 := by
 unfold e1B kindB at h
 simp only [Bool.or_eq_false_iff, Bool.not_eq_false', Bool.or_eq_true, decide_eq_true_eq] at h
 omega
theorem oneP_bad (h : e1B y = true) : oneP r y = (1, r) := by unfold oneP; rw [if_pos h]
theorem oneP_name (h : e1B y = false) (h1 : e2B y = true) : oneP r y = (10, r) := by unfold oneP; rw [h, if_neg (by decide), if_pos h1]
theorem oneP_head (h : e1B y = false) (h1 : e2B y = false) (h3 : y.kind.toNat = 3) : oneP r y = (0, ⟨r.branches, r.tags, y.name, y.new, r.log⟩) := by unfold oneP; rw [h, if_neg (by decide), h1, if_neg (by decide), if_pos h3]
theorem onePB (h : e1B y = false) (h1 : e2B y = false) (hk : y.kind.toNat = 1) : oneP r y = if (lookN r.branches y.name).1 ≠ y.old.1 then (15, r) else if lostB r y = true then (16, r) else if 64 < (putP r.branches y.name y.new).length then (3, r) else (0, ⟨putP r.branches y.name y.new, r.tags, r.head, r.at_, r.log⟩) := by
 unfold oneP; rw [h, if_neg (by decide), h1, if_neg (by decide), if_neg (by omega), if_neg (show ¬ y.kind.toNat = 2 by omega), decide_eq_true hk, Bool.true_and, if_pos hk]
theorem onePT (h : e1B y = false) (h1 : e2B y = false) (hk : y.kind.toNat = 2) : oneP r y = if (lookN r.tags y.name).1 ≠ y.old.1 then (15, r) else if 64 < (putP r.tags y.name y.new).length then (3, r) else (0, ⟨r.branches, putP r.tags y.name y.new, r.head, r.at_, r.log⟩) := by
 unfold oneP; rw [h, if_neg (by decide), h1, if_neg (by decide), if_neg (by omega), if_pos hk, decide_eq_false (by omega), Bool.false_and, if_neg (show ¬ y.kind.toNat = 1 by omega), if_neg (show ¬ false = true by decide)]
theorem onePB_moved (h : e1B y = false) (h1 : e2B y = false) (hk : y.kind.toNat = 1) (hm : (lookN r.branches y.name).1 ≠ y.old.1) : oneP r y = (15, r) := by rw [onePB h h1 hk, if_pos hm]
theorem onePB_lost (h : e1B y = false) (h1 : e2B y = false) (hk : y.kind.toNat = 1) (hm : ¬ (lookN r.branches y.name).1 ≠ y.old.1) (hl : lostB r y = true) : oneP r y = (16, r) := by rw [onePB h h1 hk, if_neg hm, if_pos hl]
theorem onePB_full (h : e1B y = false) (h1 : e2B y = false) (hk : y.kind.toNat = 1) (hm : ¬ (lookN r.branches y.name).1 ≠ y.old.1) (hl : lostB r y = false) (hf : 64 < (putP r.branches y.name y.new).length) : oneP r y = (3, r) := by rw [onePB h h1 hk, if_neg hm, hl, if_neg (by decide), if_pos hf]
theorem onePB_done (h : e1B y = false) (h1 : e2B y = false) (hk : y.kind.toNat = 1) (hm : ¬ (lookN r.branches y.name).1 ≠ y.old.1) (hl : lostB r y = false) (hf : ¬ 64 < (putP r.branches y.name y.new).length) : oneP r y = (0, ⟨putP r.branches y.name y.new, r.tags, r.head, r.at_, r.log⟩) := by rw [onePB h h1 hk, if_neg hm, hl, if_neg (by decide), if_neg hf]
theorem onePT_moved (h : e1B y = false) (h1 : e2B y = false) (hk : y.kind.toNat = 2) (hm : (lookN r.tags y.name).1 ≠ y.old.1) : oneP r y = (15, r) := by rw [onePT h h1 hk, if_pos hm]
theorem onePT_full (h : e1B y = false) (h1 : e2B y = false) (hk : y.kind.toNat = 2) (hm : ¬ (lookN r.tags y.name).1 ≠ y.old.1) (hf : 64 < (putP r.tags y.name y.new).length) : oneP r y = (3, r) := by rw [onePT h h1 hk, if_neg hm, if_pos hf]
theorem onePT_done (h : e1B y = false) (h1 : e2B y = false) (hk : y.kind.toNat = 2) (hm : ¬ (lookN r.tags y.name).1 ≠ y.old.1) (hf : ¬ 64 < (putP r.tags y.name y.new).length) : oneP r y = (0, ⟨r.branches, putP r.tags y.name y.new, r.head, r.at_, r.log⟩) := by rw [onePT h h1 hk, if_neg hm, if_neg hf]
end
theorem wr42_al49 {d : Option Tmp} {ty : TypeId} {pos : String} {af : Array Edge} {gd : Option (Nat × Bool)} (σ : Operand → Value) (w : World) : (execOp σ ⟨d, .alloc 49, ty, pos, af, gd⟩).run Tryd.prog w = .ok (.value (PQ w.heap.size 0)) (w.alloc (.cells (refsC ((⟨[], [], [], zid, []⟩, ⟨.slice none 0 0, .slice none 0 0, .slice none 0 0⟩) : RefsV)).toArray 49)) := by kernel_rfl
theorem wr42_fo67_0 : FieldOff Tryd.prog 67 0 0 := fun b o w => by simp [go_sem]
theorem wr42_ty5 : Tryd.prog.underlying 5 = some (.int .u8) := by kernel_rfl
theorem wr42_fo67_2 : FieldOff Tryd.prog 67 2 2 := fun b o w => by simp [go_sem]
theorem wr42_ty25 : Tryd.prog.underlying 25 = some (.array 32 5) := by kernel_rfl
theorem wr42_pl86 : Plain Tryd.prog 86 := fun _ _ => by kernel_rfl
theorem wr42_fo67_3 : FieldOff Tryd.prog 67 3 34 := fun b o w => by simp [go_sem]
theorem wr42_fo67_1 : FieldOff Tryd.prog 67 1 1 := fun b o w => by simp [go_sem]
theorem wr42_ty9 : Tryd.prog.underlying 9 = some (.string) := by kernel_rfl
theorem wr42_ty4 : Tryd.prog.underlying 4 = some (.bool) := by kernel_rfl
theorem wr42_ty49 : ∃ fs, Tryd.prog.underlying 49 = some (.struct fs) := struct_of (by kernel_rfl)
theorem wr42_isz49 : (Tryd.prog.info? 49).map (·.size) = some 36 := by kernel_rfl
theorem wr42_pl64 : Plain Tryd.prog 64 := fun _ _ => by kernel_rfl
theorem wr42_fo49_2 : FieldOff Tryd.prog 49 2 2 := fun b o w => by simp [go_sem]
theorem wr42_fo49_3 : FieldOff Tryd.prog 49 3 3 := fun b o w => by simp [go_sem]
theorem wr42_isz9 : (Tryd.prog.info? 9).map (·.size) = some 1 := by kernel_rfl
theorem wr42_isz25 : (Tryd.prog.info? 25).map (·.size) = some 32 := by kernel_rfl
theorem wr42_fo49_0 : FieldOff Tryd.prog 49 0 0 := fun b o w => by simp [go_sem]
theorem wr42_ty46 : Tryd.prog.underlying 46 = some (.slice 69) := by kernel_rfl
theorem wr42_fo49_1 : FieldOff Tryd.prog 49 1 1 := fun b o w => by simp [go_sem]
theorem wr42_pl90 : Plain Tryd.prog 90 := fun _ _ => by kernel_rfl
theorem wr42_eg25 : Tryd.prog.eqGuardType Tryd.prog.depth 25 = false := by kernel_rfl
theorem wr42_sz5 : ∀ w' : World, (sizeOf 5).run Tryd.prog w' = .ok 1 w' := fun _ => by kernel_rfl
theorem wr42_pl126 : Plain Tryd.prog 126 := fun _ _ => by kernel_rfl
theorem wr42_isz46 : (Tryd.prog.info? 46).map (·.size) = some 1 := by kernel_rfl
theorem wr42_l0_46 (w : World) : (Instr.buildSlice 46 0 #[]).run Tryd.prog w = .ok (.slice (some ⟨w.heap.size, 0, none⟩) 0 0) (w.alloc (.cells #[] 69)) := by kernel_rfl
theorem wr42_ig69 : ∃ z, (Tryd.prog.info? 69).map (fun i => (i.zero, i.size, i.bytes)) = some (some z, 33, 48) ∧ z.cells.size = 33 := info_ex (by kernel_rfl)
theorem wr42_l0_47 (w : World) : (Instr.buildSlice 47 0 #[]).run Tryd.prog w = .ok (.slice (some ⟨w.heap.size, 0, none⟩) 0 0) (w.alloc (.cells #[] 122)) := by kernel_rfl
theorem wr42_fo49_4 : FieldOff Tryd.prog 49 4 35 := fun b o w => by simp [go_sem]
theorem wr42_ty47 : Tryd.prog.underlying 47 = some (.slice 122) := by kernel_rfl
theorem wr42_ig122 : ∃ z, (Tryd.prog.info? 122).map (fun i => (i.zero, i.size, i.bytes)) = some (some z, 67, 104) ∧ z.cells.size = 67 := info_ex (by kernel_rfl)
theorem wr42_isz47 : (Tryd.prog.info? 47).map (·.size) = some 1 := by kernel_rfl
set_option maxHeartbeats 1600000
theorem ref1_any (w : World) (z : RefsV) (hB : OG 0 69 33 nmdC w z.2.branches z.1.branches) (hT : OG 0 69 33 nmdC w z.2.tags z.1.tags) (hl : RG 67 entC w z.2.log z.1.log) (hb1 : z.1.branches.length ≤ 64) (ht1 : z.1.tags.length ≤ 64) (y : Upd) (hn : y.name.length ≤ 9223372036854775807) :
  Calls Tryd.prog 80 #[.agg (refsC z).toArray, .agg (updC y).toArray] w fun e w' => ∃ b t, e = .returned (.tuple #[.agg (refsC ((oneP z.1 y).2, ⟨b, t, z.2.log⟩)).toArray, NI (oneP z.1 y).1]) ∧ OG 0 69 33 nmdC w' b (oneP z.1 y).2.branches ∧ OG 0 69 33 nmdC w' t (oneP z.1 y).2.tags ∧ Ext w w' := by
 refine calls_of_wpF (args := [.agg (refsC z).toArray, .agg (updC y).toArray]) Tryd.func80 rfl 135 rfl (Nat.le_of_ble_eq_true rfl) ?_
 intro ρ0 hb
 have T0 : ρ0 0 = (.agg (refsC z).toArray : Value) := hb.get 0
 have T1 : ρ0 1 = (.agg (updC y).toArray : Value) := hb.get 1
 clear hb
 have hE := Ext.refl w
 refine sk fun K1 hK1 => (wt (oS rfl (Yk.box (cs := (refsC z : List Value).toArray) T0 fun n2 w3 hn4 hb5 hx6 hs7 => ?_)))
 have hap8 : OB z.2.branches n2 := own_newer hB.2 (by omega)
 have hap9 : OB z.2.tags n2 := own_newer hT.2 (by omega)
 have hB := hB.keep hx6
 have hT := hT.keep hx6
 have hE := hE.trans hx6
 have hb10 := hb5; clear hb5
 have hl11 : n2 < w3.heap.size := by omega
 refine oS rfl (Yk.box (cs := (updC y : List Value).toArray) T1 fun n12 w13 hn14 hb15 hx16 hs17 => ?_)
 have hA18 := Ext.refl w3
 have hea19 := hE
 have hz20 := hE.size
 have hlt21 := lte (bl hb10) hn14
 have hap22 : OB z.2.branches n12 := own_newer hB.2 (by omega)
 have hap23 : OB z.2.tags n12 := own_newer hT.2 (by omega)
 have hB := hB.keep hx16
 have hT := hT.keep hx16
 have hE := hE.trans hx16
 have hb10 := eb hx16 hb10
 have hA18 := hA18.trans hx16
 have hb24 := hb15; clear hb15
 have hl25 : n12 < w13.heap.size := by omega
 refine oS rfl (Yk.alloc (cs := (refsC ((⟨[], [], [], zid, []⟩, ⟨.slice none 0 0, .slice none 0 0, .slice none 0 0⟩) : RefsV)).toArray) wr42_al49 fun n26 w27 hn28 hb29 hx30 hs31 => ?_)
 have hA32 := Ext.refl w13
 have hea33 := hE
 have hea34 := hA18
 have hz35 := hE.size
 have hz36 := hA18.size
 have hlt37 := lte (bl hb10) hn28
 have hlt38 := lte (bl hb24) hn28
 have hap39 : OB z.2.branches n26 := own_newer hB.2 (by omega)
 have hap40 : OB z.2.tags n26 := own_newer hT.2 (by omega)
 have hB := hB.keep hx30
 have hT := hT.keep hx30
 have hE := hE.trans hx30
 have hb10 := eb hx30 hb10
 have hA18 := hA18.trans hx30
 have hb24 := eb hx30 hb24
 have hA32 := hA32.trans hx30
 have hb41 := hb29; clear hb29
 have hl42 : n26 < w27.heap.size := by omega
 refine oA rfl (oZ (tN (hK1 _ _ (sk fun K43 hK43 => (sk fun K44 hK44 => ?_)))))
 refine wpF_draw [Is (PQ n12 0), Is (B8 (y.kind)), Is (.bool (decide (((y.kind).toNat) < (1)))), Is (.bool (decide (((y.kind).toNat) < (1)))), Is (cond (!(decide (((y.kind).toNat) < (1)))) (PQ n12 0) undef), Is (cond (!(decide (((y.kind).toNat) < (1)))) (B8 (y.kind)) undef), Is (cond (!(decide (((y.kind).toNat) < (1)))) (.bool (decide ((3) < ((y.kind).toNat)))) undef), Is (.bool ((decide (((y.kind).toNat) < (1))) || (decide ((3) < ((y.kind).toNat))))), Is (.bool ((decide (((y.kind).toNat) < (1))) || (decide ((3) < ((y.kind).toNat))))), Is (cond (!((decide (((y.kind).toNat) < (1))) || (decide ((3) < ((y.kind).toNat))))) (PQ n12 0) undef), Is (cond (!((decide (((y.kind).toNat) < (1))) || (decide ((3) < ((y.kind).toNat))))) (B8 (y.kind)) undef), Is (cond (!((decide (((y.kind).toNat) < (1))) || (decide ((3) < ((y.kind).toNat))))) (.bool (decide (((y.kind).toNat : Nat) = (2)))) undef), Is (cond (!((decide (((y.kind).toNat) < (1))) || (decide ((3) < ((y.kind).toNat))))) (.bool (decide (((y.kind).toNat : Nat) = (2)))) undef), Is (cond ((!((decide (((y.kind).toNat) < (1))) || (decide ((3) < ((y.kind).toNat))))) && (decide (((y.kind).toNat : Nat) = (2)))) (PQ n12 2) undef), Is (cond ((!((decide (((y.kind).toNat) < (1))) || (decide ((3) < ((y.kind).toNat))))) && (decide (((y.kind).toNat : Nat) = (2)))) (AB y.old.1) undef), Is (cond ((!((decide (((y.kind).toNat) < (1))) || (decide ((3) < ((y.kind).toNat))))) && (decide (((y.kind).toNat : Nat) = (2)))) (.bool (zeroB y.old)) undef), Is (cond ((!((decide (((y.kind).toNat) < (1))) || (decide ((3) < ((y.kind).toNat))))) && (decide (((y.kind).toNat : Nat) = (2)))) (.bool (!(zeroB y.old))) undef), Is (cond (!((decide (((y.kind).toNat) < (1))) || (decide ((3) < ((y.kind).toNat))))) (.bool ((decide (((y.kind).toNat : Nat) = (2))) && (!(zeroB y.old)))) undef), Is (cond (!((decide (((y.kind).toNat) < (1))) || (decide ((3) < ((y.kind).toNat))))) (.bool ((decide (((y.kind).toNat : Nat) = (2))) && (!(zeroB y.old)))) undef), Is (cond ((!((decide (((y.kind).toNat) < (1))) || (decide ((3) < ((y.kind).toNat))))) && ((decide (((y.kind).toNat : Nat) = (2))) && (!(zeroB y.old)))) (PQ n12 34) undef), Is (cond ((!((decide (((y.kind).toNat) < (1))) || (decide ((3) < ((y.kind).toNat))))) && ((decide (((y.kind).toNat : Nat) = (2))) && (!(zeroB y.old)))) (AB y.new.1) undef), Is (cond ((!((decide (((y.kind).toNat) < (1))) || (decide ((3) < ((y.kind).toNat))))) && ((decide (((y.kind).toNat : Nat) = (2))) && (!(zeroB y.old)))) (.bool (zeroB y.new)) undef), Is (cond ((!((decide (((y.kind).toNat) < (1))) || (decide ((3) < ((y.kind).toNat))))) && ((decide (((y.kind).toNat : Nat) = (2))) && (!(zeroB y.old)))) (.bool (!(zeroB y.new))) undef), Is (cond (!((decide (((y.kind).toNat) < (1))) || (decide ((3) < ((y.kind).toNat))))) (.bool (((decide (((y.kind).toNat : Nat) = (2))) && (!(zeroB y.old))) && (!(zeroB y.new)))) undef), Is (.bool (((decide (((y.kind).toNat) < (1))) || (decide ((3) < ((y.kind).toNat)))) || (((decide (((y.kind).toNat : Nat) = (2))) && (!(zeroB y.old))) && (!(zeroB y.new))))), Is (.bool (((decide (((y.kind).toNat) < (1))) || (decide ((3) < ((y.kind).toNat)))) || (((decide (((y.kind).toNat : Nat) = (2))) && (!(zeroB y.old))) && (!(zeroB y.new))))), Is (cond (!(((decide (((y.kind).toNat) < (1))) || (decide ((3) < ((y.kind).toNat)))) || (((decide (((y.kind).toNat : Nat) = (2))) && (!(zeroB y.old))) && (!(zeroB y.new))))) (PQ n12 0) undef), Is (cond (!(((decide (((y.kind).toNat) < (1))) || (decide ((3) < ((y.kind).toNat)))) || (((decide (((y.kind).toNat : Nat) = (2))) && (!(zeroB y.old))) && (!(zeroB y.new))))) (B8 (y.kind)) undef), Is (cond (!(((decide (((y.kind).toNat) < (1))) || (decide ((3) < ((y.kind).toNat)))) || (((decide (((y.kind).toNat : Nat) = (2))) && (!(zeroB y.old))) && (!(zeroB y.new))))) (.bool (decide (((y.kind).toNat : Nat) = (3)))) undef), Is (cond (!(((decide (((y.kind).toNat) < (1))) || (decide ((3) < ((y.kind).toNat)))) || (((decide (((y.kind).toNat : Nat) = (2))) && (!(zeroB y.old))) && (!(zeroB y.new))))) (.bool (decide (((y.kind).toNat : Nat) = (3)))) undef), Is (cond ((!(((decide (((y.kind).toNat) < (1))) || (decide ((3) < ((y.kind).toNat)))) || (((decide (((y.kind).toNat : Nat) = (2))) && (!(zeroB y.old))) && (!(zeroB y.new))))) && (decide (((y.kind).toNat : Nat) = (3)))) (PQ n12 2) undef), Is (cond ((!(((decide (((y.kind).toNat) < (1))) || (decide ((3) < ((y.kind).toNat)))) || (((decide (((y.kind).toNat : Nat) = (2))) && (!(zeroB y.old))) && (!(zeroB y.new))))) && (decide (((y.kind).toNat : Nat) = (3)))) (AB y.old.1) undef), Is (cond ((!(((decide (((y.kind).toNat) < (1))) || (decide ((3) < ((y.kind).toNat)))) || (((decide (((y.kind).toNat : Nat) = (2))) && (!(zeroB y.old))) && (!(zeroB y.new))))) && (decide (((y.kind).toNat : Nat) = (3)))) (.bool (zeroB y.old)) undef), Is (cond ((!(((decide (((y.kind).toNat) < (1))) || (decide ((3) < ((y.kind).toNat)))) || (((decide (((y.kind).toNat : Nat) = (2))) && (!(zeroB y.old))) && (!(zeroB y.new))))) && (decide (((y.kind).toNat : Nat) = (3)))) (.bool (!(zeroB y.old))) undef), Is (cond ((!(((decide (((y.kind).toNat) < (1))) || (decide ((3) < ((y.kind).toNat)))) || (((decide (((y.kind).toNat : Nat) = (2))) && (!(zeroB y.old))) && (!(zeroB y.new))))) && (decide (((y.kind).toNat : Nat) = (3)))) (.bool (!(zeroB y.old))) undef), Is (cond (((!(((decide (((y.kind).toNat) < (1))) || (decide ((3) < ((y.kind).toNat)))) || (((decide (((y.kind).toNat : Nat) = (2))) && (!(zeroB y.old))) && (!(zeroB y.new))))) && (decide (((y.kind).toNat : Nat) = (3)))) && !(!(zeroB y.old))) (PQ n12 34) undef), Is (cond (((!(((decide (((y.kind).toNat) < (1))) || (decide ((3) < ((y.kind).toNat)))) || (((decide (((y.kind).toNat : Nat) = (2))) && (!(zeroB y.old))) && (!(zeroB y.new))))) && (decide (((y.kind).toNat : Nat) = (3)))) && !(!(zeroB y.old))) (AB y.new.1) undef), Is (cond (((!(((decide (((y.kind).toNat) < (1))) || (decide ((3) < ((y.kind).toNat)))) || (((decide (((y.kind).toNat : Nat) = (2))) && (!(zeroB y.old))) && (!(zeroB y.new))))) && (decide (((y.kind).toNat : Nat) = (3)))) && !(!(zeroB y.old))) (.bool (zeroB y.new)) undef), Is (cond (((!(((decide (((y.kind).toNat) < (1))) || (decide ((3) < ((y.kind).toNat)))) || (((decide (((y.kind).toNat : Nat) = (2))) && (!(zeroB y.old))) && (!(zeroB y.new))))) && (decide (((y.kind).toNat : Nat) = (3)))) && !(!(zeroB y.old))) (PQ n12 1) undef), Is (cond (((!(((decide (((y.kind).toNat) < (1))) || (decide ((3) < ((y.kind).toNat)))) || (((decide (((y.kind).toNat : Nat) = (2))) && (!(zeroB y.old))) && (!(zeroB y.new))))) && (decide (((y.kind).toNat : Nat) = (3)))) && !(!(zeroB y.old))) (St (y.name)) undef), Is (cond (((!(((decide (((y.kind).toNat) < (1))) || (decide ((3) < ((y.kind).toNat)))) || (((decide (((y.kind).toNat : Nat) = (2))) && (!(zeroB y.old))) && (!(zeroB y.new))))) && (decide (((y.kind).toNat : Nat) = (3)))) && !(!(zeroB y.old))) (.bool (decide ((y.name : List UInt8) = (([] : List UInt8) : List UInt8)))) undef), Is (cond (((!(((decide (((y.kind).toNat) < (1))) || (decide ((3) < ((y.kind).toNat)))) || (((decide (((y.kind).toNat : Nat) = (2))) && (!(zeroB y.old))) && (!(zeroB y.new))))) && (decide (((y.kind).toNat : Nat) = (3)))) && !(!(zeroB y.old))) (.bool ((zeroB y.new) == (decide ((y.name : List UInt8) = (([] : List UInt8) : List UInt8))))) undef), Is (cond ((!(((decide (((y.kind).toNat) < (1))) || (decide ((3) < ((y.kind).toNat)))) || (((decide (((y.kind).toNat : Nat) = (2))) && (!(zeroB y.old))) && (!(zeroB y.new))))) && (decide (((y.kind).toNat : Nat) = (3)))) (.bool ((!(zeroB y.old)) || ((zeroB y.new) == (decide ((y.name : List UInt8) = (([] : List UInt8) : List UInt8)))))) undef), Is (cond (!(((decide (((y.kind).toNat) < (1))) || (decide ((3) < ((y.kind).toNat)))) || (((decide (((y.kind).toNat : Nat) = (2))) && (!(zeroB y.old))) && (!(zeroB y.new))))) (.bool ((decide (((y.kind).toNat : Nat) = (3))) && ((!(zeroB y.old)) || ((zeroB y.new) == (decide ((y.name : List UInt8) = (([] : List UInt8) : List UInt8))))))) undef), Is (.bool ((((decide (((y.kind).toNat) < (1))) || (decide ((3) < ((y.kind).toNat)))) || (((decide (((y.kind).toNat : Nat) = (2))) && (!(zeroB y.old))) && (!(zeroB y.new)))) || ((decide (((y.kind).toNat : Nat) = (3))) && ((!(zeroB y.old)) || ((zeroB y.new) == (decide ((y.name : List UInt8) = (([] : List UInt8) : List UInt8))))))))] (by kernel_rfl) [8, 9, 10, 11, 12, 13, 14, 15, 16, 17, 18, 19, 20, 21, 22, 23, 24, 25, 26, 27, 28, 29, 30, 31, 32, 33, 34, 35, 36, 37, 38, 39, 40, 41, 42, 43, 44, 45, 46, 47, 48, 49, 50, 51, 52] (by kernel_rfl) (by kernel_rfl) (si9 (si12 (si12 (si12 trivial)))) ?hs1001 ?hQ1001
 case hs1001 =>
  refine ⟨?_, ?_, ?_, ?_, ?_, ?_, ?_, ?_, ?_, ?_, ?_, ?_, ?_, ?_, ?_, ?_, ?_, ?_, ?_, ?_, ?_, ?_, ?_, ?_, ?_, ?_, ?_, ?_, ?_, ?_, ?_, ?_, ?_, ?_, ?_, ?_, ?_, ?_, ?_, ?_, ?_, ?_, ?_, ?_, ?_, trivial⟩
  ·refine stepN rfl fun σ w1 hC h => ?_
   have e3 : σ 3 = PQ n12 0 := (eqo (h 3 (by decide))).trans rfl
   exact Yk.fieldAt wr42_fo67_0 e3 ⟨Ext.refl _, rfl⟩
  ·refine stepN rfl fun σ w1 hC h => ?_
   have e8 := eqo (h 8 (by decide))
   exact Yk.cell1 wr42_ty5 rfl e8 (cellAt (eb hC hb24) (show (updC y)[0]? = some (B8 (y.kind) : Value) from upd_g0 y)) ⟨Ext.refl _, rfl⟩
  ·refine stepN rfl fun σ w1 hC h => ?_
   have e9 := eqo (h 9 (by decide))
   exact Yk.eqI (a := ((y.kind).toNat : Nat)) (b := (1 : Nat)) e9 rfl (k_lss _ _ _ _) ⟨Ext.refl _, rfl⟩
  ·refine stepN rfl fun σ w1 hC h => ?_
   have e10 := eqo (h 10 (by decide))
   exact Yk.move e10 ⟨Ext.refl _, rfl⟩
  ·refine stepM 3 false 11 (G := !(decide (((y.kind).toNat) < (1)))) rfl rfl (fun x _ (h : x = .bool (decide (((y.kind).toNat) < (1)))) => gF h) (fun hu_ _ => mayU hu_) fun hG σ w1 hC h => ?_
   have e3 : σ 3 = PQ n12 0 := (eqo (h 3 (by decide))).trans rfl
   exact Yk.fieldAt wr42_fo67_0 e3 ⟨Ext.refl _, mayI hG⟩
  ·refine stepM 3 false 11 (G := !(decide (((y.kind).toNat) < (1)))) rfl rfl (fun x _ (h : x = .bool (decide (((y.kind).toNat) < (1)))) => gF h) (fun hu_ _ => mayU hu_) fun hG σ w1 hC h => ?_
   have e12 := eqo (h 12 (by decide))
   exact Yk.cell1 wr42_ty5 rfl (mayT e12 hG) (cellAt (eb hC hb24) (show (updC y)[0]? = some (B8 (y.kind) : Value) from upd_g0 y)) ⟨Ext.refl _, mayI hG⟩
  ·refine stepM 3 false 11 (G := !(decide (((y.kind).toNat) < (1)))) rfl rfl (fun x _ (h : x = .bool (decide (((y.kind).toNat) < (1)))) => gF h) (fun hu_ _ => mayU hu_) fun hG σ w1 hC h => ?_
   have e13 := eqo (h 13 (by decide))
   exact Yk.eqI (a := (((y.kind).toNat : Nat) : Int)) (b := ((3 : Nat) : Int)) (mayT e13 hG) (vr (B8 (3)) rfl) (k_gtr _ .u8 ((y.kind).toNat) (3)) ⟨Ext.refl _, mayI hG⟩
  ·refine stepN rfl fun σ w1 hC h => ?_
   have e11 := eqo (h 11 (by decide))
   have e14 := eqo (h 14 (by decide))
   exact Yk.pickOr e11 (vr (.bool (true)) rfl) (fun hA => (mayT e14 (not_i hA))) ⟨Ext.refl _, rfl⟩
  ·refine stepN rfl fun σ w1 hC h => ?_
   have e15 := eqo (h 15 (by decide))
   exact Yk.move e15 ⟨Ext.refl _, rfl⟩
  ·refine stepM 8 false 16 (G := !((decide (((y.kind).toNat) < (1))) || (decide ((3) < ((y.kind).toNat))))) rfl rfl (fun x _ (h : x = .bool ((decide (((y.kind).toNat) < (1))) || (decide ((3) < ((y.kind).toNat))))) => gF h) (fun hu_ _ => mayU hu_) fun hG σ w1 hC h => ?_
   have e3 : σ 3 = PQ n12 0 := (eqo (h 3 (by decide))).trans rfl
   exact Yk.fieldAt wr42_fo67_0 e3 ⟨Ext.refl _, mayI hG⟩
  ·refine stepM 8 false 16 (G := !((decide (((y.kind).toNat) < (1))) || (decide ((3) < ((y.kind).toNat))))) rfl rfl (fun x _ (h : x = .bool ((decide (((y.kind).toNat) < (1))) || (decide ((3) < ((y.kind).toNat))))) => gF h) (fun hu_ _ => mayU hu_) fun hG σ w1 hC h => ?_
   have e17 := eqo (h 17 (by decide))
   exact Yk.cell1 wr42_ty5 rfl (mayT e17 hG) (cellAt (eb hC hb24) (show (updC y)[0]? = some (B8 (y.kind) : Value) from upd_g0 y)) ⟨Ext.refl _, mayI hG⟩
  ·refine stepM 8 false 16 (G := !((decide (((y.kind).toNat) < (1))) || (decide ((3) < ((y.kind).toNat))))) rfl rfl (fun x _ (h : x = .bool ((decide (((y.kind).toNat) < (1))) || (decide ((3) < ((y.kind).toNat))))) => gF h) (fun hu_ _ => mayU hu_) fun hG σ w1 hC h => ?_
   have e18 := eqo (h 18 (by decide))
   exact Yk.eqI (a := (((y.kind).toNat : Nat) : Int)) (b := ((2 : Nat) : Int)) (mayT e18 hG) (vr (B8 (2)) rfl) (k_eql _ .u8 ((y.kind).toNat) (2)) ⟨Ext.refl _, mayI hG⟩
  ·refine stepM 8 false 16 (G := !((decide (((y.kind).toNat) < (1))) || (decide ((3) < ((y.kind).toNat))))) rfl rfl (fun x _ (h : x = .bool ((decide (((y.kind).toNat) < (1))) || (decide ((3) < ((y.kind).toNat))))) => gF h) (fun hu_ _ => mayU hu_) fun hG σ w1 hC h => ?_
   have e19 := eqo (h 19 (by decide))
   exact Yk.move (mayT e19 hG) ⟨Ext.refl _, mayI hG⟩
  ·refine stepM 12 true 20 (G := (!((decide (((y.kind).toNat) < (1))) || (decide ((3) < ((y.kind).toNat))))) && (decide (((y.kind).toNat : Nat) = (2)))) rfl rfl (fun x _ (h : x = cond (!((decide (((y.kind).toNat) < (1))) || (decide ((3) < ((y.kind).toNat))))) (.bool (decide (((y.kind).toNat : Nat) = (2)))) undef) => geT h) (fun hu_ _ => mayU hu_) fun hG σ w1 hC h => ?_
   have e3 : σ 3 = PQ n12 0 := (eqo (h 3 (by decide))).trans rfl
   exact Yk.fieldAt wr42_fo67_2 e3 ⟨Ext.refl _, mayI hG⟩
  ·refine stepM 12 true 20 (G := (!((decide (((y.kind).toNat) < (1))) || (decide ((3) < ((y.kind).toNat))))) && (decide (((y.kind).toNat : Nat) = (2)))) rfl rfl (fun x _ (h : x = cond (!((decide (((y.kind).toNat) < (1))) || (decide ((3) < ((y.kind).toNat))))) (.bool (decide (((y.kind).toNat : Nat) = (2)))) undef) => geT h) (fun hu_ _ => mayU hu_) fun hG σ w1 hC h => ?_
   have e21 := eqo (h 21 (by decide))
   exact Yk.loadPR (PR.blk (eb hC hb24) (upd_m2 y) (upd_n2 y) (mayT e21 hG)) wr42_ty25 rfl (sizeId_of y.old.2) ⟨Ext.refl _, mayI hG⟩
  ·refine stepM 12 true 20 (G := (!((decide (((y.kind).toNat) < (1))) || (decide ((3) < ((y.kind).toNat))))) && (decide (((y.kind).toNat : Nat) = (2)))) rfl rfl (fun x _ (h : x = cond (!((decide (((y.kind).toNat) < (1))) || (decide ((3) < ((y.kind).toNat))))) (.bool (decide (((y.kind).toNat : Nat) = (2)))) undef) => geT h) (fun hu_ _ => mayU hu_) fun hG σ w1 hC h => ?_
   have e22 := eqo (h 22 (by decide))
   refine Yk.callA1 wr42_pl86 (mayT e22 hG) ((rfzero_any _ y.old).mono ?_)
   rintro e w2 ⟨rfl, hx⟩
   exact ⟨_, rfl, hx, mayI hG⟩
  ·refine stepM 12 true 20 (G := (!((decide (((y.kind).toNat) < (1))) || (decide ((3) < ((y.kind).toNat))))) && (decide (((y.kind).toNat : Nat) = (2)))) rfl rfl (fun x _ (h : x = cond (!((decide (((y.kind).toNat) < (1))) || (decide ((3) < ((y.kind).toNat))))) (.bool (decide (((y.kind).toNat : Nat) = (2)))) undef) => geT h) (fun hu_ _ => mayU hu_) fun hG σ w1 hC h => ?_
   have e23 := eqo (h 23 (by decide))
   exact Yk.notB (mayT e23 hG) ⟨Ext.refl _, mayI hG⟩
  ·refine stepM 8 false 16 (G := !((decide (((y.kind).toNat) < (1))) || (decide ((3) < ((y.kind).toNat))))) rfl rfl (fun x _ (h : x = .bool ((decide (((y.kind).toNat) < (1))) || (decide ((3) < ((y.kind).toNat))))) => gF h) (fun hu_ _ => mayU hu_) fun hG σ w1 hC h => ?_
   have e20 := eqo (h 20 (by decide))
   have e24 := eqo (h 24 (by decide))
   exact Yk.pickAnd (mayT e20 hG) (fun hA => (mayT e24 (and_i hG hA))) (vr (.bool (false)) rfl) ⟨Ext.refl _, mayI hG⟩
  ·refine stepM 8 false 16 (G := !((decide (((y.kind).toNat) < (1))) || (decide ((3) < ((y.kind).toNat))))) rfl rfl (fun x _ (h : x = .bool ((decide (((y.kind).toNat) < (1))) || (decide ((3) < ((y.kind).toNat))))) => gF h) (fun hu_ _ => mayU hu_) fun hG σ w1 hC h => ?_
   have e25 := eqo (h 25 (by decide))
   exact Yk.move (mayT e25 hG) ⟨Ext.refl _, mayI hG⟩
  ·refine stepM 18 true 26 (G := (!((decide (((y.kind).toNat) < (1))) || (decide ((3) < ((y.kind).toNat))))) && ((decide (((y.kind).toNat : Nat) = (2))) && (!(zeroB y.old)))) rfl rfl (fun x _ (h : x = cond (!((decide (((y.kind).toNat) < (1))) || (decide ((3) < ((y.kind).toNat))))) (.bool ((decide (((y.kind).toNat : Nat) = (2))) && (!(zeroB y.old)))) undef) => geT h) (fun hu_ _ => mayU hu_) fun hG σ w1 hC h => ?_
   have e3 : σ 3 = PQ n12 0 := (eqo (h 3 (by decide))).trans rfl
   exact Yk.fieldAt wr42_fo67_3 e3 ⟨Ext.refl _, mayI hG⟩
  ·refine stepM 18 true 26 (G := (!((decide (((y.kind).toNat) < (1))) || (decide ((3) < ((y.kind).toNat))))) && ((decide (((y.kind).toNat : Nat) = (2))) && (!(zeroB y.old)))) rfl rfl (fun x _ (h : x = cond (!((decide (((y.kind).toNat) < (1))) || (decide ((3) < ((y.kind).toNat))))) (.bool ((decide (((y.kind).toNat : Nat) = (2))) && (!(zeroB y.old)))) undef) => geT h) (fun hu_ _ => mayU hu_) fun hG σ w1 hC h => ?_
   have e27 := eqo (h 27 (by decide))
   exact Yk.loadPR (PR.blk (eb hC hb24) (upd_m3 y) (upd_n3 y) (mayT e27 hG)) wr42_ty25 rfl (sizeId_of y.new.2) ⟨Ext.refl _, mayI hG⟩
  ·refine stepM 18 true 26 (G := (!((decide (((y.kind).toNat) < (1))) || (decide ((3) < ((y.kind).toNat))))) && ((decide (((y.kind).toNat : Nat) = (2))) && (!(zeroB y.old)))) rfl rfl (fun x _ (h : x = cond (!((decide (((y.kind).toNat) < (1))) || (decide ((3) < ((y.kind).toNat))))) (.bool ((decide (((y.kind).toNat : Nat) = (2))) && (!(zeroB y.old)))) undef) => geT h) (fun hu_ _ => mayU hu_) fun hG σ w1 hC h => ?_
   have e28 := eqo (h 28 (by decide))
   refine Yk.callA1 wr42_pl86 (mayT e28 hG) ((rfzero_any _ y.new).mono ?_)
   rintro e w2 ⟨rfl, hx⟩
   exact ⟨_, rfl, hx, mayI hG⟩
  ·refine stepM 18 true 26 (G := (!((decide (((y.kind).toNat) < (1))) || (decide ((3) < ((y.kind).toNat))))) && ((decide (((y.kind).toNat : Nat) = (2))) && (!(zeroB y.old)))) rfl rfl (fun x _ (h : x = cond (!((decide (((y.kind).toNat) < (1))) || (decide ((3) < ((y.kind).toNat))))) (.bool ((decide (((y.kind).toNat : Nat) = (2))) && (!(zeroB y.old)))) undef) => geT h) (fun hu_ _ => mayU hu_) fun hG σ w1 hC h => ?_
   have e29 := eqo (h 29 (by decide))
   exact Yk.notB (mayT e29 hG) ⟨Ext.refl _, mayI hG⟩
  ·refine stepM 8 false 16 (G := !((decide (((y.kind).toNat) < (1))) || (decide ((3) < ((y.kind).toNat))))) rfl rfl (fun x _ (h : x = .bool ((decide (((y.kind).toNat) < (1))) || (decide ((3) < ((y.kind).toNat))))) => gF h) (fun hu_ _ => mayU hu_) fun hG σ w1 hC h => ?_
   have e26 := eqo (h 26 (by decide))
   have e30 := eqo (h 30 (by decide))
   exact Yk.pickAnd (mayT e26 hG) (fun hA => (mayT e30 (and_i hG hA))) (vr (.bool (false)) rfl) ⟨Ext.refl _, mayI hG⟩
  ·refine stepN rfl fun σ w1 hC h => ?_
   have e16 := eqo (h 16 (by decide))
   have e31 := eqo (h 31 (by decide))
   exact Yk.pickOr e16 (vr (.bool (true)) rfl) (fun hA => (mayT e31 (not_i hA))) ⟨Ext.refl _, rfl⟩
  ·refine stepN rfl fun σ w1 hC h => ?_
   have e32 := eqo (h 32 (by decide))
   exact Yk.move e32 ⟨Ext.refl _, rfl⟩
  ·refine stepM 25 false 33 (G := !(((decide (((y.kind).toNat) < (1))) || (decide ((3) < ((y.kind).toNat)))) || (((decide (((y.kind).toNat : Nat) = (2))) && (!(zeroB y.old))) && (!(zeroB y.new))))) rfl rfl (fun x _ (h : x = .bool (((decide (((y.kind).toNat) < (1))) || (decide ((3) < ((y.kind).toNat)))) || (((decide (((y.kind).toNat : Nat) = (2))) && (!(zeroB y.old))) && (!(zeroB y.new))))) => gF h) (fun hu_ _ => mayU hu_) fun hG σ w1 hC h => ?_
   have e3 : σ 3 = PQ n12 0 := (eqo (h 3 (by decide))).trans rfl
   exact Yk.fieldAt wr42_fo67_0 e3 ⟨Ext.refl _, mayI hG⟩
  ·refine stepM 25 false 33 (G := !(((decide (((y.kind).toNat) < (1))) || (decide ((3) < ((y.kind).toNat)))) || (((decide (((y.kind).toNat : Nat) = (2))) && (!(zeroB y.old))) && (!(zeroB y.new))))) rfl rfl (fun x _ (h : x = .bool (((decide (((y.kind).toNat) < (1))) || (decide ((3) < ((y.kind).toNat)))) || (((decide (((y.kind).toNat : Nat) = (2))) && (!(zeroB y.old))) && (!(zeroB y.new))))) => gF h) (fun hu_ _ => mayU hu_) fun hG σ w1 hC h => ?_
   have e34 := eqo (h 34 (by decide))
   exact Yk.cell1 wr42_ty5 rfl (mayT e34 hG) (cellAt (eb hC hb24) (show (updC y)[0]? = some (B8 (y.kind) : Value) from upd_g0 y)) ⟨Ext.refl _, mayI hG⟩
  ·refine stepM 25 false 33 (G := !(((decide (((y.kind).toNat) < (1))) || (decide ((3) < ((y.kind).toNat)))) || (((decide (((y.kind).toNat : Nat) = (2))) && (!(zeroB y.old))) && (!(zeroB y.new))))) rfl rfl (fun x _ (h : x = .bool (((decide (((y.kind).toNat) < (1))) || (decide ((3) < ((y.kind).toNat)))) || (((decide (((y.kind).toNat : Nat) = (2))) && (!(zeroB y.old))) && (!(zeroB y.new))))) => gF h) (fun hu_ _ => mayU hu_) fun hG σ w1 hC h => ?_
   have e35 := eqo (h 35 (by decide))
   exact Yk.eqI (a := (((y.kind).toNat : Nat) : Int)) (b := ((3 : Nat) : Int)) (mayT e35 hG) (vr (B8 (3)) rfl) (k_eql _ .u8 ((y.kind).toNat) (3)) ⟨Ext.refl _, mayI hG⟩
  ·refine stepM 25 false 33 (G := !(((decide (((y.kind).toNat) < (1))) || (decide ((3) < ((y.kind).toNat)))) || (((decide (((y.kind).toNat : Nat) = (2))) && (!(zeroB y.old))) && (!(zeroB y.new))))) rfl rfl (fun x _ (h : x = .bool (((decide (((y.kind).toNat) < (1))) || (decide ((3) < ((y.kind).toNat)))) || (((decide (((y.kind).toNat : Nat) = (2))) && (!(zeroB y.old))) && (!(zeroB y.new))))) => gF h) (fun hu_ _ => mayU hu_) fun hG σ w1 hC h => ?_
   have e36 := eqo (h 36 (by decide))
   exact Yk.move (mayT e36 hG) ⟨Ext.refl _, mayI hG⟩
  ·refine stepM 29 true 37 (G := (!(((decide (((y.kind).toNat) < (1))) || (decide ((3) < ((y.kind).toNat)))) || (((decide (((y.kind).toNat : Nat) = (2))) && (!(zeroB y.old))) && (!(zeroB y.new))))) && (decide (((y.kind).toNat : Nat) = (3)))) rfl rfl (fun x _ (h : x = cond (!(((decide (((y.kind).toNat) < (1))) || (decide ((3) < ((y.kind).toNat)))) || (((decide (((y.kind).toNat : Nat) = (2))) && (!(zeroB y.old))) && (!(zeroB y.new))))) (.bool (decide (((y.kind).toNat : Nat) = (3)))) undef) => geT h) (fun hu_ _ => mayU hu_) fun hG σ w1 hC h => ?_
   have e3 : σ 3 = PQ n12 0 := (eqo (h 3 (by decide))).trans rfl
   exact Yk.fieldAt wr42_fo67_2 e3 ⟨Ext.refl _, mayI hG⟩
  ·refine stepM 29 true 37 (G := (!(((decide (((y.kind).toNat) < (1))) || (decide ((3) < ((y.kind).toNat)))) || (((decide (((y.kind).toNat : Nat) = (2))) && (!(zeroB y.old))) && (!(zeroB y.new))))) && (decide (((y.kind).toNat : Nat) = (3)))) rfl rfl (fun x _ (h : x = cond (!(((decide (((y.kind).toNat) < (1))) || (decide ((3) < ((y.kind).toNat)))) || (((decide (((y.kind).toNat : Nat) = (2))) && (!(zeroB y.old))) && (!(zeroB y.new))))) (.bool (decide (((y.kind).toNat : Nat) = (3)))) undef) => geT h) (fun hu_ _ => mayU hu_) fun hG σ w1 hC h => ?_
   have e38 := eqo (h 38 (by decide))
   exact Yk.loadPR (PR.blk (eb hC hb24) (upd_m2 y) (upd_n2 y) (mayT e38 hG)) wr42_ty25 rfl (sizeId_of y.old.2) ⟨Ext.refl _, mayI hG⟩
  ·refine stepM 29 true 37 (G := (!(((decide (((y.kind).toNat) < (1))) || (decide ((3) < ((y.kind).toNat)))) || (((decide (((y.kind).toNat : Nat) = (2))) && (!(zeroB y.old))) && (!(zeroB y.new))))) && (decide (((y.kind).toNat : Nat) = (3)))) rfl rfl (fun x _ (h : x = cond (!(((decide (((y.kind).toNat) < (1))) || (decide ((3) < ((y.kind).toNat)))) || (((decide (((y.kind).toNat : Nat) = (2))) && (!(zeroB y.old))) && (!(zeroB y.new))))) (.bool (decide (((y.kind).toNat : Nat) = (3)))) undef) => geT h) (fun hu_ _ => mayU hu_) fun hG σ w1 hC h => ?_
   have e39 := eqo (h 39 (by decide))
   refine Yk.callA1 wr42_pl86 (mayT e39 hG) ((rfzero_any _ y.old).mono ?_)
   rintro e w2 ⟨rfl, hx⟩
   exact ⟨_, rfl, hx, mayI hG⟩
  ·refine stepM 29 true 37 (G := (!(((decide (((y.kind).toNat) < (1))) || (decide ((3) < ((y.kind).toNat)))) || (((decide (((y.kind).toNat : Nat) = (2))) && (!(zeroB y.old))) && (!(zeroB y.new))))) && (decide (((y.kind).toNat : Nat) = (3)))) rfl rfl (fun x _ (h : x = cond (!(((decide (((y.kind).toNat) < (1))) || (decide ((3) < ((y.kind).toNat)))) || (((decide (((y.kind).toNat : Nat) = (2))) && (!(zeroB y.old))) && (!(zeroB y.new))))) (.bool (decide (((y.kind).toNat : Nat) = (3)))) undef) => geT h) (fun hu_ _ => mayU hu_) fun hG σ w1 hC h => ?_
   have e40 := eqo (h 40 (by decide))
   exact Yk.notB (mayT e40 hG) ⟨Ext.refl _, mayI hG⟩
  ·refine stepM 29 true 37 (G := (!(((decide (((y.kind).toNat) < (1))) || (decide ((3) < ((y.kind).toNat)))) || (((decide (((y.kind).toNat : Nat) = (2))) && (!(zeroB y.old))) && (!(zeroB y.new))))) && (decide (((y.kind).toNat : Nat) = (3)))) rfl rfl (fun x _ (h : x = cond (!(((decide (((y.kind).toNat) < (1))) || (decide ((3) < ((y.kind).toNat)))) || (((decide (((y.kind).toNat : Nat) = (2))) && (!(zeroB y.old))) && (!(zeroB y.new))))) (.bool (decide (((y.kind).toNat : Nat) = (3)))) undef) => geT h) (fun hu_ _ => mayU hu_) fun hG σ w1 hC h => ?_
   have e41 := eqo (h 41 (by decide))
   exact Yk.move (mayT e41 hG) ⟨Ext.refl _, mayI hG⟩
  ·refine stepM 34 false 42 (G := ((!(((decide (((y.kind).toNat) < (1))) || (decide ((3) < ((y.kind).toNat)))) || (((decide (((y.kind).toNat : Nat) = (2))) && (!(zeroB y.old))) && (!(zeroB y.new))))) && (decide (((y.kind).toNat : Nat) = (3)))) && !(!(zeroB y.old))) rfl rfl (fun x _ (h : x = cond ((!(((decide (((y.kind).toNat) < (1))) || (decide ((3) < ((y.kind).toNat)))) || (((decide (((y.kind).toNat : Nat) = (2))) && (!(zeroB y.old))) && (!(zeroB y.new))))) && (decide (((y.kind).toNat : Nat) = (3)))) (.bool (!(zeroB y.old))) undef) => geF h) (fun hu_ _ => mayU hu_) fun hG σ w1 hC h => ?_
   have e3 : σ 3 = PQ n12 0 := (eqo (h 3 (by decide))).trans rfl
   exact Yk.fieldAt wr42_fo67_3 e3 ⟨Ext.refl _, mayI hG⟩
  ·refine stepM 34 false 42 (G := ((!(((decide (((y.kind).toNat) < (1))) || (decide ((3) < ((y.kind).toNat)))) || (((decide (((y.kind).toNat : Nat) = (2))) && (!(zeroB y.old))) && (!(zeroB y.new))))) && (decide (((y.kind).toNat : Nat) = (3)))) && !(!(zeroB y.old))) rfl rfl (fun x _ (h : x = cond ((!(((decide (((y.kind).toNat) < (1))) || (decide ((3) < ((y.kind).toNat)))) || (((decide (((y.kind).toNat : Nat) = (2))) && (!(zeroB y.old))) && (!(zeroB y.new))))) && (decide (((y.kind).toNat : Nat) = (3)))) (.bool (!(zeroB y.old))) undef) => geF h) (fun hu_ _ => mayU hu_) fun hG σ w1 hC h => ?_
   have e43 := eqo (h 43 (by decide))
   exact Yk.loadPR (PR.blk (eb hC hb24) (upd_m3 y) (upd_n3 y) (mayT e43 hG)) wr42_ty25 rfl (sizeId_of y.new.2) ⟨Ext.refl _, mayI hG⟩
  ·refine stepM 34 false 42 (G := ((!(((decide (((y.kind).toNat) < (1))) || (decide ((3) < ((y.kind).toNat)))) || (((decide (((y.kind).toNat : Nat) = (2))) && (!(zeroB y.old))) && (!(zeroB y.new))))) && (decide (((y.kind).toNat : Nat) = (3)))) && !(!(zeroB y.old))) rfl rfl (fun x _ (h : x = cond ((!(((decide (((y.kind).toNat) < (1))) || (decide ((3) < ((y.kind).toNat)))) || (((decide (((y.kind).toNat : Nat) = (2))) && (!(zeroB y.old))) && (!(zeroB y.new))))) && (decide (((y.kind).toNat : Nat) = (3)))) (.bool (!(zeroB y.old))) undef) => geF h) (fun hu_ _ => mayU hu_) fun hG σ w1 hC h => ?_
   have e44 := eqo (h 44 (by decide))
   refine Yk.callA1 wr42_pl86 (mayT e44 hG) ((rfzero_any _ y.new).mono ?_)
   rintro e w2 ⟨rfl, hx⟩
   exact ⟨_, rfl, hx, mayI hG⟩
  ·refine stepM 34 false 42 (G := ((!(((decide (((y.kind).toNat) < (1))) || (decide ((3) < ((y.kind).toNat)))) || (((decide (((y.kind).toNat : Nat) = (2))) && (!(zeroB y.old))) && (!(zeroB y.new))))) && (decide (((y.kind).toNat : Nat) = (3)))) && !(!(zeroB y.old))) rfl rfl (fun x _ (h : x = cond ((!(((decide (((y.kind).toNat) < (1))) || (decide ((3) < ((y.kind).toNat)))) || (((decide (((y.kind).toNat : Nat) = (2))) && (!(zeroB y.old))) && (!(zeroB y.new))))) && (decide (((y.kind).toNat : Nat) = (3)))) (.bool (!(zeroB y.old))) undef) => geF h) (fun hu_ _ => mayU hu_) fun hG σ w1 hC h => ?_
   have e3 : σ 3 = PQ n12 0 := (eqo (h 3 (by decide))).trans rfl
   exact Yk.fieldAt wr42_fo67_1 e3 ⟨Ext.refl _, mayI hG⟩
  ·refine stepM 34 false 42 (G := ((!(((decide (((y.kind).toNat) < (1))) || (decide ((3) < ((y.kind).toNat)))) || (((decide (((y.kind).toNat : Nat) = (2))) && (!(zeroB y.old))) && (!(zeroB y.new))))) && (decide (((y.kind).toNat : Nat) = (3)))) && !(!(zeroB y.old))) rfl rfl (fun x _ (h : x = cond ((!(((decide (((y.kind).toNat) < (1))) || (decide ((3) < ((y.kind).toNat)))) || (((decide (((y.kind).toNat : Nat) = (2))) && (!(zeroB y.old))) && (!(zeroB y.new))))) && (decide (((y.kind).toNat : Nat) = (3)))) (.bool (!(zeroB y.old))) undef) => geF h) (fun hu_ _ => mayU hu_) fun hG σ w1 hC h => ?_
   have e46 := eqo (h 46 (by decide))
   exact Yk.cell1 wr42_ty9 rfl (mayT e46 hG) (cellAt (eb hC hb24) (show (updC y)[1]? = some (St (y.name) : Value) from upd_g1 y)) ⟨Ext.refl _, mayI hG⟩
  ·refine stepM 34 false 42 (G := ((!(((decide (((y.kind).toNat) < (1))) || (decide ((3) < ((y.kind).toNat)))) || (((decide (((y.kind).toNat : Nat) = (2))) && (!(zeroB y.old))) && (!(zeroB y.new))))) && (decide (((y.kind).toNat : Nat) = (3)))) && !(!(zeroB y.old))) rfl rfl (fun x _ (h : x = cond ((!(((decide (((y.kind).toNat) < (1))) || (decide ((3) < ((y.kind).toNat)))) || (((decide (((y.kind).toNat : Nat) = (2))) && (!(zeroB y.old))) && (!(zeroB y.new))))) && (decide (((y.kind).toNat : Nat) = (3)))) (.bool (!(zeroB y.old))) undef) => geF h) (fun hu_ _ => mayU hu_) fun hG σ w1 hC h => ?_
   have e47 := eqo (h 47 (by decide))
   exact Yk.eqSt (l := y.name) (m := ([] : List UInt8)) (.inl rfl) (mayT e47 hG) (vr (St (([] : List UInt8))) rfl) (decide ((y.name : List UInt8) = (([] : List UInt8) : List UInt8))) rfl ⟨Ext.refl _, mayI hG⟩
  ·refine stepM 34 false 42 (G := ((!(((decide (((y.kind).toNat) < (1))) || (decide ((3) < ((y.kind).toNat)))) || (((decide (((y.kind).toNat : Nat) = (2))) && (!(zeroB y.old))) && (!(zeroB y.new))))) && (decide (((y.kind).toNat : Nat) = (3)))) && !(!(zeroB y.old))) rfl rfl (fun x _ (h : x = cond ((!(((decide (((y.kind).toNat) < (1))) || (decide ((3) < ((y.kind).toNat)))) || (((decide (((y.kind).toNat : Nat) = (2))) && (!(zeroB y.old))) && (!(zeroB y.new))))) && (decide (((y.kind).toNat : Nat) = (3)))) (.bool (!(zeroB y.old))) undef) => geF h) (fun hu_ _ => mayU hu_) fun hG σ w1 hC h => ?_
   have e45 := eqo (h 45 (by decide))
   have e48 := eqo (h 48 (by decide))
   exact Yk.eqBool (a := zeroB y.new) (b := decide ((y.name : List UInt8) = (([] : List UInt8) : List UInt8))) wr42_ty4 (mayT e45 hG) (mayT e48 hG) ⟨Ext.refl _, mayI hG⟩
  ·refine stepM 29 true 37 (G := (!(((decide (((y.kind).toNat) < (1))) || (decide ((3) < ((y.kind).toNat)))) || (((decide (((y.kind).toNat : Nat) = (2))) && (!(zeroB y.old))) && (!(zeroB y.new))))) && (decide (((y.kind).toNat : Nat) = (3)))) rfl rfl (fun x _ (h : x = cond (!(((decide (((y.kind).toNat) < (1))) || (decide ((3) < ((y.kind).toNat)))) || (((decide (((y.kind).toNat : Nat) = (2))) && (!(zeroB y.old))) && (!(zeroB y.new))))) (.bool (decide (((y.kind).toNat : Nat) = (3)))) undef) => geT h) (fun hu_ _ => mayU hu_) fun hG σ w1 hC h => ?_
   have e42 := eqo (h 42 (by decide))
   have e49 := eqo (h 49 (by decide))
   exact Yk.pickOr (mayT e42 hG) (vr (.bool (true)) rfl) (fun hA => (mayT e49 (and_i hG (not_i hA)))) ⟨Ext.refl _, mayI hG⟩
  ·refine stepM 25 false 33 (G := !(((decide (((y.kind).toNat) < (1))) || (decide ((3) < ((y.kind).toNat)))) || (((decide (((y.kind).toNat : Nat) = (2))) && (!(zeroB y.old))) && (!(zeroB y.new))))) rfl rfl (fun x _ (h : x = .bool (((decide (((y.kind).toNat) < (1))) || (decide ((3) < ((y.kind).toNat)))) || (((decide (((y.kind).toNat : Nat) = (2))) && (!(zeroB y.old))) && (!(zeroB y.new))))) => gF h) (fun hu_ _ => mayU hu_) fun hG σ w1 hC h => ?_
   have e37 := eqo (h 37 (by decide))
   have e50 := eqo (h 50 (by decide))
   exact Yk.pickAnd (mayT e37 hG) (fun hA => (mayT e50 (and_i hG hA))) (vr (.bool (false)) rfl) ⟨Ext.refl _, mayI hG⟩
  ·refine stepN rfl fun σ w1 hC h => ?_
   have e33 := eqo (h 33 (by decide))
   have e51 := eqo (h 51 (by decide))
   exact Yk.pickOr e33 (vr (.bool (true)) rfl) (fun hA => (mayT e51 (not_i hA))) ⟨Ext.refl _, rfl⟩
 intro ρ45 w46 hx47 he hf
 obtain ⟨-, -, -, -, -, -, -, -, -, -, -, -, -, -, -, -, -, -, -, -, -, -, -, -, -, -, -, -, -, -, -, -, -, -, -, -, -, -, -, -, -, -, -, -, k52, -⟩ := hf
 obtain ⟨T0, T1, T2, T3, T4, T5, -⟩ := he.hold [(0, _), (1, _), (2, PQ n2 0), (3, PQ n12 0), (4, PQ n26 0), (5, NI 0)] ⟨T0, T1, rfl, rfl, rfl, rfl, trivial⟩ rfl
 clear he
 have hB := hB.keep hx47
 have hT := hT.keep hx47
 have hE := hE.trans hx47
 have hb10 := eb hx47 hb10
 have hA18 := hA18.trans hx47
 have hb24 := eb hx47 hb24
 have hA32 := hA32.trans hx47
 have hb41 := eb hx47 hb41
 have T52 : ρ45 52 = .bool ((((decide (((y.kind).toNat) < (1))) || (decide ((3) < ((y.kind).toNat)))) || (((decide (((y.kind).toNat : Nat) = (2))) && (!(zeroB y.old))) && (!(zeroB y.new)))) || ((decide (((y.kind).toNat : Nat) = (3))) && ((!(zeroB y.old)) || ((zeroB y.new) == (decide ((y.name : List UInt8) = (([] : List UInt8) : List UInt8))))))) := k52
 clear k52
 refine tN (hK44 _ _ ?_)
 refine wpF_condB ((((decide (((y.kind).toNat) < (1))) || (decide ((3) < ((y.kind).toNat)))) || (((decide (((y.kind).toNat : Nat) = (2))) && (!(zeroB y.old))) && (!(zeroB y.new)))) || ((decide (((y.kind).toNat : Nat) = (3))) && ((!(zeroB y.old)) || ((zeroB y.new) == (decide ((y.name : List UInt8) = (([] : List UInt8) : List UInt8))))))) T52 (fun hc0 => ?_) (fun hc0 => ?_)
 ·have h0c : e1B y = true := (e1B_eq y).symm.trans hc0
  refine sk fun K48 hK48 => (wt (oS rfl (Yk.loadAll T2 hb10 (wr42_ty49).choose_spec rfl (st_isz (refs_len z) wr42_isz49) ?_)))
  have hap49 := OG.off hB hb41 (by decide)
  have hap50 := OG.off hT hb41 (by decide)
  refine oS rfl (Yk.storeAll T4 (vr (.agg (refsC z).toArray) rfl) hb41 (by simp only [List.size_toArray, refs_len]) (st_isz (refs_len _) wr42_isz49) (refs_one (x := z) (RG.one (RG.ofOwn hB)).2 (RG.one (RG.ofOwn hT)).2 (RG.one (hl.keep hE)).2) fun w51 hb52 hg53 hs54 => ?_)
  have hB := OG.kept hB hg53 hap49
  have hT := OG.kept hT hg53 hap50
  have hE := row_fresh hE hg53 (Nat.le_trans hz35 (by omega))
  have hb10 := kb hg53 hb10 (by omega)
  have hA18 := row_fresh hA18 hg53 (Nat.le_trans hz36 (by omega))
  have hb24 := kb hg53 hb24 (by omega)
  have hA32 := row_fresh hA32 hg53 (Nat.le_trans (Nat.le_refl _) (by omega))
  clear hb41
  have hb41 : w51.heap[n26]? = some (.cells (refsC z).toArray 49 (0, 0)) := hb52; clear hb52
  have hl55 := bl hb41
  refine oA rfl (oZ (tN (hK48 _ _ (wpF_ret (thenF_ret (postF_ret (fn := Tryd.f80) _ rfl [.agg (refsC z).toArray, NI 1] (.tuple #[.agg (refsC z).toArray, NI 1]) rfl ⟨ResF.row T4 hb41 (wr42_ty49).choose_spec rfl (st_isz (refs_len _) wr42_isz49), rfl, trivial⟩ ?_))))))
  have hP := oneP_bad (r := z.1) h0c
  exact ⟨z.2.branches, z.2.tags, by rw [hP]; try rfl, by rw [hP]; exact hB, by rw [hP]; exact hT, hE⟩
 have h0c : e1B y = false := (e1B_eq y).symm.trans hc0
 refine wpF_skip (tN (hK43 _ _ (sk fun K56 hK56 => (sk fun K57 hK57 => (wt (oS rfl (Yk.fieldAt wr42_fo67_1 T3 (oS rfl (Yk.cell1 wr42_ty9 rfl (vr (PQ n12 1) rfl) (cellAt hb24 (show (updC y)[1]? = some (St (y.name) : Value) from upd_g1 y)) (oS rfl (Yk.callA1 wr42_pl64 (vr (St (y.name)) rfl) ((refName_any _ y.name hn).mono ?_))))))))))))
 rintro e w59 ⟨rfl, hx58⟩
 refine ⟨_, rfl, ?_⟩
 have hB := hB.keep hx58
 have hT := hT.keep hx58
 have hE := hE.trans hx58
 have hb10 := eb hx58 hb10
 have hA18 := hA18.trans hx58
 have hb24 := eb hx58 hb24
 have hA32 := hA32.trans hx58
 have hb41 := eb hx58 hb41
 refine oS rfl (Yk.notB (vr (.bool (nameB y.name)) rfl) (oM rfl (opsF_mayV (PQ n12 0) rfl rfl (gT (vr (.bool (!(nameB y.name))) rfl)) (fun hG60 => Yk.fieldAt wr42_fo67_0 T3 ⟨rfl, rfl⟩) (opsF_mayV (B8 (y.kind)) rfl rfl (gT (vr (.bool (!(nameB y.name))) rfl)) (fun hG61 => Yk.cell1 wr42_ty5 rfl (mayT (vr (cond ((!(nameB y.name))) (PQ n12 0) undef) rfl) hG61) (cellAt hb24 (show (updC y)[0]? = some (B8 (y.kind) : Value) from upd_g0 y)) ⟨rfl, rfl⟩) (opsF_mayV (.bool (decide (((y.kind).toNat : Nat) = (3)))) rfl rfl (gT (vr (.bool (!(nameB y.name))) rfl)) (fun hG62 => Yk.eqI (a := (((y.kind).toNat : Nat) : Int)) (b := ((3 : Nat) : Int)) (mayT (vr (cond ((!(nameB y.name))) (B8 (y.kind)) undef) rfl) hG62) (vr (B8 (3)) rfl) (k_eql _ .u8 ((y.kind).toNat) (3)) ⟨rfl, rfl⟩) (opsF_mayV (.bool (decide (((y.kind).toNat : Nat) = (3)))) rfl rfl (gT (vr (.bool (!(nameB y.name))) rfl)) (fun hG63 => Yk.move (mayT (vr (cond ((!(nameB y.name))) (.bool (decide (((y.kind).toNat : Nat) = (3)))) undef) rfl) hG63) ⟨rfl, rfl⟩) (opsF_mayV (PQ n12 1) rfl rfl (geT (vr (cond ((!(nameB y.name))) (.bool (decide (((y.kind).toNat : Nat) = (3)))) undef) rfl)) (fun hG64 => Yk.fieldAt wr42_fo67_1 T3 ⟨rfl, rfl⟩) (opsF_mayV (St (y.name)) rfl rfl (geT (vr (cond ((!(nameB y.name))) (.bool (decide (((y.kind).toNat : Nat) = (3)))) undef) rfl)) (fun hG65 => Yk.cell1 wr42_ty9 rfl (mayT (vr (cond ((!(nameB y.name)) && (decide (((y.kind).toNat : Nat) = (3)))) (PQ n12 1) undef) rfl) hG65) (cellAt hb24 (show (updC y)[1]? = some (St (y.name) : Value) from upd_g1 y)) ⟨rfl, rfl⟩) (opsF_mayV (.bool (decide ((y.name : List UInt8) = (([] : List UInt8) : List UInt8)))) rfl rfl (geT (vr (cond ((!(nameB y.name))) (.bool (decide (((y.kind).toNat : Nat) = (3)))) undef) rfl)) (fun hG66 => Yk.eqSt (l := y.name) (m := ([] : List UInt8)) (.inl rfl) (mayT (vr (cond ((!(nameB y.name)) && (decide (((y.kind).toNat : Nat) = (3)))) (St (y.name)) undef) rfl) hG66) (vr (St (([] : List UInt8))) rfl) (decide ((y.name : List UInt8) = (([] : List UInt8) : List UInt8))) rfl ⟨rfl, rfl⟩) (opsF_mayB ((decide (((y.kind).toNat : Nat) = (3))) && (decide ((y.name : List UInt8) = (([] : List UInt8) : List UInt8)))) rfl rfl (gT (vr (.bool (!(nameB y.name))) rfl)) (fun hG67 => Yk.pickAnd (mayT (vr (cond ((!(nameB y.name))) (.bool (decide (((y.kind).toNat : Nat) = (3)))) undef) rfl) hG67) (fun hA => (mayT (vr (cond ((!(nameB y.name)) && (decide (((y.kind).toNat : Nat) = (3)))) (.bool (decide ((y.name : List UInt8) = (([] : List UInt8) : List UInt8)))) undef) rfl) (and_i hG67 hA))) (vr (.bool (false)) rfl) ⟨rfl, rfl⟩) fun bb68 hbb69 => (opsF_mayV (.bool (!(bb68))) rfl rfl (gT (vr (.bool (!(nameB y.name))) rfl)) (fun hG70 => Yk.notB (mayT (vr (cond ((!(nameB y.name))) (.bool (bb68)) undef) rfl) hG70) ⟨rfl, rfl⟩) (oS rfl (Yk.pickAndN (vr (.bool (!(nameB y.name))) rfl) (fun hA => (mayT (vr (cond ((!(nameB y.name))) (.bool (!(bb68))) undef) rfl) hA)) (vr (.bool (false)) rfl) fun bb71 hbb72 => ?_)))))))))))))
 refine oZ (tN (hK57 _ _ ?_))
 refine wpF_condB (bb71) (vr (.bool (bb71)) rfl) (fun hc1 => ?_) (fun hc1 => ?_)
 ·subst hbb69 hbb72
  have h1c : e2B y = true := (e2B_eq y).symm.trans hc1
  refine sk fun K73 hK73 => (wt (oS rfl (Yk.loadAll T2 hb10 (wr42_ty49).choose_spec rfl (st_isz (refs_len z) wr42_isz49) ?_)))
  have hap74 := OG.off hB hb41 (by decide)
  have hap75 := OG.off hT hb41 (by decide)
  refine oS rfl (Yk.storeAll T4 (vr (.agg (refsC z).toArray) rfl) hb41 (by simp only [List.size_toArray, refs_len]) (st_isz (refs_len _) wr42_isz49) (refs_one (x := z) (RG.one (RG.ofOwn hB)).2 (RG.one (RG.ofOwn hT)).2 (RG.one (hl.keep hE)).2) fun w76 hb77 hg78 hs79 => ?_)
  have hB := OG.kept hB hg78 hap74
  have hT := OG.kept hT hg78 hap75
  have hE := row_fresh hE hg78 (Nat.le_trans hz35 (by omega))
  have hb10 := kb hg78 hb10 (by omega)
  have hA18 := row_fresh hA18 hg78 (Nat.le_trans hz36 (by omega))
  have hb24 := kb hg78 hb24 (by omega)
  have hA32 := row_fresh hA32 hg78 (Nat.le_trans (Nat.le_refl _) (by omega))
  clear hb41
  have hb41 : w76.heap[n26]? = some (.cells (refsC z).toArray 49 (0, 0)) := hb77; clear hb77
  have hl80 := bl hb41
  refine oA rfl (oZ (tN (hK73 _ _ (wpF_ret (thenF_ret (postF_ret (fn := Tryd.f80) _ rfl [.agg (refsC z).toArray, NI 10] (.tuple #[.agg (refsC z).toArray, NI 10]) rfl ⟨ResF.row T4 hb41 (wr42_ty49).choose_spec rfl (st_isz (refs_len _) wr42_isz49), rfl, trivial⟩ ?_))))))
  have hP := oneP_name (r := z.1) h0c h1c
  exact ⟨z.2.branches, z.2.tags, by rw [hP]; try rfl, by rw [hP]; exact hB, by rw [hP]; exact hT, hE⟩
 subst hbb69 hbb72
 have h1c : e2B y = false := (e2B_eq y).symm.trans hc1
 refine wpF_skip (tN (hK56 _ _ (sk fun K81 hK81 => (sk fun K82 hK82 => (wt (oS rfl (Yk.fieldAt wr42_fo67_0 T3 (oS rfl (Yk.cell1 wr42_ty5 rfl (vr (PQ n12 0) rfl) (cellAt hb24 (show (updC y)[0]? = some (B8 (y.kind) : Value) from upd_g0 y)) (oS rfl (Yk.eqI (a := ((y.kind).toNat : Nat)) (b := (3 : Nat)) rfl rfl (k_eql _ _ _ _) (oZ (tN (hK82 _ _ ?_))))))))))))))
 refine wpF_cond (((y.kind).toNat : Nat) = (3)) (vr (.bool (decide (((y.kind).toNat : Nat) = (3)))) rfl) (fun hc2 => ?_) (fun hc2 => ?_)
 ·have h3 := hc2
  refine sk fun K83 hK83 => ?_
  have hx84 : Ext w59 (World.drew w59) := (Below.refl _ _).drew
  have hB := hB.keep hx84
  have hT := hT.keep hx84
  have hE := hE.trans hx84
  have hb10 := eb hx84 hb10
  have hA18 := hA18.trans hx84
  have hb24 := eb hx84 hb24
  have hA32 := hA32.trans hx84
  have hb41 := eb hx84 hb41
  refine wpF_float [(0, 73, PQ n12 1), (1, 74, St (y.name)), (2, 75, PQ n12 34), (3, 76, AB y.new.1), (4, 77, PQ n2 2), (6, 78, PQ n2 3)] [5, 7] (fun wz => Ext w wz ∧ wz.heap[n12]? = some (.cells (updC y).toArray 67 (0, 0)) ∧ wz.heap[n26]? = some (.cells (refsC ((⟨[], [], [], zid, []⟩, ⟨.slice none 0 0, .slice none 0 0, .slice none 0 0⟩) : RefsV)).toArray 49 (0, 0)) ∧ True) (by kernel_rfl) (by kernel_rfl) (by kernel_rfl) ⟨hE, hb24, hb41, trivial⟩ ⟨fun w85 ⟨hE, hb24, hb41, _⟩ => Yk.fieldAt wr42_fo67_1 T3 ⟨rfl, rfl⟩, fun w85 ⟨hE, hb24, hb41, _⟩ => Yk.cell1 wr42_ty9 rfl (vr (PQ n12 1) rfl) (cellAt hb24 (show (updC y)[1]? = some (St (y.name) : Value) from upd_g1 y)) ⟨rfl, rfl⟩, fun w85 ⟨hE, hb24, hb41, _⟩ => Yk.fieldAt wr42_fo67_3 T3 ⟨rfl, rfl⟩, fun w85 ⟨hE, hb24, hb41, _⟩ => Yk.loadPR (PR.blk hb24 (upd_m3 y) (upd_n3 y) (vr (PQ n12 34) rfl)) wr42_ty25 rfl (sizeId_of y.new.2) ⟨rfl, rfl⟩, fun w85 ⟨hE, hb24, hb41, _⟩ => Yk.fieldAt wr42_fo49_2 T2 ⟨rfl, rfl⟩, fun w85 ⟨hE, hb24, hb41, _⟩ => Yk.fieldAt wr42_fo49_3 T2 ⟨rfl, rfl⟩, trivial⟩ ?_
  have hap86 := OG.off hB hb10 (by decide)
  have hap87 := OG.off hT hb10 (by decide)
  refine chF_step rfl (Yk.storeC (i := 2) (v := St (y.name)) (vr (PQ n2 2) rfl) (vr (St (y.name)) rfl) hb10 (by rw [refs_len]; decide) wr42_isz9 rfl rfl fun w88 hb89 hg90 hs91 => ?_)
  have hB := OG.kept hB hg90 hap86
  have hT := OG.kept hT hg90 hap87
  have hE := row_fresh hE hg90 (Nat.le_trans (Nat.le_refl _) (by omega))
  clear hA18
  have hb24 := kb hg90 hb24 (by omega)
  clear hA32
  have hb41 := kb hg90 hb41 (by omega)
  clear hb10
  have hb10 : w88.heap[n2]? = some (.cells (refsC ((⟨z.1.branches, z.1.tags, y.name, z.1.at_, z.1.log⟩, ⟨z.2.branches, z.2.tags, z.2.log⟩) : RefsV)).toArray 49 (0, 0)) := blk_eq hb89 (refs_s2 z y.name); clear hb89
  have hl92 := bl hb10
  refine ⟨.inr ⟨hE, hb24, hb41, trivial⟩, ?_⟩
  have hap93 := OG.off hB hb10 (by decide)
  have hap94 := OG.off hT hb10 (by decide)
  refine chF_step rfl (Yk.storeMid (a := refs_a3 ((⟨z.1.branches, z.1.tags, y.name, z.1.at_, z.1.log⟩, ⟨z.2.branches, z.2.tags, z.2.log⟩) : RefsV)) (m := Lib.byteCells z.1.at_.1) (z := refs_z3 ((⟨z.1.branches, z.1.tags, y.name, z.1.at_, z.1.log⟩, ⟨z.2.branches, z.2.tags, z.2.log⟩) : RefsV)) (cells := Lib.byteCells y.new.1) (vr (PQ n2 3) rfl) (vr (AB y.new.1) rfl) (refs_m3 ((⟨z.1.branches, z.1.tags, y.name, z.1.at_, z.1.log⟩, ⟨z.2.branches, z.2.tags, z.2.log⟩) : RefsV) ▸ hb10) (refs_n3 ((⟨z.1.branches, z.1.tags, y.name, z.1.at_, z.1.log⟩, ⟨z.2.branches, z.2.tags, z.2.log⟩) : RefsV)) (by rw [Lib.byteCells_length, Lib.byteCells_length, z.1.at_.2, y.new.2]) (by rw [Lib.byteCells_length, y.new.2]; exact wr42_isz25) (byteCells_one _) fun w95 hb96 hg97 hs98 => ?_)
  have hB := OG.kept hB hg97 hap93
  have hT := OG.kept hT hg97 hap94
  have hE := row_fresh hE hg97 (Nat.le_trans (Nat.le_refl _) (by omega))
  have hb24 := kb hg97 hb24 (by omega)
  have hb41 := kb hg97 hb41 (by omega)
  clear hb10
  have hb10 : w95.heap[n2]? = some (.cells (refsC ((⟨z.1.branches, z.1.tags, y.name, y.new, z.1.log⟩, ⟨z.2.branches, z.2.tags, z.2.log⟩) : RefsV)).toArray 49 (0, 0)) := blk_eq hb96 (refs_s3 ((⟨z.1.branches, z.1.tags, y.name, z.1.at_, z.1.log⟩, ⟨z.2.branches, z.2.tags, z.2.log⟩) : RefsV) y.new); clear hb96
  have hl99 := bl hb10
  refine ⟨.inl rfl, ?_⟩
  refine chF_nil (tN (hK83 _ _ (sk fun K100 hK100 => (wt (oS rfl (Yk.loadAll T2 hb10 (wr42_ty49).choose_spec rfl (st_isz (refs_len ((⟨z.1.branches, z.1.tags, y.name, y.new, z.1.log⟩, ⟨z.2.branches, z.2.tags, z.2.log⟩) : RefsV)) wr42_isz49) ?_))))))
  have hap101 := OG.off hB hb41 (by decide)
  have hap102 := OG.off hT hb41 (by decide)
  refine oS rfl (Yk.storeAll T4 (vr (.agg (refsC ((⟨z.1.branches, z.1.tags, y.name, y.new, z.1.log⟩, ⟨z.2.branches, z.2.tags, z.2.log⟩) : RefsV)).toArray) rfl) hb41 (by simp only [List.size_toArray, refs_len]) (st_isz (refs_len _) wr42_isz49) (refs_one (x := ((⟨z.1.branches, z.1.tags, y.name, y.new, z.1.log⟩, ⟨z.2.branches, z.2.tags, z.2.log⟩) : RefsV)) (RG.one (RG.ofOwn hB)).2 (RG.one (RG.ofOwn hT)).2 (RG.one (hl.keep hE)).2) fun w103 hb104 hg105 hs106 => ?_)
  have hB := OG.kept hB hg105 hap101
  have hT := OG.kept hT hg105 hap102
  have hE := row_fresh hE hg105 (Nat.le_trans hz35 (by omega))
  have hb24 := kb hg105 hb24 (by omega)
  have hb10 := kb hg105 hb10 (by omega)
  clear hb41
  have hb41 : w103.heap[n26]? = some (.cells (refsC ((⟨z.1.branches, z.1.tags, y.name, y.new, z.1.log⟩, ⟨z.2.branches, z.2.tags, z.2.log⟩) : RefsV)).toArray 49 (0, 0)) := hb104; clear hb104
  have hl107 := bl hb41
  refine oA rfl (oZ (tN (hK100 _ _ (wpF_ret (thenF_ret (postF_ret (fn := Tryd.f80) _ rfl [.agg (refsC ((⟨z.1.branches, z.1.tags, y.name, y.new, z.1.log⟩, ⟨z.2.branches, z.2.tags, z.2.log⟩) : RefsV)).toArray, NI 0] (.tuple #[.agg (refsC ((⟨z.1.branches, z.1.tags, y.name, y.new, z.1.log⟩, ⟨z.2.branches, z.2.tags, z.2.log⟩) : RefsV)).toArray, NI 0]) rfl ⟨ResF.row T4 hb41 (wr42_ty49).choose_spec rfl (st_isz (refs_len _) wr42_isz49), rfl, trivial⟩ ?_))))))
  have hP := oneP_head (r := z.1) h0c h1c h3
  exact ⟨z.2.branches, z.2.tags, by rw [hP]; try rfl, by rw [hP]; exact hB, by rw [hP]; exact hT, hE⟩
 have h3 := hc2
 refine wpF_skip (tN (hK81 _ _ (sk fun K108 hK108 => (wt (oS rfl (Yk.fieldAt wr42_fo49_0 T2 (oS rfl (Yk.cell1 wr42_ty46 rfl (vr (PQ n2 0) rfl) (cellAt hb10 (show (refsC z)[0]? = some (z.2.branches : Value) from refs_g0 z)) (oA rfl (oZ (tN (hK108 _ _ (sk fun K109 hK109 => (sk fun K110 hK110 => (wt (oS rfl (Yk.fieldAt wr42_fo67_0 T3 (oS rfl (Yk.cell1 wr42_ty5 rfl (vr (PQ n12 0) rfl) (cellAt hb24 (show (updC y)[0]? = some (B8 (y.kind) : Value) from upd_g0 y)) (oS rfl (Yk.eqI (a := ((y.kind).toNat : Nat)) (b := (2 : Nat)) rfl rfl (k_eql _ _ _ _) (oZ ?_))))))))))))))))))))))
 refine tN (hK110 _ _ ?_)
 refine wpF_cond (((y.kind).toNat : Nat) = (2)) (vr (.bool (decide (((y.kind).toNat : Nat) = (2)))) rfl) (fun hc3 => ?_) (fun hc3 => ?_)
 ·have h2 := hc3
  refine wt (oS rfl (Yk.fieldAt wr42_fo49_1 T2 (oS rfl (Yk.cell1 wr42_ty46 rfl (vr (PQ n2 1) rfl) (cellAt hb10 (show (refsC z)[1]? = some (z.2.tags : Value) from refs_g1 z)) (oA rfl (oZ (tN (hK109 _ _ (sk fun K111 hK111 => (sk fun K112 hK112 => ?_))))))))))
  refine wpF_draw [Is (z.2.tags), Is (PQ n12 1), Is (St (y.name)), Is (AB ((lookN z.1.tags y.name).1)), Is (PQ n12 2), Is (AB y.old.1), Is (.bool (decide ((lookN z.1.tags y.name).1 ≠ y.old.1)))] (by kernel_rfl) [87, 88, 89, 90, 91, 92, 93] (by kernel_rfl) (by kernel_rfl) (si7 trivial) ?hs2011 ?hQ2011
  case hs2011 =>
   refine ⟨?_, ?_, ?_, ?_, ?_, ?_, ?_, trivial⟩
   ·refine stepN rfl fun σ w1 hC h => ?_
    have e6 : σ 6 = z.2.tags := (eqo (h 6 (by decide))).trans rfl
    exact Yk.move e6 ⟨Ext.refl _, rfl⟩
   ·refine stepN rfl fun σ w1 hC h => ?_
    have e3 := (eqo (h 3 (by decide))).trans T3
    exact Yk.fieldAt wr42_fo67_1 e3 ⟨Ext.refl _, rfl⟩
   ·refine stepN rfl fun σ w1 hC h => ?_
    have e88 := eqo (h 88 (by decide))
    exact Yk.cell1 wr42_ty9 rfl e88 (cellAt (eb hC hb24) (show (updC y)[1]? = some (St (y.name) : Value) from upd_g1 y)) ⟨Ext.refl _, rfl⟩
   ·refine stepN rfl fun σ w1 hC h => ?_
    have e87 := eqo (h 87 (by decide))
    have e89 := eqo (h 89 (by decide))
    refine Yk.callA2 wr42_pl90 e87 e89 ((refLook_any _ z.2.tags z.1.tags (RG.ofOwn (hT.keep hC)) (by omega) y.name).mono ?_)
    rintro e w2 ⟨rfl, hx⟩
    exact ⟨_, rfl, hx, rfl⟩
   ·refine stepN rfl fun σ w1 hC h => ?_
    have e3 := (eqo (h 3 (by decide))).trans T3
    exact Yk.fieldAt wr42_fo67_2 e3 ⟨Ext.refl _, rfl⟩
   ·refine stepN rfl fun σ w1 hC h => ?_
    have e91 := eqo (h 91 (by decide))
    exact Yk.loadPR (PR.blk (eb hC hb24) (upd_m2 y) (upd_n2 y) e91) wr42_ty25 rfl (sizeId_of y.old.2) ⟨Ext.refl _, rfl⟩
   ·refine stepN rfl fun σ w1 hC h => ?_
    have e90 := eqo (h 90 (by decide))
    have e92 := eqo (h 92 (by decide))
    exact Yk.neArr (l1 := (lookN z.1.tags y.name).1) (l2 := y.old.1) wr42_ty25 wr42_ty5 wr42_sz5 wr42_eg25 e90 e92 ((lookN z.1.tags y.name).2) (y.old.2) ⟨Ext.refl _, rfl⟩
  intro ρ113 w114 hx115 he hf
  obtain ⟨-, -, -, -, -, -, k93, -⟩ := hf
  obtain ⟨T0, T1, T2, T3, T4, T5, T6, -⟩ := he.hold [(0, _), (1, _), (2, _), (3, _), (4, _), (5, _), (6, z.2.tags)] ⟨T0, T1, T2, T3, T4, T5, rfl, trivial⟩ rfl
  clear he
  have hB := hB.keep hx115
  have hT := hT.keep hx115
  have hE := hE.trans hx115
  have hb10 := eb hx115 hb10
  have hA18 := hA18.trans hx115
  have hb24 := eb hx115 hb24
  have hA32 := hA32.trans hx115
  have hb41 := eb hx115 hb41
  have T93 : ρ113 93 = .bool (decide ((lookN z.1.tags y.name).1 ≠ y.old.1)) := k93
  clear k93
  refine tN (hK112 _ _ ?_)
  refine wpF_cond ((lookN z.1.tags y.name).1 ≠ y.old.1) T93 (fun hc4 => ?_) (fun hc4 => ?_)
  ·have hmv := hc4
   refine sk fun K116 hK116 => (wt (oS rfl (Yk.loadAll T2 hb10 (wr42_ty49).choose_spec rfl (st_isz (refs_len z) wr42_isz49) ?_)))
   have hap117 := OG.off hB hb41 (by decide)
   have hap118 := OG.off hT hb41 (by decide)
   refine oS rfl (Yk.storeAll T4 (vr (.agg (refsC z).toArray) rfl) hb41 (by simp only [List.size_toArray, refs_len]) (st_isz (refs_len _) wr42_isz49) (refs_one (x := z) (RG.one (RG.ofOwn hB)).2 (RG.one (RG.ofOwn hT)).2 (RG.one (hl.keep hE)).2) fun w119 hb120 hg121 hs122 => ?_)
   have hB := OG.kept hB hg121 hap117
   have hT := OG.kept hT hg121 hap118
   have hE := row_fresh hE hg121 (Nat.le_trans hz35 (by omega))
   have hb10 := kb hg121 hb10 (by omega)
   have hA18 := row_fresh hA18 hg121 (Nat.le_trans hz36 (by omega))
   have hb24 := kb hg121 hb24 (by omega)
   have hA32 := row_fresh hA32 hg121 (Nat.le_trans (Nat.le_refl _) (by omega))
   clear hb41
   have hb41 : w119.heap[n26]? = some (.cells (refsC z).toArray 49 (0, 0)) := hb120; clear hb120
   have hl123 := bl hb41
   refine oA rfl (oZ (tN (hK116 _ _ (wpF_ret (thenF_ret (postF_ret (fn := Tryd.f80) _ rfl [.agg (refsC z).toArray, NI 15] (.tuple #[.agg (refsC z).toArray, NI 15]) rfl ⟨ResF.row T4 hb41 (wr42_ty49).choose_spec rfl (st_isz (refs_len _) wr42_isz49), rfl, trivial⟩ ?_))))))
   have hP := onePT_moved (r := z.1) h0c h1c h2 hmv
   exact ⟨z.2.branches, z.2.tags, by rw [hP]; try rfl, by rw [hP]; exact hB, by rw [hP]; exact hT, hE⟩
  have hmv := hc4
  refine wpF_skip (tN (hK111 _ _ (sk fun K124 hK124 => (sk fun K125 hK125 => (wt (oS rfl (Yk.fieldAt wr42_fo67_0 T3 (oS rfl (Yk.cell1 wr42_ty5 rfl (vr (PQ n12 0) rfl) (cellAt hb24 (show (updC y)[0]? = some (B8 (y.kind) : Value) from upd_g0 y)) (oS rfl (Yk.eqI (a := ((y.kind).toNat : Nat)) (b := (1 : Nat)) rfl rfl (k_eql _ _ _ _) (oM rfl (oN (d := 98) rfl rfl rfl (vr (.bool (false)) (congrArg Value.bool (decide_eq_false (by rw [h2]; decide)))) rfl (oN (d := 98) rfl rfl rfl (vr (.bool (false)) (congrArg Value.bool (decide_eq_false (by rw [h2]; decide)))) rfl (oN (d := 98) rfl rfl rfl (vr (.bool (false)) (congrArg Value.bool (decide_eq_false (by rw [h2]; decide)))) rfl (oS rfl (Yk.pickF (vr (.bool (false)) (congrArg Value.bool (decide_eq_false (by rw [h2]; decide)))) (vr (.bool (false)) rfl) (oM rfl (oN (d := 103) rfl rfl rfl (vr (.bool (false)) rfl) rfl (oN (d := 103) rfl rfl rfl (vr (.bool (false)) rfl) rfl ?_))))))))))))))))))))
  refine oN (d := 103) rfl rfl rfl (vr (.bool (false)) rfl) rfl (oN (d := 103) rfl rfl rfl (vr (.bool (false)) rfl) rfl (oS rfl (Yk.pickF (vr (.bool (false)) rfl) (vr (.bool (false)) rfl) (oM rfl (oN (d := 109) rfl rfl rfl (vr (.bool (false)) rfl) rfl (oN (d := 109) rfl rfl rfl (vr (.bool (false)) rfl) rfl (oN (d := 109) rfl rfl rfl (vr (.bool (false)) rfl) rfl (oN (d := 109) rfl rfl rfl (vr (.bool (false)) rfl) rfl (oN (d := 109) rfl rfl rfl (vr (.bool (false)) rfl) rfl (oS rfl (Yk.pickF (vr (.bool (false)) rfl) (vr (.bool (false)) rfl) (oL_ [(0, .agg (refsC z).toArray), (1, .agg (updC y).toArray), (2, PQ n2 0), (3, PQ n12 0), (4, PQ n26 0), (5, NI 0), (6, z.2.tags), (115, .bool (false))] ⟨T0, T1, T2, T3, T4, T5, T6, rfl, trivial⟩ fun ρ126 ⟨T0, T1, T2, T3, T4, T5, T6, T115, _⟩ => (tN (hK125 _ _ (wpF_false T115 (wpF_skip (tN (hK124 _ _ (sk fun K127 hK127 => ?_)))))))))))))))))))
  refine wt (oM rfl (oS rfl (Yk.fieldAt wr42_fo67_1 T3 (oS rfl (Yk.cell1 wr42_ty9 rfl (vr (PQ n12 1) rfl) (cellAt hb24 (show (updC y)[1]? = some (St (y.name) : Value) from upd_g1 y)) (oS rfl (Yk.fieldAt wr42_fo67_3 T3 (oS rfl (Yk.loadPR (PR.blk hb24 (upd_m3 y) (upd_n3 y) (vr (PQ n12 34) rfl)) wr42_ty25 rfl (sizeId_of y.new.2) (oS rfl (Yk.callA3 wr42_pl126 T6 (vr (St (y.name)) rfl) (vr (AB y.new.1) rfl) ((refPut_any _ z.2.tags z.1.tags (RG.ofOwn hT) (by omega) y.name y.new).mono ?_))))))))))))
  rintro e w131 ⟨v128, rfl, ho129, hx130⟩
  refine ⟨_, rfl, ?_⟩
  have hB := hB.keep hx130
  have hT := hT.keep hx130
  have hE := hE.trans hx130
  have hb10 := eb hx130 hb10
  have hA18 := hA18.trans hx130
  have hb24 := eb hx130 hb24
  have hA32 := hA32.trans hx130
  have hb41 := eb hx130 hb41
  have ho129 := OG.low ho129 (Nat.zero_le _)
  refine oA rfl (oZ (tN (hK127 _ _ (sk fun K132 hK132 => (sk fun K133 hK133 => (wt (oM rfl (oS rfl (Yk.lenRG wr42_ty46 (RG.of (RG.ofOwn ho129) (vr v128 rfl)) (oS rfl (Yk.eqI (a := (((putP z.1.tags y.name y.new)).length : Nat)) (b := (64 : Nat)) rfl rfl (k_gtr _ _ _ _) (oZ (tN (hK133 _ _ ?_))))))))))))))
  refine wpF_cond ((64) < (((putP z.1.tags y.name y.new)).length)) (vr (.bool (decide ((64) < (((putP z.1.tags y.name y.new)).length)))) rfl) (fun hc6 => ?_) (fun hc6 => ?_)
  ·have hfu := hc6
   refine sk fun K134 hK134 => (wt (oS rfl (Yk.loadAll T2 hb10 (wr42_ty49).choose_spec rfl (st_isz (refs_len z) wr42_isz49) ?_)))
   have hap135 := OG.off hB hb41 (by decide)
   have hap136 := OG.off hT hb41 (by decide)
   have hap137 := OG.off ho129 hb41 (by decide)
   refine oS rfl (Yk.storeAll T4 (vr (.agg (refsC z).toArray) rfl) hb41 (by simp only [List.size_toArray, refs_len]) (st_isz (refs_len _) wr42_isz49) (refs_one (x := z) (RG.one (RG.ofOwn hB)).2 (RG.one (RG.ofOwn hT)).2 (RG.one (hl.keep hE)).2) fun w138 hb139 hg140 hs141 => ?_)
   have hB := OG.kept hB hg140 hap135
   have hT := OG.kept hT hg140 hap136
   have hE := row_fresh hE hg140 (Nat.le_trans hz35 (by omega))
   have hb10 := kb hg140 hb10 (by omega)
   have hA18 := row_fresh hA18 hg140 (Nat.le_trans hz36 (by omega))
   have hb24 := kb hg140 hb24 (by omega)
   have hA32 := row_fresh hA32 hg140 (Nat.le_trans (Nat.le_refl _) (by omega))
   have ho129 := OG.kept ho129 hg140 hap137
   clear hb41
   have hb41 : w138.heap[n26]? = some (.cells (refsC z).toArray 49 (0, 0)) := hb139; clear hb139
   have hl142 := bl hb41
   refine oA rfl (oZ (tN (hK134 _ _ (wpF_ret (thenF_ret (postF_ret (fn := Tryd.f80) _ rfl [.agg (refsC z).toArray, NI 3] (.tuple #[.agg (refsC z).toArray, NI 3]) rfl ⟨ResF.row T4 hb41 (wr42_ty49).choose_spec rfl (st_isz (refs_len _) wr42_isz49), rfl, trivial⟩ ?_))))))
   have hP := onePT_full (r := z.1) h0c h1c h2 hmv hfu
   exact ⟨z.2.branches, z.2.tags, by rw [hP]; try rfl, by rw [hP]; exact hB, by rw [hP]; exact hT, hE⟩
  have hfu := hc6
  refine wpF_skip (tN (hK132 _ _ (sk fun K143 hK143 => (sk fun K144 hK144 => (wt (oS rfl (Yk.fieldAt wr42_fo67_0 T3 (oS rfl (Yk.cell1 wr42_ty5 rfl (vr (PQ n12 0) rfl) (cellAt hb24 (show (updC y)[0]? = some (B8 (y.kind) : Value) from upd_g0 y)) (oS rfl (Yk.eqI (a := ((y.kind).toNat : Nat)) (b := (1 : Nat)) rfl rfl (k_eql _ _ _ _) (oZ (tN (hK144 _ _ (wpF_false (vr (.bool (false)) (congrArg Value.bool (decide_eq_false (by rw [h2]; decide)))) (wt (oM rfl (oS rfl (Yk.fieldAt wr42_fo49_1 T2 ?_)))))))))))))))))))
  have hap145 := OG.off hB hb10 (by decide)
  have hap146 := OG.off hT hb10 (by decide)
  have hap147 := OG.off ho129 hb10 (by decide)
  refine oS rfl (Yk.storeC (i := 1) (v := v128) (vr (PQ n2 1) rfl) (vr v128 rfl) hb10 (by rw [refs_len]; decide) wr42_isz46 (RG.one (RG.ofOwn ho129)).1 (RG.one (RG.ofOwn ho129)).2 fun w148 hb149 hg150 hs151 => ?_)
  have hB := OG.kept hB hg150 hap145
  have hT := OG.kept hT hg150 hap146
  have hE := row_fresh hE hg150 (Nat.le_trans (Nat.le_refl _) (by omega))
  clear hA18
  have hb24 := kb hg150 hb24 (by omega)
  clear hA32
  have hb41 := kb hg150 hb41 (by omega)
  have ho129 := OG.kept ho129 hg150 hap147
  clear hb10
  have hb10 : w148.heap[n2]? = some (.cells (refsC ((⟨z.1.branches, (putP z.1.tags y.name y.new), z.1.head, z.1.at_, z.1.log⟩, ⟨z.2.branches, v128, z.2.log⟩) : RefsV)).toArray 49 (0, 0)) := blk_eq hb149 (refs_s1 z v128 ((putP z.1.tags y.name y.new))); clear hb149
  have hl152 := bl hb10
  refine oZ (tN (hK143 _ _ (sk fun K153 hK153 => (wt (oS rfl (Yk.loadAll T2 hb10 (wr42_ty49).choose_spec rfl (st_isz (refs_len ((⟨z.1.branches, (putP z.1.tags y.name y.new), z.1.head, z.1.at_, z.1.log⟩, ⟨z.2.branches, v128, z.2.log⟩) : RefsV)) wr42_isz49) ?_))))))
  have hap154 := OG.off hB hb41 (by decide)
  have hap155 := OG.off hT hb41 (by decide)
  have hap156 := OG.off ho129 hb41 (by decide)
  refine oS rfl (Yk.storeAll T4 (vr (.agg (refsC ((⟨z.1.branches, (putP z.1.tags y.name y.new), z.1.head, z.1.at_, z.1.log⟩, ⟨z.2.branches, v128, z.2.log⟩) : RefsV)).toArray) rfl) hb41 (by simp only [List.size_toArray, refs_len]) (st_isz (refs_len _) wr42_isz49) (refs_one (x := ((⟨z.1.branches, (putP z.1.tags y.name y.new), z.1.head, z.1.at_, z.1.log⟩, ⟨z.2.branches, v128, z.2.log⟩) : RefsV)) (RG.one (RG.ofOwn hB)).2 (RG.one (RG.ofOwn ho129)).2 (RG.one (hl.keep hE)).2) fun w157 hb158 hg159 hs160 => ?_)
  have hB := OG.kept hB hg159 hap154
  have hT := OG.kept hT hg159 hap155
  have hE := row_fresh hE hg159 (Nat.le_trans hz35 (by omega))
  have hb24 := kb hg159 hb24 (by omega)
  have ho129 := OG.kept ho129 hg159 hap156
  have hb10 := kb hg159 hb10 (by omega)
  clear hb41
  have hb41 : w157.heap[n26]? = some (.cells (refsC ((⟨z.1.branches, (putP z.1.tags y.name y.new), z.1.head, z.1.at_, z.1.log⟩, ⟨z.2.branches, v128, z.2.log⟩) : RefsV)).toArray 49 (0, 0)) := hb158; clear hb158
  have hl161 := bl hb41
  refine oA rfl (oZ (tN (hK153 _ _ (wpF_ret (postF_ret (fn := Tryd.f80) _ rfl [.agg (refsC ((⟨z.1.branches, (putP z.1.tags y.name y.new), z.1.head, z.1.at_, z.1.log⟩, ⟨z.2.branches, v128, z.2.log⟩) : RefsV)).toArray, NI 0] (.tuple #[.agg (refsC ((⟨z.1.branches, (putP z.1.tags y.name y.new), z.1.head, z.1.at_, z.1.log⟩, ⟨z.2.branches, v128, z.2.log⟩) : RefsV)).toArray, NI 0]) rfl ⟨ResF.row T4 hb41 (wr42_ty49).choose_spec rfl (st_isz (refs_len _) wr42_isz49), rfl, trivial⟩ ?_)))))
  have hP := onePT_done (r := z.1) h0c h1c h2 hmv hfu
  exact ⟨z.2.branches, v128, by rw [hP]; try rfl, by rw [hP]; exact hB, by rw [hP]; exact ho129, hE⟩
 have h2 := hc3
 have hk1 : y.kind.toNat = 1 := kind_one h0c h2 h3
 refine wpF_skip (tN (hK109 _ _ (sk fun K162 hK162 => (sk fun K163 hK163 => ?_))))
 refine wpF_draw [Is (z.2.branches), Is (PQ n12 1), Is (St (y.name)), Is (AB ((lookN z.1.branches y.name).1)), Is (PQ n12 2), Is (AB y.old.1), Is (.bool (decide ((lookN z.1.branches y.name).1 ≠ y.old.1)))] (by kernel_rfl) [87, 88, 89, 90, 91, 92, 93] (by kernel_rfl) (by kernel_rfl) (si7 trivial) ?hs3011 ?hQ3011
 case hs3011 =>
  refine ⟨?_, ?_, ?_, ?_, ?_, ?_, ?_, trivial⟩
  ·refine stepN rfl fun σ w1 hC h => ?_
   have e6 : σ 6 = z.2.branches := (eqo (h 6 (by decide))).trans rfl
   exact Yk.move e6 ⟨Ext.refl _, rfl⟩
  ·refine stepN rfl fun σ w1 hC h => ?_
   have e3 := (eqo (h 3 (by decide))).trans T3
   exact Yk.fieldAt wr42_fo67_1 e3 ⟨Ext.refl _, rfl⟩
  ·refine stepN rfl fun σ w1 hC h => ?_
   have e88 := eqo (h 88 (by decide))
   exact Yk.cell1 wr42_ty9 rfl e88 (cellAt (eb hC hb24) (show (updC y)[1]? = some (St (y.name) : Value) from upd_g1 y)) ⟨Ext.refl _, rfl⟩
  ·refine stepN rfl fun σ w1 hC h => ?_
   have e87 := eqo (h 87 (by decide))
   have e89 := eqo (h 89 (by decide))
   refine Yk.callA2 wr42_pl90 e87 e89 ((refLook_any _ z.2.branches z.1.branches (RG.ofOwn (hB.keep hC)) (by omega) y.name).mono ?_)
   rintro e w2 ⟨rfl, hx⟩
   exact ⟨_, rfl, hx, rfl⟩
  ·refine stepN rfl fun σ w1 hC h => ?_
   have e3 := (eqo (h 3 (by decide))).trans T3
   exact Yk.fieldAt wr42_fo67_2 e3 ⟨Ext.refl _, rfl⟩
  ·refine stepN rfl fun σ w1 hC h => ?_
   have e91 := eqo (h 91 (by decide))
   exact Yk.loadPR (PR.blk (eb hC hb24) (upd_m2 y) (upd_n2 y) e91) wr42_ty25 rfl (sizeId_of y.old.2) ⟨Ext.refl _, rfl⟩
  ·refine stepN rfl fun σ w1 hC h => ?_
   have e90 := eqo (h 90 (by decide))
   have e92 := eqo (h 92 (by decide))
   exact Yk.neArr (l1 := (lookN z.1.branches y.name).1) (l2 := y.old.1) wr42_ty25 wr42_ty5 wr42_sz5 wr42_eg25 e90 e92 ((lookN z.1.branches y.name).2) (y.old.2) ⟨Ext.refl _, rfl⟩
 intro ρ164 w165 hx166 he hf
 obtain ⟨-, -, -, -, -, -, k93, -⟩ := hf
 obtain ⟨T0, T1, T2, T3, T4, T5, T6, -⟩ := he.hold [(0, _), (1, _), (2, _), (3, _), (4, _), (5, _), (6, z.2.branches)] ⟨T0, T1, T2, T3, T4, T5, rfl, trivial⟩ rfl
 clear he
 have hB := hB.keep hx166
 have hT := hT.keep hx166
 have hE := hE.trans hx166
 have hb10 := eb hx166 hb10
 have hA18 := hA18.trans hx166
 have hb24 := eb hx166 hb24
 have hA32 := hA32.trans hx166
 have hb41 := eb hx166 hb41
 have T93 : ρ164 93 = .bool (decide ((lookN z.1.branches y.name).1 ≠ y.old.1)) := k93
 clear k93
 refine tN (hK163 _ _ ?_)
 refine wpF_cond ((lookN z.1.branches y.name).1 ≠ y.old.1) T93 (fun hc4 => ?_) (fun hc4 => ?_)
 ·have hmv := hc4
  refine sk fun K167 hK167 => (wt (oS rfl (Yk.loadAll T2 hb10 (wr42_ty49).choose_spec rfl (st_isz (refs_len z) wr42_isz49) ?_)))
  have hap168 := OG.off hB hb41 (by decide)
  have hap169 := OG.off hT hb41 (by decide)
  refine oS rfl (Yk.storeAll T4 (vr (.agg (refsC z).toArray) rfl) hb41 (by simp only [List.size_toArray, refs_len]) (st_isz (refs_len _) wr42_isz49) (refs_one (x := z) (RG.one (RG.ofOwn hB)).2 (RG.one (RG.ofOwn hT)).2 (RG.one (hl.keep hE)).2) fun w170 hb171 hg172 hs173 => ?_)
  have hB := OG.kept hB hg172 hap168
  have hT := OG.kept hT hg172 hap169
  have hE := row_fresh hE hg172 (Nat.le_trans hz35 (by omega))
  have hb10 := kb hg172 hb10 (by omega)
  have hA18 := row_fresh hA18 hg172 (Nat.le_trans hz36 (by omega))
  have hb24 := kb hg172 hb24 (by omega)
  have hA32 := row_fresh hA32 hg172 (Nat.le_trans (Nat.le_refl _) (by omega))
  clear hb41
  have hb41 : w170.heap[n26]? = some (.cells (refsC z).toArray 49 (0, 0)) := hb171; clear hb171
  have hl174 := bl hb41
  refine oA rfl (oZ (tN (hK167 _ _ (wpF_ret (thenF_ret (postF_ret (fn := Tryd.f80) _ rfl [.agg (refsC z).toArray, NI 15] (.tuple #[.agg (refsC z).toArray, NI 15]) rfl ⟨ResF.row T4 hb41 (wr42_ty49).choose_spec rfl (st_isz (refs_len _) wr42_isz49), rfl, trivial⟩ ?_))))))
  have hP := onePB_moved (r := z.1) h0c h1c hk1 hmv
  exact ⟨z.2.branches, z.2.tags, by rw [hP]; try rfl, by rw [hP]; exact hB, by rw [hP]; exact hT, hE⟩
 have hmv := hc4
 refine wpF_skip (tN (hK162 _ _ (sk fun K175 hK175 => (sk fun K176 hK176 => (wt (oS rfl (Yk.fieldAt wr42_fo67_0 T3 (oS rfl (Yk.cell1 wr42_ty5 rfl (vr (PQ n12 0) rfl) (cellAt hb24 (show (updC y)[0]? = some (B8 (y.kind) : Value) from upd_g0 y)) (oS rfl (Yk.eqI (a := ((y.kind).toNat : Nat)) (b := (1 : Nat)) rfl rfl (k_eql _ _ _ _) (oM rfl (oY (d := 98) rfl rfl (vr (.bool (true)) (congrArg Value.bool (decide_eq_true (hk1)))) (Yk.fieldAt wr42_fo67_3 T3 (oY (d := 98) rfl rfl (vr (.bool (true)) (congrArg Value.bool (decide_eq_true (hk1)))) (Yk.loadPR (PR.blk hb24 (upd_m3 y) (upd_n3 y) (vr (PQ n12 34) rfl)) wr42_ty25 rfl (sizeId_of y.new.2) (oY (d := 98) rfl rfl (vr (.bool (true)) (congrArg Value.bool (decide_eq_true (hk1)))) (Yk.callA1 wr42_pl86 (vr (AB y.new.1) rfl) ((rfzero_any _ y.new).mono ?_)))))))))))))))))))
 rintro e w178 ⟨rfl, hx177⟩
 refine ⟨_, rfl, ?_⟩
 have hB := hB.keep hx177
 have hT := hT.keep hx177
 have hE := hE.trans hx177
 have hb10 := eb hx177 hb10
 have hA18 := hA18.trans hx177
 have hb24 := eb hx177 hb24
 have hA32 := hA32.trans hx177
 have hb41 := eb hx177 hb41
 refine oS rfl (Yk.pickT (vr (.bool (true)) (congrArg Value.bool (decide_eq_true (hk1)))) (vr (.bool (zeroB y.new)) rfl) (oM rfl (opsF_mayV (PQ n12 2) rfl rfl (gT (vr (.bool (zeroB y.new)) rfl)) (fun hG179 => Yk.fieldAt wr42_fo67_2 T3 ⟨rfl, rfl⟩) (opsF_mayV (AB y.old.1) rfl rfl (gT (vr (.bool (zeroB y.new)) rfl)) (fun hG180 => Yk.loadPR (PR.blk hb24 (upd_m2 y) (upd_n2 y) (mayT (vr (cond ((zeroB y.new)) (PQ n12 2) undef) rfl) hG180)) wr42_ty25 rfl (sizeId_of y.old.2) ⟨rfl, rfl⟩) (opsF_mayC (.bool (zeroB y.old)) rfl rfl (gT (vr (.bool (zeroB y.new)) rfl)) (fun hG181 => Yk.callA1 wr42_pl86 (mayT (vr (cond ((zeroB y.new)) (AB y.old.1) undef) rfl) hG181) ((rfzero_any _ y.old).mono (by rintro e w2 ⟨rfl, hx⟩; exact ⟨_, rfl, rfl, hx⟩))) fun w183 hx184 => ?_)))))
 have hB := hB.keep hx184
 have hT := hT.keep hx184
 have hE := hE.trans hx184
 have hb10 := eb hx184 hb10
 have hA18 := hA18.trans hx184
 have hb24 := eb hx184 hb24
 have hA32 := hA32.trans hx184
 have hb41 := eb hx184 hb41
 refine opsF_mayV (.bool (!(zeroB y.old))) rfl rfl (gT (vr (.bool (zeroB y.new)) rfl)) (fun hG185 => Yk.notB (mayT (vr (cond ((zeroB y.new)) (.bool (zeroB y.old)) undef) rfl) hG185) ⟨rfl, rfl⟩) (oS rfl (Yk.pickAndN (vr (.bool (zeroB y.new)) rfl) (fun hA => (mayT (vr (cond ((zeroB y.new)) (.bool (!(zeroB y.old))) undef) rfl) hA)) (vr (.bool (false)) rfl) fun bb186 hbb187 => (oM rfl (opsF_mayV (PQ n2 2) rfl rfl (gT (vr (.bool (bb186)) rfl)) (fun hG188 => Yk.fieldAt wr42_fo49_2 T2 ⟨rfl, rfl⟩) (opsF_mayV (St (z.1.head)) rfl rfl (gT (vr (.bool (bb186)) rfl)) (fun hG189 => Yk.cell1 wr42_ty9 rfl (mayT (vr (cond (bb186) (PQ n2 2) undef) rfl) hG189) (cellAt hb10 (show (refsC z)[2]? = some (St (z.1.head) : Value) from refs_g2 z)) ⟨rfl, rfl⟩) (opsF_mayV (PQ n12 1) rfl rfl (gT (vr (.bool (bb186)) rfl)) (fun hG190 => Yk.fieldAt wr42_fo67_1 T3 ⟨rfl, rfl⟩) (opsF_mayV (St (y.name)) rfl rfl (gT (vr (.bool (bb186)) rfl)) (fun hG191 => Yk.cell1 wr42_ty9 rfl (mayT (vr (cond (bb186) (PQ n12 1) undef) rfl) hG191) (cellAt hb24 (show (updC y)[1]? = some (St (y.name) : Value) from upd_g1 y)) ⟨rfl, rfl⟩) (opsF_mayV (.bool (decide ((z.1.head : List UInt8) = (y.name : List UInt8)))) rfl rfl (gT (vr (.bool (bb186)) rfl)) (fun hG192 => Yk.eqSt (l := z.1.head) (m := y.name) (.inl rfl) (mayT (vr (cond (bb186) (St (z.1.head)) undef) rfl) hG192) (mayT (vr (cond (bb186) (St (y.name)) undef) rfl) hG192) (decide ((z.1.head : List UInt8) = (y.name : List UInt8))) rfl ⟨rfl, rfl⟩) (oS rfl (Yk.pickAndN (vr (.bool (bb186)) rfl) (fun hA => (mayT (vr (cond (bb186) (.bool (decide ((z.1.head : List UInt8) = (y.name : List UInt8)))) undef) rfl) hA)) (vr (.bool (false)) rfl) fun bb193 hbb194 => (oL_ [(0, .agg (refsC z).toArray), (1, .agg (updC y).toArray), (2, PQ n2 0), (3, PQ n12 0), (4, PQ n26 0), (5, NI 0), (6, z.2.branches), (115, .bool (bb193))] ⟨T0, T1, T2, T3, T4, T5, T6, rfl, trivial⟩ fun ρ195 ⟨T0, T1, T2, T3, T4, T5, T6, T115, _⟩ => (tN (hK176 _ _ ?_)))))))))))))
 refine wpF_condB (bb193) T115 (fun hc5 => ?_) (fun hc5 => ?_)
 ·subst hbb187 hbb194
  have hls : lostB z.1 y = true := hc5
  refine sk fun K196 hK196 => (wt (oS rfl (Yk.loadAll T2 hb10 (wr42_ty49).choose_spec rfl (st_isz (refs_len z) wr42_isz49) ?_)))
  have hap197 := OG.off hB hb41 (by decide)
  have hap198 := OG.off hT hb41 (by decide)
  refine oS rfl (Yk.storeAll T4 (vr (.agg (refsC z).toArray) rfl) hb41 (by simp only [List.size_toArray, refs_len]) (st_isz (refs_len _) wr42_isz49) (refs_one (x := z) (RG.one (RG.ofOwn hB)).2 (RG.one (RG.ofOwn hT)).2 (RG.one (hl.keep hE)).2) fun w199 hb200 hg201 hs202 => ?_)
  have hB := OG.kept hB hg201 hap197
  have hT := OG.kept hT hg201 hap198
  have hE := row_fresh hE hg201 (Nat.le_trans hz35 (by omega))
  have hb10 := kb hg201 hb10 (by omega)
  have hA18 := row_fresh hA18 hg201 (Nat.le_trans hz36 (by omega))
  have hb24 := kb hg201 hb24 (by omega)
  have hA32 := row_fresh hA32 hg201 (Nat.le_trans (Nat.le_refl _) (by omega))
  clear hb41
  have hb41 : w199.heap[n26]? = some (.cells (refsC z).toArray 49 (0, 0)) := hb200; clear hb200
  have hl203 := bl hb41
  refine oA rfl (oZ (tN (hK196 _ _ (wpF_ret (thenF_ret (postF_ret (fn := Tryd.f80) _ rfl [.agg (refsC z).toArray, NI 16] (.tuple #[.agg (refsC z).toArray, NI 16]) rfl ⟨ResF.row T4 hb41 (wr42_ty49).choose_spec rfl (st_isz (refs_len _) wr42_isz49), rfl, trivial⟩ ?_))))))
  have hP := onePB_lost (r := z.1) h0c h1c hk1 hmv hls
  exact ⟨z.2.branches, z.2.tags, by rw [hP]; try rfl, by rw [hP]; exact hB, by rw [hP]; exact hT, hE⟩
 subst hbb187 hbb194
 have hls : lostB z.1 y = false := hc5
 refine wpF_skip (tN (hK175 _ _ (sk fun K204 hK204 => (wt (oM rfl (oS rfl (Yk.fieldAt wr42_fo67_1 T3 (oS rfl (Yk.cell1 wr42_ty9 rfl (vr (PQ n12 1) rfl) (cellAt hb24 (show (updC y)[1]? = some (St (y.name) : Value) from upd_g1 y)) (oS rfl (Yk.fieldAt wr42_fo67_3 T3 (oS rfl (Yk.loadPR (PR.blk hb24 (upd_m3 y) (upd_n3 y) (vr (PQ n12 34) rfl)) wr42_ty25 rfl (sizeId_of y.new.2) (oS rfl (Yk.callA3 wr42_pl126 T6 (vr (St (y.name)) rfl) (vr (AB y.new.1) rfl) ((refPut_any _ z.2.branches z.1.branches (RG.ofOwn hB) (by omega) y.name y.new).mono ?_))))))))))))))))
 rintro e w208 ⟨v205, rfl, ho206, hx207⟩
 refine ⟨_, rfl, ?_⟩
 have hB := hB.keep hx207
 have hT := hT.keep hx207
 have hE := hE.trans hx207
 have hb10 := eb hx207 hb10
 have hA18 := hA18.trans hx207
 have hb24 := eb hx207 hb24
 have hA32 := hA32.trans hx207
 have hb41 := eb hx207 hb41
 have ho206 := OG.low ho206 (Nat.zero_le _)
 refine oA rfl (oZ (tN (hK204 _ _ (sk fun K209 hK209 => (sk fun K210 hK210 => (wt (oM rfl (oS rfl (Yk.lenRG wr42_ty46 (RG.of (RG.ofOwn ho206) (vr v205 rfl)) (oS rfl (Yk.eqI (a := (((putP z.1.branches y.name y.new)).length : Nat)) (b := (64 : Nat)) rfl rfl (k_gtr _ _ _ _) (oZ (tN (hK210 _ _ ?_))))))))))))))
 refine wpF_cond ((64) < (((putP z.1.branches y.name y.new)).length)) (vr (.bool (decide ((64) < (((putP z.1.branches y.name y.new)).length)))) rfl) (fun hc6 => ?_) (fun hc6 => ?_)
 ·have hfu := hc6
  refine sk fun K211 hK211 => (wt (oS rfl (Yk.loadAll T2 hb10 (wr42_ty49).choose_spec rfl (st_isz (refs_len z) wr42_isz49) ?_)))
  have hap212 := OG.off hB hb41 (by decide)
  have hap213 := OG.off hT hb41 (by decide)
  have hap214 := OG.off ho206 hb41 (by decide)
  refine oS rfl (Yk.storeAll T4 (vr (.agg (refsC z).toArray) rfl) hb41 (by simp only [List.size_toArray, refs_len]) (st_isz (refs_len _) wr42_isz49) (refs_one (x := z) (RG.one (RG.ofOwn hB)).2 (RG.one (RG.ofOwn hT)).2 (RG.one (hl.keep hE)).2) fun w215 hb216 hg217 hs218 => ?_)
  have hB := OG.kept hB hg217 hap212
  have hT := OG.kept hT hg217 hap213
  have hE := row_fresh hE hg217 (Nat.le_trans hz35 (by omega))
  have hb10 := kb hg217 hb10 (by omega)
  have hA18 := row_fresh hA18 hg217 (Nat.le_trans hz36 (by omega))
  have hb24 := kb hg217 hb24 (by omega)
  have hA32 := row_fresh hA32 hg217 (Nat.le_trans (Nat.le_refl _) (by omega))
  have ho206 := OG.kept ho206 hg217 hap214
  clear hb41
  have hb41 : w215.heap[n26]? = some (.cells (refsC z).toArray 49 (0, 0)) := hb216; clear hb216
  have hl219 := bl hb41
  refine oA rfl (oZ (tN (hK211 _ _ (wpF_ret (thenF_ret (postF_ret (fn := Tryd.f80) _ rfl [.agg (refsC z).toArray, NI 3] (.tuple #[.agg (refsC z).toArray, NI 3]) rfl ⟨ResF.row T4 hb41 (wr42_ty49).choose_spec rfl (st_isz (refs_len _) wr42_isz49), rfl, trivial⟩ ?_))))))
  have hP := onePB_full (r := z.1) h0c h1c hk1 hmv hls hfu
  exact ⟨z.2.branches, z.2.tags, by rw [hP]; try rfl, by rw [hP]; exact hB, by rw [hP]; exact hT, hE⟩
 have hfu := hc6
 refine wpF_skip (tN (hK209 _ _ (sk fun K220 hK220 => (sk fun K221 hK221 => (wt (oS rfl (Yk.fieldAt wr42_fo67_0 T3 (oS rfl (Yk.cell1 wr42_ty5 rfl (vr (PQ n12 0) rfl) (cellAt hb24 (show (updC y)[0]? = some (B8 (y.kind) : Value) from upd_g0 y)) (oS rfl (Yk.eqI (a := ((y.kind).toNat : Nat)) (b := (1 : Nat)) rfl rfl (k_eql _ _ _ _) (oZ (tN (hK221 _ _ (wpF_true (vr (.bool (true)) (congrArg Value.bool (decide_eq_true (hk1)))) (wt (oM rfl (oS rfl (Yk.fieldAt wr42_fo49_0 T2 ?_)))))))))))))))))))
 have hap222 := OG.off hB hb10 (by decide)
 have hap223 := OG.off hT hb10 (by decide)
 have hap224 := OG.off ho206 hb10 (by decide)
 refine oS rfl (Yk.storeC (i := 0) (v := v205) (vr (PQ n2 0) rfl) (vr v205 rfl) hb10 (by rw [refs_len]; decide) wr42_isz46 (RG.one (RG.ofOwn ho206)).1 (RG.one (RG.ofOwn ho206)).2 fun w225 hb226 hg227 hs228 => ?_)
 have hB := OG.kept hB hg227 hap222
 have hT := OG.kept hT hg227 hap223
 have hE := row_fresh hE hg227 (Nat.le_trans (Nat.le_refl _) (by omega))
 clear hA18
 have hb24 := kb hg227 hb24 (by omega)
 clear hA32
 have hb41 := kb hg227 hb41 (by omega)
 have ho206 := OG.kept ho206 hg227 hap224
 clear hb10
 have hb10 : w225.heap[n2]? = some (.cells (refsC ((⟨(putP z.1.branches y.name y.new), z.1.tags, z.1.head, z.1.at_, z.1.log⟩, ⟨v205, z.2.tags, z.2.log⟩) : RefsV)).toArray 49 (0, 0)) := blk_eq hb226 (refs_s0 z v205 ((putP z.1.branches y.name y.new))); clear hb226
 have hl229 := bl hb10
 refine oZ (tN (hK220 _ _ (sk fun K230 hK230 => (wt (oS rfl (Yk.loadAll T2 hb10 (wr42_ty49).choose_spec rfl (st_isz (refs_len ((⟨(putP z.1.branches y.name y.new), z.1.tags, z.1.head, z.1.at_, z.1.log⟩, ⟨v205, z.2.tags, z.2.log⟩) : RefsV)) wr42_isz49) ?_))))))
 have hap231 := OG.off hB hb41 (by decide)
 have hap232 := OG.off hT hb41 (by decide)
 have hap233 := OG.off ho206 hb41 (by decide)
 refine oS rfl (Yk.storeAll T4 (vr (.agg (refsC ((⟨(putP z.1.branches y.name y.new), z.1.tags, z.1.head, z.1.at_, z.1.log⟩, ⟨v205, z.2.tags, z.2.log⟩) : RefsV)).toArray) rfl) hb41 (by simp only [List.size_toArray, refs_len]) (st_isz (refs_len _) wr42_isz49) (refs_one (x := ((⟨(putP z.1.branches y.name y.new), z.1.tags, z.1.head, z.1.at_, z.1.log⟩, ⟨v205, z.2.tags, z.2.log⟩) : RefsV)) (RG.one (RG.ofOwn ho206)).2 (RG.one (RG.ofOwn hT)).2 (RG.one (hl.keep hE)).2) fun w234 hb235 hg236 hs237 => ?_)
 have hB := OG.kept hB hg236 hap231
 have hT := OG.kept hT hg236 hap232
 have hE := row_fresh hE hg236 (Nat.le_trans hz35 (by omega))
 have hb24 := kb hg236 hb24 (by omega)
 have ho206 := OG.kept ho206 hg236 hap233
 have hb10 := kb hg236 hb10 (by omega)
 clear hb41
 have hb41 : w234.heap[n26]? = some (.cells (refsC ((⟨(putP z.1.branches y.name y.new), z.1.tags, z.1.head, z.1.at_, z.1.log⟩, ⟨v205, z.2.tags, z.2.log⟩) : RefsV)).toArray 49 (0, 0)) := hb235; clear hb235
 have hl238 := bl hb41
 refine oA rfl (oZ (tN (hK230 _ _ (wpF_ret (postF_ret (fn := Tryd.f80) _ rfl [.agg (refsC ((⟨(putP z.1.branches y.name y.new), z.1.tags, z.1.head, z.1.at_, z.1.log⟩, ⟨v205, z.2.tags, z.2.log⟩) : RefsV)).toArray, NI 0] (.tuple #[.agg (refsC ((⟨(putP z.1.branches y.name y.new), z.1.tags, z.1.head, z.1.at_, z.1.log⟩, ⟨v205, z.2.tags, z.2.log⟩) : RefsV)).toArray, NI 0]) rfl ⟨ResF.row T4 hb41 (wr42_ty49).choose_spec rfl (st_isz (refs_len _) wr42_isz49), rfl, trivial⟩ ?_)))))
 have hP := onePB_done (r := z.1) h0c h1c hk1 hmv hls hfu
 exact ⟨v205, z.2.tags, by rw [hP]; try rfl, by rw [hP]; exact ho206, by rw [hP]; exact hT, hE⟩

theorem refCopyR_any (w : World) (z : RefsV) (hm : RefsAt w z) (hb1 : z.1.branches.length ≤ 1000) (ht1 : z.1.tags.length ≤ 1000) (hl1 : z.1.log.length ≤ 1000) :
  Calls Tryd.prog 79 #[.agg (refsC z).toArray] w fun e w' => ∃ v, e = .returned (.agg (refsC (z.1, v)).toArray) ∧ OG w.heap.size 69 33 nmdC w' v.branches z.1.branches ∧ OG w.heap.size 69 33 nmdC w' v.tags z.1.tags ∧ OG w.heap.size 122 67 entC w' v.log z.1.log ∧ Ext w w' := by
 have hmt := hm.branches
 have hmg := hm.tags
 have hml := hm.log
 refine calls_of_wpF (args := [.agg (refsC z).toArray]) Tryd.func79 rfl 19 rfl (Nat.le_of_ble_eq_true rfl) ?_
 intro ρ0 hb
 have T0 : ρ0 0 = (.agg (refsC z).toArray : Value) := hb.get 0
 clear hb
 have hE := Ext.refl w
 refine sk fun K1 hK1 => (wt (oS rfl (Yk.box (cs := (refsC z : List Value).toArray) T0 fun n2 w3 hn4 hb5 hx6 hs7 => ?_)))
 have hE := hE.trans hx6
 have hb8 := hb5; clear hb5
 have hl9 : n2 < w3.heap.size := by omega
 refine oS rfl (Yk.alloc (cs := (refsC ((⟨[], [], [], zid, []⟩, ⟨.slice none 0 0, .slice none 0 0, .slice none 0 0⟩) : RefsV)).toArray) wr42_al49 fun n10 w11 hn12 hb13 hx14 hs15 => ?_)
 have hA16 := Ext.refl w3
 have hea17 := hE
 have hz18 := hE.size
 have hlt19 := lte (bl hb8) hn12
 have hE := hE.trans hx14
 have hb8 := eb hx14 hb8
 have hA16 := hA16.trans hx14
 have hb20 := hb13; clear hb13
 have hl21 : n10 < w11.heap.size := by omega
 refine oZ (tN (hK1 _ _ (sk fun K22 hK22 => (wt ?_))))
 have hA27 := Ext.refl w11
 have hea28 := hE
 have hea29 := hA16
 have hz30 := hE.size
 have hz31 := hA16.size
 refine oS rfl (Yk.lit0G (k := 33) (enc := nmdC) wr42_l0_46 fun v23 w24 ho25 hx26 => ?_)
 have hap32 : OB v23 n2 := own_older ho25.2 (bl hb8)
 have hap33 : OB v23 n10 := own_older ho25.2 (bl hb20)
 have hE := hE.trans hx26
 have hb8 := eb hx26 hb8
 have hA16 := hA16.trans hx26
 have hb20 := eb hx26 hb20
 have hA27 := hA27.trans hx26
 refine oS rfl (Yk.fieldAt wr42_fo49_0 (vr (PQ n2 0) rfl) (oS rfl (Yk.cell1 wr42_ty46 rfl (vr (PQ n2 0) rfl) (cellAt hb8 (show (refsC z)[0]? = some (z.2.branches : Value) from refs_g0 z)) (oS rfl (Yk.appendRG _ _ w11.heap.size _ 48 wr42_ty46 wr42_ig69.choose_spec.1 wr42_ig69.choose_spec.2 wr42_ty46 ([]) (z.1.branches) (OG.of ho25 (vr v23 rfl)) (RG.of (hmt.keep hE) (vr z.2.branches rfl)) (fun _ _ => nmd_one) (by simp only [List.length_nil]; omega) (by simp only [List.length_nil]; omega) hA27.size fun v34 w35 ho36 hg37 => ?_)))))
 have hg37 : Grew w24 w35 v23 v34 := hg37
 have hap38 : OB v34 n2 := apart_grew hg37 hap32 (bl hb8)
 have hap39 : OB v34 n10 := apart_grew hg37 hap33 (bl hb20)
 have hE := ext_grew hE hg37 ho25.2 hz30
 have hb8 := blk_grew hb8 hg37 hap32
 have hA16 := ext_grew hA16 hg37 ho25.2 hz31
 have hb20 := blk_grew hb20 hg37 hap33
 have hA27 := ext_grew hA27 hg37 ho25.2 (Nat.le_refl _)
 clear ho25
 refine oS rfl (Yk.fieldAt wr42_fo49_0 (vr (PQ n2 0) rfl) ?_)
 have hap40 := OG.off ho36 hb8 (by decide)
 refine oS rfl (Yk.storeC (i := 0) (v := v34) (vr (PQ n2 0) rfl) (vr v34 rfl) hb8 (by rw [refs_len]; decide) wr42_isz46 (RG.one (RG.ofOwn ho36)).1 (RG.one (RG.ofOwn ho36)).2 fun w41 hb42 hg43 hs44 => ?_)
 have hE := row_fresh hE hg43 (Nat.le_trans (Nat.le_refl _) (by omega))
 clear hA16
 have hb20 := kb hg43 hb20 (by omega)
 clear hA27
 have ho36 := OG.kept ho36 hg43 hap40
 clear hb8
 have hb8 : w41.heap[n2]? = some (.cells (refsC ((⟨([]) ++ z.1.branches, z.1.tags, z.1.head, z.1.at_, z.1.log⟩, ⟨v34, z.2.tags, z.2.log⟩) : RefsV)).toArray 49 (0, 0)) := blk_eq hb42 (refs_s0 z v34 (([]) ++ z.1.branches)); clear hb42
 have hl45 := bl hb8
 refine oZ (tN (hK22 _ _ (sk fun K46 hK46 => (wt ?_))))
 have hA51 := Ext.refl w41
 have hea52 := hE
 have hz53 := hE.size
 refine oS rfl (Yk.lit0G (k := 33) (enc := nmdC) wr42_l0_46 fun v47 w48 ho49 hx50 => ?_)
 have hap54 : OB v47 n10 := own_older ho49.2 (bl hb20)
 have hap55 : OB v47 n2 := own_older ho49.2 (bl hb8)
 have hap56 : ApartV v34 v47 := apartv_new ho36.2 ho49.2
 have hap57 : ApartV v47 v34 := apartv_new' ho36.2 ho49.2
 have hE := hE.trans hx50
 have hb20 := eb hx50 hb20
 have ho36 := ho36.keep hx50
 have hb8 := eb hx50 hb8
 have hA51 := hA51.trans hx50
 refine oS rfl (Yk.fieldAt wr42_fo49_1 (vr (PQ n2 0) rfl) (oS rfl (Yk.cell1 wr42_ty46 rfl (vr (PQ n2 1) rfl) (cellAt hb8 (show (refsC ((⟨([]) ++ z.1.branches, z.1.tags, z.1.head, z.1.at_, z.1.log⟩, ⟨v34, z.2.tags, z.2.log⟩) : RefsV))[1]? = some (z.2.tags : Value) from refs_g1 ((⟨([]) ++ z.1.branches, z.1.tags, z.1.head, z.1.at_, z.1.log⟩, ⟨v34, z.2.tags, z.2.log⟩) : RefsV))) (oS rfl (Yk.appendRG _ _ w41.heap.size _ 48 wr42_ty46 wr42_ig69.choose_spec.1 wr42_ig69.choose_spec.2 wr42_ty46 ([]) (z.1.tags) (OG.of ho49 (vr v47 rfl)) (RG.of (hmg.keep hE) (vr z.2.tags rfl)) (fun _ _ => nmd_one) (by simp only [List.length_nil]; omega) (by simp only [List.length_nil]; omega) hA51.size fun v58 w59 ho60 hg61 => ?_)))))
 have hg61 : Grew w48 w59 v47 v58 := hg61
 have hap62 : OB v58 n10 := apart_grew hg61 hap54 (bl hb20)
 have hap63 : OB v58 n2 := apart_grew hg61 hap55 (bl hb8)
 have hap64 : ApartV v58 v34 := apartv_grew hg61 hap57 ho36.2
 have hap65 : ApartV v34 v58 := fun k h1 h2 => hap64 k h2 h1
 have hE := ext_grew hE hg61 ho49.2 hz53
 have hb20 := blk_grew hb20 hg61 hap54
 have ho36 := og_grew ho36 hg61 hap57
 have hb8 := blk_grew hb8 hg61 hap55
 have hA51 := ext_grew hA51 hg61 ho49.2 (Nat.le_refl _)
 clear ho49
 refine oS rfl (Yk.fieldAt wr42_fo49_1 (vr (PQ n2 0) rfl) ?_)
 have hap66 := OG.off ho36 hb8 (by decide)
 have hap67 := OG.off ho60 hb8 (by decide)
 refine oS rfl (Yk.storeC (i := 1) (v := v58) (vr (PQ n2 1) rfl) (vr v58 rfl) hb8 (by rw [refs_len]; decide) wr42_isz46 (RG.one (RG.ofOwn ho60)).1 (RG.one (RG.ofOwn ho60)).2 fun w68 hb69 hg70 hs71 => ?_)
 have hE := row_fresh hE hg70 (Nat.le_trans (Nat.le_refl _) (by omega))
 have hb20 := kb hg70 hb20 (by omega)
 have ho36 := OG.kept ho36 hg70 hap66
 clear hA51
 have ho60 := OG.kept ho60 hg70 hap67
 clear hb8
 have hb8 : w68.heap[n2]? = some (.cells (refsC ((⟨([]) ++ z.1.branches, ([]) ++ z.1.tags, z.1.head, z.1.at_, z.1.log⟩, ⟨v34, v58, z.2.log⟩) : RefsV)).toArray 49 (0, 0)) := blk_eq hb69 (refs_s1 ((⟨([]) ++ z.1.branches, z.1.tags, z.1.head, z.1.at_, z.1.log⟩, ⟨v34, z.2.tags, z.2.log⟩) : RefsV) v58 (([]) ++ z.1.tags)); clear hb69
 have hl72 := bl hb8
 refine oZ (tN (hK46 _ _ (sk fun K73 hK73 => (wt ?_))))
 have hA78 := Ext.refl w68
 have hea79 := hE
 have hz80 := hE.size
 refine oS rfl (Yk.lit0G (k := 67) (enc := entC) wr42_l0_47 fun v74 w75 ho76 hx77 => ?_)
 have hap81 : OB v74 n10 := own_older ho76.2 (bl hb20)
 have hap82 : OB v74 n2 := own_older ho76.2 (bl hb8)
 have hap83 : ApartV v34 v74 := apartv_new ho36.2 ho76.2
 have hap84 : ApartV v74 v34 := apartv_new' ho36.2 ho76.2
 have hap85 : ApartV v58 v74 := apartv_new ho60.2 ho76.2
 have hap86 : ApartV v74 v58 := apartv_new' ho60.2 ho76.2
 have hE := hE.trans hx77
 have hb20 := eb hx77 hb20
 have ho36 := ho36.keep hx77
 have ho60 := ho60.keep hx77
 have hb8 := eb hx77 hb8
 have hA78 := hA78.trans hx77
 refine oS rfl (Yk.fieldAt wr42_fo49_4 (vr (PQ n2 0) rfl) (oS rfl (Yk.cell1 wr42_ty47 rfl (vr (PQ n2 35) rfl) (cellAt hb8 (show (refsC ((⟨([]) ++ z.1.branches, ([]) ++ z.1.tags, z.1.head, z.1.at_, z.1.log⟩, ⟨v34, v58, z.2.log⟩) : RefsV))[35]? = some (z.2.log : Value) from refs_g4 ((⟨([]) ++ z.1.branches, ([]) ++ z.1.tags, z.1.head, z.1.at_, z.1.log⟩, ⟨v34, v58, z.2.log⟩) : RefsV))) (oS rfl (Yk.appendRG _ _ w68.heap.size _ 104 wr42_ty47 wr42_ig122.choose_spec.1 wr42_ig122.choose_spec.2 wr42_ty47 ([]) (z.1.log) (OG.of ho76 (vr v74 rfl)) (RG.of (hml.keep hE) (vr z.2.log rfl)) (fun _ _ => ent_one) (by simp only [List.length_nil]; omega) (by simp only [List.length_nil]; omega) hA78.size fun v87 w88 ho89 hg90 => ?_)))))
 have hg90 : Grew w75 w88 v74 v87 := hg90
 have hap91 : OB v87 n10 := apart_grew hg90 hap81 (bl hb20)
 have hap92 : OB v87 n2 := apart_grew hg90 hap82 (bl hb8)
 have hap93 : ApartV v87 v34 := apartv_grew hg90 hap84 ho36.2
 have hap94 : ApartV v34 v87 := fun k h1 h2 => hap93 k h2 h1
 have hap95 : ApartV v87 v58 := apartv_grew hg90 hap86 ho60.2
 have hap96 : ApartV v58 v87 := fun k h1 h2 => hap95 k h2 h1
 have hE := ext_grew hE hg90 ho76.2 hz80
 have hb20 := blk_grew hb20 hg90 hap81
 have ho36 := og_grew ho36 hg90 hap84
 have ho60 := og_grew ho60 hg90 hap86
 have hb8 := blk_grew hb8 hg90 hap82
 have hA78 := ext_grew hA78 hg90 ho76.2 (Nat.le_refl _)
 clear ho76
 refine oS rfl (Yk.fieldAt wr42_fo49_4 (vr (PQ n2 0) rfl) ?_)
 have hap97 := OG.off ho36 hb8 (by decide)
 have hap98 := OG.off ho60 hb8 (by decide)
 have hap99 := OG.off ho89 hb8 (by decide)
 refine oS rfl (Yk.storeC (i := 35) (v := v87) (vr (PQ n2 35) rfl) (vr v87 rfl) hb8 (by rw [refs_len]; decide) wr42_isz47 (RG.one (RG.ofOwn ho89)).1 (RG.one (RG.ofOwn ho89)).2 fun w100 hb101 hg102 hs103 => ?_)
 have hE := row_fresh hE hg102 (Nat.le_trans (Nat.le_refl _) (by omega))
 have hb20 := kb hg102 hb20 (by omega)
 have ho36 := OG.kept ho36 hg102 hap97
 have ho60 := OG.kept ho60 hg102 hap98
 clear hA78
 have ho89 := OG.kept ho89 hg102 hap99
 clear hb8
 have hb8 : w100.heap[n2]? = some (.cells (refsC ((⟨([]) ++ z.1.branches, ([]) ++ z.1.tags, z.1.head, z.1.at_, ([]) ++ z.1.log⟩, ⟨v34, v58, v87⟩) : RefsV)).toArray 49 (0, 0)) := blk_eq hb101 (refs_s4 ((⟨([]) ++ z.1.branches, ([]) ++ z.1.tags, z.1.head, z.1.at_, z.1.log⟩, ⟨v34, v58, z.2.log⟩) : RefsV) v87 (([]) ++ z.1.log)); clear hb101
 have hl104 := bl hb8
 refine oZ (tN (hK73 _ _ (sk fun K105 hK105 => (wt (oS rfl (Yk.loadAll (vr (PQ n2 0) rfl) hb8 (wr42_ty49).choose_spec rfl (st_isz (refs_len ((⟨([]) ++ z.1.branches, ([]) ++ z.1.tags, z.1.head, z.1.at_, ([]) ++ z.1.log⟩, ⟨v34, v58, v87⟩) : RefsV)) wr42_isz49) ?_))))))
 have hap106 := OG.off ho36 hb20 (by decide)
 have hap107 := OG.off ho60 hb20 (by decide)
 have hap108 := OG.off ho89 hb20 (by decide)
 refine oS rfl (Yk.storeAll (vr (PQ n10 0) rfl) (vr (.agg (refsC ((⟨([]) ++ z.1.branches, ([]) ++ z.1.tags, z.1.head, z.1.at_, ([]) ++ z.1.log⟩, ⟨v34, v58, v87⟩) : RefsV)).toArray) rfl) hb20 (by simp only [List.size_toArray, refs_len]) (st_isz (refs_len _) wr42_isz49) (refs_one (x := ((⟨([]) ++ z.1.branches, ([]) ++ z.1.tags, z.1.head, z.1.at_, ([]) ++ z.1.log⟩, ⟨v34, v58, v87⟩) : RefsV)) (RG.one (RG.ofOwn ho36)).2 (RG.one (RG.ofOwn ho60)).2 (RG.one (RG.ofOwn ho89)).2) fun w109 hb110 hg111 hs112 => ?_)
 have hE := row_fresh hE hg111 (Nat.le_trans hz18 (by omega))
 have ho36 := OG.kept ho36 hg111 hap106
 have ho60 := OG.kept ho60 hg111 hap107
 have ho89 := OG.kept ho89 hg111 hap108
 have hb8 := kb hg111 hb8 (by omega)
 clear hb20
 have hb20 : w109.heap[n10]? = some (.cells (refsC ((⟨([]) ++ z.1.branches, ([]) ++ z.1.tags, z.1.head, z.1.at_, ([]) ++ z.1.log⟩, ⟨v34, v58, v87⟩) : RefsV)).toArray 49 (0, 0)) := hb110; clear hb110
 have hl113 := bl hb20
 refine oZ (tN (hK105 _ _ (wpF_ret (postF_ret (fn := Tryd.f79) _ rfl [.agg (refsC ((⟨([]) ++ z.1.branches, ([]) ++ z.1.tags, z.1.head, z.1.at_, ([]) ++ z.1.log⟩, ⟨v34, v58, v87⟩) : RefsV)).toArray] (.agg (refsC ((⟨([]) ++ z.1.branches, ([]) ++ z.1.tags, z.1.head, z.1.at_, ([]) ++ z.1.log⟩, ⟨v34, v58, v87⟩) : RefsV)).toArray) rfl ⟨ResF.row rfl hb20 (wr42_ty49).choose_spec rfl (st_isz (refs_len _) wr42_isz49), trivial⟩ ?_))))
 exact ⟨⟨v34, v58, v87⟩, by simp only [List.nil_append], (OG.low (og_eq ho36 (by simp)) (by omega)), (OG.low (og_eq ho60 (by simp)) (by omega)), (OG.low (og_eq ho89 (by simp)) (by omega)), hE⟩
open Go.RowKit
theorem filter_all {l : List Nmd} {s : Bs} (h : ∀ j, j < l.length → (l.getD j dNmd).name ≠ s) : l.filter (fun n => decide (n.name ≠ s)) = l := List.filter_eq_self.2 fun n hn => by
  obtain ⟨i, hi, rfl⟩ := List.mem_iff_getElem.1 hn
  have := h i hi
  rw [List.getD_eq_getElem?_getD, List.getElem?_eq_getElem hi] at this
  exact decide_eq_true this
theorem take_snocN {l : List Nmd} {i : Nat} (hi : i < l.length) : l.take (i + 1) = l.take i ++ [l.getD i dNmd] := by
  rw [List.take_succ_eq_append_getElem hi, List.getD_eq_getElem?_getD, List.getElem?_eq_getElem hi]; rfl
theorem putT_zero {l : List Nmd} {s : Bs} {x : Id32} (hz : zeroB x = true) : ∀ i, i ≤ l.length → putT l s x i = (true, (l.take i).filter fun n => decide (n.name ≠ s))
  | 0, _ => by show (zeroB x, _) = _; rw [hz]; rfl
  | i + 1, hi => by
    have ih := putT_zero hz i (by omega) (l := l) (s := s)
    have h0 : ((!(putT l s x i).1) && (!(Op.bytesLess (l.getD i dNmd).name s))) = false := by rw [ih]; rfl
    rw [take_snocN (by omega), List.filter_append]
    by_cases hn : (l.getD i dNmd).name ≠ s
    · rw [putT_FT h0 hn, ih, List.filter_cons_of_pos (by simpa using hn)]; rfl
    · rw [putT_FF h0 hn, ih, List.filter_cons_of_neg (by simpa using hn)]; simp
theorem putT_low {l : List Nmd} {s : Bs} {x : Id32} (hz : zeroB x = false) : ∀ i, i ≤ placeN l s → putT l s x i = (false, l.take i)
  | 0, _ => by show (zeroB x, _) = _; rw [hz]; rfl
  | i + 1, hi => by
    have ih := putT_low hz i (by omega) (l := l) (s := s)
    have hlt := placeN_lt (l := l) (s := s) (j := i) (by omega)
    have hle := placeN_le l s
    have h0 : ((!(putT l s x i).1) && (!(Op.bytesLess (l.getD i dNmd).name s))) = false := by rw [bytesLess_eq, decide_eq_true hlt]; simp
    have hn : (l.getD i dNmd).name ≠ s := fun e => by rw [e] at hlt; exact List.lt_irrefl _ hlt
    rw [putT_FT h0 hn, ih, take_snocN (by omega)]
theorem putT_high {l : List Nmd} {s : Bs} {x : Id32} (hs : sortN l) (hz : zeroB x = false) (hp : placeN l s < l.length) : ∀ k, placeN l s + 1 + k ≤ l.length → putT l s x (placeN l s + 1 + k) = (true, l.take (placeN l s) ++ ⟨s, x⟩ :: (if foundN l s (placeN l s) = true then (l.drop (placeN l s + 1)).take k else (l.drop (placeN l s)).take (k + 1)))
  | 0, _ => by
    have ih := putT_low hz (placeN l s) (Nat.le_refl _) (l := l) (s := s)
    have h0 : ((!(putT l s x (placeN l s)).1) && (!(Op.bytesLess (l.getD (placeN l s) dNmd).name s))) = true := by rw [ih, bytesLess_eq, decide_eq_false (placeN_ge hp)]; rfl
    cases hf : foundN l s (placeN l s) with
    | true =>
      obtain ⟨-, h2, -⟩ := found_at hs hf
      rw [Nat.add_zero, putT_TF h0 (fun k => k h2), ih]
      simp
    | false =>
      have h2 := found_no hs hf _ hp
      rw [Nat.add_zero, putT_TT h0 h2, ih, if_neg (by decide), show (l.drop (placeN l s)).take (0 + 1) = [l.getD (placeN l s) dNmd] from by rw [List.drop_eq_getElem_cons hp, List.getD_eq_getElem?_getD, List.getElem?_eq_getElem hp]; rfl]
      simp
  | k + 1, hk => by
    have ih := putT_high hs hz hp k (by omega)
    have h0 : ((!(putT l s x (placeN l s + 1 + k)).1) && (!(Op.bytesLess (l.getD (placeN l s + 1 + k) dNmd).name s))) = false := by rw [ih]; rfl
    have hn : (l.getD (placeN l s + 1 + k) dNmd).name ≠ s := by
      cases hf : foundN l s (placeN l s) with
      | true => exact (found_at hs hf).2.2 _ (by omega) (by omega)
      | false => exact found_no hs hf _ (by omega)
    rw [show placeN l s + 1 + (k + 1) = placeN l s + 1 + k + 1 by omega, putT_FT h0 hn, ih]
    have hg : l.getD (placeN l s + 1 + k) dNmd = l[placeN l s + 1 + k]'(by omega) := by rw [List.getD_eq_getElem?_getD, List.getElem?_eq_getElem (by omega)]; rfl
    rw [hg]
    cases hf : foundN l s (placeN l s) with
    | true =>
      rw [if_pos rfl, if_pos rfl, List.take_succ_eq_append_getElem (i := k) (by rw [List.length_drop]; omega), List.getElem_drop]
      simp
    | false =>
      rw [if_neg (by decide), if_neg (by decide), List.take_succ_eq_append_getElem (i := k + 1) (by rw [List.length_drop]; omega), List.getElem_drop]
      simp only [List.append_assoc, List.cons_append]
      congr 6
      omega
theorem putP_eq {l : List Nmd} {s : Bs} {x : Id32} (hs : sortN l) : putP l s x = if zeroB x = true then (if foundN l s (placeN l s) = true then l.eraseIdx (placeN l s) else l)
    else if foundN l s (placeN l s) = true then l.set (placeN l s) ⟨(l.getD (placeN l s) dNmd).name, x⟩ else l.take (placeN l s) ++ ⟨s, x⟩ :: l.drop (placeN l s) := by
  cases hz : zeroB x with
  | true =>
    unfold putP
    rw [putT_zero hz _ (Nat.le_refl _), if_neg (by simp), if_pos rfl, List.take_length]
    cases hf : foundN l s (placeN l s) with
    | true =>
      obtain ⟨h1, h2, h3⟩ := found_at hs hf
      rw [if_pos rfl, List.eraseIdx_eq_take_drop_succ]
      conv => lhs; rw [← List.take_append_drop (placeN l s) l, List.drop_eq_getElem_cons h1]
      have hg : l.getD (placeN l s) dNmd = l[placeN l s] := by rw [List.getD_eq_getElem?_getD, List.getElem?_eq_getElem h1]; rfl
      rw [List.filter_append, List.filter_cons_of_neg (by rw [← hg]; simpa using h2)]
      rw [show (l.take (placeN l s)).filter (fun n => decide (n.name ≠ s)) = l.take (placeN l s) from filter_all fun j hj => by
        rw [List.length_take] at hj
        rw [getD_of (j := j) (m := l) (by rw [List.getElem?_take, if_pos (by omega)])]
        exact h3 j (by omega) (by omega)]
      rw [show (l.drop (placeN l s + 1)).filter (fun n => decide (n.name ≠ s)) = l.drop (placeN l s + 1) from filter_all fun j hj => by
        rw [List.length_drop] at hj
        rw [getD_of (j := placeN l s + 1 + j) (m := l) (by rw [List.getElem?_drop])]
        exact h3 _ (by omega) (by omega)]
    | false => rw [if_neg (by decide)]; exact filter_all (found_no hs hf)
  | false =>
    rw [if_neg (by decide)]
    have hle := placeN_le l s
    by_cases hp : placeN l s < l.length
    · have := putT_high hs hz hp (l.length - placeN l s - 1) (by omega)
      rw [show placeN l s + 1 + (l.length - placeN l s - 1) = l.length by omega] at this
      unfold putP
      rw [this, if_neg (by simp)]
      cases hf : foundN l s (placeN l s) with
      | true =>
        obtain ⟨h1, h2, -⟩ := found_at hs hf
        rw [if_pos rfl, if_pos rfl, set_split h1, h2, List.take_of_length_le (l := l.drop (placeN l s + 1)) (by rw [List.length_drop]; omega)]
      | false => rw [if_neg (by decide), if_neg (by decide), List.take_of_length_le (l := l.drop (placeN l s)) (by rw [List.length_drop]; omega)]
    · have he : placeN l s = l.length := by omega
      have := putT_low hz (placeN l s) (Nat.le_refl _) (l := l) (s := s)
      rw [he] at this
      have hf : foundN l s (placeN l s) = false := by unfold foundN; rw [decide_eq_false hp]; rfl
      unfold putP
      rw [this, if_pos rfl, hf, if_neg (by decide), he, List.drop_length]
theorem lookN_eq {l : List Nmd} {s : Bs} (hs : sortN l) : lookN l s = if foundN l s (placeN l s) = true then (l.getD (placeN l s) dNmd).id else zid := by
  cases hf : foundN l s (placeN l s) with
  | true => obtain ⟨h1, h2, h3⟩ := found_at hs hf; rw [if_pos rfl]; exact lookN_at h1 (fun j hj => h3 j (by omega) (by omega)) h2
  | false => rw [if_neg (by decide)]; exact lookN_no (found_no hs hf)
theorem turn_one {l : List Nmd} {y : Upd} (hs : sortN l) (hl : l.length ≤ 64) : turnQ l y = if (lookN l y.name).1 ≠ y.old.1 then (15, []) else if 64 < (putP l y.name y.new).length then (3, []) else (0, putP l y.name y.new) := by
  rw [lookN_eq hs, putP_eq hs]
  unfold turnQ
  have hp := placeN_le l y.name
  cases hf : foundN l y.name (placeN l y.name) with
  | true =>
    have hlt := found_lt hf
    rw [turnT hf, if_pos rfl, if_pos rfl, if_pos rfl]
    split
    · rfl
    · cases hz : zeroB y.new with
      | true => rw [if_pos rfl, if_pos rfl, if_neg (by have := List.length_eraseIdx_le l (placeN l y.name); omega)]
      | false => rw [if_neg Bool.false_ne_true, if_neg Bool.false_ne_true, if_neg (by rw [List.length_set]; omega)]
  | false =>
    rw [turnF hf, if_neg Bool.false_ne_true, if_neg Bool.false_ne_true, if_neg Bool.false_ne_true, show zid.1 = List.replicate 32 0 from rfl]
    split
    · rfl
    · cases hz : zeroB y.new with
      | true => rw [if_pos rfl, if_pos rfl, if_neg (by omega)]
      | false =>
        rw [if_neg Bool.false_ne_true, if_neg Bool.false_ne_true]
        have e : (l.take (placeN l y.name) ++ ⟨y.name, y.new⟩ :: l.drop (placeN l y.name)).length = l.length + 1 := by rw [List.length_append, List.length_cons, List.length_take, List.length_drop]; omega
        rw [e]
        by_cases h : 64 ≤ l.length
        · rw [if_pos h, if_pos (by omega)]
        · rw [if_neg h, if_neg (by omega)]
theorem put_zero_len {l : List Nmd} {s : Bs} {x : Id32} (hs : sortN l) (hl : l.length ≤ 64) (hz : zeroB x = true) : ¬ 64 < (putP l s x).length := by
  rw [putP_eq hs, if_pos hz]
  split
  · have := List.length_eraseIdx_le l (placeN l s); omega
  · omega
theorem hdlost_eq {r : Refs} {y : Upd} (h0 : (turnQ r.branches y).1 = 0) : hdlost r y = lostB r y := by
  unfold hdlost lostB
  rw [h0, decide_eq_true rfl, Bool.true_and]
theorem branch_of {r : Refs} {y : Upd} {n : Nat} {L : List Nmd} (hT : turnQ r.branches y = (n, L)) (hn : n ≠ 0) : branchP r y = (n, r) := by
  have h1 : hdlost r y = false := by unfold hdlost; rw [hT, decide_eq_false hn]; rfl
  unfold branchP
  rw [h1, if_neg Bool.false_ne_true, hT, if_neg hn]
theorem branch_lost {r : Refs} {y : Upd} {L : List Nmd} (hT : turnQ r.branches y = (0, L)) (hl : lostB r y = true) : branchP r y = (16, r) := by
  unfold branchP
  rw [hdlost_eq (by rw [hT]), if_pos hl]
theorem branch_done {r : Refs} {y : Upd} {L : List Nmd} (hT : turnQ r.branches y = (0, L)) (hl : lostB r y = false) : branchP r y = (0, ⟨L, r.tags, r.head, r.at_, r.log⟩) := by
  unfold branchP
  rw [hdlost_eq (by rw [hT]), hl, if_neg Bool.false_ne_true, hT, if_pos rfl]
theorem tag_of {r : Refs} {y : Upd} {n : Nat} {L : List Nmd} (hT : turnQ r.tags y = (n, L)) (hn : n ≠ 0) : tagP r y = (n, r) := by
  unfold tagP
  rw [hT, if_neg hn]
theorem tag_done {r : Refs} {y : Upd} {L : List Nmd} (hT : turnQ r.tags y = (0, L)) : tagP r y = (0, ⟨r.branches, L, r.head, r.at_, r.log⟩) := by
  unfold tagP
  rw [hT, if_pos rfl]
theorem upd_e1 {y : Upd} (h1 : e1B y = true) : updErr y = 1 := by
  unfold e1B at h1
  unfold updErr
  cases hk : kindB y.kind with
  | false => rfl
  | true =>
    rw [hk] at h1
    simp only [Bool.not_true, Bool.false_or, Bool.or_eq_true] at h1
    cases hu1 : uE1 y with
    | true => rfl
    | false => rw [hu1] at h1; rw [h1.resolve_left Bool.false_ne_true]; rfl
theorem upd_e2 {y : Upd} (h1 : e1B y = false) : updErr y = if e2B y = true then 10 else 0 := by
  unfold e1B at h1
  simp only [Bool.or_eq_false_iff, Bool.not_eq_false'] at h1
  unfold updErr
  rw [h1.1, h1.2.1, h1.2.2]
  rfl
theorem do_one {r : Refs} {y : Upd} (h : Sorted r) (h1 : e1B y = false) (h2 : e2B y = false) : doP r y = oneP r y := by
  by_cases h3 : y.kind.toNat = 3
  · rw [oneP_head h1 h2 h3]; unfold doP; rw [if_neg (by omega), if_neg (by omega)]; rfl
  · by_cases hk2 : y.kind.toNat = 2
    · have hd : doP r y = tagP r y := by unfold doP; rw [if_neg (by omega), if_pos hk2]
      have ht := turn_one (y := y) h.tg h.tl
      rw [hd, onePT h1 h2 hk2]
      by_cases hm : (lookN r.tags y.name).1 ≠ y.old.1
      · rw [if_pos hm] at ht ⊢; exact tag_of ht (by decide)
      · rw [if_neg hm] at ht ⊢
        by_cases hf : 64 < (putP r.tags y.name y.new).length
        · rw [if_pos hf] at ht ⊢; exact tag_of ht (by decide)
        · rw [if_neg hf] at ht ⊢; exact tag_done ht
    · have hk1 := kind_one h1 hk2 h3
      have hd : doP r y = branchP r y := by unfold doP; rw [if_pos hk1]
      have ht := turn_one (y := y) h.br h.bl
      rw [hd, onePB h1 h2 hk1]
      by_cases hm : (lookN r.branches y.name).1 ≠ y.old.1
      · rw [if_pos hm] at ht ⊢; exact branch_of ht (by decide)
      · rw [if_neg hm] at ht ⊢
        cases hl : lostB r y with
        | true =>
          have hz : zeroB y.new = true := by unfold lostB at hl; simp only [Bool.and_eq_true] at hl; exact hl.1.1
          rw [if_neg (put_zero_len (s := y.name) h.br h.bl hz)] at ht
          rw [if_pos rfl]
          exact branch_lost ht hl
        | false =>
          rw [if_neg Bool.false_ne_true]
          by_cases hf : 64 < (putP r.branches y.name y.new).length
          · rw [if_pos hf] at ht ⊢; exact branch_of ht (by decide)
          · rw [if_neg hf] at ht ⊢; exact branch_done ht hl
theorem one_step {note : Bs} {r : Refs} {y : Upd} (h : Sorted r) : (stepP note r y).1 = (oneP r y).1 ∧ ((oneP r y).1 = 0 → (stepP note r y).2 = addlog (oneP r y).2 (entOf y note)) := by
  cases h1 : e1B y with
  | true =>
    rw [oneP_bad h1]
    unfold stepP
    rw [upd_e1 h1]
    exact ⟨rfl, fun k => by cases k⟩
  | false =>
    have hu := upd_e2 h1
    cases h2 : e2B y with
    | true =>
      rw [h2, if_pos rfl] at hu
      rw [oneP_name h1 h2]
      unfold stepP
      rw [hu]
      exact ⟨rfl, fun k => by cases k⟩
    | false =>
      rw [h2, if_neg Bool.false_ne_true] at hu
      have hd := do_one h h1 h2
      unfold stepP
      rw [hu, if_neg (by decide), hd]
      by_cases h0 : (oneP r y).1 = 0
      · rw [if_neg (fun k => k h0)]
        exact ⟨h0.symm, fun _ => rfl⟩
      · rw [if_pos h0]
        exact ⟨rfl, fun k => absurd k h0⟩
theorem one_err {note : Bs} {r : Refs} {l : List Upd} {i : Nat} (h : Sorted r) (hi : i < l.length) (h0 : (oneP r (l.getD i dUpd)).1 ≠ 0) : runP note r (l.drop i) = ((oneP r (l.getD i dUpd)).1, zeroR) := by
  have := (one_step (note := note) (y := l.getD i dUpd) h).1
  rw [runP_at hi, if_pos (by rw [this]; exact h0), this]
theorem one_next {note : Bs} {r : Refs} {l : List Upd} {i : Nat} (h : Sorted r) (hi : i < l.length) (h0 : (oneP r (l.getD i dUpd)).1 = 0) : runP note r (l.drop i) = runP note (addlog (oneP r (l.getD i dUpd)).2 (entOf (l.getD i dUpd) note)) (l.drop (i + 1)) := by
  have := one_step (note := note) (y := l.getD i dUpd) h
  rw [runP_at hi, if_neg (by rw [this.1]; exact fun k => k h0), this.2 h0]
theorem one_sorted {note : Bs} {r : Refs} {y : Upd} (h : Sorted r) (h0 : (oneP r y).1 = 0) : Sorted (addlog (oneP r y).2 (entOf y note)) := by
  have := one_step (note := note) (y := y) h
  rw [← this.2 h0]
  exact stepP_sorted h
theorem oneP_log {r : Refs} {y : Upd} : (oneP r y).2.log = r.log := by
  unfold oneP
  repeat (split <;> try rfl)
open Go.RowKit
set_option maxRecDepth 100000
theorem entC_of (y : Upd) (note : Bs) : updC y ++ [Value.string ⟨note.toArray⟩] = entC (entOf y note) := by simp [entC, updC, entOf]
theorem wr35_al53 {d : Option Tmp} {ty : TypeId} {pos : String} {af : Array Edge} {gd : Option (Nat × Bool)} (σ : Operand → Value) (w : World) : (execOp σ ⟨d, .alloc 53, ty, pos, af, gd⟩).run Tryd.prog w = .ok (.value (PQ w.heap.size 0)) (w.alloc (.cells (refsC ((⟨[], [], [], zid, []⟩, ⟨.slice none 0 0, .slice none 0 0, .slice none 0 0⟩) : RefsV)).toArray 53)) := by kernel_rfl
theorem wr35_ty53 : ∃ fs, Tryd.prog.underlying 53 = some (.struct fs) := struct_of (by kernel_rfl)
theorem wr35_isz53 : (Tryd.prog.info? 53).map (·.size) = some 36 := by kernel_rfl
theorem wr35_pl31 : Plain Tryd.prog 31 := fun _ _ => by kernel_rfl
theorem wr35_pl73 : Plain Tryd.prog 73 := fun _ _ => by kernel_rfl
theorem wr35_fo53_0 : FieldOff Tryd.prog 53 0 0 := fun b o w => by simp [go_sem]
theorem wr35_ty51 : Tryd.prog.underlying 51 = some (.slice 70) := by kernel_rfl
theorem wr35_pl74 : Plain Tryd.prog 74 := fun _ _ => by kernel_rfl
theorem wr35_fo53_1 : FieldOff Tryd.prog 53 1 1 := fun b o w => by simp [go_sem]
theorem wr35_fo53_4 : FieldOff Tryd.prog 53 4 35 := fun b o w => by simp [go_sem]
theorem wr35_ty47 : Tryd.prog.underlying 47 = some (.slice 122) := by kernel_rfl
theorem wr35_pl75 : Plain Tryd.prog 75 := fun _ _ => by kernel_rfl
theorem wr35_isz51 : (Tryd.prog.info? 51).map (·.size) = some 1 := by kernel_rfl
theorem wr35_isz47 : (Tryd.prog.info? 47).map (·.size) = some 1 := by kernel_rfl
theorem wr35_pl76 : Plain Tryd.prog 76 := fun _ _ => by kernel_rfl
theorem wr35_ty22 : Tryd.prog.underlying 22 = some (.slice 67) := by kernel_rfl
theorem wr35_szg67 : ∀ w' : World, (sizeOf 67).run Tryd.prog w' = .ok 66 w' := fun _ => by kernel_rfl
theorem wr35_ty67 : ∃ fs, Tryd.prog.underlying 67 = some (.struct fs) := struct_of (by kernel_rfl)
theorem wr35_isz67 : (Tryd.prog.info? 67).map (·.size) = some 66 := by kernel_rfl
theorem wr35_al67 {d : Option Tmp} {ty : TypeId} {pos : String} {af : Array Edge} {gd : Option (Nat × Bool)} (σ : Operand → Value) (w : World) : (execOp σ ⟨d, .alloc 67, ty, pos, af, gd⟩).run Tryd.prog w = .ok (.value (PQ w.heap.size 0)) (w.alloc (.cells (updC (⟨0, [], zid, zid⟩ : Upd)).toArray 67)) := by kernel_rfl
theorem wr35_pl77 : Plain Tryd.prog 77 := fun _ _ => by kernel_rfl
theorem wr35_fo67_0 : FieldOff Tryd.prog 67 0 0 := fun b o w => by simp [go_sem]
theorem wr35_ty5 : Tryd.prog.underlying 5 = some (.int .u8) := by kernel_rfl
theorem wr35_ty125 : Tryd.prog.underlying 125 = some (.map 5 128) := by kernel_rfl
theorem wr35_bdE : ∀ (cs : Array Value), cs.size = 66 → ∀ (s : ByteArray) (w : World), (Instr.build 122 #[(0, Value.agg cs), (1, Value.string s)]).run Tryd.prog w = .ok (.agg (cs.toList ++ [Value.string s]).toArray) w
 | ⟨c0 :: c1 :: c2 :: c3 :: c4 :: c5 :: c6 :: c7 :: c8 :: c9 :: c10 :: c11 :: c12 :: c13 :: c14 :: c15 :: c16 :: c17 :: c18 :: c19 :: c20 :: c21 :: c22 :: c23 :: c24 :: c25 :: c26 :: c27 :: c28 :: c29 :: c30 :: c31 :: c32 :: c33 :: c34 :: c35 :: c36 :: c37 :: c38 :: c39 :: c40 :: c41 :: c42 :: c43 :: c44 :: c45 :: c46 :: c47 :: c48 :: c49 :: c50 :: c51 :: c52 :: c53 :: c54 :: c55 :: c56 :: c57 :: c58 :: c59 :: c60 :: c61 :: c62 :: c63 :: c64 :: c65 :: []⟩, _, s, w => by kernel_rfl
theorem wr35_lh47 (c0 c1 c2 c3 c4 c5 c6 c7 c8 c9 c10 c11 c12 c13 c14 c15 c16 c17 c18 c19 c20 c21 c22 c23 c24 c25 c26 c27 c28 c29 c30 c31 c32 c33 c34 c35 c36 c37 c38 c39 c40 c41 c42 c43 c44 c45 c46 c47 c48 c49 c50 c51 c52 c53 c54 c55 c56 c57 c58 c59 c60 c61 c62 c63 c64 c65 c66 : Value) (w : World) : (Instr.buildSlice 47 1 #[(0, .agg #[c0, c1, c2, c3, c4, c5, c6, c7, c8, c9, c10, c11, c12, c13, c14, c15, c16, c17, c18, c19, c20, c21, c22, c23, c24, c25, c26, c27, c28, c29, c30, c31, c32, c33, c34, c35, c36, c37, c38, c39, c40, c41, c42, c43, c44, c45, c46, c47, c48, c49, c50, c51, c52, c53, c54, c55, c56, c57, c58, c59, c60, c61, c62, c63, c64, c65, c66])]).run Tryd.prog w = .ok (.slice (some ⟨w.heap.size, 0, none⟩) 1 1) (w.alloc (.cells #[c0, c1, c2, c3, c4, c5, c6, c7, c8, c9, c10, c11, c12, c13, c14, c15, c16, c17, c18, c19, c20, c21, c22, c23, c24, c25, c26, c27, c28, c29, c30, c31, c32, c33, c34, c35, c36, c37, c38, c39, c40, c41, c42, c43, c44, c45, c46, c47, c48, c49, c50, c51, c52, c53, c54, c55, c56, c57, c58, c59, c60, c61, c62, c63, c64, c65, c66] 122)) := by kernel_rfl
theorem wr35_lg47 : ∀ (cs : Array Value), cs.size = 67 → ∀ w : World, (Instr.buildSlice 47 1 #[(0, .agg cs)]).run Tryd.prog w = .ok (.slice (some ⟨w.heap.size, 0, none⟩) 1 1) (w.alloc (.cells cs 122))
 | ⟨c0 :: c1 :: c2 :: c3 :: c4 :: c5 :: c6 :: c7 :: c8 :: c9 :: c10 :: c11 :: c12 :: c13 :: c14 :: c15 :: c16 :: c17 :: c18 :: c19 :: c20 :: c21 :: c22 :: c23 :: c24 :: c25 :: c26 :: c27 :: c28 :: c29 :: c30 :: c31 :: c32 :: c33 :: c34 :: c35 :: c36 :: c37 :: c38 :: c39 :: c40 :: c41 :: c42 :: c43 :: c44 :: c45 :: c46 :: c47 :: c48 :: c49 :: c50 :: c51 :: c52 :: c53 :: c54 :: c55 :: c56 :: c57 :: c58 :: c59 :: c60 :: c61 :: c62 :: c63 :: c64 :: c65 :: c66 :: []⟩, _, w => wr35_lh47 c0 c1 c2 c3 c4 c5 c6 c7 c8 c9 c10 c11 c12 c13 c14 c15 c16 c17 c18 c19 c20 c21 c22 c23 c24 c25 c26 c27 c28 c29 c30 c31 c32 c33 c34 c35 c36 c37 c38 c39 c40 c41 c42 c43 c44 c45 c46 c47 c48 c49 c50 c51 c52 c53 c54 c55 c56 c57 c58 c59 c60 c61 c62 c63 c64 c65 c66 w
theorem wr35_ig122 : ∃ z, (Tryd.prog.info? 122).map (fun i => (i.zero, i.size, i.bytes)) = some (some z, 67, 104) ∧ z.cells.size = 67 := info_ex (by kernel_rfl)
theorem wr35_szg122 : ∀ w' : World, (sizeOf 122).run Tryd.prog w' = .ok 67 w' := fun _ => by kernel_rfl
set_option maxHeartbeats 1600000
theorem apply20_any (w : World) (z0 : RefsV) (hm : RefsAt w z0) (hL : RefsLt z0.1) (lv : Value) (l : List Upd) (hr : RG 66 updC w lv l) (hl : l.length ≤ 1000) (hln : ∀ u ∈ l, u.name.length ≤ 9223372036854775807) (note : Bs) :
  Calls Tryd.prog 26 #[.agg (refsC z0).toArray, lv, St note] w fun e w' => ∃ v, e = .returned (.tuple #[.agg (refsC ((applyP z0.1 l note).2, v)).toArray, NI (applyP z0.1 l note).1]) ∧ RefsOw w.heap.size w' ((applyP z0.1 l note).2, v) ∧ Ext w w' := by
 have hmt := hm.branches
 have hmg := hm.tags
 have hml := hm.log
 refine calls_of_wpF (args := [.agg (refsC z0).toArray, lv, St (note)]) Tryd.func26 rfl 77 rfl (Nat.le_of_ble_eq_true rfl) ?_
 intro ρ0 hb
 have T0 : ρ0 0 = (.agg (refsC z0).toArray : Value) := hb.get 0
 have T1 : ρ0 1 = (lv : Value) := hb.get 1
 have T2 : ρ0 2 = (St (note) : Value) := hb.get 2
 clear hb
 have hE := Ext.refl w
 refine sk fun K1 hK1 => (wt (oS rfl (Yk.box (cs := (refsC z0 : List Value).toArray) T0 fun n2 w3 hn4 hb5 hx6 hs7 => ?_)))
 have hE := hE.trans hx6
 have hb8 := hb5; clear hb5
 have hl9 : n2 < w3.heap.size := by omega
 refine oS rfl (Yk.alloc (cs := (refsC ((⟨[], [], [], zid, []⟩, ⟨.slice none 0 0, .slice none 0 0, .slice none 0 0⟩) : RefsV)).toArray) wr35_al53 fun n10 w11 hn12 hb13 hx14 hs15 => ?_)
 have hA16 := Ext.refl w3
 have hea17 := hE
 have hz18 := hE.size
 have hlt19 := lte (bl hb8) hn12
 have hE := hE.trans hx14
 have hb8 := eb hx14 hb8
 have hA16 := hA16.trans hx14
 have hb20 := hb13; clear hb13
 have hl21 : n10 < w11.heap.size := by omega
 refine oA rfl (oZ (tN (hK1 _ _ (sk fun K22 hK22 => (sk fun K23 hK23 => (wt (oS rfl (Yk.loadAll (vr (PQ n2 0) rfl) hb8 (wr35_ty53).choose_spec rfl (st_isz (refs_len z0) wr35_isz53) (oS rfl (Yk.callA1 wr35_pl31 (vr (.agg (refsC z0).toArray) rfl) ((fright_any _ z0 ⟨(hmt.keep hE), (hmg.keep hE), (hml.keep hE)⟩ hL).mono ?_)))))))))))
 rintro e w25 ⟨rfl, hx24⟩
 refine ⟨_, rfl, ?_⟩
 have hE := hE.trans hx24
 have hb8 := eb hx24 hb8
 have hA16 := hA16.trans hx24
 have hb20 := eb hx24 hb20
 refine oS rfl (Yk.notB (vr (.bool (rightF z0.1)) rfl) (oM rfl (opsF_mayV (St (note)) rfl rfl (gF (vr (.bool (!(rightF z0.1))) rfl)) (fun hG26 => Yk.move T2 ⟨rfl, rfl⟩) (opsF_mayC (.bool (noteB note)) rfl rfl (gF (vr (.bool (!(rightF z0.1))) rfl)) (fun hG27 => Yk.callA1 wr35_pl73 (mayT (vr (cond (!(!(rightF z0.1))) (St (note)) undef) rfl) hG27) ((note_any _ note).mono (by rintro e w2 ⟨rfl, hx⟩; exact ⟨_, rfl, rfl, hx⟩))) fun w29 hx30 => ?_))))
 have hE := hE.trans hx30
 have hb8 := eb hx30 hb8
 have hA16 := hA16.trans hx30
 have hb20 := eb hx30 hb20
 refine opsF_mayV (.bool (!(noteB note))) rfl rfl (gF (vr (.bool (!(rightF z0.1))) rfl)) (fun hG31 => Yk.notB (mayT (vr (cond (!(!(rightF z0.1))) (.bool (noteB note)) undef) rfl) hG31) ⟨rfl, rfl⟩) (oS rfl (Yk.pickOrN (vr (.bool (!(rightF z0.1))) rfl) (vr (.bool (true)) rfl) (fun hA => (mayT (vr (cond (!(!(rightF z0.1))) (.bool (!(noteB note))) undef) rfl) (not_i hA))) fun bb32 hbb33 => (oZ (tN (hK23 _ _ ?_)))))
 refine wpF_condB (bb32) (vr (.bool (bb32)) rfl) (fun hc0 => ?_) (fun hc0 => ?_)
 ·subst hbb33
  have h0c : ((!rightF z0.1) || (!noteB note)) = true := hc0
  refine sk fun K34 hK34 => (wt (oS rfl (Yk.run (v := .agg (refsC ((⟨[], [], [], zid, []⟩, ⟨.slice none 0 0, .slice none 0 0, .slice none 0 0⟩) : RefsV)).toArray) (by kernel_rfl) (oS rfl (Yk.storeAll (vr (PQ n10 0) rfl) (vr (.agg (refsC ((⟨[], [], [], zid, []⟩, ⟨.slice none 0 0, .slice none 0 0, .slice none 0 0⟩) : RefsV)).toArray) rfl) hb20 (by simp only [List.size_toArray, refs_len]) (st_isz (refs_len _) wr35_isz53) (refs_one (x := ((⟨[], [], [], zid, []⟩, ⟨.slice none 0 0, .slice none 0 0, .slice none 0 0⟩) : RefsV)) rfl rfl rfl) fun w35 hb36 hg37 hs38 => ?_)))))
  have hE := row_fresh hE hg37 (Nat.le_trans hz18 (by omega))
  have hb8 := kb hg37 hb8 (by omega)
  have hA16 := row_fresh hA16 hg37 (Nat.le_trans (Nat.le_refl _) (by omega))
  clear hb20
  have hb20 : w35.heap[n10]? = some (.cells (refsC ((⟨[], [], [], zid, []⟩, ⟨.slice none 0 0, .slice none 0 0, .slice none 0 0⟩) : RefsV)).toArray 53 (0, 0)) := hb36; clear hb36
  have hl39 := bl hb20
  refine oA rfl (oZ (tN (hK34 _ _ (wpF_ret (thenF_ret (postF_ret (fn := Tryd.f26) _ rfl [.agg (refsC ((⟨[], [], [], zid, []⟩, ⟨.slice none 0 0, .slice none 0 0, .slice none 0 0⟩) : RefsV)).toArray, NI 1] (.tuple #[.agg (refsC ((⟨[], [], [], zid, []⟩, ⟨.slice none 0 0, .slice none 0 0, .slice none 0 0⟩) : RefsV)).toArray, NI 1]) rfl ⟨ResF.row rfl hb20 (wr35_ty53).choose_spec rfl (st_isz (refs_len _) wr35_isz53), rfl, trivial⟩ ?_))))))
  have hAp := applyP_bad (l := l) h0c
  exact ⟨⟨.slice none 0 0, .slice none 0 0, .slice none 0 0⟩, by rw [hAp], by rw [hAp]; exact ⟨OG.nil _ _ _ _ _, OG.nil _ _ _ _ _, OG.nil _ _ _ _ _⟩, hE⟩
 subst hbb33
 have h0c : ((!rightF z0.1) || (!noteB note)) = false := hc0
 have hrt : rightF z0.1 = true := by simp only [Bool.or_eq_false_iff, Bool.not_eq_false'] at h0c; exact h0c.1
 have hS0 := rightF_sorted hrt
 have hlg := (rightF_lists hrt).2.2
 have hb0 := hS0.bl
 have ht0 := hS0.tl
 refine wpF_skip (tN (hK22 _ _ (sk fun K40 hK40 => ?_)))
 refine wpF_draw_cut 9 [Is (PQ n2 0), Is (z0.2.branches), fun z' w' => OG w.heap.size 70 33 nmdC w' z' (z0.1.branches), Is (PQ n2 1), Is (z0.2.tags), fun z' w' => OG w.heap.size 70 33 nmdC w' z' (z0.1.tags), Is (PQ n2 35), Is (z0.2.log), fun z' w' => OG w.heap.size 122 67 entC w' z' (z0.1.log)] (by kernel_rfl) [22, 23, 24, 25, 26, 27, 28, 29, 30, 31, 32, 33] (by kernel_rfl) (by kernel_rfl) (by kernel_rfl) (by kernel_rfl) rfl rfl (si2 ⟨(fun _ _ _ h k => OG.keep h k), (si2 ⟨(fun _ _ _ h k => OG.keep h k), (si2 ⟨(fun _ _ _ h k => OG.keep h k), trivial⟩)⟩)⟩) ?hs1003 ?hQ1003
 case hs1003 =>
  refine ⟨?_, ?_, ?_, ?_, ?_, ?_, ?_, ?_, ?_, ?_, ?_, ?_, ?_, ?_, ?_, trivial⟩
  ·refine stepFC (stepN rfl fun σ w1 hC h => ?_)
   have e3 : σ 3 = PQ n2 0 := (eqo (h 3 (by decide))).trans rfl
   exact Yk.fieldAt wr35_fo53_0 e3 ⟨Ext.refl _, rfl⟩
  ·refine stepFC (stepN rfl fun σ w1 hC h => ?_)
   have e22 := eqo (h 22 (by decide))
   exact Yk.cell1 wr35_ty51 rfl e22 (cellAt (eb hC hb8) (show (refsC z0)[0]? = some (z0.2.branches : Value) from refs_g0 z0)) ⟨Ext.refl _, rfl⟩
  ·refine stepFC (stepN rfl fun σ w1 hC h => ?_)
   have e23 := eqo (h 23 (by decide))
   refine Yk.callA1 wr35_pl74 e23 ((cloneNmd_any _ z0.2.branches (z0.1.branches) (hmt.keep (hE.trans hC)) (by have := hb0; omega)).mono ?_)
   rintro e w2 ⟨v, rfl, ho, hx⟩
   exact ⟨_, rfl, hx, OG.low ho (Nat.le_trans hE.size hC.size)⟩
  ·refine stepFC (stepN rfl fun σ w1 hC h => ?_)
   have e3 : σ 3 = PQ n2 0 := (eqo (h 3 (by decide))).trans rfl
   exact Yk.fieldAt wr35_fo53_1 e3 ⟨Ext.refl _, rfl⟩
  ·refine stepFC (stepN rfl fun σ w1 hC h => ?_)
   have e25 := eqo (h 25 (by decide))
   exact Yk.cell1 wr35_ty51 rfl e25 (cellAt (eb hC hb8) (show (refsC z0)[1]? = some (z0.2.tags : Value) from refs_g1 z0)) ⟨Ext.refl _, rfl⟩
  ·refine stepFC (stepN rfl fun σ w1 hC h => ?_)
   have e26 := eqo (h 26 (by decide))
   refine Yk.callA1 wr35_pl74 e26 ((cloneNmd_any _ z0.2.tags (z0.1.tags) (hmg.keep (hE.trans hC)) (by have := ht0; omega)).mono ?_)
   rintro e w2 ⟨v, rfl, ho, hx⟩
   exact ⟨_, rfl, hx, OG.low ho (Nat.le_trans hE.size hC.size)⟩
  ·refine stepFC (stepN rfl fun σ w1 hC h => ?_)
   have e3 : σ 3 = PQ n2 0 := (eqo (h 3 (by decide))).trans rfl
   exact Yk.fieldAt wr35_fo53_4 e3 ⟨Ext.refl _, rfl⟩
  ·refine stepFC (stepN rfl fun σ w1 hC h => ?_)
   have e28 := eqo (h 28 (by decide))
   exact Yk.cell1 wr35_ty47 rfl e28 (cellAt (eb hC hb8) (show (refsC z0)[35]? = some (z0.2.log : Value) from refs_g4 z0)) ⟨Ext.refl _, rfl⟩
  ·refine stepFC (stepN rfl fun σ w1 hC h => ?_)
   have e29 := eqo (h 29 (by decide))
   refine Yk.callA1 wr35_pl75 e29 ((cloneEnt_any _ z0.2.log (z0.1.log) (hml.keep (hE.trans hC)) (by have := hlg; omega)).mono ?_)
   rintro e w2 ⟨v, rfl, ho, hx⟩
   exact ⟨_, rfl, hx, OG.low ho (Nat.le_trans hE.size hC.size)⟩
  ·exact trivial
  ·exact trivial
  ·exact trivial
  ·exact trivial
  ·exact trivial
  ·exact trivial
 intro ρ41 w42 hx43 he hf
 obtain ⟨-, -, k24, -, -, k27, -, -, k30, -⟩ := hf
 obtain ⟨T0, T1, T2, T3, T6, T7, -⟩ := he.hold [(0, _), (1, _), (2, _), (3, PQ n2 0), (6, PQ n10 0), (7, NI 0)] ⟨T0, T1, T2, rfl, rfl, rfl, trivial⟩ rfl
 clear he
 have hE := hE.trans hx43
 have hb8 := eb hx43 hb8
 have hA16 := hA16.trans hx43
 have hb20 := eb hx43 hb20
 have k24 : (fun z' w' => OG w.heap.size 70 33 nmdC w' z' (z0.1.branches)) (ρ41 24) w42 := k24
 obtain ⟨v44, T24⟩ : ∃ v, ρ41 24 = v := ⟨_, rfl⟩
 rw [T24] at k24
 have hk45 := k24; clear k24
 have hap46 := OG.off hk45 hb8 (by decide)
 have hap47 := OG.off hk45 hb20 (by decide)
 have k27 : (fun z' w' => OG w.heap.size 70 33 nmdC w' z' (z0.1.tags)) (ρ41 27) w42 := k27
 obtain ⟨v48, T27⟩ : ∃ v, ρ41 27 = v := ⟨_, rfl⟩
 rw [T27] at k27
 have hk49 := k27; clear k27
 have hap50 := OG.off hk49 hb8 (by decide)
 have hap51 := OG.off hk49 hb20 (by decide)
 have k30 : (fun z' w' => OG w.heap.size 122 67 entC w' z' (z0.1.log)) (ρ41 30) w42 := k30
 obtain ⟨v52, T30⟩ : ∃ v, ρ41 30 = v := ⟨_, rfl⟩
 rw [T30] at k30
 have hk53 := k30; clear k30
 have hap54 := OG.off hk53 hb8 (by decide)
 have hap55 := OG.off hk53 hb20 (by decide)
 refine oS rfl (Yk.fieldAt wr35_fo53_0 T3 (oS rfl (Yk.storeC (i := 0) (v := v44) (vr (PQ n2 0) rfl) T24 hb8 (by rw [refs_len]; decide) wr35_isz51 (RG.one (RG.ofOwn hk45)).1 (RG.one (RG.ofOwn hk45)).2 fun w56 hb57 hg58 hs59 => ?_)))
 have hE := row_fresh hE hg58 (Nat.le_trans (Nat.le_refl _) (by omega))
 clear hA16
 have hb20 := kb hg58 hb20 (by omega)
 have hk45 := OG.kept hk45 hg58 hap46
 have hk49 := OG.kept hk49 hg58 hap50
 have hk53 := OG.kept hk53 hg58 hap54
 clear hb8
 have hb8 : w56.heap[n2]? = some (.cells (refsC ((⟨z0.1.branches, z0.1.tags, z0.1.head, z0.1.at_, z0.1.log⟩, ⟨v44, z0.2.tags, z0.2.log⟩) : RefsV)).toArray 53 (0, 0)) := blk_eq hb57 (refs_s0 z0 v44 (z0.1.branches)); clear hb57
 have hl60 := bl hb8
 refine oS rfl (Yk.fieldAt wr35_fo53_1 T3 (oS rfl (Yk.storeC (i := 1) (v := v48) (vr (PQ n2 1) rfl) T27 hb8 (by rw [refs_len]; decide) wr35_isz51 (RG.one (RG.ofOwn hk49)).1 (RG.one (RG.ofOwn hk49)).2 fun w61 hb62 hg63 hs64 => ?_)))
 have hE := row_fresh hE hg63 (Nat.le_trans (Nat.le_refl _) (by omega))
 have hb20 := kb hg63 hb20 (by omega)
 have hk45 := OG.kept hk45 hg63 hap46
 have hk49 := OG.kept hk49 hg63 hap50
 have hk53 := OG.kept hk53 hg63 hap54
 clear hb8
 have hb8 : w61.heap[n2]? = some (.cells (refsC ((⟨z0.1.branches, z0.1.tags, z0.1.head, z0.1.at_, z0.1.log⟩, ⟨v44, v48, z0.2.log⟩) : RefsV)).toArray 53 (0, 0)) := blk_eq hb62 (refs_s1 ((⟨z0.1.branches, z0.1.tags, z0.1.head, z0.1.at_, z0.1.log⟩, ⟨v44, z0.2.tags, z0.2.log⟩) : RefsV) v48 (z0.1.tags)); clear hb62
 have hl65 := bl hb8
 refine oS rfl (Yk.fieldAt wr35_fo53_4 T3 (oS rfl (Yk.storeC (i := 35) (v := v52) (vr (PQ n2 35) rfl) T30 hb8 (by rw [refs_len]; decide) wr35_isz47 (RG.one (RG.ofOwn hk53)).1 (RG.one (RG.ofOwn hk53)).2 fun w66 hb67 hg68 hs69 => ?_)))
 have hE := row_fresh hE hg68 (Nat.le_trans (Nat.le_refl _) (by omega))
 have hb20 := kb hg68 hb20 (by omega)
 have hk45 := OG.kept hk45 hg68 hap46
 have hk49 := OG.kept hk49 hg68 hap50
 have hk53 := OG.kept hk53 hg68 hap54
 clear hb8
 have hb8 : w66.heap[n2]? = some (.cells (refsC ((⟨z0.1.branches, z0.1.tags, z0.1.head, z0.1.at_, z0.1.log⟩, ⟨v44, v48, v52⟩) : RefsV)).toArray 53 (0, 0)) := blk_eq hb67 (refs_s4 ((⟨z0.1.branches, z0.1.tags, z0.1.head, z0.1.at_, z0.1.log⟩, ⟨v44, v48, z0.2.log⟩) : RefsV) v52 (z0.1.log)); clear hb67
 have hl70 := bl hb8
 refine oZ (tN (hK40 _ _ (sk fun K71 hK71 => (wt (oS rfl (Yk.callA0 wr35_pl76  ((fkinds_any _).mono ?_)))))))
 rintro e w73 ⟨gm, rfl, hmp, hgm, hx72⟩
 refine ⟨_, rfl, ?_⟩
 have hlt74 : n10 < gm := Nat.lt_of_lt_of_le (bl hb20) hgm
 have hlt75 : n2 < gm := Nat.lt_of_lt_of_le (bl hb8) hgm
 have hE := hE.trans hx72
 have hb20 := eb hx72 hb20
 have hk45 := hk45.keep hx72
 have hk49 := hk49.keep hx72
 have hk53 := hk53.keep hx72
 have hb8 := eb hx72 hb8
 have hgl : gm < w73.heap.size := hmp.lt
 refine oA rfl (oZ (tN (hK71 _ _ (sk fun K76 hK76 => (sk fun K77 hK77 => (wt (oM rfl (oS rfl (Yk.lenRG wr35_ty22 (RG.of (hr.keep hE) T1) (oM rfl (oL_ [(0, .agg (refsC z0).toArray), (1, lv), (2, St (note)), (3, PQ n2 0), (6, PQ n10 0), (7, NI 0), (8, .map (some gm)), (35, lv), (36, NI l.length), (37, NI 0)] ⟨T0, T1, T2, T3, T6, T7, rfl, T1, rfl, rfl, trivial⟩ fun ρ78 ⟨T0, T1, T2, T3, T6, T7, T8, T35, T36, T37, _⟩ => ?_)))))))))))
 have ho79 : OG w.heap.size 70 33 nmdC w73 v44 (z0.1.branches) := hk45
 have ho80 : OG w.heap.size 70 33 nmdC w73 v48 (z0.1.tags) := hk49
 have ho81 : OG w.heap.size 122 67 entC w73 v52 (z0.1.log) := hk53
 have hP : AppAt w w73 n2 ((⟨z0.1.branches, z0.1.tags, z0.1.head, z0.1.at_, z0.1.log⟩, ⟨v44, v48, v52⟩) : RefsV) := ⟨hE, by omega, hb8, ho79, ho80, ho81, (OG.off ho79 hb8 (by decide)), (OG.off ho80 hb8 (by decide)), (OG.off ho81 hb8 (by decide)), OG.apart ho81 ho79 (by decide), OG.apart ho81 ho80 (by decide)⟩
 refine tN (hK77 _ _ (wpF_block (wpF_loop (fun (ρ : Slots) (wz : World) => ∃ i : Nat, ∃ z : RefsV, ρ 0 = (.agg (refsC z0).toArray : Value) ∧ ρ 1 = (lv : Value) ∧ ρ 2 = (St (note) : Value) ∧ ρ 3 = (PQ n2 0 : Value) ∧ ρ 6 = (PQ n10 0 : Value) ∧ ρ 8 = (.map (some gm) : Value) ∧ ρ 35 = (lv : Value) ∧ ρ 36 = (NI l.length : Value) ∧ ρ 37 = (NI i : Value) ∧ Ext w wz ∧ wz.heap[n10]? = some (.cells (refsC ((⟨[], [], [], zid, []⟩, ⟨.slice none 0 0, .slice none 0 0, .slice none 0 0⟩) : RefsV)).toArray 53 (0, 0)) ∧ MapF B8 fnV (fun _ : UInt8 => True) wz gm doG ∧ AppAt w wz n2 z ∧ (i ≤ l.length) ∧ (runP note z0.1 l = runP note z.1 (l.drop i)) ∧ (Sorted z.1) ∧ (z.1.log.length ≤ 64 + i) ∧ True) (fun ρ _ => l.length - (intOf (ρ 37)).toNat) ⟨0, ((⟨z0.1.branches, z0.1.tags, z0.1.head, z0.1.at_, z0.1.log⟩, ⟨v44, v48, v52⟩) : RefsV), T0, T1, T2, T3, T6, T8, T35, T36, T37, hE, hb20, hmp, hP, Nat.zero_le _, rfl, ⟨hS0.br, hS0.tg, hS0.bl, hS0.tl⟩, (show z0.1.log.length ≤ 64 + 0 by omega), trivial⟩ ?_)))
 clear hk45
 clear hk49
 clear hk53
 clear hb8
 clear hP
 clear hE hb20 hmp
 rintro ρ82 w83 ⟨i, z, T0, T1, T2, T3, T6, T8, T35, T36, T37, hE, hb20, hmp, hQ, hi, hrun, hS, hlog, -⟩
 have q37 := T37
 refine sk fun K84 hK84 => (wt (oS rfl (Yk.eqI (a := (i : Nat)) (b := (l.length : Nat)) T37 T36 (k_lss _ _ _ _) (oZ (tN (hK84 _ _ (sk fun K85 hK85 => ?_)))))))
 refine wpF_cond ((i) < (l.length)) (vr (.bool (decide ((i) < (l.length)))) rfl) (fun hc1 => ?_) (fun hc1 => ?_)
 ·have hlt : i < l.length := hc1
  refine wpF_skip (tN (hK85 _ _ (sk fun K86 hK86 => (wpF_block (sk fun K87 hK87 => (wt ?_))))))
  have hl90 : (updC (l.getD (i) dUpd)).length = 66 := (RG.elem (hr.keep hE) dUpd (by omega))
  refine oS rfl (Yk.atRG wr35_ty22 wr35_szg67 (by decide) dUpd (RG.of (hr.keep hE) T35) T37 (by omega) fun v88 hp89 => (oS rfl (Yk.loadPR (PR.of hp89 (vr v88 rfl)) (wr35_ty67).choose_spec rfl (by rw [upd_len]; exact wr35_isz67) (oS rfl (Yk.alloc (cs := (updC (⟨0, [], zid, zid⟩ : Upd)).toArray) wr35_al67 fun n91 w92 hn93 hb94 hx95 hs96 => ?_)))))
  have hA97 := Ext.refl w83
  have hea98 := hE
  have hz99 := hE.size
  have hlt100 := lte (bl hb20) hn93
  have hlt101 := lte hmp.lt hn93
  have hE := hE.trans hx95
  have hb20 := eb hx95 hb20
  have hmp := hmp.keep hx95
  have hA97 := hA97.trans hx95
  have hb102 := hb94; clear hb94
  have hl103 : n91 < w92.heap.size := by omega
  refine oS rfl (Yk.storeAll (vr (PQ n91 0) rfl) (vr (.agg (updC (l.getD (i) dUpd)).toArray) rfl) hb102 (by simp only [List.size_toArray, upd_len]) (st_isz (upd_len _) wr35_isz67) (upd_one (x := (l.getD (i) dUpd))) fun w104 hb105 hg106 hs107 => ?_)
  have hE := row_fresh hE hg106 (Nat.le_trans hz99 (by omega))
  have hb20 := kb hg106 hb20 (by omega)
  have hmp := MapF.other hmp hg106 (some_ne (by omega))
  have hA97 := row_fresh hA97 hg106 (Nat.le_trans (Nat.le_refl _) (by omega))
  clear hb102
  have hb102 : w104.heap[n91]? = some (.cells (updC (l.getD (i) dUpd)).toArray 67 (0, 0)) := hb105; clear hb105
  have hl108 := bl hb102
  refine oZ ?_
  clear hp89
  refine tN (hK87 _ _ (sk fun K109 hK109 => (sk fun K110 hK110 => (wt (oS rfl (Yk.loadAll (vr (PQ n91 0) rfl) hb102 (wr35_ty67).choose_spec rfl (st_isz (upd_len (l.getD (i) dUpd)) wr35_isz67) (oS rfl (Yk.callA1 wr35_pl77 (vr (.agg (updC (l.getD (i) dUpd)).toArray) rfl) ((update_any _ (l.getD i dUpd) (hln _ (getD_mem dUpd hlt))).mono ?_)))))))))
  rintro e w112 ⟨rfl, hx111⟩
  refine ⟨_, rfl, ?_⟩
  have hE := hE.trans hx111
  have hb20 := eb hx111 hb20
  have hmp := hmp.keep hx111
  have hA97 := hA97.trans hx111
  have hb102 := eb hx111 hb102
  refine oA rfl (oZ (tN (hK110 _ _ (sk fun K113 hK113 => (wt (oM rfl (oS rfl (Yk.eqI (a := (updErr (l.getD i dUpd) : Nat)) (b := (0 : Nat)) rfl rfl (k_neq _ _ _ _) (oZ (tN (hK113 _ _ ?_)))))))))))
  refine wpF_cond ((updErr (l.getD i dUpd) : Nat) ≠ (0)) (vr (.bool (decide ((updErr (l.getD i dUpd) : Nat) ≠ (0)))) rfl) (fun hc2 => ?_) (fun hc2 => ?_)
  ·have hU : updErr (l.getD i dUpd) ≠ 0 := hc2
   refine sk fun K114 hK114 => (wt (oS rfl (Yk.run (v := .agg (refsC ((⟨[], [], [], zid, []⟩, ⟨.slice none 0 0, .slice none 0 0, .slice none 0 0⟩) : RefsV)).toArray) (by kernel_rfl) (oM rfl (oS rfl (Yk.storeAll T6 (vr (.agg (refsC ((⟨[], [], [], zid, []⟩, ⟨.slice none 0 0, .slice none 0 0, .slice none 0 0⟩) : RefsV)).toArray) rfl) hb20 (by simp only [List.size_toArray, refs_len]) (st_isz (refs_len _) wr35_isz53) (refs_one (x := ((⟨[], [], [], zid, []⟩, ⟨.slice none 0 0, .slice none 0 0, .slice none 0 0⟩) : RefsV)) rfl rfl rfl) fun w115 hb116 hg117 hs118 => ?_))))))
   have hE := row_fresh hE hg117 (Nat.le_trans hz18 (by omega))
   have hmp := MapF.other hmp hg117 (some_ne (by omega))
   clear hA97
   have hb102 := kb hg117 hb102 (by omega)
   clear hb20
   have hb20 : w115.heap[n10]? = some (.cells (refsC ((⟨[], [], [], zid, []⟩, ⟨.slice none 0 0, .slice none 0 0, .slice none 0 0⟩) : RefsV)).toArray 53 (0, 0)) := hb116; clear hb116
   have hl119 := bl hb20
   refine oA rfl (oZ (tN (hK114 _ _ (wpF_ret (thenF_ret (inBlockF_ret (thenF_ret (thenF_ret (inBlockF_ret (thenF_ret (postF_ret (fn := Tryd.f26) _ rfl [.agg (refsC ((⟨[], [], [], zid, []⟩, ⟨.slice none 0 0, .slice none 0 0, .slice none 0 0⟩) : RefsV)).toArray, NI (updErr (l.getD i dUpd))] (.tuple #[.agg (refsC ((⟨[], [], [], zid, []⟩, ⟨.slice none 0 0, .slice none 0 0, .slice none 0 0⟩) : RefsV)).toArray, NI (updErr (l.getD i dUpd))]) rfl ⟨ResF.row T6 hb20 (wr35_ty53).choose_spec rfl (st_isz (refs_len _) wr35_isz53), rfl, trivial⟩ ?_)))))))))))
   have hAp := applyP_err h0c (hrun.trans (runP_err1 hlt hU)) hU
   exact ⟨⟨.slice none 0 0, .slice none 0 0, .slice none 0 0⟩, by rw [hAp], by rw [hAp]; exact ⟨OG.nil _ _ _ _ _, OG.nil _ _ _ _ _, OG.nil _ _ _ _ _⟩, hE⟩
  have hU : updErr (l.getD i dUpd) = 0 := by simpa using hc2
  obtain ⟨f, hF⟩ := doG_some (updErr_kind hU)
  refine wpF_skip (tN (hK109 _ _ (sk fun K120 hK120 => (sk fun K121 hK121 => (wt (oM rfl (oS rfl (Yk.fieldAt wr35_fo67_0 (vr (PQ n91 0) rfl) (oS rfl (Yk.cell1 wr35_ty5 rfl (vr (PQ n91 0) rfl) (cellAt hb102 (show (updC (l.getD (i) dUpd))[0]? = some (B8 (((l.getD (i) dUpd)).kind) : Value) from upd_g0 (l.getD (i) dUpd))) (oS rfl (Yk.lookMS (ek := B8) (ev := fnV) (D := fun _ : UInt8 => True) u8Law u8_ok (fun _ _ => b8_inj) wr35_ty125 (z := Value.nilFunc) zeroFn T8 (vr (B8 (((l.getD (i) dUpd)).kind)) rfl) hmp trivial hF (oS rfl (Yk.loadAll (vr (PQ n91 0) rfl) hb102 (wr35_ty67).choose_spec rfl (st_isz (upd_len (l.getD (i) dUpd)) wr35_isz67) (oS rfl (Yk.clo (plain_do hF) (caps := #[]) (vr (fnV f) rfl) #[PQ n2 0, .agg (updC (l.getD (i) dUpd)).toArray] (by simp only [List.map_toArray, List.map_cons, List.map_nil, List.append_toArray, List.cons_append, List.nil_append]; exact congrArg List.toArray (list2 T3 (vr (.agg (updC (l.getD (i) dUpd)).toArray) rfl))) ((do_any w _ n2 z (hQ.keep hA97) hS (l.getD i dUpd) hF).mono ?_)))))))))))))))))
  rintro e w123 ⟨z1, ⟨rfl, hz1⟩, hR, hl1, hg1⟩
  refine ⟨_, rfl, ?_⟩
  have hE := row_fresh hE hg1 (Nat.le_trans (Nat.le_refl _) (by omega))
  have hb20 := kb hg1 hb20 (by omega)
  have hmp := MapF.other hmp hg1 (some_ne (by omega))
  clear hA97
  have hb102 := kb hg1 hb102 (by omega)
  refine oA rfl (oZ ?_)
  have hb124 := hR.blk
  have ho125 := hR.br
  have ho126 := hR.tg
  have ho127 := hR.lg
  have hap128 := OG.off ho125 hb20 (by decide)
  have hap129 := OG.off ho126 hb20 (by decide)
  have hap130 := OG.off ho127 hb20 (by decide)
  have hap131 := OG.offMap ho127 hmp
  have hap132 := OG.off ho125 hb102 (by decide)
  have hap133 := OG.off ho126 hb102 (by decide)
  have hap134 := OG.off ho127 hb102 (by decide)
  have hap135 := OG.off ho125 hb124 (by decide)
  have hap136 := OG.off ho126 hb124 (by decide)
  have hap137 := OG.off ho127 hb124 (by decide)
  have hap138 := OG.apart ho127 ho125 (by decide)
  have hap139 := OG.apart ho127 ho126 (by decide)
  clear hR
  refine tN (hK121 _ _ (sk fun K140 hK140 => (wt (oM rfl (oS rfl (Yk.eqI (a := ((doP z.1 (l.getD i dUpd)).1 : Nat)) (b := (0 : Nat)) rfl rfl (k_neq _ _ _ _) (oZ (tN (hK140 _ _ ?_)))))))))
  refine wpF_cond (((doP z.1 (l.getD i dUpd)).1 : Nat) ≠ (0)) (vr (.bool (decide (((doP z.1 (l.getD i dUpd)).1 : Nat) ≠ (0)))) rfl) (fun hc3 => ?_) (fun hc3 => ?_)
  ·have hD : (doP z.1 (l.getD i dUpd)).1 ≠ 0 := hc3
   refine sk fun K141 hK141 => (wt (oS rfl (Yk.run (v := .agg (refsC ((⟨[], [], [], zid, []⟩, ⟨.slice none 0 0, .slice none 0 0, .slice none 0 0⟩) : RefsV)).toArray) (by kernel_rfl) (oM rfl (oS rfl (Yk.storeAll T6 (vr (.agg (refsC ((⟨[], [], [], zid, []⟩, ⟨.slice none 0 0, .slice none 0 0, .slice none 0 0⟩) : RefsV)).toArray) rfl) hb20 (by simp only [List.size_toArray, refs_len]) (st_isz (refs_len _) wr35_isz53) (refs_one (x := ((⟨[], [], [], zid, []⟩, ⟨.slice none 0 0, .slice none 0 0, .slice none 0 0⟩) : RefsV)) rfl rfl rfl) fun w142 hb143 hg144 hs145 => ?_))))))
   have hE := row_fresh hE hg144 (Nat.le_trans hz18 (by omega))
   have hmp := MapF.other hmp hg144 (some_ne (by omega))
   have hb102 := kb hg144 hb102 (by omega)
   have hb124 := kb hg144 hb124 (by omega)
   have ho125 := OG.kept ho125 hg144 hap128
   have ho126 := OG.kept ho126 hg144 hap129
   have ho127 := OG.kept ho127 hg144 hap130
   clear hb20
   have hb20 : w142.heap[n10]? = some (.cells (refsC ((⟨[], [], [], zid, []⟩, ⟨.slice none 0 0, .slice none 0 0, .slice none 0 0⟩) : RefsV)).toArray 53 (0, 0)) := hb143; clear hb143
   have hl146 := bl hb20
   refine oA rfl (oZ (tN (hK141 _ _ (wpF_ret (thenF_ret (inBlockF_ret (thenF_ret (thenF_ret (inBlockF_ret (thenF_ret (postF_ret (fn := Tryd.f26) _ rfl [.agg (refsC ((⟨[], [], [], zid, []⟩, ⟨.slice none 0 0, .slice none 0 0, .slice none 0 0⟩) : RefsV)).toArray, NI ((doP z.1 (l.getD i dUpd)).1)] (.tuple #[.agg (refsC ((⟨[], [], [], zid, []⟩, ⟨.slice none 0 0, .slice none 0 0, .slice none 0 0⟩) : RefsV)).toArray, NI ((doP z.1 (l.getD i dUpd)).1)]) rfl ⟨ResF.row T6 hb20 (wr35_ty53).choose_spec rfl (st_isz (refs_len _) wr35_isz53), rfl, trivial⟩ ?_)))))))))))
   have hAp := applyP_err h0c (hrun.trans (runP_err2 hlt hU hD)) hD
   exact ⟨⟨.slice none 0 0, .slice none 0 0, .slice none 0 0⟩, by rw [hAp], by rw [hAp]; exact ⟨OG.nil _ _ _ _ _, OG.nil _ _ _ _ _, OG.nil _ _ _ _ _⟩, hE⟩
  have hD : (doP z.1 (l.getD i dUpd)).1 = 0 := by simpa using hc3
  refine wpF_skip (tN (hK120 _ _ (wt (oS rfl (Yk.fieldAt wr35_fo53_4 T3 (oS rfl (Yk.cell1 wr35_ty47 rfl (vr (PQ n2 35) rfl) (cellAt hb124 (show (refsC z1)[35]? = some (z1.2.log : Value) from refs_g4 z1)) (oS rfl (Yk.loadAll (vr (PQ n91 0) rfl) hb102 (wr35_ty67).choose_spec rfl (st_isz (upd_len (l.getD (i) dUpd)) wr35_isz67) (oM rfl (oS rfl (Yk.build2 (vr (.agg (updC (l.getD (i) dUpd)).toArray) rfl) T2 (fun w => (wr35_bdE _ (by rw [List.size_toArray]; exact upd_len _) _ w).trans (by rw [List.toList_toArray, entC_of])) (oS rfl (Yk.lit1G (a := (entOf (l.getD i dUpd) note)) (enc := entC) (vr (.agg (entC (entOf (l.getD i dUpd) note)).toArray) rfl) (ent_len _) wr35_lg47 fun v147 w148 hr149 hx150 => ?_))))))))))))))
  have hE := hE.trans hx150
  have hb20 := eb hx150 hb20
  have hmp := hmp.keep hx150
  have hb102 := eb hx150 hb102
  have hb124 := eb hx150 hb124
  have ho125 := ho125.keep hx150
  have ho126 := ho126.keep hx150
  have ho127 := ho127.keep hx150
  refine oS rfl (Yk.appendRG _ _ w.heap.size _ 104 wr35_ty47 wr35_ig122.choose_spec.1 wr35_ig122.choose_spec.2 wr35_ty47 (z1.1.log) ([(entOf (l.getD i dUpd) note)]) (OG.of ho127 (vr z1.2.log rfl)) (RG.of hr149 (vr v147 rfl)) (fun _ _ => ent_one) (by have h_ := congrArg (fun r => r.log.length) hz1; simp only [doP_log] at h_; simp only [List.length_cons, List.length_nil]; omega) (by have h_ := congrArg (fun r => r.log.length) hz1; simp only [doP_log] at h_; simp only [List.length_cons, List.length_nil]; omega) hE.size fun v151 w152 ho153 hg154 => ?_)
  have hg154 : Grew w148 w152 z1.2.log v151 := hg154
  have hap155 : OB v151 n10 := apart_grew hg154 hap130 (bl hb20)
  have hap156 : OB v151 gm := apart_grew hg154 hap131 hmp.lt
  have hap157 : OB v151 n91 := apart_grew hg154 hap134 (bl hb102)
  have hap158 : OB v151 n2 := apart_grew hg154 hap137 (bl hb124)
  have hap159 : ApartV v151 z1.2.branches := apartv_grew hg154 hap138 ho125.2
  have hap160 : ApartV z1.2.branches v151 := fun k h1 h2 => hap159 k h2 h1
  have hap161 : ApartV v151 z1.2.tags := apartv_grew hg154 hap139 ho126.2
  have hap162 : ApartV z1.2.tags v151 := fun k h1 h2 => hap161 k h2 h1
  have hE := ext_grew hE hg154 ho127.2 (Nat.le_refl _)
  have hb20 := blk_grew hb20 hg154 hap130
  have hmp := MapF.grew hmp hg154 hap131
  have hb102 := blk_grew hb102 hg154 hap134
  have hb124 := blk_grew hb124 hg154 hap137
  have ho125 := og_grew ho125 hg154 hap138
  have ho126 := og_grew ho126 hg154 hap139
  clear hr149
  clear ho127
  refine oS rfl (Yk.fieldAt wr35_fo53_4 T3 (oS rfl (Yk.storeC (i := 35) (v := v151) (vr (PQ n2 35) rfl) (vr v151 rfl) hb124 (by rw [refs_len]; decide) wr35_isz47 (RG.one (RG.ofOwn ho153)).1 (RG.one (RG.ofOwn ho153)).2 fun w163 hb164 hg165 hs166 => ?_)))
  have hE := row_fresh hE hg165 (Nat.le_trans (Nat.le_refl _) (by omega))
  have hb20 := kb hg165 hb20 (by omega)
  have hmp := MapF.other hmp hg165 (some_ne (by omega))
  have hb102 := kb hg165 hb102 (by omega)
  have ho125 := OG.kept ho125 hg165 hap135
  have ho126 := OG.kept ho126 hg165 hap136
  have ho153 := OG.kept ho153 hg165 hap158
  clear hb124
  have hb124 : w163.heap[n2]? = some (.cells (refsC ((⟨z1.1.branches, z1.1.tags, z1.1.head, z1.1.at_, (z1.1.log) ++ [(entOf (l.getD i dUpd) note)]⟩, ⟨z1.2.branches, z1.2.tags, v151⟩) : RefsV)).toArray 53 (0, 0)) := blk_eq hb164 (refs_s4 z1 v151 ((z1.1.log) ++ [(entOf (l.getD i dUpd) note)])); clear hb164
  have hl167 := bl hb124
  refine oZ (bN (tN (hK86 _ _ (wt (oS rfl (Yk.bin (xv := NI i) (yv := NI 1) T37 rfl rfl (i64_add _ _ _ (by omega)) (oM rfl (oL_ [(0, .agg (refsC z0).toArray), (1, lv), (2, St (note)), (3, PQ n2 0), (6, PQ n10 0), (8, .map (some gm)), (10, PQ n91 0), (11, NI (updErr (l.getD i dUpd))), (12, NI ((doP z.1 (l.getD i dUpd)).1)), (35, lv), (36, NI l.length), (37, NI ((i) + (1)))] ⟨T0, T1, T2, T3, T6, T8, rfl, rfl, rfl, T35, T36, rfl, trivial⟩ fun ρ168 ⟨T0, T1, T2, T3, T6, T8, T10, T11, T12, T35, T36, T37, _⟩ => ?_))))))))
  have ho169 : OG w.heap.size 70 33 nmdC w163 z1.2.branches (z1.1.branches) := ho125
  have ho170 : OG w.heap.size 70 33 nmdC w163 z1.2.tags (z1.1.tags) := ho126
  have ho171 : OG w.heap.size 122 67 entC w163 v151 ((z1.1.log) ++ [(entOf (l.getD i dUpd) note)]) := ho153
  have hP : AppAt w w163 n2 ((⟨z1.1.branches, z1.1.tags, z1.1.head, z1.1.at_, (z1.1.log) ++ [(entOf (l.getD i dUpd) note)]⟩, ⟨z1.2.branches, z1.2.tags, v151⟩) : RefsV) := ⟨hE, by omega, hb124, ho169, ho170, ho171, (OG.off ho169 hb124 (by decide)), (OG.off ho170 hb124 (by decide)), (OG.off ho171 hb124 (by decide)), OG.apart ho171 ho169 (by decide), OG.apart ho171 ho170 (by decide)⟩
  have hS2 : Sorted (addlog (doP z.1 (l.getD i dUpd)).2 (entOf (l.getD i dUpd) note)) := by have h_ := doP_sorted (y := (l.getD i dUpd)) hS; exact ⟨h_.br, h_.tg, h_.bl, h_.tl⟩
  have hlog2 : (addlog (doP z.1 (l.getD i dUpd)).2 (entOf (l.getD i dUpd) note)).log.length ≤ 64 + (i + 1) := by simp only [addlog, List.length_append, List.length_cons, List.length_nil, doP_log]; omega
  rw [← hz1] at hS2 hlog2
  refine tN (And.intro ⟨i + 1, ((⟨z1.1.branches, z1.1.tags, z1.1.head, z1.1.at_, (z1.1.log) ++ [(entOf (l.getD i dUpd) note)]⟩, ⟨z1.2.branches, z1.2.tags, v151⟩) : RefsV), T0, T1, T2, T3, T6, T8, T35, T36, T37, hE, hb20, hmp, hP, by omega, (hrun.trans (runP_next hlt hU hD)).trans (by rw [hz1]; rfl), hS2, hlog2, trivial⟩ ?_)
  show l.length - (intOf (ρ168 37)).toNat < l.length - (intOf (ρ82 37)).toNat
  rw [T37, q37]
  simp only [intOf, Int.toNat_natCast]; omega
 have hb172 := hQ.blk
 have ho173 := hQ.br
 have ho174 := hQ.tg
 have ho175 := hQ.lg
 have hap176 := OG.off ho173 hb20 (by decide)
 have hap177 := OG.off ho174 hb20 (by decide)
 have hap178 := OG.off ho175 hb20 (by decide)
 have hap179 := OG.offMap ho175 hmp
 have hap180 := OG.off ho173 hb172 (by decide)
 have hap181 := OG.off ho174 hb172 (by decide)
 have hap182 := OG.off ho175 hb172 (by decide)
 have hap183 := OG.apart ho175 ho173 (by decide)
 have hap184 := OG.apart ho175 ho174 (by decide)
 clear hQ
 refine wpF_exit (thenF_exit (thenF_exit (inBlockF_hit (tN (hK76 _ _ (sk fun K185 hK185 => (wt (oS rfl (Yk.fieldAt wr35_fo53_4 T3 (oS rfl (Yk.cell1 wr35_ty47 rfl (vr (PQ n2 35) rfl) (cellAt hb172 (show (refsC z)[35]? = some (z.2.log : Value) from refs_g4 z)) (oS rfl (Yk.fieldAt wr35_fo53_4 T3 (oS rfl (Yk.cell1 wr35_ty47 rfl (vr (PQ n2 35) rfl) (cellAt hb172 (show (refsC z)[35]? = some (z.2.log : Value) from refs_g4 z)) (oS rfl (Yk.lenRG wr35_ty47 (RG.of (RG.ofOwn ho175) (vr z.2.log rfl)) (oS rfl (Yk.bin (xv := .int .i64 ((((z.1.log).length : Nat) : Int))) (yv := .int .i64 (((64 : Nat) : Int))) rfl rfl rfl (zi_sub _ ((((z.1.log).length : Nat) : Int)) (((64 : Nat) : Int)) (by omega)) (oS rfl (Yk.maxNI (n := z.1.log.length) (m := 64) (vr (.int .i64 ((((((z.1.log).length : Nat) : Int)) - (((64 : Nat) : Int))) : Int)) rfl) (vr (NI 0) rfl) (oS rfl (Yk.sliceLoW wr35_ty47 wr35_szg122 (vr z.2.log rfl) (RG.ofOwn ho175) (vr (NI (z.1.log.length - 64)) rfl) (by omega) fun v186 hr187 ha188 => ?_)))))))))))))))))))))))
 have hz_ := hE.size
 refine oS rfl (Yk.callA1 wr35_pl75 (vr v186 rfl) ((cloneEnt_any _ v186 ((z.1.log).drop (z.1.log.length - 64)) hr187 (by rw [List.length_drop]; omega)).mono ?_))
 rintro e w192 ⟨v189, rfl, ho190, hx191⟩
 refine ⟨_, rfl, ?_⟩
 have hE := hE.trans hx191
 have hb20 := eb hx191 hb20
 have hmp := hmp.keep hx191
 have hb172 := eb hx191 hb172
 have ho173 := ho173.keep hx191
 have ho174 := ho174.keep hx191
 have ho175 := ho175.keep hx191
 have hr187 := hr187.keep hx191
 have ho190 := OG.low ho190 hz_
 have hap193 := OG.off ho190 hb172 (by decide)
 have hap194 := OG.off ho190 hb20 (by decide)
 refine oS rfl (Yk.fieldAt wr35_fo53_4 T3 (oS rfl (Yk.storeC (i := 35) (v := v189) (vr (PQ n2 35) rfl) (vr v189 rfl) hb172 (by rw [refs_len]; decide) wr35_isz47 (RG.one (RG.ofOwn ho190)).1 (RG.one (RG.ofOwn ho190)).2 fun w195 hb196 hg197 hs198 => ?_)))
 have hE := row_fresh hE hg197 (Nat.le_trans (Nat.le_refl _) (by omega))
 have hb20 := kb hg197 hb20 (by omega)
 have hmp := MapF.other hmp hg197 (some_ne (by omega))
 have ho173 := OG.kept ho173 hg197 hap180
 have ho174 := OG.kept ho174 hg197 hap181
 have ho175 := OG.kept ho175 hg197 hap182
 clear hr187
 have ho190 := OG.kept ho190 hg197 hap193
 clear hb172
 have hb172 : w195.heap[n2]? = some (.cells (refsC ((⟨z.1.branches, z.1.tags, z.1.head, z.1.at_, (z.1.log).drop (z.1.log.length - 64)⟩, ⟨z.2.branches, z.2.tags, v189⟩) : RefsV)).toArray 53 (0, 0)) := blk_eq hb196 (refs_s4 z v189 ((z.1.log).drop (z.1.log.length - 64))); clear hb196
 have hl199 := bl hb172
 refine oZ (tN (hK185 _ _ (sk fun K200 hK200 => (wt (oS rfl (Yk.loadAll T3 hb172 (wr35_ty53).choose_spec rfl (st_isz (refs_len ((⟨z.1.branches, z.1.tags, z.1.head, z.1.at_, (z.1.log).drop (z.1.log.length - 64)⟩, ⟨z.2.branches, z.2.tags, v189⟩) : RefsV)) wr35_isz53) (oS rfl (Yk.storeAll T6 (vr (.agg (refsC ((⟨z.1.branches, z.1.tags, z.1.head, z.1.at_, (z.1.log).drop (z.1.log.length - 64)⟩, ⟨z.2.branches, z.2.tags, v189⟩) : RefsV)).toArray) rfl) hb20 (by simp only [List.size_toArray, refs_len]) (st_isz (refs_len _) wr35_isz53) (refs_one (x := ((⟨z.1.branches, z.1.tags, z.1.head, z.1.at_, (z.1.log).drop (z.1.log.length - 64)⟩, ⟨z.2.branches, z.2.tags, v189⟩) : RefsV)) (RG.one (RG.ofOwn ho173)).2 (RG.one (RG.ofOwn ho174)).2 (RG.one (RG.ofOwn ho190)).2) fun w201 hb202 hg203 hs204 => ?_))))))))
 have hE := row_fresh hE hg203 (Nat.le_trans hz18 (by omega))
 have hmp := MapF.other hmp hg203 (some_ne (by omega))
 have ho173 := OG.kept ho173 hg203 hap176
 have ho174 := OG.kept ho174 hg203 hap177
 have ho175 := OG.kept ho175 hg203 hap178
 have ho190 := OG.kept ho190 hg203 hap194
 have hb172 := kb hg203 hb172 (by omega)
 clear hb20
 have hb20 : w201.heap[n10]? = some (.cells (refsC ((⟨z.1.branches, z.1.tags, z.1.head, z.1.at_, (z.1.log).drop (z.1.log.length - 64)⟩, ⟨z.2.branches, z.2.tags, v189⟩) : RefsV)).toArray 53 (0, 0)) := hb202; clear hb202
 have hl205 := bl hb20
 refine oA rfl (oZ (tN (hK200 _ _ (wpF_ret (postF_ret (fn := Tryd.f26) _ rfl [.agg (refsC ((⟨z.1.branches, z.1.tags, z.1.head, z.1.at_, (z.1.log).drop (z.1.log.length - 64)⟩, ⟨z.2.branches, z.2.tags, v189⟩) : RefsV)).toArray, NI 0] (.tuple #[.agg (refsC ((⟨z.1.branches, z.1.tags, z.1.head, z.1.at_, (z.1.log).drop (z.1.log.length - 64)⟩, ⟨z.2.branches, z.2.tags, v189⟩) : RefsV)).toArray, NI 0]) rfl ⟨ResF.row T6 hb20 (wr35_ty53).choose_spec rfl (st_isz (refs_len _) wr35_isz53), rfl, trivial⟩ ?_)))))
 have hAp := applyP_ok h0c (hrun.trans (runP_end (show l.length ≤ i by omega)))
 exact ⟨⟨z.2.branches, z.2.tags, v189⟩, by rw [hAp]; rfl, by rw [hAp]; exact ⟨ho173, ho174, ho190⟩, hE⟩
open Go.RowKit
section
variable {P : Program} {l : List Oper} {kill : Nat → List Nat} {C : Nat → World → Prop} {R : Nat → World → World → Prop} {Φ : Nat → Fact} {a0 : Act}
theorem tail_anyW {z : Nat} (g : Good l z) {k : Nat} (ht : ∀ i, k ≤ i → i < l.length → ∀ m, k ≤ m → m < i → ((masks l []).getD i 0).testBit m = true) {Q : Exit → Act → World → Prop} :
    ∀ (fuel m : Nat) (listed : Array Bool) (a : Act) (w : World), listed.size = l.length → (∀ i, On listed i ↔ i < m) → k ≤ m → m ≤ l.length → l.length ≤ m + fuel → wpList P l.toArray Q (l.drop m) a w → wpAny P .any l.toArray Q fuel listed a w := by
  have noReady : ∀ (m : Nat) (listed : Array Bool), listed.size = l.length → (∀ i, On listed i ↔ i < m) → l.length ≤ m → Region.ready .any l.toArray listed = [] := by
    intro m listed hsz hon hm
    cases hr : Region.ready .any l.toArray listed with
    | nil => rfl
    | cons x xs =>
      exfalso
      have hmem : x ∈ Region.ready .any l.toArray listed := by rw [hr]; simp
      obtain ⟨h1, o, ho, _⟩ := mem_ready.1 hmem
      have hx : x < l.length := by simpa using (Array.getElem?_eq_some_iff.1 ho).1
      have h2 := (hon x).2 (by omega)
      have hx' : x < listed.size := h2.lt
      unfold On at h2
      simp [hx'] at h1 h2
      rw [h1] at h2
      cases h2
  intro fuel
  induction fuel with
  | zero =>
    intro m listed a w hsz hon hk hm hf hw
    rw [List.drop_of_length_le (by omega)] at hw
    exact ⟨noReady m listed hsz hon (by omega), hw⟩
  | succ fuel ih =>
    intro m listed a w hsz hon hk hm hf hw
    by_cases hml : m = l.length
    · have hr := noReady m listed hsz hon (by omega)
      rw [List.drop_of_length_le (by omega)] at hw
      exact ⟨fun _ => hw, fun i hi => by rw [hr] at hi; cases hi⟩
    · have hlt : m < l.length := by omega
      have hoff : ¬ On listed m := fun x => by have := (hon m).1 x; omega
      have hI : Inv l (fun _ => []) (fun _ _ => True) (fun _ _ => True) (fun _ _ _ => True) a listed a w :=
        ⟨hsz, fun i o ho hi e he hb => (hon _).2 (by have := g.back i o ho e he hb; have := (hon i).1 hi; omega), rfl, rfl, fun _ _ _ => trivial, trivial, fun _ _ => rfl, fun _ _ _ _ _ _ _ _ => trivial⟩
      refine ⟨fun hr => ?_, fun i hi => ?_⟩
      · exfalso
        have ho : l[m]? = some l[m] := List.getElem?_eq_getElem hlt
        have : m ∈ Region.ready .any l.toArray listed := by
          refine mem_ready.2 ⟨?_, l[m], by rw [List.getElem?_toArray]; exact ho, fun e he hb => (hon _).2 (g.back m _ ho e he hb)⟩
          have hm' : m < listed.size := by omega
          unfold On at hoff
          simp [hm'] at hoff ⊢
          exact hoff
        rw [hr] at this
        cases this
      · obtain ⟨h1, o, ho, hall⟩ := mem_ready.1 hi
        have ho' : l[i]? = some o := by simpa using ho
        have hil : i < l.length := (List.getElem?_eq_some_iff.1 ho').1
        have hno : ¬ On listed i := fun x => by
          have hx : i < listed.size := by omega
          unfold On at x
          simp [hx] at h1 x
          rw [h1] at x
          cases x
        have him : i = m := by
          by_cases h2 : i < m
          · exact absurd ((hon i).2 h2) hno
          · by_cases h3 : i = m
            · exact h3
            · exact absurd (hI.maskReady ho' (fun e he hb => hall e he hb) (ht i (by omega) hil m hk (by omega))) hoff
        subst him
        rw [List.drop_eq_getElem_cons hlt] at hw
        obtain rfl : l[i] = o := by rw [List.getElem?_eq_getElem hlt] at ho'; exact Option.some.inj ho'
        have nxt : ∀ a' w', wpList P l.toArray Q (l.drop (i + 1)) a' w' → wpAny P .any l.toArray Q fuel (listed.setIfInBounds i true) a' w' := fun a' w' hw' =>
          ih (i + 1) _ a' w' (by simpa using hsz) (fun j => by rw [on_set (by omega), hon j]; omega) (by omega) (by omega) (by omega) hw'
        unfold wpOp
        simp only [List.getElem?_toArray, ho']
        unfold wpList at hw
        split at hw
        · rename_i hwt
          rw [if_pos hwt]
          exact hw.imp (fun h => Oper.wp_mono nxt h) (fun h => h)
        · rename_i hwt
          rw [if_neg hwt]
          exact nxt _ _ hw
end
def freeE (l : List Oper) (oe : Oper) (e : Nat) : Bool :=
  (List.range l.length).all fun j => match l[j]? with
    | some o => Nat.beq j e || (o.after.any (fun x => Region.binds .any x && x.on == e) || (oe.apart l.toArray o || ((masks l []).getD e 0).testBit j))
    | none => true
def tailE (l : List Oper) (k e : Nat) : Bool := Nat.blt e k && (List.range l.length).all fun i => Nat.blt i k || (List.range i).all fun m => Nat.beq m e || ((masks l []).getD i 0).testBit m
theorem tailE_iff {l : List Oper} {k e : Nat} (h : tailE l k e = true) : e < k ∧ ∀ i, k ≤ i → i < l.length → ∀ m, m < i → m ≠ e → ((masks l []).getD i 0).testBit m = true := by
  unfold tailE at h
  rw [Bool.and_eq_true] at h
  refine ⟨Nat.le_of_ble_eq_true h.1, fun i hi hl m hm hne => ?_⟩
  have h1 := List.all_eq_true.1 h.2 i (by simpa using hl)
  rcases Bool.or_eq_true _ _ ▸ h1 with h2 | h2
  · have := Nat.le_of_ble_eq_true h2
    omega
  · have h3 := List.all_eq_true.1 h2 m (by simpa using hm)
    rcases Bool.or_eq_true _ _ ▸ h3 with h4 | h4
    · exact absurd (Nat.eq_of_beq_eq_true h4) hne
    · exact h4
section
variable {P : Program} {l : List Oper} {Φ : Nat → Fact} {a0 : Act} {w0 : World} {Q : Exit → Act → World → Prop} {e k : Nat} {oe : Oper}
theorem extract_yields {dst : Option Tmp} {t : Tmp} {n : Nat} {ty : TypeId} {pos : String} {af : Array Edge} (he : l[e]? = some ⟨dst, .extract (.tmp t) n, ty, pos, af, none⟩) {K : Act → World → Prop} {a : Act} {w : World}
    (h : wpOp P l.toArray (fun _ _ _ => False) e K a w) : ∃ x, Yields P l.toArray ⟨dst, .extract (.tmp t) n, ty, pos, af, none⟩ x a ∧ K (a.put dst x) w := by
  unfold wpOp at h
  simp only [List.getElem?_toArray, he, Region.wanted, if_true] at h
  rcases h with h | ⟨-, -, -, h⟩
  · unfold Oper.wp at h
    have hr : ∀ v : Value, (∃ x, ∀ w : World, (Instr.extract v n).run P w = .ok x w) ∨ ∀ w : World, ∃ s, (Instr.extract v n).run P w = .halt (.stuck s) w := by
      intro v
      cases v with
      | tuple vs =>
        cases hx : vs[n]? with
        | some x => exact .inl ⟨x, fun w => by simp [Instr.extract, hx]⟩
        | none => exact .inr fun w => ⟨_, by simp only [Instr.extract, hx]; rfl⟩
      | _ => exact .inr fun w => ⟨_, by simp only [Instr.extract]; rfl⟩
    rcases hr (a.eval (.tmp t)) with ⟨x, hx⟩ | hx
    · have he : ∀ w : World, (execOp a.eval ⟨dst, .extract (.tmp t) n, ty, pos, af, none⟩).run P w = .ok (.value x) w := fun w => by
        unfold execOp
        simp only [Sem.run_bind, hx, Result.andThen_ok, Sem.run_pure]
      rw [he] at h
      exact ⟨x, .inl ⟨rfl, he⟩, h⟩
    · obtain ⟨s, hs⟩ := hx w
      have he : (execOp a.eval ⟨dst, .extract (.tmp t) n, ty, pos, af, none⟩).run P w = .halt (.stuck s) w := by
        unfold execOp
        simp only [Sem.run_bind, hs]
        rfl
      rw [he] at h
      exact h.elim
  · exact h.elim
theorem anyInvE (g : Good l a0.tmps.size) (hsel : Region.noSelect l.toArray = true) {d t : Tmp} {n : Nat} {ty : TypeId} {pos : String} {af : Array Edge} (he : l[e]? = some ⟨some d, .extract (.tmp t) n, ty, pos, af, none⟩)
    (hte : tailE l k e = true) (hfr : freeE l ⟨some d, .extract (.tmp t) n, ty, pos, af, none⟩ e = true) (hk : k ≤ l.length) (hst : ∀ i, Stab Ext (Φ i))
    (hs : ∀ i o, l[i]? = some o → i < k → StepOk P l (fun _ => Ext w0) (fun _ => Ext) Φ a0.tmps i o) (hQp : ∀ v c a w, Q (.panic c) (a.put (some d) v) w → Q (.panic c) a w)
    (hQ : ∀ listed a' w', (∀ i, On listed i ↔ i < k) → Inv l (fun _ => []) (fun _ => Ext w0) (fun _ _ => True) Φ a0 listed a' w' → wpList P l.toArray Q (l.drop k) a' w') :
    ∀ (fuel : Nat) (listed : Array Bool) (a : Act) (w : World), (listed.toList.filter (!·)).length = fuel → (∀ i, On listed i → i < k) → e ∉ Region.ready .any l.toArray listed → Inv l (fun _ => []) (fun _ => Ext w0) (fun _ _ => True) Φ a0 listed a w → wpAny P .any l.toArray Q fuel listed a w := by
  obtain ⟨hek, hte⟩ := tailE_iff hte
  have ht : ∀ i, k ≤ i → i < l.length → ∀ m, k ≤ m → m < i → ((masks l []).getD i 0).testBit m = true := fun i hi hl m hkm hm => hte i hi hl m hm (by omega)
  have hkl : killB l (fun _ => []) = true := by unfold killB; simp
  have hC : ∀ n m, n < l.length → m < l.length → n ≠ m → ((masks l []).getD n 0).testBit m = false → ∀ w w', Ext w0 w → Ext w w' → Ext w0 w' := fun _ _ _ _ _ _ _ _ hc hr => hc.trans hr
  have hE : ∀ n listed (w w' : World), n < l.length → listed.size = l.length → ¬ On listed n → (∀ i k, On listed i ∨ i = n → ((masks l []).getD i 0).testBit k = true → On listed k) → True → Ext w w' → True := fun _ _ _ _ _ _ _ _ _ _ => trivial
  have hΦ : ∀ n i, n < l.length → i < l.length → i ∉ ([] : List Nat) → i ≠ n → ((masks l []).getD i 0).testBit n = false → ∀ v w w', Φ i v w → Ext w w' → Φ i v w' := fun _ i _ _ _ _ _ v w w' => hst i v w w'
  have hRr : ∀ (n : Nat) o (w : World), l[n]? = some o → o.guard.isSome = true → Ext w w := fun _ _ w _ _ => Ext.refl w
  intro fuel
  induction fuel using Nat.strongRecOn with
  | _ fuel ih =>
  intro listed a w hf hoff hre h
  by_cases hfull : ∀ i, i < k → On listed i
  · have hon : ∀ i, On listed i ↔ i < k := fun i => ⟨hoff i, hfull i⟩
    refine tail_anyW g ht fuel k listed a w h.size hon (Nat.le_refl _) hk ?_ (hQ listed a w hon h)
    have e1 := List.take_append_drop k listed.toList
    rw [← e1, List.filter_append, List.length_append] at hf
    have e2 : (listed.toList.drop k).filter (!·) = listed.toList.drop k := List.filter_eq_self.2 fun b hb => by
      obtain ⟨j, hj, rfl⟩ := List.getElem_of_mem hb
      rw [List.getElem_drop]
      have hno : ¬ On listed (k + j) := fun x => by have := hoff _ x; omega
      rw [List.length_drop] at hj
      have hlt : k + j < listed.size := by rw [← Array.length_toList]; omega
      unfold On at hno
      simp [hlt] at hno
      simp [hno]
    rw [e2, List.length_drop] at hf
    have hz : listed.toList.length = l.length := by rw [Array.length_toList]; exact h.size
    omega
  · have hunl : ∀ i, i < l.length → ¬ On listed i → listed.getD i true = false := fun i hi hno => by
      have hi' : i < listed.size := by rw [h.size]; exact hi
      unfold On at hno
      simp [hi'] at hno ⊢
      exact hno
    have hlow : ∃ j, j < k ∧ j ≠ e ∧ ¬ On listed j := by
      refine Classical.byContradiction fun hn => hfull fun i hi => Classical.byContradiction fun hx => ?_
      have hall : ∀ j, j < k → j ≠ e → On listed j := fun j hj hje => Classical.byContradiction fun hx => hn ⟨j, hj, hje, hx⟩
      have hie : i = e := Classical.byContradiction fun hne => hx (hall i hi hne)
      subst hie
      refine hre (mem_ready.2 ⟨hunl i (by omega) hx, _, by rw [List.getElem?_toArray]; exact he, fun x hxm hb => ?_⟩)
      have := g.back i _ he x hxm hb
      exact hall x.on (by omega) (by omega)
    obtain ⟨j0, hj0, hj0e, hoff0⟩ := hlow
    have hpos : ∀ (L : Array Bool) i, L.size = l.length → i < l.length → L.getD i true = false → ∃ m, (L.toList.filter (!·)).length = m + 1 ∧ ((L.setIfInBounds i true).toList.filter (!·)).length = m := fun L i hL hi hx => by
      have hi' : i < L.size := by omega
      have := count_set L.toList i (by simp [hi'] at hx; simp [hi', hx])
      exact ⟨_, this.symm, by rw [Array.toList_setIfInBounds]⟩
    obtain ⟨f0, hf0, -⟩ := hpos listed j0 h.size (by omega) (hunl j0 (by omega) hoff0)
    obtain rfl : fuel = f0 + 1 := by omega
    refine ⟨fun hr => ?_, fun i hi => ?_⟩
    · exfalso
      have full : ∀ i, i < l.length → On listed i := by
        intro i
        induction i using Nat.strongRecOn with
        | _ i ih2 =>
          intro hi
          refine Classical.byContradiction fun hno => ?_
          have ho : l[i]? = some l[i] := List.getElem?_eq_getElem hi
          have : i ∈ Region.ready .any l.toArray listed := mem_ready.2 ⟨hunl i hi hno, l[i], by rw [List.getElem?_toArray]; exact ho, fun x hx hb => by
            have hlt := g.back i _ ho x hx hb
            exact ih2 x.on hlt (by omega)⟩
          rw [hr] at this
          cases this
      exact hoff0 (full j0 (by omega))
    · have hie : i ≠ e := fun x => hre (x ▸ hi)
      obtain ⟨h1, o, ho, hall0⟩ := mem_ready.1 hi
      have ho' : l[i]? = some o := by simpa using ho
      have hilt : i < l.length := (List.getElem?_eq_some_iff.1 ho').1
      have hil : i < listed.size := by rw [h.size]; exact hilt
      have hno : ¬ On listed i := by
        unfold On
        simp [hil] at h1 ⊢
        exact h1
      have hall : ∀ x ∈ o.after, Region.binds .any x = true → On listed x.on := fun x hx hb => hall0 x hx hb
      have hik : i < k := by
        by_cases h2 : i < k
        · exact h2
        · exact absurd (h.maskReady ho' hall (hte i (by omega) hilt j0 (by omega) hj0e)) hoff0
      obtain ⟨f1, hf1, hcnt⟩ := hpos listed i h.size hilt h1
      obtain rfl : f1 = f0 := by omega
      refine h.step g hkl hC hE hΦ hRr ho' hno hall (hs i o ho' hik) fun a' w' h' => ?_
      have hoff' : ∀ j, On (listed.setIfInBounds i true) j → j < k := fun j hx => by
        rcases (on_set hil).1 hx with rfl | h3
        · exact hik
        · exact hoff j h3
      by_cases hre' : e ∈ Region.ready .any l.toArray (listed.setIfInBounds i true)
      · obtain ⟨q1, oe', hoe, hq⟩ := mem_ready.1 hre'
        have hoe' : l[e]? = some oe' := by simpa using hoe
        obtain rfl := Option.some.inj (he.symm.trans hoe')
        have helt : e < l.length := by omega
        have hel : e < (listed.setIfInBounds i true).size := by rw [h'.size]; exact helt
        have hnoe : ¬ On (listed.setIfInBounds i true) e := by
          unfold On
          rw [Array.getD_eq_getD_getElem?] at q1 ⊢
          rw [Array.getElem?_eq_getElem hel] at q1 ⊢
          simp only [Option.getD_some] at q1 ⊢
          rw [q1]
          decide
        have hw := h'.step g hkl hC hE hΦ hRr he hnoe (fun x hx hb => hq x hx hb) (hs e _ he hek) (K := fun a2 w2 => Inv l (fun _ => []) (fun _ => Ext w0) (fun _ _ => True) Φ a0 ((listed.setIfInBounds i true).setIfInBounds e true) a2 w2) (Q := fun _ _ _ => False) (fun _ _ hx => hx)
        obtain ⟨x, hy, hK⟩ := extract_yields he hw
        obtain ⟨f2, hf2, hcnt2⟩ := hpos _ e h'.size helt q1
        obtain rfl : f1 = f2 + 1 := by omega
        refine wpAny_first hoe (Region.noSelect_spec hsel) (hQp x) f2 _ a' w' (fun j oj hoj hje hjun hjno => ?_) hre' hy (ih f2 (by omega) _ _ _ hcnt2 (fun j hx => ?_) (fun hx => ?_) hK)
        · have hoj' : l[j]? = some oj := by simpa using hoj
          have hjl : j < l.length := (List.getElem?_eq_some_iff.1 hoj').1
          have hfj := List.all_eq_true.1 hfr j (by simpa using hjl)
          rw [hoj'] at hfj
          simp only [Bool.or_eq_true] at hfj
          rcases hfj with h3 | h3 | h3 | h3
          · exact absurd (Nat.eq_of_beq_eq_true h3) hje
          · obtain ⟨y, hy1, hy2⟩ := Array.any_eq_true'.1 h3
            simp only [Bool.and_eq_true, beq_iff_eq] at hy2
            exact absurd hy2.2 (hjno y hy1 hy2.1)
          · exact h3
          · have hon := h'.maskReady he (fun x hx hb => hq x hx hb) h3
            have hjl' := hon.lt
            unfold On at hon
            rw [Array.getD_eq_getD_getElem?, Array.getElem?_eq_getElem hjl'] at hon hjun
            simp only [Option.getD_some] at hon hjun
            rw [hon] at hjun
            cases hjun
        · rcases (on_set hel).1 hx with rfl | h3
          · exact hek
          · exact hoff' j h3
        · have := (mem_ready.1 hx).1
          simp [hel] at this
      · exact ih f1 (by omega) _ _ _ hcnt hoff' hre' h'
end
section
variable {P : Program} {n : Nat} {ρ : Slots} {w : World} {Q : PostF}
theorem wpF_draw_late {l r : List Oper} (e k0 : Nat) (Φs : List Fact) {id : Nat} (hm : P.follows .mixedOrders = true) (ds : List Tmp) (hg : goodB l n = true) {d t : Tmp} {m : Nat} {ty : TypeId} {pos : String} {af : Array Edge} (he : l[e]? = some ⟨some d, .extract (.tmp t) m, ty, pos, af, none⟩) (hsel : Region.noSelect l.toArray = true)
    (hn : tailE l k0 e = true) (hfr : freeE l ⟨some d, .extract (.tmp t) m, ty, pos, af, none⟩ e = true) (haf : af.any (fun x => Region.binds .any x) = true) (hk0 : Nat.ble Φs.length k0 = true) (hds : slotsW l = ds) (hr : (l.drop k0) = r) (hlt : Nat.blt k0 l.length = true) (hst : AllStab Ext Φs)
    (hQp : ∀ c ρ ρ' w, Q (.panic c) ρ w → Q (.panic c) ρ' w)
    (hs : StepsFC P l k0 (fun _ => Ext w) (fun _ => Ext) (facts Φs) ρ 0 l)
    (hQ : ∀ (ρ' : Slots) w1, Ext w w1 → EndF ds ρ ρ' → EndFacts l (fun _ => []) (facts Φs) ρ' w1 ds → opsF P l.toArray n Q r ρ' w1) : wpF P n (.region id l.toArray true) Q ρ w := by
  intro a ha
  obtain ⟨T, df⟩ := a
  have hz : T.size = n := ha.size
  subst hz
  have hk1 : k0 < l.length := Nat.le_of_ble_eq_true hlt
  have g := good_of hg
  have hno0 : ∀ i, ¬ On (Array.replicate l.toArray.size false) i := fun i h => by
    unfold On at h
    rw [Array.getD_eq_getD_getElem?, Array.getElem?_replicate] at h
    split at h <;> simp at h
  refine wp_region_any hm (anyInvE (a0 := { tmps := T, defers := df }) (w0 := w) (Φ := facts Φs) g hsel he hn hfr (Nat.le_of_lt hk1) (fun i => hst.get Φs i) (fun i o ho hi => ?_) (fun v c a' w' hx => ?_) (fun listed a' w' hon h => ?_) _ _ _ _ (by simp) (fun i h => absurd h (hno0 i)) ?_ ?_)
  · have hst := StepsFC.get l 0 hs i o ho (by omega)
    rw [Nat.zero_add] at hst
    have h2 := StepsF.ok (P := P) (l := l) (C := fun _ => Ext w) (R := fun _ => Ext) (Φ := facts Φs) (T := T) ha.get [o] i ⟨hst, trivial⟩
    exact h2.1
  · obtain ⟨ρ', hf, hq⟩ := hx
    exact ⟨fun t => a'.tmps.getD t undef, ⟨by have := hf.size; simpa [Act.put] using this, by have := hf.defers; simpa [Act.put] using this, fun _ => rfl⟩, hQp _ _ _ _ hq⟩
  · have hw : ∀ d k, writer l d l.length = some k → (List.range l.length).all (fun n => !([] : List Nat).contains k) = true → facts Φs k (a'.tmps.getD d undef) w' := fun d k hk hall => by
      obtain ⟨h1, ⟨o, ho, hd'⟩, h3⟩ := writer_some _ hk
      by_cases hkL : k0 ≤ k
      · have e : facts Φs k = fun _ _ => True := by
          have := Nat.le_of_ble_eq_true hk0
          unfold facts
          rw [List.getD_eq_getElem?_getD, List.getElem?_eq_none (by omega)]
          rfl
        rw [e]
        trivial
      exact h.new d k o ho hd' ((hon k).2 (by omega)) (fun k' o' hkk ho' hd'' _ => h3 k' o' hkk (List.getElem?_eq_some_iff.1 ho').1 ho' hd'') (fun n hn => by simp)
    have hget : ∀ t, a'.tmps.getD t undef = if t ∈ ds then a'.tmps.getD t undef else ρ t := fun t => by
      by_cases hn : t ∈ ds
      · rw [if_pos hn]
      · rw [if_neg hn, ← ha.get]
        exact h.old t fun k o ho hd _ => hn (by
          rw [← hds]
          unfold slotsW
          rw [List.mem_eraseDups, List.mem_filterMap]
          exact ⟨o, List.mem_of_getElem? ho, hd⟩)
    have hcl := h.cls k0 hk1 (fun x => by have := (hon k0).1 x; omega)
    have hend : EndF ds ρ (fun t => a'.tmps.getD t undef) := ⟨fun t ht => by rw [hget t, if_neg (by simpa using ht)]⟩
    have := hQ (fun t => a'.tmps.getD t undef) w' hcl hend (endFacts_of hw ds)
    rw [hr]
    exact this a' ⟨h.tmps, h.defers.trans ha.defers, fun t => rfl⟩
  · intro hx
    obtain ⟨-, o, ho, hall⟩ := mem_ready.1 hx
    obtain rfl := Option.some.inj (he.symm.trans (by simpa using ho))
    obtain ⟨x, hx1, hx2⟩ := Array.any_eq_true'.1 haf
    exact hno0 _ (hall x hx1 hx2)
  · exact ⟨Array.size_replicate, fun i o _ h => absurd h (hno0 i), rfl, rfl, fun n hn _ => (Below.refl _ _).drew, trivial, fun t _ => rfl, fun t k o _ _ h => absurd h (hno0 k)⟩
end
open Go.RowKit
set_option maxRecDepth 100000
structure RefsOr (w : World) (z : RefsV) : Prop where
 br : OG 0 69 33 nmdC w z.2.branches z.1.branches
 tg : OG 0 69 33 nmdC w z.2.tags z.1.tags
 lg : OG 0 122 67 entC w z.2.log z.1.log
theorem one_add {r : Refs} {y : Upd} {e : Ent} : addlog (oneP r y).2 e = ⟨(oneP r y).2.branches, (oneP r y).2.tags, (oneP r y).2.head, (oneP r y).2.at_, r.log ++ [e]⟩ := by unfold addlog; rw [oneP_log]
theorem wr43_al49 {d : Option Tmp} {ty : TypeId} {pos : String} {af : Array Edge} {gd : Option (Nat × Bool)} (σ : Operand → Value) (w : World) : (execOp σ ⟨d, .alloc 49, ty, pos, af, gd⟩).run Tryd.prog w = .ok (.value (PQ w.heap.size 0)) (w.alloc (.cells (refsC ((⟨[], [], [], zid, []⟩, ⟨.slice none 0 0, .slice none 0 0, .slice none 0 0⟩) : RefsV)).toArray 49)) := by kernel_rfl
theorem wr43_ty49 : ∃ fs, Tryd.prog.underlying 49 = some (.struct fs) := struct_of (by kernel_rfl)
theorem wr43_isz49 : (Tryd.prog.info? 49).map (·.size) = some 36 := by kernel_rfl
theorem wr43_pl32 : Plain Tryd.prog 32 := fun _ _ => by kernel_rfl
theorem wr43_pl78 : Plain Tryd.prog 78 := fun _ _ => by kernel_rfl
theorem wr43_pl79 : Plain Tryd.prog 79 := fun _ _ => by kernel_rfl
theorem wr43_ty22 : Tryd.prog.underlying 22 = some (.slice 67) := by kernel_rfl
theorem wr43_szg67 : ∀ w' : World, (sizeOf 67).run Tryd.prog w' = .ok 66 w' := fun _ => by kernel_rfl
theorem wr43_ty67 : ∃ fs, Tryd.prog.underlying 67 = some (.struct fs) := struct_of (by kernel_rfl)
theorem wr43_isz67 : (Tryd.prog.info? 67).map (·.size) = some 66 := by kernel_rfl
theorem wr43_pl80 : Plain Tryd.prog 80 := fun _ _ => by kernel_rfl
theorem wr43_fo49_4 : FieldOff Tryd.prog 49 4 35 := fun b o w => by simp [go_sem]
theorem wr43_ty47 : Tryd.prog.underlying 47 = some (.slice 122) := by kernel_rfl
theorem wr43_bdE : ∀ (cs : Array Value), cs.size = 66 → ∀ (s : ByteArray) (w : World), (Instr.build 122 #[(0, Value.agg cs), (1, Value.string s)]).run Tryd.prog w = .ok (.agg (cs.toList ++ [Value.string s]).toArray) w
 | ⟨c0 :: c1 :: c2 :: c3 :: c4 :: c5 :: c6 :: c7 :: c8 :: c9 :: c10 :: c11 :: c12 :: c13 :: c14 :: c15 :: c16 :: c17 :: c18 :: c19 :: c20 :: c21 :: c22 :: c23 :: c24 :: c25 :: c26 :: c27 :: c28 :: c29 :: c30 :: c31 :: c32 :: c33 :: c34 :: c35 :: c36 :: c37 :: c38 :: c39 :: c40 :: c41 :: c42 :: c43 :: c44 :: c45 :: c46 :: c47 :: c48 :: c49 :: c50 :: c51 :: c52 :: c53 :: c54 :: c55 :: c56 :: c57 :: c58 :: c59 :: c60 :: c61 :: c62 :: c63 :: c64 :: c65 :: []⟩, _, s, w => by kernel_rfl
theorem wr43_lh47 (c0 c1 c2 c3 c4 c5 c6 c7 c8 c9 c10 c11 c12 c13 c14 c15 c16 c17 c18 c19 c20 c21 c22 c23 c24 c25 c26 c27 c28 c29 c30 c31 c32 c33 c34 c35 c36 c37 c38 c39 c40 c41 c42 c43 c44 c45 c46 c47 c48 c49 c50 c51 c52 c53 c54 c55 c56 c57 c58 c59 c60 c61 c62 c63 c64 c65 c66 : Value) (w : World) : (Instr.buildSlice 47 1 #[(0, .agg #[c0, c1, c2, c3, c4, c5, c6, c7, c8, c9, c10, c11, c12, c13, c14, c15, c16, c17, c18, c19, c20, c21, c22, c23, c24, c25, c26, c27, c28, c29, c30, c31, c32, c33, c34, c35, c36, c37, c38, c39, c40, c41, c42, c43, c44, c45, c46, c47, c48, c49, c50, c51, c52, c53, c54, c55, c56, c57, c58, c59, c60, c61, c62, c63, c64, c65, c66])]).run Tryd.prog w = .ok (.slice (some ⟨w.heap.size, 0, none⟩) 1 1) (w.alloc (.cells #[c0, c1, c2, c3, c4, c5, c6, c7, c8, c9, c10, c11, c12, c13, c14, c15, c16, c17, c18, c19, c20, c21, c22, c23, c24, c25, c26, c27, c28, c29, c30, c31, c32, c33, c34, c35, c36, c37, c38, c39, c40, c41, c42, c43, c44, c45, c46, c47, c48, c49, c50, c51, c52, c53, c54, c55, c56, c57, c58, c59, c60, c61, c62, c63, c64, c65, c66] 122)) := by kernel_rfl
theorem wr43_lg47 : ∀ (cs : Array Value), cs.size = 67 → ∀ w : World, (Instr.buildSlice 47 1 #[(0, .agg cs)]).run Tryd.prog w = .ok (.slice (some ⟨w.heap.size, 0, none⟩) 1 1) (w.alloc (.cells cs 122))
 | ⟨c0 :: c1 :: c2 :: c3 :: c4 :: c5 :: c6 :: c7 :: c8 :: c9 :: c10 :: c11 :: c12 :: c13 :: c14 :: c15 :: c16 :: c17 :: c18 :: c19 :: c20 :: c21 :: c22 :: c23 :: c24 :: c25 :: c26 :: c27 :: c28 :: c29 :: c30 :: c31 :: c32 :: c33 :: c34 :: c35 :: c36 :: c37 :: c38 :: c39 :: c40 :: c41 :: c42 :: c43 :: c44 :: c45 :: c46 :: c47 :: c48 :: c49 :: c50 :: c51 :: c52 :: c53 :: c54 :: c55 :: c56 :: c57 :: c58 :: c59 :: c60 :: c61 :: c62 :: c63 :: c64 :: c65 :: c66 :: []⟩, _, w => wr43_lh47 c0 c1 c2 c3 c4 c5 c6 c7 c8 c9 c10 c11 c12 c13 c14 c15 c16 c17 c18 c19 c20 c21 c22 c23 c24 c25 c26 c27 c28 c29 c30 c31 c32 c33 c34 c35 c36 c37 c38 c39 c40 c41 c42 c43 c44 c45 c46 c47 c48 c49 c50 c51 c52 c53 c54 c55 c56 c57 c58 c59 c60 c61 c62 c63 c64 c65 c66 w
theorem wr43_ig122 : ∃ z, (Tryd.prog.info? 122).map (fun i => (i.zero, i.size, i.bytes)) = some (some z, 67, 104) ∧ z.cells.size = 67 := info_ex (by kernel_rfl)
theorem wr43_isz47 : (Tryd.prog.info? 47).map (·.size) = some 1 := by kernel_rfl
theorem wr43_l0_47 (w : World) : (Instr.buildSlice 47 0 #[]).run Tryd.prog w = .ok (.slice (some ⟨w.heap.size, 0, none⟩) 0 0) (w.alloc (.cells #[] 122)) := by kernel_rfl
theorem wr43_szg122 : ∀ w' : World, (sizeOf 122).run Tryd.prog w' = .ok 67 w' := fun _ => by kernel_rfl
set_option maxHeartbeats 1600000
theorem refApply20_any (w : World) (z0 : RefsV) (hm : RefsAt w z0) (hL : RefsLt z0.1) (lv : Value) (l : List Upd) (hr : RG 66 updC w lv l) (hl : l.length ≤ 1000) (hln : ∀ u ∈ l, u.name.length ≤ 9223372036854775807) (note : Bs) :
  Calls Tryd.prog 28 #[.agg (refsC z0).toArray, lv, St note] w fun e w' => ∃ v, e = .returned (.tuple #[.agg (refsC ((applyP z0.1 l note).2, v)).toArray, NI (applyP z0.1 l note).1]) ∧ RefsOr w' ((applyP z0.1 l note).2, v) ∧ Ext w w' := by
 have hmt := hm.branches
 have hmg := hm.tags
 have hml := hm.log
 refine calls_of_wpF (args := [.agg (refsC z0).toArray, lv, St (note)]) Tryd.func28 rfl 68 rfl (Nat.le_of_ble_eq_true rfl) ?_
 intro ρ0 hb
 have T0 : ρ0 0 = (.agg (refsC z0).toArray : Value) := hb.get 0
 have T1 : ρ0 1 = (lv : Value) := hb.get 1
 have T2 : ρ0 2 = (St (note) : Value) := hb.get 2
 clear hb
 have hE := Ext.refl w
 refine sk fun K1 hK1 => (wt (oS rfl (Yk.box (cs := (refsC z0 : List Value).toArray) T0 fun n2 w3 hn4 hb5 hx6 hs7 => ?_)))
 have hE := hE.trans hx6
 have hb8 := hb5; clear hb5
 have hl9 : n2 < w3.heap.size := by omega
 refine oS rfl (Yk.alloc (cs := (refsC ((⟨[], [], [], zid, []⟩, ⟨.slice none 0 0, .slice none 0 0, .slice none 0 0⟩) : RefsV)).toArray) wr43_al49 fun n10 w11 hn12 hb13 hx14 hs15 => ?_)
 have hA16 := Ext.refl w3
 have hea17 := hE
 have hz18 := hE.size
 have hlt19 := lte (bl hb8) hn12
 have hE := hE.trans hx14
 have hb8 := eb hx14 hb8
 have hA16 := hA16.trans hx14
 have hb20 := hb13; clear hb13
 have hl21 : n10 < w11.heap.size := by omega
 refine oA rfl (oZ (tN (hK1 _ _ (sk fun K22 hK22 => (sk fun K23 hK23 => (wt (oS rfl (Yk.loadAll (vr (PQ n2 0) rfl) hb8 (wr43_ty49).choose_spec rfl (st_isz (refs_len z0) wr43_isz49) (oS rfl (Yk.callA1 wr43_pl32 (vr (.agg (refsC z0).toArray) rfl) ((rfright_any _ z0 ⟨(hmt.keep hE), (hmg.keep hE), (hml.keep hE)⟩ hL).mono ?_)))))))))))
 rintro e w25 ⟨rfl, hx24⟩
 refine ⟨_, rfl, ?_⟩
 have hE := hE.trans hx24
 have hb8 := eb hx24 hb8
 have hA16 := hA16.trans hx24
 have hb20 := eb hx24 hb20
 refine oS rfl (Yk.notB (vr (.bool (rightF z0.1)) rfl) (oM rfl (opsF_mayV (St (note)) rfl rfl (gF (vr (.bool (!(rightF z0.1))) rfl)) (fun hG26 => Yk.move T2 ⟨rfl, rfl⟩) (opsF_mayC (.bool (noteB note)) rfl rfl (gF (vr (.bool (!(rightF z0.1))) rfl)) (fun hG27 => Yk.callA1 wr43_pl78 (mayT (vr (cond (!(!(rightF z0.1))) (St (note)) undef) rfl) hG27) ((refNote_any _ note).mono (by rintro e w2 ⟨rfl, hx⟩; exact ⟨_, rfl, rfl, hx⟩))) fun w29 hx30 => ?_))))
 have hE := hE.trans hx30
 have hb8 := eb hx30 hb8
 have hA16 := hA16.trans hx30
 have hb20 := eb hx30 hb20
 refine opsF_mayV (.bool (!(noteB note))) rfl rfl (gF (vr (.bool (!(rightF z0.1))) rfl)) (fun hG31 => Yk.notB (mayT (vr (cond (!(!(rightF z0.1))) (.bool (noteB note)) undef) rfl) hG31) ⟨rfl, rfl⟩) (oS rfl (Yk.pickOrN (vr (.bool (!(rightF z0.1))) rfl) (vr (.bool (true)) rfl) (fun hA => (mayT (vr (cond (!(!(rightF z0.1))) (.bool (!(noteB note))) undef) rfl) (not_i hA))) fun bb32 hbb33 => (oZ (tN (hK23 _ _ ?_)))))
 refine wpF_condB (bb32) (vr (.bool (bb32)) rfl) (fun hc0 => ?_) (fun hc0 => ?_)
 ·subst hbb33
  have h0c : ((!rightF z0.1) || (!noteB note)) = true := hc0
  refine sk fun K34 hK34 => (wt (oS rfl (Yk.run (v := .agg (refsC ((⟨[], [], [], zid, []⟩, ⟨.slice none 0 0, .slice none 0 0, .slice none 0 0⟩) : RefsV)).toArray) (by kernel_rfl) (oS rfl (Yk.storeAll (vr (PQ n10 0) rfl) (vr (.agg (refsC ((⟨[], [], [], zid, []⟩, ⟨.slice none 0 0, .slice none 0 0, .slice none 0 0⟩) : RefsV)).toArray) rfl) hb20 (by simp only [List.size_toArray, refs_len]) (st_isz (refs_len _) wr43_isz49) (refs_one (x := ((⟨[], [], [], zid, []⟩, ⟨.slice none 0 0, .slice none 0 0, .slice none 0 0⟩) : RefsV)) rfl rfl rfl) fun w35 hb36 hg37 hs38 => ?_)))))
  have hE := row_fresh hE hg37 (Nat.le_trans hz18 (by omega))
  have hb8 := kb hg37 hb8 (by omega)
  have hA16 := row_fresh hA16 hg37 (Nat.le_trans (Nat.le_refl _) (by omega))
  clear hb20
  have hb20 : w35.heap[n10]? = some (.cells (refsC ((⟨[], [], [], zid, []⟩, ⟨.slice none 0 0, .slice none 0 0, .slice none 0 0⟩) : RefsV)).toArray 49 (0, 0)) := hb36; clear hb36
  have hl39 := bl hb20
  refine oA rfl (oZ (tN (hK34 _ _ (wpF_ret (thenF_ret (postF_ret (fn := Tryd.f28) _ rfl [.agg (refsC ((⟨[], [], [], zid, []⟩, ⟨.slice none 0 0, .slice none 0 0, .slice none 0 0⟩) : RefsV)).toArray, NI 1] (.tuple #[.agg (refsC ((⟨[], [], [], zid, []⟩, ⟨.slice none 0 0, .slice none 0 0, .slice none 0 0⟩) : RefsV)).toArray, NI 1]) rfl ⟨ResF.row rfl hb20 (wr43_ty49).choose_spec rfl (st_isz (refs_len _) wr43_isz49), rfl, trivial⟩ ?_))))))
  have hAp := applyP_bad (l := l) h0c
  exact ⟨⟨.slice none 0 0, .slice none 0 0, .slice none 0 0⟩, by rw [hAp], by rw [hAp]; exact ⟨OG.nil _ _ _ _ _, OG.nil _ _ _ _ _, OG.nil _ _ _ _ _⟩, hE⟩
 subst hbb33
 have h0c : ((!rightF z0.1) || (!noteB note)) = false := hc0
 have hrt : rightF z0.1 = true := by simp only [Bool.or_eq_false_iff, Bool.not_eq_false'] at h0c; exact h0c.1
 have hS0 := rightF_sorted hrt
 have hlg0 := (rightF_lists hrt).2.2
 have hb0 := hS0.bl
 have ht0 := hS0.tl
 refine wpF_skip (tN (hK22 _ _ (sk fun K40 hK40 => (wt (oS rfl (Yk.loadAll (vr (PQ n2 0) rfl) hb8 (wr43_ty49).choose_spec rfl (st_isz (refs_len z0) wr43_isz49) ?_))))))
 have hz_ := hE.size
 refine oS rfl (Yk.callA1 wr43_pl79 (vr (.agg (refsC z0).toArray) rfl) ((refCopyR_any _ z0 ⟨(hmt.keep hE), (hmg.keep hE), (hml.keep hE)⟩ (by omega) (by omega) (by omega)).mono ?_))
 rintro e w46 ⟨v41, rfl, ho42, ho43, ho44, hx45⟩
 refine ⟨_, rfl, ?_⟩
 have hE := hE.trans hx45
 have hb8 := eb hx45 hb8
 have hA16 := hA16.trans hx45
 have hb20 := eb hx45 hb20
 have ho42 := OG.low ho42 (Nat.zero_le _)
 have ho43 := OG.low ho43 (Nat.zero_le _)
 have ho44 := OG.low ho44 hz_
 have hap47 := OG.off ho42 hb8 (by decide)
 have hap48 := OG.off ho43 hb8 (by decide)
 have hap49 := OG.off ho44 hb8 (by decide)
 refine oS rfl (Yk.storeAll (vr (PQ n2 0) rfl) (vr (.agg (refsC (z0.1, v41)).toArray) rfl) hb8 (by simp only [List.size_toArray, refs_len]) (st_isz (refs_len _) wr43_isz49) (refs_one (x := (z0.1, v41)) (RG.one (RG.ofOwn ho42)).2 (RG.one (RG.ofOwn ho43)).2 (RG.one (RG.ofOwn ho44)).2) fun w50 hb51 hg52 hs53 => ?_)
 have hE := row_fresh hE hg52 (Nat.le_trans (Nat.le_refl _) (by omega))
 clear hA16
 have hb20 := kb hg52 hb20 (by omega)
 have ho42 := OG.kept ho42 hg52 hap47
 have ho43 := OG.kept ho43 hg52 hap48
 have ho44 := OG.kept ho44 hg52 hap49
 clear hb8
 have hb8 : w50.heap[n2]? = some (.cells (refsC (z0.1, v41)).toArray 49 (0, 0)) := hb51; clear hb51
 have hl54 := bl hb8
 refine oZ (tN (hK40 _ _ (sk fun K55 hK55 => (sk fun K56 hK56 => (wt (oA rfl (oL_ [(0, .agg (refsC z0).toArray), (1, lv), (2, St (note)), (3, PQ n2 0), (6, PQ n10 0), (7, NI 0), (8, NI 0)] ⟨T0, T1, T2, rfl, rfl, rfl, rfl, trivial⟩ fun ρ57 ⟨T0, T1, T2, T3, T6, T7, T8, _⟩ => (tN (hK56 _ _ (wpF_block (wpF_loop (fun (ρ : Slots) (wz : World) => ∃ i : Nat, ∃ z : RefsV, ρ 0 = (.agg (refsC z0).toArray : Value) ∧ ρ 1 = (lv : Value) ∧ ρ 2 = (St (note) : Value) ∧ ρ 3 = (PQ n2 0 : Value) ∧ ρ 6 = (PQ n10 0 : Value) ∧ ρ 8 = (NI i : Value) ∧ Ext w wz ∧ wz.heap[n10]? = some (.cells (refsC ((⟨[], [], [], zid, []⟩, ⟨.slice none 0 0, .slice none 0 0, .slice none 0 0⟩) : RefsV)).toArray 49 (0, 0)) ∧ wz.heap[n2]? = some (.cells (refsC z).toArray 49 (0, 0)) ∧ OG 0 69 33 nmdC wz z.2.branches z.1.branches ∧ OG 0 69 33 nmdC wz z.2.tags z.1.tags ∧ OG w.heap.size 122 67 entC wz z.2.log z.1.log ∧ (i ≤ l.length) ∧ (runP note z0.1 l = runP note z.1 (l.drop i)) ∧ (Sorted z.1) ∧ (z.1.log.length ≤ 64 + i) ∧ True) (fun ρ _ => l.length - (intOf (ρ 8)).toNat) ⟨0, (z0.1, v41), T0, T1, T2, T3, T6, T8, hE, hb20, hb8, ho42, ho43, ho44, Nat.zero_le _, rfl, hS0, (show z0.1.log.length ≤ 64 + 0 by omega), trivial⟩ ?_)))))))))))
 clear ho42
 clear ho43
 clear ho44
 clear hb8
 clear hE hb20
 rintro ρ58 w59 ⟨i, z, T0, T1, T2, T3, T6, T8, hE, hb20, hb3, hB, hT, hlg, hi, hrun, hS, hlog, -⟩
 have q8 := T8
 refine sk fun K60 hK60 => (sk fun K61 hK61 => (wt (oM rfl (oM rfl (oS rfl (Yk.lenRG wr43_ty22 (RG.of (hr.keep hE) T1) (oS rfl (Yk.eqI (a := (i : Nat)) (b := (l.length : Nat)) T8 rfl (k_lss _ _ _ _) (oZ (tN (hK61 _ _ ?_)))))))))))
 refine wpF_cond ((i) < (l.length)) (vr (.bool (decide ((i) < (l.length)))) rfl) (fun hc1 => ?_) (fun hc1 => ?_)
 ·have hlt : i < l.length := hc1
  refine wpF_skip (tN (hK60 _ _ (sk fun K62 hK62 => (wpF_block (sk fun K63 hK63 => ?_)))))
  have hA64 := Ext.refl w59
  have hea65 := hE
  have hz66 := hE.size
  have hlt67 : n10 < w59.heap.size := (bl hb20)
  have hlt68 : n2 < w59.heap.size := (bl hb3)
  have hnw69 : ∀ g, w59.heap.size ≤ g → OB z.2.branches g := fun g hg => own_newer hB.2 hg
  have hnw70 : ∀ g, w59.heap.size ≤ g → OB z.2.tags g := fun g hg => own_newer hT.2 hg
  have hnw71 : ∀ g, w59.heap.size ≤ g → OB z.2.log g := fun g hg => own_newer hlg.2 hg
  refine wpF_draw_late 8 10 [Is (.agg (refsC z).toArray), Is (lv), Is (NI i), fun x w' => PR (updC (l.getD (i) dUpd)) x w', Is (.agg (updC (l.getD (i) dUpd)).toArray), fun x w' => ∃ b t, x = .tuple #[.agg (refsC ((oneP z.1 (l.getD i dUpd)).2, ⟨b, t, z.2.log⟩)).toArray, NI (oneP z.1 (l.getD i dUpd)).1] ∧ OG 0 69 33 nmdC w' b (oneP z.1 (l.getD i dUpd)).2.branches ∧ OG 0 69 33 nmdC w' t (oneP z.1 (l.getD i dUpd)).2.tags, fun x w' => ∃ b t, x = .tuple #[.agg (refsC ((oneP z.1 (l.getD i dUpd)).2, ⟨b, t, z.2.log⟩)).toArray, NI (oneP z.1 (l.getD i dUpd)).1] ∧ OG 0 69 33 nmdC w' b (oneP z.1 (l.getD i dUpd)).2.branches ∧ OG 0 69 33 nmdC w' t (oneP z.1 (l.getD i dUpd)).2.tags, fun x w' => ∃ b t, x = .agg (refsC ((oneP z.1 (l.getD i dUpd)).2, ⟨b, t, z.2.log⟩)).toArray ∧ OG 0 69 33 nmdC w' b (oneP z.1 (l.getD i dUpd)).2.branches ∧ OG 0 69 33 nmdC w' t (oneP z.1 (l.getD i dUpd)).2.tags, Is (NI ((oneP z.1 (l.getD i dUpd)).1)), fun x w' => ∃ g, x = PQ g 0 ∧ w'.heap[g]? = some (.cells (refsC ((⟨[], [], [], zid, []⟩, ⟨.slice none 0 0, .slice none 0 0, .slice none 0 0⟩) : RefsV)).toArray 49 (0, 0)) ∧ w59.heap.size ≤ g] (by kernel_rfl) [29, 30, 31, 32, 33, 34, 28, 35, 36, 9, 10] (by kernel_rfl) rfl (by kernel_rfl) (by kernel_rfl) (by kernel_rfl) (by kernel_rfl) (by kernel_rfl) (by kernel_rfl) rfl rfl (si3 ⟨(fun _ _ _ h k => PR.keep h k), Stab.is _, (fun _ _ _ ⟨b, t, h1, h2, h3⟩ k => ⟨b, t, h1, h2.keep k, h3.keep k⟩), (fun _ _ _ ⟨b, t, h1, h2, h3⟩ k => ⟨b, t, h1, h2.keep k, h3.keep k⟩), (fun _ _ _ ⟨b, t, h1, h2, h3⟩ k => ⟨b, t, h1, h2.keep k, h3.keep k⟩), Stab.is _, (fun _ _ _ ⟨g, h1, h2, h3⟩ k => ⟨g, h1, eb k h2, h3⟩), trivial⟩) (fun _ _ _ _ h => h) ?hs1007 ?hQ1007
  case hs1007 =>
   refine ⟨?_, ?_, ?_, ?_, ?_, ?_, ?_, ?_, ?_, ?_, ?_, ?_, trivial⟩
   ·refine stepFC (stepN rfl fun σ w1 hC h => ?_)
    have e3 := (eqo (h 3 (by decide))).trans T3
    exact Yk.loadAll e3 (eb hC hb3) (wr43_ty49).choose_spec rfl (st_isz (refs_len z) wr43_isz49) ⟨Ext.refl _, rfl⟩
   ·refine stepFC (stepN rfl fun σ w1 hC h => ?_)
    have e1 := (eqo (h 1 (by decide))).trans T1
    exact Yk.move e1 ⟨Ext.refl _, rfl⟩
   ·refine stepFC (stepN rfl fun σ w1 hC h => ?_)
    have e8 := (eqo (h 8 (by decide))).trans T8
    exact Yk.move e8 ⟨Ext.refl _, rfl⟩
   ·refine stepFC (stepN rfl fun σ w1 hC h => ?_)
    have e30 := eqo (h 30 (by decide))
    have e31 := eqo (h 31 (by decide))
    exact Yk.atRG wr43_ty22 wr43_szg67 (by decide) dUpd (RG.of (hr.keep (hE.trans hC)) e30) e31 (by omega) fun v h => ⟨Ext.refl _, h⟩
   ·refine stepFC (stepN rfl fun σ w1 hC h => ?_)
    have e32 : (fun x w' => PR (updC (l.getD (i) dUpd)) x w') (σ 32) w1 := h 32 (by decide)
    exact Yk.loadPR e32 (wr43_ty67).choose_spec rfl (by rw [upd_len]; exact wr43_isz67) ⟨Ext.refl _, rfl⟩
   ·refine stepFC (stepN rfl fun σ w1 hC h => ?_)
    have e29 := eqo (h 29 (by decide))
    have e33 := eqo (h 33 (by decide))
    refine Yk.callA2 wr43_pl80 e29 e33 ((ref1_any _ z (hB.keep hC) (hT.keep hC) (RG.ofOwn (hlg.keep hC)) hS.bl hS.tl (l.getD i dUpd) (hln _ (getD_mem dUpd hlt))).mono ?_)
    rintro e w2 ⟨b, t, rfl, hb_, ht_, hx⟩
    exact ⟨_, rfl, hx, b, t, rfl, hb_, ht_⟩
   ·refine stepFC (stepN rfl fun σ w1 hC h => ?_)
    have e34 : (fun x w' => ∃ b t, x = .tuple #[.agg (refsC ((oneP z.1 (l.getD i dUpd)).2, ⟨b, t, z.2.log⟩)).toArray, NI (oneP z.1 (l.getD i dUpd)).1] ∧ OG 0 69 33 nmdC w' b (oneP z.1 (l.getD i dUpd)).2.branches ∧ OG 0 69 33 nmdC w' t (oneP z.1 (l.getD i dUpd)).2.tags) (σ 34) w1 := h 34 (by decide)
    exact Yk.move rfl ⟨Ext.refl _, e34⟩
   ·refine stepFC (stepN rfl fun σ w1 hC h => ?_)
    have e28 : (fun x w' => ∃ b t, x = .tuple #[.agg (refsC ((oneP z.1 (l.getD i dUpd)).2, ⟨b, t, z.2.log⟩)).toArray, NI (oneP z.1 (l.getD i dUpd)).1] ∧ OG 0 69 33 nmdC w' b (oneP z.1 (l.getD i dUpd)).2.branches ∧ OG 0 69 33 nmdC w' t (oneP z.1 (l.getD i dUpd)).2.tags) (σ 28) w1 := h 28 (by decide)
    obtain ⟨b, t, h1_, h2_⟩ := e28
    exact Yk.extract (vs := [.agg (refsC ((oneP z.1 (l.getD i dUpd)).2, ⟨b, t, z.2.log⟩)).toArray, NI (oneP z.1 (l.getD i dUpd)).1]) h1_ (show _ = some (Value.agg (refsC ((oneP z.1 (l.getD i dUpd)).2, ⟨b, t, z.2.log⟩)).toArray) from rfl) ⟨Ext.refl _, b, t, rfl, h2_⟩
   ·refine stepFC (stepN rfl fun σ w1 hC h => ?_)
    have e28 : (fun x w' => ∃ b t, x = .tuple #[.agg (refsC ((oneP z.1 (l.getD i dUpd)).2, ⟨b, t, z.2.log⟩)).toArray, NI (oneP z.1 (l.getD i dUpd)).1] ∧ OG 0 69 33 nmdC w' b (oneP z.1 (l.getD i dUpd)).2.branches ∧ OG 0 69 33 nmdC w' t (oneP z.1 (l.getD i dUpd)).2.tags) (σ 28) w1 := h 28 (by decide)
    obtain ⟨b, t, h1_, h2_⟩ := e28
    exact Yk.extract (vs := [.agg (refsC ((oneP z.1 (l.getD i dUpd)).2, ⟨b, t, z.2.log⟩)).toArray, NI (oneP z.1 (l.getD i dUpd)).1]) h1_ (show _ = some (NI (oneP z.1 (l.getD i dUpd)).1 : Value) from rfl) ⟨Ext.refl _, rfl⟩
   ·refine stepFC (stepN rfl fun σ w1 hC h => ?_)
    exact Yk.alloc (cs := (refsC ((⟨[], [], [], zid, []⟩, ⟨.slice none 0 0, .slice none 0 0, .slice none 0 0⟩) : RefsV)).toArray) wr43_al49 fun g w2 hn hb hx hs => ⟨hx, g, rfl, hb, Nat.le_trans (show Ext w59 w1 from hC).size (Nat.le_of_eq hn)⟩
   ·exact trivial
   ·exact trivial
  intro ρ72 w73 hx74 he hf
  obtain ⟨-, -, -, -, -, -, -, k35, k36, k9, -⟩ := hf
  obtain ⟨T0, T1, T2, T3, T6, T8, -⟩ := he.hold [(0, _), (1, _), (2, _), (3, _), (6, _), (8, _)] ⟨T0, T1, T2, T3, T6, T8, trivial⟩ rfl
  clear he
  have hE := hE.trans hx74
  have hb20 := eb hx74 hb20
  have hb3 := eb hx74 hb3
  have hB := hB.keep hx74
  have hT := hT.keep hx74
  have hlg := hlg.keep hx74
  have hA64 := hA64.trans hx74
  have k35 : (fun x w' => ∃ b t, x = .agg (refsC ((oneP z.1 (l.getD i dUpd)).2, ⟨b, t, z.2.log⟩)).toArray ∧ OG 0 69 33 nmdC w' b (oneP z.1 (l.getD i dUpd)).2.branches ∧ OG 0 69 33 nmdC w' t (oneP z.1 (l.getD i dUpd)).2.tags) (ρ72 35) w73 := k35
  obtain ⟨v75, T35⟩ : ∃ v, ρ72 35 = v := ⟨_, rfl⟩
  rw [T35] at k35
  have hk76 := k35; clear k35
  obtain ⟨v77, v78, hq_, ho79, ho80⟩ := hk76
  rw [hq_] at T35; clear hq_
  have T36 : ρ72 36 = NI ((oneP z.1 (l.getD i dUpd)).1) := k36
  have k9 : (fun x w' => ∃ g, x = PQ g 0 ∧ w'.heap[g]? = some (.cells (refsC ((⟨[], [], [], zid, []⟩, ⟨.slice none 0 0, .slice none 0 0, .slice none 0 0⟩) : RefsV)).toArray 49 (0, 0)) ∧ w59.heap.size ≤ g) (ρ72 9) w73 := k9
  obtain ⟨v81, T9⟩ : ∃ v, ρ72 9 = v := ⟨_, rfl⟩
  rw [T9] at k9
  have hk82 := k9; clear k9
  obtain ⟨n83, rfl, hb84, hn85⟩ := hk82
  have hl86 := bl hb84
  have hap87 : OB z.2.branches n83 := hnw69 _ hn85
  have hap88 : OB z.2.tags n83 := hnw70 _ hn85
  have hap89 : OB z.2.log n83 := hnw71 _ hn85
  clear k36
  have hap90 := OG.off hB hb84 (by decide)
  have hap91 := OG.off hT hb84 (by decide)
  have hap92 := OG.off hlg hb84 (by decide)
  have hap93 := OG.off ho79 hb84 (by decide)
  have hap94 := OG.off ho80 hb84 (by decide)
  refine oS rfl (Yk.storeAll T9 T35 hb84 (by simp only [List.size_toArray, refs_len]) (st_isz (refs_len _) wr43_isz49) (refs_one (x := ((oneP z.1 (l.getD i dUpd)).2, ⟨v77, v78, z.2.log⟩)) (RG.one (RG.ofOwn ho79)).2 (RG.one (RG.ofOwn ho80)).2 (RG.one (RG.ofOwn hlg)).2) fun w95 hb96 hg97 hs98 => ?_)
  have hE := row_fresh hE hg97 (Nat.le_trans hz66 (by omega))
  have hb20 := kb hg97 hb20 (by omega)
  have hb3 := kb hg97 hb3 (by omega)
  have hB := OG.kept hB hg97 hap90
  have hT := OG.kept hT hg97 hap91
  have hlg := OG.kept hlg hg97 hap92
  have hA64 := row_fresh hA64 hg97 (Nat.le_trans (Nat.le_refl _) (by omega))
  have ho79 := OG.kept ho79 hg97 hap93
  have ho80 := OG.kept ho80 hg97 hap94
  clear hb84
  have hb84 : w95.heap[n83]? = some (.cells (refsC ((oneP z.1 (l.getD i dUpd)).2, ⟨v77, v78, z.2.log⟩)).toArray 49 (0, 0)) := hb96; clear hb96
  have hl99 := bl hb84
  refine oA rfl (oZ (tN (hK63 _ _ (sk fun K100 hK100 => (sk fun K101 hK101 => (wt (oM rfl (oS rfl (Yk.eqI (a := ((oneP z.1 (l.getD i dUpd)).1 : Nat)) (b := (0 : Nat)) T36 rfl (k_neq _ _ _ _) (oZ (tN (hK101 _ _ ?_))))))))))))
  refine wpF_cond (((oneP z.1 (l.getD i dUpd)).1 : Nat) ≠ (0)) (vr (.bool (decide (((oneP z.1 (l.getD i dUpd)).1 : Nat) ≠ (0)))) rfl) (fun hc2 => ?_) (fun hc2 => ?_)
  ·have hD : (oneP z.1 (l.getD i dUpd)).1 ≠ 0 := hc2
   refine sk fun K102 hK102 => (wt (oS rfl (Yk.run (v := .agg (refsC ((⟨[], [], [], zid, []⟩, ⟨.slice none 0 0, .slice none 0 0, .slice none 0 0⟩) : RefsV)).toArray) (by kernel_rfl) (oM rfl ?_))))
   have hap103 := OG.off hB hb20 (by decide)
   have hap104 := OG.off hT hb20 (by decide)
   have hap105 := OG.off hlg hb20 (by decide)
   have hap106 := OG.off ho79 hb20 (by decide)
   have hap107 := OG.off ho80 hb20 (by decide)
   refine oS rfl (Yk.storeAll T6 (vr (.agg (refsC ((⟨[], [], [], zid, []⟩, ⟨.slice none 0 0, .slice none 0 0, .slice none 0 0⟩) : RefsV)).toArray) rfl) hb20 (by simp only [List.size_toArray, refs_len]) (st_isz (refs_len _) wr43_isz49) (refs_one (x := ((⟨[], [], [], zid, []⟩, ⟨.slice none 0 0, .slice none 0 0, .slice none 0 0⟩) : RefsV)) rfl rfl rfl) fun w108 hb109 hg110 hs111 => ?_)
   have hE := row_fresh hE hg110 (Nat.le_trans hz18 (by omega))
   have hb3 := kb hg110 hb3 (by omega)
   have hB := OG.kept hB hg110 hap103
   have hT := OG.kept hT hg110 hap104
   have hlg := OG.kept hlg hg110 hap105
   clear hA64
   have ho79 := OG.kept ho79 hg110 hap106
   have ho80 := OG.kept ho80 hg110 hap107
   have hb84 := kb hg110 hb84 (by omega)
   clear hb20
   have hb20 : w108.heap[n10]? = some (.cells (refsC ((⟨[], [], [], zid, []⟩, ⟨.slice none 0 0, .slice none 0 0, .slice none 0 0⟩) : RefsV)).toArray 49 (0, 0)) := hb109; clear hb109
   have hl112 := bl hb20
   refine oA rfl (oZ (tN (hK102 _ _ (wpF_ret (thenF_ret (inBlockF_ret (thenF_ret (thenF_ret (inBlockF_ret (thenF_ret (postF_ret (fn := Tryd.f28) _ rfl [.agg (refsC ((⟨[], [], [], zid, []⟩, ⟨.slice none 0 0, .slice none 0 0, .slice none 0 0⟩) : RefsV)).toArray, NI ((oneP z.1 (l.getD i dUpd)).1)] (.tuple #[.agg (refsC ((⟨[], [], [], zid, []⟩, ⟨.slice none 0 0, .slice none 0 0, .slice none 0 0⟩) : RefsV)).toArray, NI ((oneP z.1 (l.getD i dUpd)).1)]) rfl ⟨ResF.row T6 hb20 (wr43_ty49).choose_spec rfl (st_isz (refs_len _) wr43_isz49), T36, trivial⟩ ?_)))))))))))
   have hAp := applyP_err h0c (hrun.trans (one_err hS hlt hD)) hD
   exact ⟨⟨.slice none 0 0, .slice none 0 0, .slice none 0 0⟩, by rw [hAp], by rw [hAp]; exact ⟨OG.nil _ _ _ _ _, OG.nil _ _ _ _ _, OG.nil _ _ _ _ _⟩, hE⟩
  have hD : (oneP z.1 (l.getD i dUpd)).1 = 0 := by simpa using hc2
  refine wpF_skip (tN (hK100 _ _ (sk fun K113 hK113 => (wt (oS rfl (Yk.loadAll T9 hb84 (wr43_ty49).choose_spec rfl (st_isz (refs_len ((oneP z.1 (l.getD i dUpd)).2, ⟨v77, v78, z.2.log⟩)) wr43_isz49) ?_))))))
  have hap114 := OG.off hB hb3 (by decide)
  have hap115 := OG.off hT hb3 (by decide)
  have hap116 := OG.off hlg hb3 (by decide)
  have hap117 := OG.off ho79 hb3 (by decide)
  have hap118 := OG.off ho80 hb3 (by decide)
  refine oS rfl (Yk.storeAll T3 (vr (.agg (refsC ((oneP z.1 (l.getD i dUpd)).2, ⟨v77, v78, z.2.log⟩)).toArray) rfl) hb3 (by simp only [List.size_toArray, refs_len]) (st_isz (refs_len _) wr43_isz49) (refs_one (x := ((oneP z.1 (l.getD i dUpd)).2, ⟨v77, v78, z.2.log⟩)) (RG.one (RG.ofOwn ho79)).2 (RG.one (RG.ofOwn ho80)).2 (RG.one (RG.ofOwn hlg)).2) fun w119 hb120 hg121 hs122 => ?_)
  have hE := row_fresh hE hg121 (Nat.le_trans (Nat.le_refl _) (by omega))
  have hb20 := kb hg121 hb20 (by omega)
  have hB := OG.kept hB hg121 hap114
  have hT := OG.kept hT hg121 hap115
  have hlg := OG.kept hlg hg121 hap116
  clear hA64
  have ho79 := OG.kept ho79 hg121 hap117
  have ho80 := OG.kept ho80 hg121 hap118
  have hb84 := kb hg121 hb84 (by omega)
  clear hb3
  have hb3 : w119.heap[n2]? = some (.cells (refsC ((oneP z.1 (l.getD i dUpd)).2, ⟨v77, v78, z.2.log⟩)).toArray 49 (0, 0)) := hb120; clear hb120
  have hl123 := bl hb3
  refine oZ (tN (hK113 _ _ ?_))
  refine wpF_draw_cut 9 [Is (PQ n2 35), Is (z.2.log), Is (lv), Is (NI i), fun x w' => PR (updC (l.getD (i) dUpd)) x w', Is (.agg (updC (l.getD (i) dUpd)).toArray), Is (St (note)), Is (.agg (entC (entOf (l.getD i dUpd) note)).toArray), fun x w' => RG 67 (entC) w' x ([(entOf (l.getD i dUpd) note)])] (by kernel_rfl) [42, 43, 44, 45, 46, 47, 48, 49, 50, 51, 52] (by kernel_rfl) (by kernel_rfl) (by kernel_rfl) (by kernel_rfl) rfl rfl (si4 ⟨(fun _ _ _ h k => PR.keep h k), (si3 ⟨(fun _ _ _ h k => RG.keep h k), trivial⟩)⟩) ?hs2011 ?hQ2011
  case hs2011 =>
   refine ⟨?_, ?_, ?_, ?_, ?_, ?_, ?_, ?_, ?_, ?_, ?_, ?_, trivial⟩
   ·refine stepFC (stepN rfl fun σ w1 hC h => ?_)
    have e3 := (eqo (h 3 (by decide))).trans T3
    exact Yk.fieldAt wr43_fo49_4 e3 ⟨Ext.refl _, rfl⟩
   ·refine stepFC (stepN rfl fun σ w1 hC h => ?_)
    have e42 := eqo (h 42 (by decide))
    exact Yk.cell1 wr43_ty47 rfl e42 (cellAt (eb hC hb3) (show (refsC ((oneP z.1 (l.getD i dUpd)).2, ⟨v77, v78, z.2.log⟩))[35]? = some (z.2.log : Value) from refs_g4 ((oneP z.1 (l.getD i dUpd)).2, ⟨v77, v78, z.2.log⟩))) ⟨Ext.refl _, rfl⟩
   ·refine stepFC (stepN rfl fun σ w1 hC h => ?_)
    have e1 := (eqo (h 1 (by decide))).trans T1
    exact Yk.move e1 ⟨Ext.refl _, rfl⟩
   ·refine stepFC (stepN rfl fun σ w1 hC h => ?_)
    have e8 := (eqo (h 8 (by decide))).trans T8
    exact Yk.move e8 ⟨Ext.refl _, rfl⟩
   ·refine stepFC (stepN rfl fun σ w1 hC h => ?_)
    have e44 := eqo (h 44 (by decide))
    have e45 := eqo (h 45 (by decide))
    exact Yk.atRG wr43_ty22 wr43_szg67 (by decide) dUpd (RG.of (hr.keep (hE.trans hC)) e44) e45 (by omega) fun v h => ⟨Ext.refl _, h⟩
   ·refine stepFC (stepN rfl fun σ w1 hC h => ?_)
    have e46 : (fun x w' => PR (updC (l.getD (i) dUpd)) x w') (σ 46) w1 := h 46 (by decide)
    exact Yk.loadPR e46 (wr43_ty67).choose_spec rfl (by rw [upd_len]; exact wr43_isz67) ⟨Ext.refl _, rfl⟩
   ·refine stepFC (stepN rfl fun σ w1 hC h => ?_)
    have e2 := (eqo (h 2 (by decide))).trans T2
    exact Yk.move e2 ⟨Ext.refl _, rfl⟩
   ·refine stepFC (stepN rfl fun σ w1 hC h => ?_)
    have e47 := eqo (h 47 (by decide))
    have e48 := eqo (h 48 (by decide))
    exact Yk.build2 e47 e48 (fun w => (wr43_bdE _ (by rw [List.size_toArray]; exact upd_len _) _ w).trans (by rw [List.toList_toArray, entC_of])) ⟨Ext.refl _, rfl⟩
   ·refine stepFC (stepN rfl fun σ w1 hC h => ?_)
    have e49 := eqo (h 49 (by decide))
    exact Yk.lit1G (a := (entOf (l.getD i dUpd) note)) (enc := entC) e49 (ent_len _) wr43_lg47 fun v w2 h hx => ⟨hx, h⟩
   ·exact trivial
   ·exact trivial
   ·exact trivial
  intro ρ124 w125 hx126 he hf
  obtain ⟨-, k43, -, -, -, -, -, -, k50, -⟩ := hf
  obtain ⟨T0, T1, T2, T3, T6, T8, T9, T10, -⟩ := he.hold [(0, _), (1, _), (2, _), (3, _), (6, _), (8, _), (9, _), (10, _)] ⟨T0, T1, T2, T3, T6, T8, T9, T36, trivial⟩ rfl
  clear he
  have hE := hE.trans hx126
  have hb20 := eb hx126 hb20
  have hB := hB.keep hx126
  have hT := hT.keep hx126
  have hlg := hlg.keep hx126
  have ho79 := ho79.keep hx126
  have ho80 := ho80.keep hx126
  have hb84 := eb hx126 hb84
  have hb3 := eb hx126 hb3
  have T43 : ρ124 43 = z.2.log := k43
  have k50 : (fun x w' => RG 67 (entC) w' x ([(entOf (l.getD i dUpd) note)])) (ρ124 50) w125 := k50
  obtain ⟨v127, T50⟩ : ∃ v, ρ124 50 = v := ⟨_, rfl⟩
  rw [T50] at k50
  have hk128 := k50; clear k50
  clear k43
  have hap129 := OG.off hlg hb20 (by decide)
  have hap130 := OG.apart hlg hB (by decide)
  have hap131 := OG.apart hlg hT (by decide)
  have hap132 := OG.apart hlg ho79 (by decide)
  have hap133 := OG.apart hlg ho80 (by decide)
  have hap134 := OG.off hlg hb84 (by decide)
  have hap135 := OG.off hlg hb3 (by decide)
  have hap136 := OG.off hlg hb20 (by decide)
  have hap137 := OG.apart hlg hB (by decide)
  have hap138 := OG.apart hlg hT (by decide)
  have hap139 := OG.apart hlg ho79 (by decide)
  have hap140 := OG.apart hlg ho80 (by decide)
  have hap141 := OG.off hlg hb84 (by decide)
  have hap142 := OG.off hlg hb3 (by decide)
  refine oS rfl (Yk.appendRG _ _ w.heap.size _ 104 wr43_ty47 wr43_ig122.choose_spec.1 wr43_ig122.choose_spec.2 wr43_ty47 (z.1.log) ([(entOf (l.getD i dUpd) note)]) (OG.of hlg T43) (RG.of hk128 T50) (fun _ _ => ent_one) (by simp only [List.length_cons, List.length_nil]; omega) (by simp only [List.length_cons, List.length_nil]; omega) hE.size fun v143 w144 ho145 hg146 => ?_)
  have hg146 : Grew w125 w144 z.2.log v143 := .eqv T43 hg146
  have hap147 : OB v143 n83 := apart_grew hg146 hap141 (bl hb84)
  have hap148 : OB v143 n10 := apart_grew hg146 hap136 (bl hb20)
  have hap149 : OB v143 n2 := apart_grew hg146 hap142 (bl hb3)
  have hap150 : ApartV v143 z.2.branches := apartv_grew hg146 hap137 hB.2
  have hap151 : ApartV z.2.branches v143 := fun k h1 h2 => hap150 k h2 h1
  have hap152 : ApartV v143 z.2.tags := apartv_grew hg146 hap138 hT.2
  have hap153 : ApartV z.2.tags v143 := fun k h1 h2 => hap152 k h2 h1
  have hap154 : ApartV v143 v77 := apartv_grew hg146 hap139 ho79.2
  have hap155 : ApartV v77 v143 := fun k h1 h2 => hap154 k h2 h1
  have hap156 : ApartV v143 v78 := apartv_grew hg146 hap140 ho80.2
  have hap157 : ApartV v78 v143 := fun k h1 h2 => hap156 k h2 h1
  have hE := ext_grew hE hg146 hlg.2 (Nat.le_refl _)
  have hb20 := blk_grew hb20 hg146 hap136
  have hB := og_grew hB hg146 hap137
  have hT := og_grew hT hg146 hap138
  have ho79 := og_grew ho79 hg146 hap139
  have ho80 := og_grew ho80 hg146 hap140
  have hb84 := blk_grew hb84 hg146 hap141
  have hb3 := blk_grew hb3 hg146 hap142
  clear hk128
  clear hlg
  refine oS rfl (Yk.fieldAt wr43_fo49_4 T3 ?_)
  have hap158 := OG.off hB hb3 (by decide)
  have hap159 := OG.off hT hb3 (by decide)
  have hap160 := OG.off ho79 hb3 (by decide)
  have hap161 := OG.off ho80 hb3 (by decide)
  have hap162 := OG.off ho145 hb3 (by decide)
  refine oS rfl (Yk.storeC (i := 35) (v := v143) (vr (PQ n2 35) rfl) (vr v143 rfl) hb3 (by rw [refs_len]; decide) wr43_isz47 (RG.one (RG.ofOwn ho145)).1 (RG.one (RG.ofOwn ho145)).2 fun w163 hb164 hg165 hs166 => ?_)
  have hE := row_fresh hE hg165 (Nat.le_trans (Nat.le_refl _) (by omega))
  have hb20 := kb hg165 hb20 (by omega)
  have hB := OG.kept hB hg165 hap158
  have hT := OG.kept hT hg165 hap159
  have ho79 := OG.kept ho79 hg165 hap160
  have ho80 := OG.kept ho80 hg165 hap161
  have hb84 := kb hg165 hb84 (by omega)
  have ho145 := OG.kept ho145 hg165 hap162
  clear hb3
  have hb3 : w163.heap[n2]? = some (.cells (refsC ((⟨(oneP z.1 (l.getD i dUpd)).2.branches, (oneP z.1 (l.getD i dUpd)).2.tags, (oneP z.1 (l.getD i dUpd)).2.head, (oneP z.1 (l.getD i dUpd)).2.at_, (z.1.log) ++ [(entOf (l.getD i dUpd) note)]⟩, ⟨v77, v78, v143⟩) : RefsV)).toArray 49 (0, 0)) := blk_eq hb164 (refs_s4 ((oneP z.1 (l.getD i dUpd)).2, ⟨v77, v78, z.2.log⟩) v143 ((z.1.log) ++ [(entOf (l.getD i dUpd) note)])); clear hb164
  have hl167 := bl hb3
  refine oZ (bN (tN (hK62 _ _ (wt (oM rfl (oS rfl (Yk.bin (xv := NI i) (yv := NI 1) T8 rfl rfl (i64_add _ _ _ (by omega)) (oA rfl (oL_ [(0, .agg (refsC z0).toArray), (1, lv), (2, St (note)), (3, PQ n2 0), (6, PQ n10 0), (8, NI ((i) + (1))), (9, PQ n83 0), (10, NI ((oneP z.1 (l.getD i dUpd)).1))] ⟨T0, T1, T2, T3, T6, rfl, T9, T10, trivial⟩ fun ρ168 ⟨T0, T1, T2, T3, T6, T8, T9, T10, _⟩ => (tN (And.intro ⟨i + 1, ((⟨(oneP z.1 (l.getD i dUpd)).2.branches, (oneP z.1 (l.getD i dUpd)).2.tags, (oneP z.1 (l.getD i dUpd)).2.head, (oneP z.1 (l.getD i dUpd)).2.at_, (z.1.log) ++ [(entOf (l.getD i dUpd) note)]⟩, ⟨v77, v78, v143⟩) : RefsV), T0, T1, T2, T3, T6, T8, hE, hb20, hb3, ho79, ho80, ho145, by omega, (hrun.trans (one_next hS hlt hD)).trans (by rw [one_add]), (by have h_ := one_sorted (note := note) hS hD; rw [one_add] at h_; exact h_), (by show (z.1.log ++ [_]).length ≤ _; simp only [List.length_append, List.length_cons, List.length_nil]; omega), trivial⟩ ?_)))))))))))
  show l.length - (intOf (ρ168 8)).toNat < l.length - (intOf (ρ58 8)).toNat
  rw [T8, q8]
  simp only [intOf, Int.toNat_natCast]; omega
 refine wpF_exit (thenF_exit (thenF_exit (inBlockF_hit (tN (hK55 _ _ (sk fun K169 hK169 => (sk fun K170 hK170 => (wt (oS rfl (Yk.fieldAt wr43_fo49_4 T3 (oS rfl (Yk.cell1 wr43_ty47 rfl (vr (PQ n2 35) rfl) (cellAt hb3 (show (refsC z)[35]? = some (z.2.log : Value) from refs_g4 z)) (oS rfl (Yk.lenRG wr43_ty47 (RG.of (RG.ofOwn hlg) (vr z.2.log rfl)) (oS rfl (Yk.eqI (a := ((z.1.log).length : Nat)) (b := (64 : Nat)) rfl rfl (k_gtr _ _ _ _) (oZ (tN (hK170 _ _ ?_)))))))))))))))))))
 refine wpF_cond ((64) < ((z.1.log).length)) (vr (.bool (decide ((64) < ((z.1.log).length)))) rfl) (fun hc3 => ?_) (fun hc3 => ?_)
 ·have h64 := hc3
  refine wt ?_
  have hA175 := Ext.refl w59
  have hea176 := hE
  have hz177 := hE.size
  refine oS rfl (Yk.lit0G (k := 67) (enc := entC) wr43_l0_47 fun v171 w172 ho173 hx174 => ?_)
  have hap178 : OB v171 n10 := own_older ho173.2 (bl hb20)
  have hap179 : OB v171 n2 := own_older ho173.2 (bl hb3)
  have hap180 : ApartV z.2.branches v171 := apartv_new hB.2 ho173.2
  have hap181 : ApartV v171 z.2.branches := apartv_new' hB.2 ho173.2
  have hap182 : ApartV z.2.tags v171 := apartv_new hT.2 ho173.2
  have hap183 : ApartV v171 z.2.tags := apartv_new' hT.2 ho173.2
  have hap184 : ApartV z.2.log v171 := apartv_new hlg.2 ho173.2
  have hap185 : ApartV v171 z.2.log := apartv_new' hlg.2 ho173.2
  have hE := hE.trans hx174
  have hb20 := eb hx174 hb20
  have hb3 := eb hx174 hb3
  have hB := hB.keep hx174
  have hT := hT.keep hx174
  have hlg := hlg.keep hx174
  have hA175 := hA175.trans hx174
  refine oS rfl (Yk.fieldAt wr43_fo49_4 T3 (oS rfl (Yk.cell1 wr43_ty47 rfl (vr (PQ n2 35) rfl) (cellAt hb3 (show (refsC z)[35]? = some (z.2.log : Value) from refs_g4 z)) (oS rfl (Yk.fieldAt wr43_fo49_4 T3 (oS rfl (Yk.cell1 wr43_ty47 rfl (vr (PQ n2 35) rfl) (cellAt hb3 (show (refsC z)[35]? = some (z.2.log : Value) from refs_g4 z)) (oS rfl (Yk.lenRG wr43_ty47 (RG.of (RG.ofOwn hlg) (vr z.2.log rfl)) (oS rfl (Yk.bin (xv := NI ((z.1.log).length)) (yv := NI 64) rfl rfl rfl (i64_sub _ _ _ (by omega) (by omega)) (oS rfl (Yk.sliceLoW wr43_ty47 wr43_szg122 (vr z.2.log rfl) (RG.ofOwn hlg) (vr (NI (((z.1.log).length) - (64))) rfl) (by omega) fun v186 hr187 ha188 => ?_)))))))))))))
  have hap189 := OG.off ho173 hb20 (by decide)
  have hap190 := OG.off ho173 hb3 (by decide)
  have hap191 := OG.apart ho173 hB (by decide)
  have hap192 := OG.apart ho173 hT (by decide)
  have hap193 := OG.off ho173 hb20 (by decide)
  have hap194 := OG.off ho173 hb3 (by decide)
  have hap195 := OG.apart ho173 hB (by decide)
  have hap196 := OG.apart ho173 hT (by decide)
  refine oS rfl (Yk.appendRG _ _ w59.heap.size _ 104 wr43_ty47 wr43_ig122.choose_spec.1 wr43_ig122.choose_spec.2 wr43_ty47 ([]) ((z.1.log).drop (((z.1.log).length) - (64))) (OG.of ho173 (vr v171 rfl)) (RG.of hr187 (vr v186 rfl)) (fun _ _ => ent_one) (by simp only [List.length_nil, List.length_drop]; omega) (by simp only [List.length_nil, List.length_drop]; omega) hA175.size fun v197 w198 ho199 hg200 => ?_)
  have hg200 : Grew w172 w198 v171 v197 := hg200
  have hap201 : OB v197 n10 := apart_grew hg200 hap193 (bl hb20)
  have hap202 : OB v197 n2 := apart_grew hg200 hap194 (bl hb3)
  have hap203 : ApartV v197 z.2.branches := apartv_grew hg200 hap195 hB.2
  have hap204 : ApartV z.2.branches v197 := fun k h1 h2 => hap203 k h2 h1
  have hap205 : ApartV v197 z.2.tags := apartv_grew hg200 hap196 hT.2
  have hap206 : ApartV z.2.tags v197 := fun k h1 h2 => hap205 k h2 h1
  have hap207 : ApartV v197 z.2.log := apartv_grew hg200 hap185 hlg.2
  have hap208 : ApartV z.2.log v197 := fun k h1 h2 => hap207 k h2 h1
  have hE := ext_grew hE hg200 ho173.2 hz177
  have hb20 := blk_grew hb20 hg200 hap193
  have hb3 := blk_grew hb3 hg200 hap194
  have hB := og_grew hB hg200 hap195
  have hT := og_grew hT hg200 hap196
  have hlg := og_grew hlg hg200 hap185
  have hA175 := ext_grew hA175 hg200 ho173.2 (Nat.le_refl _)
  clear hr187
  clear ho173
  refine oS rfl (Yk.fieldAt wr43_fo49_4 T3 ?_)
  have hap209 := OG.off hB hb3 (by decide)
  have hap210 := OG.off hT hb3 (by decide)
  have hap211 := OG.off hlg hb3 (by decide)
  have hap212 := OG.off ho199 hb3 (by decide)
  refine oS rfl (Yk.storeC (i := 35) (v := v197) (vr (PQ n2 35) rfl) (vr v197 rfl) hb3 (by rw [refs_len]; decide) wr43_isz47 (RG.one (RG.ofOwn ho199)).1 (RG.one (RG.ofOwn ho199)).2 fun w213 hb214 hg215 hs216 => ?_)
  have hE := row_fresh hE hg215 (Nat.le_trans (Nat.le_refl _) (by omega))
  have hb20 := kb hg215 hb20 (by omega)
  have hB := OG.kept hB hg215 hap209
  have hT := OG.kept hT hg215 hap210
  have hlg := OG.kept hlg hg215 hap211
  clear hA175
  have ho199 := OG.kept ho199 hg215 hap212
  clear hb3
  have hb3 : w213.heap[n2]? = some (.cells (refsC ((⟨z.1.branches, z.1.tags, z.1.head, z.1.at_, ([]) ++ (z.1.log).drop (((z.1.log).length) - (64))⟩, ⟨z.2.branches, z.2.tags, v197⟩) : RefsV)).toArray 49 (0, 0)) := blk_eq hb214 (refs_s4 z v197 (([]) ++ (z.1.log).drop (((z.1.log).length) - (64)))); clear hb214
  have hl217 := bl hb3
  refine oZ (tN (hK169 _ _ (sk fun K218 hK218 => (wt (oS rfl (Yk.loadAll T3 hb3 (wr43_ty49).choose_spec rfl (st_isz (refs_len ((⟨z.1.branches, z.1.tags, z.1.head, z.1.at_, ([]) ++ (z.1.log).drop (((z.1.log).length) - (64))⟩, ⟨z.2.branches, z.2.tags, v197⟩) : RefsV)) wr43_isz49) ?_))))))
  have hap219 := OG.off hB hb20 (by decide)
  have hap220 := OG.off hT hb20 (by decide)
  have hap221 := OG.off hlg hb20 (by decide)
  have hap222 := OG.off ho199 hb20 (by decide)
  refine oS rfl (Yk.storeAll T6 (vr (.agg (refsC ((⟨z.1.branches, z.1.tags, z.1.head, z.1.at_, ([]) ++ (z.1.log).drop (((z.1.log).length) - (64))⟩, ⟨z.2.branches, z.2.tags, v197⟩) : RefsV)).toArray) rfl) hb20 (by simp only [List.size_toArray, refs_len]) (st_isz (refs_len _) wr43_isz49) (refs_one (x := ((⟨z.1.branches, z.1.tags, z.1.head, z.1.at_, ([]) ++ (z.1.log).drop (((z.1.log).length) - (64))⟩, ⟨z.2.branches, z.2.tags, v197⟩) : RefsV)) (RG.one (RG.ofOwn hB)).2 (RG.one (RG.ofOwn hT)).2 (RG.one (RG.ofOwn ho199)).2) fun w223 hb224 hg225 hs226 => ?_)
  have hE := row_fresh hE hg225 (Nat.le_trans hz18 (by omega))
  have hB := OG.kept hB hg225 hap219
  have hT := OG.kept hT hg225 hap220
  have hlg := OG.kept hlg hg225 hap221
  have ho199 := OG.kept ho199 hg225 hap222
  have hb3 := kb hg225 hb3 (by omega)
  clear hb20
  have hb20 : w223.heap[n10]? = some (.cells (refsC ((⟨z.1.branches, z.1.tags, z.1.head, z.1.at_, ([]) ++ (z.1.log).drop (((z.1.log).length) - (64))⟩, ⟨z.2.branches, z.2.tags, v197⟩) : RefsV)).toArray 49 (0, 0)) := hb224; clear hb224
  have hl227 := bl hb20
  refine oA rfl (oZ (tN (hK218 _ _ (wpF_ret (postF_ret (fn := Tryd.f28) _ rfl [.agg (refsC ((⟨z.1.branches, z.1.tags, z.1.head, z.1.at_, ([]) ++ (z.1.log).drop (((z.1.log).length) - (64))⟩, ⟨z.2.branches, z.2.tags, v197⟩) : RefsV)).toArray, NI 0] (.tuple #[.agg (refsC ((⟨z.1.branches, z.1.tags, z.1.head, z.1.at_, ([]) ++ (z.1.log).drop (((z.1.log).length) - (64))⟩, ⟨z.2.branches, z.2.tags, v197⟩) : RefsV)).toArray, NI 0]) rfl ⟨ResF.row T6 hb20 (wr43_ty49).choose_spec rfl (st_isz (refs_len _) wr43_isz49), rfl, trivial⟩ ?_)))))
  have hAp := applyP_ok h0c (hrun.trans (runP_end (show l.length ≤ i by omega)))
  have hcut : cutlog z.1 = ⟨z.1.branches, z.1.tags, z.1.head, z.1.at_, [] ++ z.1.log.drop (z.1.log.length - 64)⟩ := by rw [List.nil_append]; rfl
  rw [hcut] at hAp
  exact ⟨⟨z.2.branches, z.2.tags, v197⟩, by rw [hAp]; try rfl, by rw [hAp]; exact ⟨hB, hT, OG.low ho199 (Nat.zero_le _)⟩, hE⟩
 have h64 := hc3
 refine wpF_skip (tN (hK169 _ _ (sk fun K228 hK228 => (wt (oS rfl (Yk.loadAll T3 hb3 (wr43_ty49).choose_spec rfl (st_isz (refs_len z) wr43_isz49) ?_))))))
 have hap229 := OG.off hB hb20 (by decide)
 have hap230 := OG.off hT hb20 (by decide)
 have hap231 := OG.off hlg hb20 (by decide)
 refine oS rfl (Yk.storeAll T6 (vr (.agg (refsC z).toArray) rfl) hb20 (by simp only [List.size_toArray, refs_len]) (st_isz (refs_len _) wr43_isz49) (refs_one (x := z) (RG.one (RG.ofOwn hB)).2 (RG.one (RG.ofOwn hT)).2 (RG.one (RG.ofOwn hlg)).2) fun w232 hb233 hg234 hs235 => ?_)
 have hE := row_fresh hE hg234 (Nat.le_trans hz18 (by omega))
 have hb3 := kb hg234 hb3 (by omega)
 have hB := OG.kept hB hg234 hap229
 have hT := OG.kept hT hg234 hap230
 have hlg := OG.kept hlg hg234 hap231
 clear hb20
 have hb20 : w232.heap[n10]? = some (.cells (refsC z).toArray 49 (0, 0)) := hb233; clear hb233
 have hl236 := bl hb20
 refine oA rfl (oZ (tN (hK228 _ _ (wpF_ret (postF_ret (fn := Tryd.f28) _ rfl [.agg (refsC z).toArray, NI 0] (.tuple #[.agg (refsC z).toArray, NI 0]) rfl ⟨ResF.row T6 hb20 (wr43_ty49).choose_spec rfl (st_isz (refs_len _) wr43_isz49), rfl, trivial⟩ ?_)))))
 have hAp := applyP_ok h0c (hrun.trans (runP_end (show l.length ≤ i by omega)))
 have hcut : cutlog z.1 = z.1 := by unfold cutlog; rw [show z.1.log.length - 64 = 0 by omega, List.drop_zero]
 rw [hcut] at hAp
 exact ⟨⟨z.2.branches, z.2.tags, z.2.log⟩, by rw [hAp], by rw [hAp]; exact ⟨hB, hT, OG.low hlg (Nat.zero_le _)⟩, hE⟩
open Go.RowKit
set_option maxRecDepth 100000
noncomputable def look0P (r : Refs) : Id32 × Nat := if rightF r = true then (if r.head = [] then (r.at_, 0) else if foundN r.branches r.head (placeN r.branches r.head) = true then ((r.branches.getD (placeN r.branches r.head) dNmd).id, 0) else (zid, 4)) else (zid, 1)
theorem wr36_al25 {d : Option Tmp} {ty : TypeId} {pos : String} {af : Array Edge} {gd : Option (Nat × Bool)} (σ : Operand → Value) (w : World) : (execOp σ ⟨d, .alloc 25, ty, pos, af, gd⟩).run Tryd.prog w = .ok (.value (PQ w.heap.size 0)) (w.alloc (.cells (Lib.byteCells (List.replicate 32 0)).toArray 25)) := by kernel_rfl
theorem wr36_ty53 : ∃ fs, Tryd.prog.underlying 53 = some (.struct fs) := struct_of (by kernel_rfl)
theorem wr36_isz53 : (Tryd.prog.info? 53).map (·.size) = some 36 := by kernel_rfl
theorem wr36_pl31 : Plain Tryd.prog 31 := fun _ _ => by kernel_rfl
theorem wr36_ty25 : Tryd.prog.underlying 25 = some (.array 32 5) := by kernel_rfl
theorem wr36_fo53_2 : FieldOff Tryd.prog 53 2 2 := fun b o w => by simp [go_sem]
theorem wr36_ty9 : Tryd.prog.underlying 9 = some (.string) := by kernel_rfl
theorem wr36_fo53_3 : FieldOff Tryd.prog 53 3 3 := fun b o w => by simp [go_sem]
theorem wr36_fo53_0 : FieldOff Tryd.prog 53 0 0 := fun b o w => by simp [go_sem]
theorem wr36_ty51 : Tryd.prog.underlying 51 = some (.slice 70) := by kernel_rfl
theorem wr36_pl88 : Plain Tryd.prog 88 := fun _ _ => by kernel_rfl
theorem wr36_szg70 : ∀ w' : World, (sizeOf 70).run Tryd.prog w' = .ok 33 w' := fun _ => by kernel_rfl
theorem wr36_fo70_1 : FieldOff Tryd.prog 70 1 1 := fun b o w => by simp [go_sem]
theorem wr36_isz25 : (Tryd.prog.info? 25).map (·.size) = some 32 := by kernel_rfl
set_option maxHeartbeats 1600000
theorem look0_any (w : World) (z : RefsV) (hm : RefsAt w z) (hL : RefsLt z.1) :
  Calls Tryd.prog 39 #[.agg (refsC z).toArray, St []] w fun e w' => e = .returned (.tuple #[AB ((look0P z.1).1.1), NI (look0P z.1).2]) ∧ Ext w w' := by
 have hmt := hm.branches
 have hmg := hm.tags
 have hml := hm.log
 refine calls_of_wpF (args := [.agg (refsC z).toArray, St (([] : List UInt8))]) Tryd.func39 rfl 70 rfl (Nat.le_of_ble_eq_true rfl) ?_
 intro ρ0 hb
 have T0 : ρ0 0 = (.agg (refsC z).toArray : Value) := hb.get 0
 have T1 : ρ0 1 = (St (([] : List UInt8)) : Value) := hb.get 1
 clear hb
 have hE := Ext.refl w
 refine sk fun K1 hK1 => (wt (oS rfl (Yk.box (cs := (refsC z : List Value).toArray) T0 fun n2 w3 hn4 hb5 hx6 hs7 => ?_)))
 have hE := hE.trans hx6
 have hb8 := hb5; clear hb5
 have hl9 : n2 < w3.heap.size := by omega
 refine oS rfl (Yk.alloc (cs := (Lib.byteCells (List.replicate 32 0)).toArray) wr36_al25 fun n10 w11 hn12 hb13 hx14 hs15 => ?_)
 have hA16 := Ext.refl w3
 have hea17 := hE
 have hz18 := hE.size
 have hlt19 := lte (bl hb8) hn12
 have hE := hE.trans hx14
 have hb8 := eb hx14 hb8
 have hA16 := hA16.trans hx14
 have hb20 := hb13; clear hb13
 have hl21 : n10 < w11.heap.size := by omega
 refine oA rfl (oZ (tN (hK1 _ _ (sk fun K22 hK22 => (sk fun K23 hK23 => (wt (oS rfl (Yk.loadAll (vr (PQ n2 0) rfl) hb8 (wr36_ty53).choose_spec rfl (st_isz (refs_len z) wr36_isz53) (oS rfl (Yk.callA1 wr36_pl31 (vr (.agg (refsC z).toArray) rfl) ((fright_any _ z ⟨(hmt.keep hE), (hmg.keep hE), (hml.keep hE)⟩ hL).mono ?_)))))))))))
 rintro e w25 ⟨rfl, hx24⟩
 refine ⟨_, rfl, ?_⟩
 have hE := hE.trans hx24
 have hb8 := eb hx24 hb8
 have hA16 := hA16.trans hx24
 have hb20 := eb hx24 hb20
 refine oS rfl (Yk.notB (vr (.bool (rightF z.1)) rfl) (oZ (tN (hK23 _ _ ?_))))
 refine wpF_condB (!(rightF z.1)) (vr (.bool (!(rightF z.1))) rfl) (fun hc0 => ?_) (fun hc0 => ?_)
 ·have hrt : rightF z.1 = false := by simpa using hc0
  refine sk fun K26 hK26 => (wt (oS rfl (Yk.run (v := AB (List.replicate 32 0)) (by kernel_rfl) (oS rfl (Yk.storeAll (vr (PQ n10 0) rfl) (vr (AB (List.replicate 32 0)) rfl) hb20 (by exact idsize List.length_replicate List.length_replicate) (by exact sizeId_of List.length_replicate) (byteCells_one _) fun w27 hb28 hg29 hs30 => ?_)))))
  have hE := row_fresh hE hg29 (Nat.le_trans hz18 (by omega))
  have hb8 := kb hg29 hb8 (by omega)
  have hA16 := row_fresh hA16 hg29 (Nat.le_trans (Nat.le_refl _) (by omega))
  clear hb20
  have hb20 := hb28; clear hb28
  have hl31 := bl hb20
  refine oA rfl (oZ (tN (hK26 _ _ (wpF_ret (thenF_ret (postF_ret (fn := Tryd.f39) _ rfl [AB (List.replicate 32 0), NI 1] (.tuple #[AB (List.replicate 32 0), NI 1]) rfl ⟨ResF.row rfl hb20 wr36_ty25 rfl (by exact sizeId_of List.length_replicate), rfl, trivial⟩ ?_))))))
  have hT : look0P z.1 = (zid, 1) := by unfold look0P; rw [if_neg (by rw [hrt]; decide)]
  exact ⟨by rw [hT]; try rfl, hE⟩
 have hrt : rightF z.1 = true := by simpa using hc0
 have hS := rightF_sorted hrt
 refine wpF_skip (tN (hK22 _ _ (sk fun K32 hK32 => (sk fun K33 hK33 => (wt (oM rfl (oS rfl (Yk.eqSt (l := ([] : List UInt8)) (m := ([] : List UInt8)) (.inl rfl) T1 (vr (St (([] : List UInt8))) rfl) (decide (([] : List UInt8) = (([] : List UInt8) : List UInt8))) rfl (oZ (tN (hK33 _ _ (wpF_true (vr (.bool (true)) (congrArg Value.bool (decide_eq_true (rfl)))) (sk fun K34 hK34 => (sk fun K35 hK35 => (wt (oS rfl (Yk.fieldAt wr36_fo53_2 (vr (PQ n2 0) rfl) (oS rfl (Yk.cell1 wr36_ty9 rfl (vr (PQ n2 2) rfl) (cellAt hb8 (show (refsC z)[2]? = some (St (z.1.head) : Value) from refs_g2 z)) (oS rfl (Yk.eqSt (l := z.1.head) (m := ([] : List UInt8)) (.inl rfl) (vr (St (z.1.head)) rfl) (vr (St (([] : List UInt8))) rfl) (decide ((z.1.head : List UInt8) = (([] : List UInt8) : List UInt8))) rfl ?_)))))))))))))))))))))
 refine oZ (tN (hK35 _ _ ?_))
 refine wpF_cond ((z.1.head : List UInt8) = (([] : List UInt8) : List UInt8)) (vr (.bool (decide ((z.1.head : List UInt8) = (([] : List UInt8) : List UInt8)))) rfl) (fun hc2 => ?_) (fun hc2 => ?_)
 ·have hh := hc2
  refine sk fun K36 hK36 => (wt (oS rfl (Yk.fieldAt wr36_fo53_3 (vr (PQ n2 0) rfl) (oS rfl (Yk.loadPR (PR.blk hb8 (refs_m3 z) (refs_n3 z) (vr (PQ n2 3) rfl)) wr36_ty25 rfl (sizeId_of z.1.at_.2) (oS rfl (Yk.storeAll (vr (PQ n10 0) rfl) (vr (AB z.1.at_.1) rfl) hb20 (by exact idsize z.1.at_.2 List.length_replicate) (by exact sizeId_of z.1.at_.2) (byteCells_one _) fun w37 hb38 hg39 hs40 => ?_)))))))
  have hE := row_fresh hE hg39 (Nat.le_trans hz18 (by omega))
  have hb8 := kb hg39 hb8 (by omega)
  have hA16 := row_fresh hA16 hg39 (Nat.le_trans (Nat.le_refl _) (by omega))
  clear hb20
  have hb20 := hb38; clear hb38
  have hl41 := bl hb20
  refine oA rfl (oZ (tN (hK36 _ _ (wpF_ret (thenF_ret (thenF_ret (postF_ret (fn := Tryd.f39) _ rfl [AB z.1.at_.1, NI 0] (.tuple #[AB z.1.at_.1, NI 0]) rfl ⟨ResF.row rfl hb20 wr36_ty25 rfl (by exact sizeId_of z.1.at_.2), rfl, trivial⟩ ?_)))))))
  have hT : look0P z.1 = (z.1.at_, 0) := by unfold look0P; rw [if_pos hrt, if_pos hh]
  exact ⟨by rw [hT]; try rfl, hE⟩
 have hh := hc2
 refine wpF_skip (tN (hK34 _ _ (sk fun K42 hK42 => (sk fun K43 hK43 => (wt (oS rfl (Yk.fieldAt wr36_fo53_0 (vr (PQ n2 0) rfl) (oS rfl (Yk.cell1 wr36_ty51 rfl (vr (PQ n2 0) rfl) (cellAt hb8 (show (refsC z)[0]? = some (z.2.branches : Value) from refs_g0 z)) (oS rfl (Yk.fieldAt wr36_fo53_2 (vr (PQ n2 0) rfl) (oS rfl (Yk.cell1 wr36_ty9 rfl (vr (PQ n2 2) rfl) (cellAt hb8 (show (refsC z)[2]? = some (St (z.1.head) : Value) from refs_g2 z)) (oS rfl (Yk.callA2 wr36_pl88 (vr z.2.branches rfl) (vr (St (z.1.head)) rfl) ((place_any _ _ z.1.branches (hmt.keep hE) (by have := hS.bl; omega) hS.br z.1.head).mono ?_))))))))))))))))
 rintro e w45 ⟨⟨p, rfl, hp⟩, hx44⟩
 refine ⟨_, rfl, ?_⟩
 have hE := hE.trans hx44
 have hb8 := eb hx44 hb8
 have hA16 := hA16.trans hx44
 have hb20 := eb hx44 hb20
 refine oM rfl (oS rfl (Yk.extract (vs := [NI p, .bool (foundN z.1.branches z.1.head p)]) (vr (.tuple #[NI p, .bool (foundN z.1.branches z.1.head p)]) rfl) (show _ = some (NI p : Value) from rfl) (oS rfl (Yk.extract (vs := [NI p, .bool (foundN z.1.branches z.1.head p)]) (vr (.tuple #[NI p, .bool (foundN z.1.branches z.1.head p)]) rfl) (show _ = some (.bool (foundN z.1.branches z.1.head p) : Value) from rfl) (oA rfl (oA rfl (oZ (tN (hK43 _ _ (sk fun K46 hK46 => (wt (oM rfl (oZ (tN (hK46 _ _ ?_)))))))))))))))
 refine wpF_condB (foundN z.1.branches z.1.head p) (vr (.bool (foundN z.1.branches z.1.head p)) rfl) (fun hc3 => ?_) (fun hc3 => ?_)
 ·have hf := hc3
  have hlt := found_lt hf
  refine sk fun K47 hK47 => (wt (oS rfl (Yk.fieldAt wr36_fo53_0 (vr (PQ n2 0) rfl) (oS rfl (Yk.cell1 wr36_ty51 rfl (vr (PQ n2 0) rfl) (cellAt hb8 (show (refsC z)[0]? = some (z.2.branches : Value) from refs_g0 z)) (oM rfl ?_))))))
  have hl50 : (nmdC ((z.1.branches).getD (p) dNmd)).length = 33 := (RG.elem (hmt.keep hE) dNmd (hlt))
  refine oS rfl (Yk.atRG wr36_ty51 wr36_szg70 (by decide) dNmd (RG.of (hmt.keep hE) (vr z.2.branches rfl)) (vr (NI p) rfl) (hlt) fun v48 hp49 => ?_)
  have hl53 : (Lib.byteCells ((z.1.branches).getD (p) dNmd).id.1).length = 32 := by rw [Lib.byteCells_length, ((z.1.branches).getD (p) dNmd).id.2]
  refine oS rfl (Yk.fieldPR (n := 32) wr36_fo70_1 (PR.of hp49 (vr v48 rfl)) fun v51 hp52 => ?_)
  have hp52 : PR (Lib.byteCells ((z.1.branches).getD (p) dNmd).id.1) v51 w45 := (nmd_f1 ((z.1.branches).getD (p) dNmd)) ▸ hp52
  refine oS rfl (Yk.loadPR (PR.of hp52 (vr v51 rfl)) wr36_ty25 rfl (by rw [hl53]; exact wr36_isz25) (oS rfl (Yk.storeAll (vr (PQ n10 0) rfl) (vr (AB (((z.1.branches).getD (p) dNmd).id.1)) rfl) hb20 (by exact idsize (bytes_len32 (hl53)) List.length_replicate) (by exact sizeId_of (bytes_len32 (hl53))) (byteCells_one _) fun w54 hb55 hg56 hs57 => ?_)))
  have hE := row_fresh hE hg56 (Nat.le_trans hz18 (by omega))
  have hb8 := kb hg56 hb8 (by omega)
  have hA16 := row_fresh hA16 hg56 (Nat.le_trans (Nat.le_refl _) (by omega))
  clear hp49
  clear hp52
  clear hb20
  have hb20 := hb55; clear hb55
  have hl58 := bl hb20
  refine oA rfl (oZ (tN (hK47 _ _ (wpF_ret (thenF_ret (thenF_ret (postF_ret (fn := Tryd.f39) _ rfl [AB (((z.1.branches).getD (p) dNmd).id.1), NI 0] (.tuple #[AB (((z.1.branches).getD (p) dNmd).id.1), NI 0]) rfl ⟨ResF.row rfl hb20 wr36_ty25 rfl (by exact sizeId_of (bytes_len32 (hl53))), rfl, trivial⟩ ?_)))))))
  have hT : look0P z.1 = ((z.1.branches.getD p dNmd).id, 0) := by unfold look0P; rw [if_pos hrt, if_neg hh, ← place_uniq hp, if_pos hf]
  exact ⟨by rw [hT]; try rfl, hE⟩
 have hf := hc3
 refine wpF_skip (tN (hK42 _ _ (sk fun K59 hK59 => (wt (oS rfl (Yk.run (v := AB (List.replicate 32 0)) (by kernel_rfl) (oS rfl (Yk.storeAll (vr (PQ n10 0) rfl) (vr (AB (List.replicate 32 0)) rfl) hb20 (by exact idsize List.length_replicate List.length_replicate) (by exact sizeId_of List.length_replicate) (byteCells_one _) fun w60 hb61 hg62 hs63 => ?_))))))))
 have hE := row_fresh hE hg62 (Nat.le_trans hz18 (by omega))
 have hb8 := kb hg62 hb8 (by omega)
 have hA16 := row_fresh hA16 hg62 (Nat.le_trans (Nat.le_refl _) (by omega))
 clear hb20
 have hb20 := hb61; clear hb61
 have hl64 := bl hb20
 refine oA rfl (oZ (tN (hK59 _ _ (wpF_ret (thenF_ret (postF_ret (fn := Tryd.f39) _ rfl [AB (List.replicate 32 0), NI 4] (.tuple #[AB (List.replicate 32 0), NI 4]) rfl ⟨ResF.row rfl hb20 wr36_ty25 rfl (by exact sizeId_of List.length_replicate), rfl, trivial⟩ ?_))))))
 have hT : look0P z.1 = (zid, 4) := by unfold look0P; rw [if_pos hrt, if_neg hh, ← place_uniq hp, if_neg (by rw [hf]; decide)]
 exact ⟨by rw [hT]; try rfl, hE⟩
open Go.RowKit
abbrev mainB : Bs := [109, 97, 105, 110]
abbrev id1 : Id32 := ⟨1 :: List.replicate 31 0, rfl⟩
abbrev u1 : Upd := ⟨1, mainB, zid, id1⟩
abbrev u2 : Upd := ⟨1, mainB, id1, zid⟩
abbrev firstB : Bs := [102, 105, 114, 115, 116]
abbrev againB : Bs := [97, 103, 97, 105, 110]
abbrev r1 : Refs := ⟨[⟨mainB, id1⟩], [], mainB, zid, [entOf u1 firstB]⟩
theorem main_name : nameB mainB = true := by decide
theorem dec_ascii {l : Bs} {a : Nat} (h : ∀ x ∈ l, x.toNat < 128) (ha : a < l.length) : decU l a = some (a + 1) := by
  have hx : (l.getD a 0).toNat < 128 := h _ (getD_mem 0 ha)
  have hl : leadO (l.getD a 0) = some (0, (l.getD a 0).toNat, 0) := by unfold leadO; rw [if_pos hx]
  unfold decU
  rw [hl]
  simp only [tailU]
  rw [if_neg (by omega), if_pos ⟨Nat.zero_le _, by unfold mayB; simp only [Nat.zero_le, decide_true, Bool.true_and, Bool.and_eq_true, Bool.or_eq_true, decide_eq_true_eq]; omega⟩]
theorem utf_ascii {l : Bs} (h : ∀ x ∈ l, x.toNat < 128) : ∀ (n a : Nat), l.length ≤ a + n → utfB l a = true
  | 0, a, hn => utfB_end (by omega)
  | n + 1, a, hn => by
    by_cases ha : a < l.length
    · rw [utfB_some ha (dec_ascii h ha)]; exact utf_ascii h n _ (by omega)
    · exact utfB_end ha
theorem note_ascii {l : Bs} (h : ∀ x ∈ l, x.toNat < 128) (hl : l.length ≤ 256) : noteB l = true := by unfold noteB; rw [decide_eq_true hl, utf_ascii h l.length 0 (by omega)]; rfl
theorem first_note : noteB firstB = true := note_ascii (by decide) (by decide)
theorem again_note : noteB againB = true := note_ascii (by decide) (by decide)
theorem nil_note : noteB [] = true := note_ascii (by decide) (by decide)
theorem nil_list : nlistB [] = true := by rw [nlistB_all (i := 0) (Nat.le_refl _) (fun j hj => absurd hj (Nat.not_lt_zero _))]; rfl
theorem one_list : nlistB [⟨mainB, id1⟩] = true := by
  rw [nlistB_all (i := 1) (Nat.le_refl _) (fun j hj => by cases j with
    | zero => rfl
    | succ j => omega)]; rfl
theorem right0 : rightF beginV.1 = true := rightF_all (i := 0) (by unfold rE1; rw [nil_list]; rfl) (by unfold rE2; rw [show beginV.1.head = mainB from rfl, main_name]; rfl) (Nat.le_refl _) (fun j hj => absurd hj (Nat.not_lt_zero _))
theorem right1 : rightF r1 = true := rightF_all (i := 1) (by unfold rE1; rw [nil_list, one_list]; rfl) (by unfold rE2; rw [main_name]; rfl) (Nat.le_refl _) (fun j hj => by
  cases j with
  | zero => show entE [entOf u1 firstB] 0 = false; unfold entE; rw [show (([entOf u1 firstB] : List Ent).getD 0 dEntry).note = firstB from rfl, first_note]; rfl
  | succ j => omega)
theorem updErr1 : updErr u1 = 0 := by decide
theorem updErr2 : updErr u2 = 0 := by decide
theorem do1 : doP beginV.1 u1 = (0, ⟨[⟨mainB, id1⟩], [], mainB, zid, []⟩) := rfl
theorem do2 : (doP r1 u1).1 = 15 := by decide
theorem do3 : (doP r1 u2).1 = 16 := by decide
theorem apply_1 : applyP beginV.1 [u1] firstB = (0, r1) := by
  have h := runP_next (note := firstB) (r := beginV.1) (l := [u1]) (i := 0) (by decide) updErr1 (by show (doP beginV.1 u1).1 = 0; rw [do1])
  rw [List.drop_zero] at h
  rw [applyP_ok (by rw [right0, first_note]; rfl) (h.trans (runP_end (by decide)))]
  show (0, cutlog (addlog (doP beginV.1 u1).2 (entOf u1 firstB))) = _
  rw [do1]
  rfl
theorem look_1 : look0P r1 = (id1, 0) := by
  unfold look0P
  rw [if_pos right1]
  rfl
theorem apply_2 : applyP r1 [u1] againB = (15, zeroR) := by
  have h := runP_err2 (note := againB) (r := r1) (l := [u1]) (i := 0) (by decide) updErr1 (by show (doP r1 u1).1 ≠ 0; rw [do2]; decide)
  rw [List.drop_zero, show (doP r1 ([u1].getD 0 dUpd)).1 = 15 from do2] at h
  exact applyP_err (by rw [right1, again_note]; rfl) h (by decide)
theorem apply_3 : applyP r1 [u2] [] = (16, zeroR) := by
  have h := runP_err2 (note := []) (r := r1) (l := [u2]) (i := 0) (by decide) updErr2 (by show (doP r1 u2).1 ≠ 0; rw [do3]; decide)
  rw [List.drop_zero, show (doP r1 ([u2].getD 0 dUpd)).1 = 16 from do3] at h
  exact applyP_err (by rw [right1, nil_note]; rfl) h (by decide)
open Go.RowKit
set_option maxRecDepth 100000
theorem apply_to {w : World} {z : RefsV} {lv : Value} {l : List Upd} {note : Bs} {R : Refs} {n : Nat} (hA : applyP z.1 l note = (n, R)) (hm : RefsAt w z) (hL : RefsLt z.1) (hr : RG 66 updC w lv l) (hl : l.length ≤ 1000) (hln : ∀ u ∈ l, u.name.length ≤ 9223372036854775807) :
  Calls Tryd.prog 26 #[.agg (refsC z).toArray, lv, St note] w fun e w' => ∃ v, e = .returned (.tuple #[.agg (refsC (R, v)).toArray, NI n]) ∧ RefsOw w.heap.size w' (R, v) ∧ Ext w w' := by
 have h := apply20_any w z hm hL lv l hr hl hln note
 rw [hA] at h
 exact h
theorem look_to {w : World} {z : RefsV} {i : Id32} {n : Nat} (hA : look0P z.1 = (i, n)) (hm : RefsAt w z) (hL : RefsLt z.1) :
  Calls Tryd.prog 39 #[.agg (refsC z).toArray, St []] w fun e w' => e = .returned (.tuple #[AB i.1, NI n]) ∧ Ext w w' := by
 have h := look0_any w z hm hL
 rw [hA] at h
 exact h
theorem begin_lt : RefsLt beginV.1 := ⟨by decide, by decide, by decide, by decide, by decide, by decide⟩
theorem r1_lt : RefsLt r1 := ⟨by decide, by decide, by decide, by decide, by decide, by decide⟩
theorem wr37_bs67_0_1_3h (z0 : Int) (z1 : ByteArray) (c3_0 c3_1 c3_2 c3_3 c3_4 c3_5 c3_6 c3_7 c3_8 c3_9 c3_10 c3_11 c3_12 c3_13 c3_14 c3_15 c3_16 c3_17 c3_18 c3_19 c3_20 c3_21 c3_22 c3_23 c3_24 c3_25 c3_26 c3_27 c3_28 c3_29 c3_30 c3_31 : Value) (w : World) : (Instr.build 67 #[(0, .int .u8 z0), (1, .string z1), (3, .agg #[c3_0, c3_1, c3_2, c3_3, c3_4, c3_5, c3_6, c3_7, c3_8, c3_9, c3_10, c3_11, c3_12, c3_13, c3_14, c3_15, c3_16, c3_17, c3_18, c3_19, c3_20, c3_21, c3_22, c3_23, c3_24, c3_25, c3_26, c3_27, c3_28, c3_29, c3_30, c3_31])]).run Tryd.prog w = .ok (.agg #[.int .u8 z0, .string z1, .int .u8 0, .int .u8 0, .int .u8 0, .int .u8 0, .int .u8 0, .int .u8 0, .int .u8 0, .int .u8 0, .int .u8 0, .int .u8 0, .int .u8 0, .int .u8 0, .int .u8 0, .int .u8 0, .int .u8 0, .int .u8 0, .int .u8 0, .int .u8 0, .int .u8 0, .int .u8 0, .int .u8 0, .int .u8 0, .int .u8 0, .int .u8 0, .int .u8 0, .int .u8 0, .int .u8 0, .int .u8 0, .int .u8 0, .int .u8 0, .int .u8 0, .int .u8 0, c3_0, c3_1, c3_2, c3_3, c3_4, c3_5, c3_6, c3_7, c3_8, c3_9, c3_10, c3_11, c3_12, c3_13, c3_14, c3_15, c3_16, c3_17, c3_18, c3_19, c3_20, c3_21, c3_22, c3_23, c3_24, c3_25, c3_26, c3_27, c3_28, c3_29, c3_30, c3_31]) w := by kernel_rfl
theorem wr37_bs67_0_1_3 (z0 : UInt8) (z1 : List UInt8) (z3 : Id32) (w : World) : (Instr.build 67 #[(0, B8 z0), (1, St z1), (3, AB z3.1)]).run Tryd.prog w = .ok (.agg (B8 (z0) :: (St (z1) :: (Lib.byteCells zid.1 ++ (Lib.byteCells z3.1)))).toArray) w := by
 obtain ⟨z3, k3⟩ := z3
 obtain ⟨a3_0, a3_1, a3_2, a3_3, a3_4, a3_5, a3_6, a3_7, a3_8, a3_9, a3_10, a3_11, a3_12, a3_13, a3_14, a3_15, a3_16, a3_17, a3_18, a3_19, a3_20, a3_21, a3_22, a3_23, a3_24, a3_25, a3_26, a3_27, a3_28, a3_29, a3_30, a3_31, rfl⟩ := list32 k3
 exact wr37_bs67_0_1_3h _ _ _ _ _ _ _ _ _ _ _ _ _ _ _ _ _ _ _ _ _ _ _ _ _ _ _ _ _ _ _ _ _ _ w
theorem wr37_al67 {d : Option Tmp} {ty : TypeId} {pos : String} {af : Array Edge} {gd : Option (Nat × Bool)} (σ : Operand → Value) (w : World) : (execOp σ ⟨d, .alloc 67, ty, pos, af, gd⟩).run Tryd.prog w = .ok (.value (PQ w.heap.size 0)) (w.alloc (.cells (updC (⟨0, [], zid, zid⟩ : Upd)).toArray 67)) := by kernel_rfl
theorem wr37_isz67 : (Tryd.prog.info? 67).map (·.size) = some 66 := by kernel_rfl
theorem wr37_pl33 : Plain Tryd.prog 33 := fun _ _ => by kernel_rfl
theorem wr37_ty67 : ∃ fs, Tryd.prog.underlying 67 = some (.struct fs) := struct_of (by kernel_rfl)
theorem wr37_lh22 (c0 c1 c2 c3 c4 c5 c6 c7 c8 c9 c10 c11 c12 c13 c14 c15 c16 c17 c18 c19 c20 c21 c22 c23 c24 c25 c26 c27 c28 c29 c30 c31 c32 c33 c34 c35 c36 c37 c38 c39 c40 c41 c42 c43 c44 c45 c46 c47 c48 c49 c50 c51 c52 c53 c54 c55 c56 c57 c58 c59 c60 c61 c62 c63 c64 c65 : Value) (w : World) : (Instr.buildSlice 22 1 #[(0, .agg #[c0, c1, c2, c3, c4, c5, c6, c7, c8, c9, c10, c11, c12, c13, c14, c15, c16, c17, c18, c19, c20, c21, c22, c23, c24, c25, c26, c27, c28, c29, c30, c31, c32, c33, c34, c35, c36, c37, c38, c39, c40, c41, c42, c43, c44, c45, c46, c47, c48, c49, c50, c51, c52, c53, c54, c55, c56, c57, c58, c59, c60, c61, c62, c63, c64, c65])]).run Tryd.prog w = .ok (.slice (some ⟨w.heap.size, 0, none⟩) 1 1) (w.alloc (.cells #[c0, c1, c2, c3, c4, c5, c6, c7, c8, c9, c10, c11, c12, c13, c14, c15, c16, c17, c18, c19, c20, c21, c22, c23, c24, c25, c26, c27, c28, c29, c30, c31, c32, c33, c34, c35, c36, c37, c38, c39, c40, c41, c42, c43, c44, c45, c46, c47, c48, c49, c50, c51, c52, c53, c54, c55, c56, c57, c58, c59, c60, c61, c62, c63, c64, c65] 67)) := by kernel_rfl
theorem wr37_lg22 : ∀ (cs : Array Value), cs.size = 66 → ∀ w : World, (Instr.buildSlice 22 1 #[(0, .agg cs)]).run Tryd.prog w = .ok (.slice (some ⟨w.heap.size, 0, none⟩) 1 1) (w.alloc (.cells cs 67))
 | ⟨c0 :: c1 :: c2 :: c3 :: c4 :: c5 :: c6 :: c7 :: c8 :: c9 :: c10 :: c11 :: c12 :: c13 :: c14 :: c15 :: c16 :: c17 :: c18 :: c19 :: c20 :: c21 :: c22 :: c23 :: c24 :: c25 :: c26 :: c27 :: c28 :: c29 :: c30 :: c31 :: c32 :: c33 :: c34 :: c35 :: c36 :: c37 :: c38 :: c39 :: c40 :: c41 :: c42 :: c43 :: c44 :: c45 :: c46 :: c47 :: c48 :: c49 :: c50 :: c51 :: c52 :: c53 :: c54 :: c55 :: c56 :: c57 :: c58 :: c59 :: c60 :: c61 :: c62 :: c63 :: c64 :: c65 :: []⟩, _, w => wr37_lh22 c0 c1 c2 c3 c4 c5 c6 c7 c8 c9 c10 c11 c12 c13 c14 c15 c16 c17 c18 c19 c20 c21 c22 c23 c24 c25 c26 c27 c28 c29 c30 c31 c32 c33 c34 c35 c36 c37 c38 c39 c40 c41 c42 c43 c44 c45 c46 c47 c48 c49 c50 c51 c52 c53 c54 c55 c56 c57 c58 c59 c60 c61 c62 c63 c64 c65 w
theorem wr37_pl26 : Plain Tryd.prog 26 := fun _ _ => by kernel_rfl
theorem wr37_al53 {d : Option Tmp} {ty : TypeId} {pos : String} {af : Array Edge} {gd : Option (Nat × Bool)} (σ : Operand → Value) (w : World) : (execOp σ ⟨d, .alloc 53, ty, pos, af, gd⟩).run Tryd.prog w = .ok (.value (PQ w.heap.size 0)) (w.alloc (.cells (refsC ((⟨[], [], [], zid, []⟩, ⟨.slice none 0 0, .slice none 0 0, .slice none 0 0⟩) : RefsV)).toArray 53)) := by kernel_rfl
theorem wr37_isz53 : (Tryd.prog.info? 53).map (·.size) = some 36 := by kernel_rfl
theorem wr37_ty53 : ∃ fs, Tryd.prog.underlying 53 = some (.struct fs) := struct_of (by kernel_rfl)
theorem wr37_pl39 : Plain Tryd.prog 39 := fun _ _ => by kernel_rfl
theorem wr37_al25 {d : Option Tmp} {ty : TypeId} {pos : String} {af : Array Edge} {gd : Option (Nat × Bool)} (σ : Operand → Value) (w : World) : (execOp σ ⟨d, .alloc 25, ty, pos, af, gd⟩).run Tryd.prog w = .ok (.value (PQ w.heap.size 0)) (w.alloc (.cells (Lib.byteCells (List.replicate 32 0)).toArray 25)) := by kernel_rfl
theorem wr37_bs67_0_1_2h (z0 : Int) (z1 : ByteArray) (c2_0 c2_1 c2_2 c2_3 c2_4 c2_5 c2_6 c2_7 c2_8 c2_9 c2_10 c2_11 c2_12 c2_13 c2_14 c2_15 c2_16 c2_17 c2_18 c2_19 c2_20 c2_21 c2_22 c2_23 c2_24 c2_25 c2_26 c2_27 c2_28 c2_29 c2_30 c2_31 : Value) (w : World) : (Instr.build 67 #[(0, .int .u8 z0), (1, .string z1), (2, .agg #[c2_0, c2_1, c2_2, c2_3, c2_4, c2_5, c2_6, c2_7, c2_8, c2_9, c2_10, c2_11, c2_12, c2_13, c2_14, c2_15, c2_16, c2_17, c2_18, c2_19, c2_20, c2_21, c2_22, c2_23, c2_24, c2_25, c2_26, c2_27, c2_28, c2_29, c2_30, c2_31])]).run Tryd.prog w = .ok (.agg #[.int .u8 z0, .string z1, c2_0, c2_1, c2_2, c2_3, c2_4, c2_5, c2_6, c2_7, c2_8, c2_9, c2_10, c2_11, c2_12, c2_13, c2_14, c2_15, c2_16, c2_17, c2_18, c2_19, c2_20, c2_21, c2_22, c2_23, c2_24, c2_25, c2_26, c2_27, c2_28, c2_29, c2_30, c2_31, .int .u8 0, .int .u8 0, .int .u8 0, .int .u8 0, .int .u8 0, .int .u8 0, .int .u8 0, .int .u8 0, .int .u8 0, .int .u8 0, .int .u8 0, .int .u8 0, .int .u8 0, .int .u8 0, .int .u8 0, .int .u8 0, .int .u8 0, .int .u8 0, .int .u8 0, .int .u8 0, .int .u8 0, .int .u8 0, .int .u8 0, .int .u8 0, .int .u8 0, .int .u8 0, .int .u8 0, .int .u8 0, .int .u8 0, .int .u8 0, .int .u8 0, .int .u8 0]) w := by kernel_rfl
theorem wr37_bs67_0_1_2 (z0 : UInt8) (z1 : List UInt8) (z2 : Id32) (w : World) : (Instr.build 67 #[(0, B8 z0), (1, St z1), (2, AB z2.1)]).run Tryd.prog w = .ok (.agg (B8 (z0) :: (St (z1) :: (Lib.byteCells z2.1 ++ (Lib.byteCells zid.1)))).toArray) w := by
 obtain ⟨z2, k2⟩ := z2
 obtain ⟨a2_0, a2_1, a2_2, a2_3, a2_4, a2_5, a2_6, a2_7, a2_8, a2_9, a2_10, a2_11, a2_12, a2_13, a2_14, a2_15, a2_16, a2_17, a2_18, a2_19, a2_20, a2_21, a2_22, a2_23, a2_24, a2_25, a2_26, a2_27, a2_28, a2_29, a2_30, a2_31, rfl⟩ := list32 k2
 exact wr37_bs67_0_1_2h _ _ _ _ _ _ _ _ _ _ _ _ _ _ _ _ _ _ _ _ _ _ _ _ _ _ _ _ _ _ _ _ _ _ w
theorem wr37_ty25 : Tryd.prog.underlying 25 = some (.array 32 5) := by kernel_rfl
theorem wr37_eg25 : Tryd.prog.eqGuardType Tryd.prog.depth 25 = false := by kernel_rfl
theorem wr37_ty5 : Tryd.prog.underlying 5 = some (.int .u8) := by kernel_rfl
theorem wr37_sz5 : ∀ w' : World, (sizeOf 5).run Tryd.prog w' = .ok 1 w' := fun _ => by kernel_rfl
theorem wr37_fo53_4 : FieldOff Tryd.prog 53 4 35 := fun b o w => by simp [go_sem]
theorem wr37_ty47 : Tryd.prog.underlying 47 = some (.slice 122) := by kernel_rfl
set_option maxHeartbeats 1600000
theorem awake20 (w : World) :
  Calls Tryd.prog 35 #[] w fun e w' => e = .returned (.bool true) ∧ Ext w w' := by
 refine calls_of_wpF (args := []) Tryd.func35 rfl 64 rfl (Nat.le_of_ble_eq_true rfl) ?_
 intro ρ0 hb
 clear hb
 have hE := Ext.refl w
 refine sk fun K1 hK1 => (wt (oA rfl (oZ (tN (hK1 _ _ (sk fun K2 hK2 => (wt (oS rfl (Yk.run (v := AB id1.1) (by kernel_rfl) (oS rfl (Yk.build3 (vr (B8 (1)) rfl) (vr (St (([109, 97, 105, 110] : List UInt8))) rfl) (vr (AB id1.1) rfl) (fun w => wr37_bs67_0_1_3 1 ([109, 97, 105, 110] : List UInt8) id1 w) (oS rfl (Yk.alloc (cs := (updC (⟨0, [], zid, zid⟩ : Upd)).toArray) wr37_al67 fun n3 w4 hn5 hb6 hx7 hs8 => ?_)))))))))))))
 have hE := hE.trans hx7
 have hb9 := hb6; clear hb6
 have hl10 : n3 < w4.heap.size := by omega
 refine oS rfl (Yk.storeAll (vr (PQ n3 0) rfl) (vr (.agg (updC (⟨1, ([109, 97, 105, 110] : List UInt8), zid, id1⟩ : Upd)).toArray) rfl) hb9 (by simp only [List.size_toArray, upd_len]) (st_isz (upd_len _) wr37_isz67) (upd_one (x := (⟨1, ([109, 97, 105, 110] : List UInt8), zid, id1⟩ : Upd))) fun w11 hb12 hg13 hs14 => ?_)
 have hE := row_fresh hE hg13 (Nat.le_trans (Nat.le_refl _) (by omega))
 clear hb9
 have hb9 : w11.heap[n3]? = some (.cells (updC (⟨1, ([109, 97, 105, 110] : List UInt8), zid, id1⟩ : Upd)).toArray 67 (0, 0)) := hb12; clear hb12
 have hl15 := bl hb9
 refine oZ (tN (hK2 _ _ (sk fun K16 hK16 => ?_)))
 have hA17 := Ext.refl w11
 have hea18 := hE
 have hz19 := hE.size
 have hlt20 : n3 < w11.heap.size := (bl hb9)
 refine wpF_draw_late 6 8 [Is (.agg (refsC beginV).toArray), Is (.agg (updC (⟨1, ([109, 97, 105, 110] : List UInt8), zid, id1⟩ : Upd)).toArray), fun x w' => RG 66 (updC) w' x ([(⟨1, ([109, 97, 105, 110] : List UInt8), zid, id1⟩ : Upd)]), fun x w' => ∃ v, x = .tuple #[.agg (refsC (r1, v)).toArray, NI 0] ∧ RefsOw 0 w' (r1, v), fun x w' => ∃ v, x = .tuple #[.agg (refsC (r1, v)).toArray, NI 0] ∧ RefsOw 0 w' (r1, v), fun x w' => ∃ v, x = .agg (refsC (r1, v)).toArray ∧ RefsOw 0 w' (r1, v), Is (NI 0), fun x w' => ∃ g, x = PQ g 0 ∧ w'.heap[g]? = some (.cells (refsC ((⟨[], [], [], zid, []⟩, ⟨.slice none 0 0, .slice none 0 0, .slice none 0 0⟩) : RefsV)).toArray 53 (0, 0)) ∧ w11.heap.size ≤ g] (by kernel_rfl) [13, 14, 15, 16, 12, 17, 18, 2, 3] (by kernel_rfl) rfl (by kernel_rfl) (by kernel_rfl) (by kernel_rfl) (by kernel_rfl) (by kernel_rfl) (by kernel_rfl) rfl rfl (si2 ⟨(fun _ _ _ h k => RG.keep h k), (fun _ _ _ ⟨v, h1, h2⟩ k => ⟨v, h1, h2.keep k⟩), (fun _ _ _ ⟨v, h1, h2⟩ k => ⟨v, h1, h2.keep k⟩), (fun _ _ _ ⟨v, h1, h2⟩ k => ⟨v, h1, h2.keep k⟩), Stab.is _, (fun _ _ _ ⟨g, h1, h2, h3⟩ k => ⟨g, h1, eb k h2, h3⟩), trivial⟩) (fun _ _ _ _ h => h) ?hs1002 ?hQ1002
 case hs1002 =>
  refine ⟨?_, ?_, ?_, ?_, ?_, ?_, ?_, ?_, ?_, ?_, trivial⟩
  ·refine stepFC (stepN rfl fun σ w1 hC h => (Yk.callA0 wr37_pl33  ((begin_any _).mono ?_)))
   rintro e w2 ⟨rfl, hx⟩
   exact ⟨_, rfl, hx, rfl⟩
  ·refine stepFC (stepN rfl fun σ w1 hC h => ?_)
   have e1 : σ 1 = PQ n3 0 := (eqo (h 1 (by decide))).trans rfl
   exact Yk.loadAll e1 (eb hC hb9) (wr37_ty67).choose_spec rfl (st_isz (upd_len (⟨1, ([109, 97, 105, 110] : List UInt8), zid, id1⟩ : Upd)) wr37_isz67) ⟨Ext.refl _, rfl⟩
  ·refine stepFC (stepN rfl fun σ w1 hC h => ?_)
   have e14 := eqo (h 14 (by decide))
   exact Yk.lit1G (a := (⟨1, ([109, 97, 105, 110] : List UInt8), zid, id1⟩ : Upd)) (enc := updC) e14 (upd_len _) wr37_lg22 fun v w2 h hx => ⟨hx, h⟩
  ·refine stepFC (stepN rfl fun σ w1 hC h => ?_)
   have e13 := eqo (h 13 (by decide))
   have e15 : (fun x w' => RG 66 (updC) w' x ([(⟨1, ([109, 97, 105, 110] : List UInt8), zid, id1⟩ : Upd)])) (σ 15) w1 := h 15 (by decide)
   refine Yk.callA3 wr37_pl26 e13 rfl (vr (St (([102, 105, 114, 115, 116] : List UInt8))) rfl) ((apply_to apply_1 (lv := σ 15) (z := beginV) ⟨RG.nil _ _ _, RG.nil _ _ _, RG.nil _ _ _⟩ begin_lt e15 (by decide) (by decide)).mono ?_)
   rintro e w2 ⟨v, rfl, hR, hx⟩
   exact ⟨_, rfl, hx, v, rfl, hR.zero⟩
  ·refine stepFC (stepN rfl fun σ w1 hC h => ?_)
   have e16 : (fun x w' => ∃ v, x = .tuple #[.agg (refsC (r1, v)).toArray, NI 0] ∧ RefsOw 0 w' (r1, v)) (σ 16) w1 := h 16 (by decide)
   exact Yk.move rfl ⟨Ext.refl _, e16⟩
  ·refine stepFC (stepN rfl fun σ w1 hC h => ?_)
   have e12 : (fun x w' => ∃ v, x = .tuple #[.agg (refsC (r1, v)).toArray, NI 0] ∧ RefsOw 0 w' (r1, v)) (σ 12) w1 := h 12 (by decide)
   obtain ⟨v0, h1_, h2_⟩ := e12
   exact Yk.extract (vs := [.agg (refsC (r1, v0)).toArray, NI 0]) h1_ (show _ = some (Value.agg (refsC (r1, v0)).toArray) from rfl) ⟨Ext.refl _, v0, rfl, h2_⟩
  ·refine stepFC (stepN rfl fun σ w1 hC h => ?_)
   have e12 : (fun x w' => ∃ v, x = .tuple #[.agg (refsC (r1, v)).toArray, NI 0] ∧ RefsOw 0 w' (r1, v)) (σ 12) w1 := h 12 (by decide)
   obtain ⟨v0, h1_, h2_⟩ := e12
   exact Yk.extract (vs := [.agg (refsC (r1, v0)).toArray, NI 0]) h1_ (show _ = some (NI 0 : Value) from rfl) ⟨Ext.refl _, rfl⟩
  ·refine stepFC (stepN rfl fun σ w1 hC h => ?_)
   exact Yk.alloc (cs := (refsC ((⟨[], [], [], zid, []⟩, ⟨.slice none 0 0, .slice none 0 0, .slice none 0 0⟩) : RefsV)).toArray) wr37_al53 fun g w2 hn hb hx hs => ⟨hx, g, rfl, hb, Nat.le_trans (show Ext w11 w1 from hC).size (Nat.le_of_eq hn)⟩
  ·exact trivial
  ·exact trivial
 intro ρ21 w22 hx23 he hf
 obtain ⟨-, -, -, -, -, k17, k18, k2, -⟩ := hf
 obtain ⟨T0, T1, -⟩ := he.hold [(0, .bool (false)), (1, PQ n3 0)] ⟨rfl, rfl, trivial⟩ rfl
 clear he
 have hE := hE.trans hx23
 have hb9 := eb hx23 hb9
 have hA17 := hA17.trans hx23
 have k17 : (fun x w' => ∃ v, x = .agg (refsC (r1, v)).toArray ∧ RefsOw 0 w' (r1, v)) (ρ21 17) w22 := k17
 obtain ⟨v24, T17⟩ : ∃ v, ρ21 17 = v := ⟨_, rfl⟩
 rw [T17] at k17
 have hk25 := k17; clear k17
 obtain ⟨v26, hq_, hR27⟩ := hk25
 rw [hq_] at T17; clear hq_
 have ho28 : OG 0 70 33 nmdC w22 v26.branches r1.branches := OG.low hR27.br (Nat.zero_le _)
 have hap29 := OG.off ho28 hb9 (by decide)
 have ho30 : OG 0 70 33 nmdC w22 v26.tags r1.tags := OG.low hR27.tg (Nat.zero_le _)
 have hap31 := OG.off ho30 hb9 (by decide)
 have ho32 : OG 0 122 67 entC w22 v26.log r1.log := OG.low hR27.lg (Nat.zero_le _)
 have hap33 := OG.off ho32 hb9 (by decide)
 have T18 : ρ21 18 = NI 0 := k18
 have k2 : (fun x w' => ∃ g, x = PQ g 0 ∧ w'.heap[g]? = some (.cells (refsC ((⟨[], [], [], zid, []⟩, ⟨.slice none 0 0, .slice none 0 0, .slice none 0 0⟩) : RefsV)).toArray 53 (0, 0)) ∧ w11.heap.size ≤ g) (ρ21 2) w22 := k2
 obtain ⟨v34, T2⟩ : ∃ v, ρ21 2 = v := ⟨_, rfl⟩
 rw [T2] at k2
 have hk35 := k2; clear k2
 obtain ⟨n36, rfl, hb37, hn38⟩ := hk35
 have hl39 := bl hb37
 clear k18
 have hap40 := OG.off ho28 hb37 (by decide)
 have hap41 := OG.off ho30 hb37 (by decide)
 have hap42 := OG.off ho32 hb37 (by decide)
 refine oS rfl (Yk.storeAll T2 T17 hb37 (by simp only [List.size_toArray, refs_len]) (st_isz (refs_len _) wr37_isz53) (refs_one (x := (r1, v26)) (RG.one (RG.ofOwn ho28)).2 (RG.one (RG.ofOwn ho30)).2 (RG.one (RG.ofOwn ho32)).2) fun w43 hb44 hg45 hs46 => ?_)
 have hE := row_fresh hE hg45 (Nat.le_trans hz19 (by omega))
 have hb9 := kb hg45 hb9 (by omega)
 have hA17 := row_fresh hA17 hg45 (Nat.le_trans (Nat.le_refl _) (by omega))
 have ho28 := OG.kept ho28 hg45 hap40
 have ho30 := OG.kept ho30 hg45 hap41
 have ho32 := OG.kept ho32 hg45 hap42
 clear hb37
 have hb37 : w43.heap[n36]? = some (.cells (refsC (r1, v26)).toArray 53 (0, 0)) := hb44; clear hb44
 have hl47 := bl hb37
 refine oA rfl (oZ (tN (hK16 _ _ (sk fun K48 hK48 => (wt (oS rfl (Yk.loadAll T2 hb37 (wr37_ty53).choose_spec rfl (st_isz (refs_len (r1, v26)) wr37_isz53) (oS rfl (Yk.callA2 wr37_pl39 (vr (.agg (refsC (r1, v26)).toArray) rfl) (vr (St (([] : List UInt8))) rfl) ((look_to look_1 ⟨RG.ofOwn ho28, RG.ofOwn ho30, RG.ofOwn ho32⟩ r1_lt).mono ?_))))))))))
 rintro e w50 ⟨rfl, hx49⟩
 refine ⟨_, rfl, ?_⟩
 have hE := hE.trans hx49
 have hb9 := eb hx49 hb9
 have hA17 := hA17.trans hx49
 have ho28 := ho28.keep hx49
 have ho30 := ho30.keep hx49
 have ho32 := ho32.keep hx49
 have hb37 := eb hx49 hb37
 refine oM rfl (oS rfl (Yk.extract (vs := [AB id1.1, NI 0]) (vr (.tuple #[AB id1.1, NI 0]) rfl) (show _ = some (AB id1.1 : Value) from rfl) (oS rfl (Yk.extract (vs := [AB id1.1, NI 0]) (vr (.tuple #[AB id1.1, NI 0]) rfl) (show _ = some (NI 0 : Value) from rfl) (oS rfl (Yk.alloc (cs := (Lib.byteCells (List.replicate 32 0)).toArray) wr37_al25 fun n51 w52 hn53 hb54 hx55 hs56 => ?_))))))
 have hA57 := Ext.refl w50
 have hea58 := hE
 have hea59 := hA17
 have hz60 := hE.size
 have hz61 := hA17.size
 have hlt62 := lte (bl hb9) hn53
 have hlt63 := lte (bl hb37) hn53
 have hap64 : OB v26.branches n51 := own_newer ho28.2 (by omega)
 have hap65 : OB v26.tags n51 := own_newer ho30.2 (by omega)
 have hap66 : OB v26.log n51 := own_newer ho32.2 (by omega)
 have hE := hE.trans hx55
 have hb9 := eb hx55 hb9
 have hA17 := hA17.trans hx55
 have ho28 := ho28.keep hx55
 have ho30 := ho30.keep hx55
 have ho32 := ho32.keep hx55
 have hb37 := eb hx55 hb37
 have hA57 := hA57.trans hx55
 have hb67 := hb54; clear hb54
 have hl68 : n51 < w52.heap.size := by omega
 refine oS rfl (Yk.storeAll (vr (PQ n51 0) rfl) (vr (AB id1.1) rfl) hb67 (by exact idsize id1.2 List.length_replicate) (by exact sizeId_of id1.2) (byteCells_one _) fun w69 hb70 hg71 hs72 => ?_)
 have hE := row_fresh hE hg71 (Nat.le_trans hz60 (by omega))
 have hb9 := kb hg71 hb9 (by omega)
 have hA17 := row_fresh hA17 hg71 (Nat.le_trans hz61 (by omega))
 have ho28 := OG.kept ho28 hg71 hap64
 have ho30 := OG.kept ho30 hg71 hap65
 have ho32 := OG.kept ho32 hg71 hap66
 have hb37 := kb hg71 hb37 (by omega)
 have hA57 := row_fresh hA57 hg71 (Nat.le_trans (Nat.le_refl _) (by omega))
 clear hb67
 have hb67 := hb70; clear hb70
 have hl73 := bl hb67
 refine oA rfl (oZ (tN (hK48 _ _ (sk fun K74 hK74 => (wt (oS rfl (Yk.loadAll T2 hb37 (wr37_ty53).choose_spec rfl (st_isz (refs_len (r1, v26)) wr37_isz53) (oS rfl (Yk.loadAll T1 hb9 (wr37_ty67).choose_spec rfl (st_isz (upd_len (⟨1, ([109, 97, 105, 110] : List UInt8), zid, id1⟩ : Upd)) wr37_isz67) (oS rfl (Yk.lit1G (a := (⟨1, ([109, 97, 105, 110] : List UInt8), zid, id1⟩ : Upd)) (enc := updC) (vr (.agg (updC (⟨1, ([109, 97, 105, 110] : List UInt8), zid, id1⟩ : Upd)).toArray) rfl) (upd_len _) wr37_lg22 fun v75 w76 hr77 hx78 => ?_)))))))))))
 have hE := hE.trans hx78
 have hb9 := eb hx78 hb9
 have hA17 := hA17.trans hx78
 have ho28 := ho28.keep hx78
 have ho30 := ho30.keep hx78
 have ho32 := ho32.keep hx78
 have hb37 := eb hx78 hb37
 have hA57 := hA57.trans hx78
 have hb67 := eb hx78 hb67
 refine oS rfl (Yk.callA3 wr37_pl26 (vr (.agg (refsC (r1, v26)).toArray) rfl) (vr v75 rfl) (vr (St (([97, 103, 97, 105, 110] : List UInt8))) rfl) ((apply_to apply_2 ⟨RG.ofOwn ho28, RG.ofOwn ho30, RG.ofOwn ho32⟩ r1_lt hr77 (by decide) (by decide)).mono ?_))
 rintro e w82 ⟨v79, rfl, hR80, hx81⟩
 refine ⟨_, rfl, ?_⟩
 have hE := hE.trans hx81
 have hb9 := eb hx81 hb9
 have hA17 := hA17.trans hx81
 have ho28 := ho28.keep hx81
 have ho30 := ho30.keep hx81
 have ho32 := ho32.keep hx81
 have hb37 := eb hx81 hb37
 have hA57 := hA57.trans hx81
 have hb67 := eb hx81 hb67
 have hr77 := hr77.keep hx81
 have ho83 : OG 0 70 33 nmdC w82 v79.branches zeroR.branches := OG.low hR80.br (Nat.zero_le _)
 have hap84 := OG.off ho83 hb9 (by decide)
 have hap85 := OG.off ho83 hb37 (by decide)
 have hap86 := OG.off ho83 hb67 (by decide)
 have ho87 : OG 0 70 33 nmdC w82 v79.tags zeroR.tags := OG.low hR80.tg (Nat.zero_le _)
 have hap88 := OG.off ho87 hb9 (by decide)
 have hap89 := OG.off ho87 hb37 (by decide)
 have hap90 := OG.off ho87 hb67 (by decide)
 have ho91 : OG 0 122 67 entC w82 v79.log zeroR.log := OG.low hR80.lg (Nat.zero_le _)
 have hap92 := OG.off ho91 hb9 (by decide)
 have hap93 := OG.off ho91 hb37 (by decide)
 have hap94 := OG.off ho91 hb67 (by decide)
 refine oM rfl (oS rfl (Yk.extract (vs := [.agg (refsC (zeroR, v79)).toArray, NI 15]) (vr (.tuple #[.agg (refsC (zeroR, v79)).toArray, NI 15]) rfl) (show _ = some (.agg (refsC (zeroR, v79)).toArray : Value) from rfl) (oS rfl (Yk.extract (vs := [.agg (refsC (zeroR, v79)).toArray, NI 15]) (vr (.tuple #[.agg (refsC (zeroR, v79)).toArray, NI 15]) rfl) (show _ = some (NI 15 : Value) from rfl) (oS rfl (Yk.alloc (cs := (refsC ((⟨[], [], [], zid, []⟩, ⟨.slice none 0 0, .slice none 0 0, .slice none 0 0⟩) : RefsV)).toArray) wr37_al53 fun n95 w96 hn97 hb98 hx99 hs100 => ?_))))))
 have hA101 := Ext.refl w82
 have hea102 := hE
 have hea103 := hA17
 have hea104 := hA57
 have hz105 := hE.size
 have hz106 := hA17.size
 have hz107 := hA57.size
 have hlt108 := lte (bl hb9) hn97
 have hlt109 := lte (bl hb37) hn97
 have hlt110 := lte (bl hb67) hn97
 have hap111 : OB v26.branches n95 := own_newer ho28.2 (by omega)
 have hap112 : OB v26.tags n95 := own_newer ho30.2 (by omega)
 have hap113 : OB v26.log n95 := own_newer ho32.2 (by omega)
 have hap114 : OB v79.branches n95 := own_newer ho83.2 (by omega)
 have hap115 : OB v79.tags n95 := own_newer ho87.2 (by omega)
 have hap116 : OB v79.log n95 := own_newer ho91.2 (by omega)
 have hE := hE.trans hx99
 have hb9 := eb hx99 hb9
 have hA17 := hA17.trans hx99
 have ho28 := ho28.keep hx99
 have ho30 := ho30.keep hx99
 have ho32 := ho32.keep hx99
 have hb37 := eb hx99 hb37
 have hA57 := hA57.trans hx99
 have hb67 := eb hx99 hb67
 have ho83 := ho83.keep hx99
 have ho87 := ho87.keep hx99
 have ho91 := ho91.keep hx99
 have hA101 := hA101.trans hx99
 have hb117 := hb98; clear hb98
 have hl118 : n95 < w96.heap.size := by omega
 refine oS rfl (Yk.storeAll (vr (PQ n95 0) rfl) (vr (.agg (refsC (zeroR, v79)).toArray) rfl) hb117 (by simp only [List.size_toArray, refs_len]) (st_isz (refs_len _) wr37_isz53) (refs_one (x := (zeroR, v79)) (RG.one (RG.ofOwn ho83)).2 (RG.one (RG.ofOwn ho87)).2 (RG.one (RG.ofOwn ho91)).2) fun w119 hb120 hg121 hs122 => ?_)
 have hE := row_fresh hE hg121 (Nat.le_trans hz105 (by omega))
 have hb9 := kb hg121 hb9 (by omega)
 have hA17 := row_fresh hA17 hg121 (Nat.le_trans hz106 (by omega))
 have ho28 := OG.kept ho28 hg121 hap111
 have ho30 := OG.kept ho30 hg121 hap112
 have ho32 := OG.kept ho32 hg121 hap113
 have hb37 := kb hg121 hb37 (by omega)
 have hA57 := row_fresh hA57 hg121 (Nat.le_trans hz107 (by omega))
 have hb67 := kb hg121 hb67 (by omega)
 have ho83 := OG.kept ho83 hg121 hap114
 have ho87 := OG.kept ho87 hg121 hap115
 have ho91 := OG.kept ho91 hg121 hap116
 have hA101 := row_fresh hA101 hg121 (Nat.le_trans (Nat.le_refl _) (by omega))
 clear hb117
 have hb117 : w119.heap[n95]? = some (.cells (refsC (zeroR, v79)).toArray 53 (0, 0)) := hb120; clear hb120
 have hl123 := bl hb117
 refine oA rfl (oZ (tN (hK74 _ _ (sk fun K124 hK124 => (wt (oS rfl (Yk.loadAll T2 hb37 (wr37_ty53).choose_spec rfl (st_isz (refs_len (r1, v26)) wr37_isz53) (oS rfl (Yk.run (v := AB id1.1) (by kernel_rfl) (oS rfl (Yk.build3 (vr (B8 (1)) rfl) (vr (St (([109, 97, 105, 110] : List UInt8))) rfl) (vr (AB id1.1) rfl) (fun w => wr37_bs67_0_1_2 1 ([109, 97, 105, 110] : List UInt8) id1 w) (oS rfl (Yk.lit1G (a := (⟨1, ([109, 97, 105, 110] : List UInt8), id1, zid⟩ : Upd)) (enc := updC) (vr (.agg (updC (⟨1, ([109, 97, 105, 110] : List UInt8), id1, zid⟩ : Upd)).toArray) rfl) (upd_len _) wr37_lg22 fun v125 w126 hr127 hx128 => ?_)))))))))))))
 have hE := hE.trans hx128
 have hb9 := eb hx128 hb9
 have hA17 := hA17.trans hx128
 have ho28 := ho28.keep hx128
 have ho30 := ho30.keep hx128
 have ho32 := ho32.keep hx128
 have hb37 := eb hx128 hb37
 have hA57 := hA57.trans hx128
 have hb67 := eb hx128 hb67
 have ho83 := ho83.keep hx128
 have ho87 := ho87.keep hx128
 have ho91 := ho91.keep hx128
 have hA101 := hA101.trans hx128
 have hb117 := eb hx128 hb117
 refine oS rfl (Yk.callA3 wr37_pl26 (vr (.agg (refsC (r1, v26)).toArray) rfl) (vr v125 rfl) (vr (St (([] : List UInt8))) rfl) ((apply_to apply_3 ⟨RG.ofOwn ho28, RG.ofOwn ho30, RG.ofOwn ho32⟩ r1_lt hr127 (by decide) (by decide)).mono ?_))
 rintro e w132 ⟨v129, rfl, hR130, hx131⟩
 refine ⟨_, rfl, ?_⟩
 have hE := hE.trans hx131
 have hb9 := eb hx131 hb9
 have hA17 := hA17.trans hx131
 have ho28 := ho28.keep hx131
 have ho30 := ho30.keep hx131
 have ho32 := ho32.keep hx131
 have hb37 := eb hx131 hb37
 have hA57 := hA57.trans hx131
 have hb67 := eb hx131 hb67
 have ho83 := ho83.keep hx131
 have ho87 := ho87.keep hx131
 have ho91 := ho91.keep hx131
 have hA101 := hA101.trans hx131
 have hb117 := eb hx131 hb117
 have hr127 := hr127.keep hx131
 have ho133 : OG 0 70 33 nmdC w132 v129.branches zeroR.branches := OG.low hR130.br (Nat.zero_le _)
 have hap134 := OG.off ho133 hb9 (by decide)
 have hap135 := OG.off ho133 hb37 (by decide)
 have hap136 := OG.off ho133 hb67 (by decide)
 have hap137 := OG.off ho133 hb117 (by decide)
 have ho138 : OG 0 70 33 nmdC w132 v129.tags zeroR.tags := OG.low hR130.tg (Nat.zero_le _)
 have hap139 := OG.off ho138 hb9 (by decide)
 have hap140 := OG.off ho138 hb37 (by decide)
 have hap141 := OG.off ho138 hb67 (by decide)
 have hap142 := OG.off ho138 hb117 (by decide)
 have ho143 : OG 0 122 67 entC w132 v129.log zeroR.log := OG.low hR130.lg (Nat.zero_le _)
 have hap144 := OG.off ho143 hb9 (by decide)
 have hap145 := OG.off ho143 hb37 (by decide)
 have hap146 := OG.off ho143 hb67 (by decide)
 have hap147 := OG.off ho143 hb117 (by decide)
 refine oM rfl (oS rfl (Yk.extract (vs := [.agg (refsC (zeroR, v129)).toArray, NI 16]) (vr (.tuple #[.agg (refsC (zeroR, v129)).toArray, NI 16]) rfl) (show _ = some (.agg (refsC (zeroR, v129)).toArray : Value) from rfl) (oS rfl (Yk.extract (vs := [.agg (refsC (zeroR, v129)).toArray, NI 16]) (vr (.tuple #[.agg (refsC (zeroR, v129)).toArray, NI 16]) rfl) (show _ = some (NI 16 : Value) from rfl) (oS rfl (Yk.alloc (cs := (refsC ((⟨[], [], [], zid, []⟩, ⟨.slice none 0 0, .slice none 0 0, .slice none 0 0⟩) : RefsV)).toArray) wr37_al53 fun n148 w149 hn150 hb151 hx152 hs153 => ?_))))))
 have hA154 := Ext.refl w132
 have hea155 := hE
 have hea156 := hA17
 have hea157 := hA57
 have hea158 := hA101
 have hz159 := hE.size
 have hz160 := hA17.size
 have hz161 := hA57.size
 have hz162 := hA101.size
 have hlt163 := lte (bl hb9) hn150
 have hlt164 := lte (bl hb37) hn150
 have hlt165 := lte (bl hb67) hn150
 have hlt166 := lte (bl hb117) hn150
 have hap167 : OB v26.branches n148 := own_newer ho28.2 (by omega)
 have hap168 : OB v26.tags n148 := own_newer ho30.2 (by omega)
 have hap169 : OB v26.log n148 := own_newer ho32.2 (by omega)
 have hap170 : OB v79.branches n148 := own_newer ho83.2 (by omega)
 have hap171 : OB v79.tags n148 := own_newer ho87.2 (by omega)
 have hap172 : OB v79.log n148 := own_newer ho91.2 (by omega)
 have hap173 : OB v129.branches n148 := own_newer ho133.2 (by omega)
 have hap174 : OB v129.tags n148 := own_newer ho138.2 (by omega)
 have hap175 : OB v129.log n148 := own_newer ho143.2 (by omega)
 have hE := hE.trans hx152
 have hb9 := eb hx152 hb9
 have hA17 := hA17.trans hx152
 have ho28 := ho28.keep hx152
 have ho30 := ho30.keep hx152
 have ho32 := ho32.keep hx152
 have hb37 := eb hx152 hb37
 have hA57 := hA57.trans hx152
 have hb67 := eb hx152 hb67
 have ho83 := ho83.keep hx152
 have ho87 := ho87.keep hx152
 have ho91 := ho91.keep hx152
 have hA101 := hA101.trans hx152
 have hb117 := eb hx152 hb117
 have ho133 := ho133.keep hx152
 have ho138 := ho138.keep hx152
 have ho143 := ho143.keep hx152
 have hA154 := hA154.trans hx152
 have hb176 := hb151; clear hb151
 have hl177 : n148 < w149.heap.size := by omega
 refine oS rfl (Yk.storeAll (vr (PQ n148 0) rfl) (vr (.agg (refsC (zeroR, v129)).toArray) rfl) hb176 (by simp only [List.size_toArray, refs_len]) (st_isz (refs_len _) wr37_isz53) (refs_one (x := (zeroR, v129)) (RG.one (RG.ofOwn ho133)).2 (RG.one (RG.ofOwn ho138)).2 (RG.one (RG.ofOwn ho143)).2) fun w178 hb179 hg180 hs181 => ?_)
 have hE := row_fresh hE hg180 (Nat.le_trans hz159 (by omega))
 have hb9 := kb hg180 hb9 (by omega)
 have hA17 := row_fresh hA17 hg180 (Nat.le_trans hz160 (by omega))
 have ho28 := OG.kept ho28 hg180 hap167
 have ho30 := OG.kept ho30 hg180 hap168
 have ho32 := OG.kept ho32 hg180 hap169
 have hb37 := kb hg180 hb37 (by omega)
 have hA57 := row_fresh hA57 hg180 (Nat.le_trans hz161 (by omega))
 have hb67 := kb hg180 hb67 (by omega)
 have ho83 := OG.kept ho83 hg180 hap170
 have ho87 := OG.kept ho87 hg180 hap171
 have ho91 := OG.kept ho91 hg180 hap172
 have hA101 := row_fresh hA101 hg180 (Nat.le_trans hz162 (by omega))
 have hb117 := kb hg180 hb117 (by omega)
 have ho133 := OG.kept ho133 hg180 hap173
 have ho138 := OG.kept ho138 hg180 hap174
 have ho143 := OG.kept ho143 hg180 hap175
 have hA154 := row_fresh hA154 hg180 (Nat.le_trans (Nat.le_refl _) (by omega))
 clear hb176
 have hb176 : w178.heap[n148]? = some (.cells (refsC (zeroR, v129)).toArray 53 (0, 0)) := hb179; clear hb179
 have hl182 := bl hb176
 refine oA rfl (oZ (tN (hK124 _ _ (sk fun K183 hK183 => (wt (oM rfl (oS rfl (Yk.eqI (a := (0 : Nat)) (b := (0 : Nat)) T18 rfl (k_eql _ _ _ _) (oM rfl (opsF_mayV (NI 0) rfl rfl (gT (vr (.bool (decide ((0 : Nat) = (0)))) rfl)) (fun hG184 => Yk.move (vr (NI 0) rfl) ⟨rfl, rfl⟩) (opsF_mayV (.bool (decide ((0 : Nat) = (0)))) rfl rfl (gT (vr (.bool (decide ((0 : Nat) = (0)))) rfl)) (fun hG185 => Yk.eqI (a := ((0 : Nat) : Int)) (b := ((0 : Nat) : Int)) (mayT (vr (cond ((decide ((0 : Nat) = (0)))) (NI 0) undef) rfl) hG185) (vr (NI 0) rfl) (k_eql _ .i64 (0) (0)) ⟨rfl, rfl⟩) (oS rfl (Yk.pickAndN (vr (.bool (decide ((0 : Nat) = (0)))) rfl) (fun hA => (mayT (vr (cond ((decide ((0 : Nat) = (0)))) (.bool (decide ((0 : Nat) = (0)))) undef) rfl) hA)) (vr (.bool (false)) rfl) fun bb186 hbb187 => (oM rfl (opsF_mayV (AB id1.1) rfl rfl (gT (vr (.bool (bb186)) rfl)) (fun hG188 => Yk.loadAll (vr (PQ n51 0) rfl) hb67 wr37_ty25 rfl (by exact sizeId_of id1.2) ⟨rfl, rfl⟩) (opsF_mayV (AB id1.1) rfl rfl (gT (vr (.bool (bb186)) rfl)) (fun hG189 => Yk.run (v := AB id1.1) (by kernel_rfl) ⟨rfl, rfl⟩) (opsF_mayV (.bool (decide (id1.1 = id1.1))) rfl rfl (gT (vr (.bool (bb186)) rfl)) (fun hG190 => Yk.eqArr (l1 := id1.1) (l2 := id1.1) wr37_ty25 wr37_ty5 wr37_sz5 wr37_eg25 (mayT (vr (cond (bb186) (AB id1.1) undef) rfl) hG190) (mayT (vr (cond (bb186) (AB id1.1) undef) rfl) hG190) (id1.2) (id1.2) ⟨rfl, rfl⟩) (oS rfl (Yk.pickAndN (vr (.bool (bb186)) rfl) (fun hA => (mayT (vr (cond (bb186) (.bool (decide (id1.1 = id1.1))) undef) rfl) hA)) (vr (.bool (false)) rfl) fun bb191 hbb192 => ?_)))))))))))))))))))
 refine oM rfl (opsF_mayV (NI 15) rfl rfl (gT (vr (.bool (bb191)) rfl)) (fun hG193 => Yk.move (vr (NI 15) rfl) ⟨rfl, rfl⟩) (opsF_mayV (.bool (decide ((15 : Nat) = (15)))) rfl rfl (gT (vr (.bool (bb191)) rfl)) (fun hG194 => Yk.eqI (a := ((15 : Nat) : Int)) (b := ((15 : Nat) : Int)) (mayT (vr (cond (bb191) (NI 15) undef) rfl) hG194) (vr (NI 15) rfl) (k_eql _ .i64 (15) (15)) ⟨rfl, rfl⟩) (oS rfl (Yk.pickAndN (vr (.bool (bb191)) rfl) (fun hA => (mayT (vr (cond (bb191) (.bool (decide ((15 : Nat) = (15)))) undef) rfl) hA)) (vr (.bool (false)) rfl) fun bb195 hbb196 => (oM rfl (opsF_mayV (NI 16) rfl rfl (gT (vr (.bool (bb195)) rfl)) (fun hG197 => Yk.move (vr (NI 16) rfl) ⟨rfl, rfl⟩) (opsF_mayV (.bool (decide ((16 : Nat) = (16)))) rfl rfl (gT (vr (.bool (bb195)) rfl)) (fun hG198 => Yk.eqI (a := ((16 : Nat) : Int)) (b := ((16 : Nat) : Int)) (mayT (vr (cond (bb195) (NI 16) undef) rfl) hG198) (vr (NI 16) rfl) (k_eql _ .i64 (16) (16)) ⟨rfl, rfl⟩) (oS rfl (Yk.pickAndN (vr (.bool (bb195)) rfl) (fun hA => (mayT (vr (cond (bb195) (.bool (decide ((16 : Nat) = (16)))) undef) rfl) hA)) (vr (.bool (false)) rfl) fun bb199 hbb200 => (oM rfl (opsF_mayV (PQ n36 35) rfl rfl (gT (vr (.bool (bb199)) rfl)) (fun hG201 => Yk.fieldAt wr37_fo53_4 T2 ⟨rfl, rfl⟩) (opsF_mayV (((r1, v26)).2.log) rfl rfl (gT (vr (.bool (bb199)) rfl)) (fun hG202 => Yk.cell1 wr37_ty47 rfl (mayT (vr (cond (bb199) (PQ n36 35) undef) rfl) hG202) (cellAt hb37 (show (refsC (r1, v26))[35]? = some (((r1, v26)).2.log : Value) from refs_g4 (r1, v26))) ⟨rfl, rfl⟩) (opsF_mayV (NI ((r1.log).length)) rfl rfl (gT (vr (.bool (bb199)) rfl)) (fun hG203 => Yk.lenRG wr37_ty47 (RG.of (RG.ofOwn ho32) (mayT (vr (cond (bb199) (((r1, v26)).2.log) undef) rfl) hG203)) ⟨rfl, rfl⟩) (opsF_mayV (.bool (decide (((r1.log).length : Nat) = (1)))) rfl rfl (gT (vr (.bool (bb199)) rfl)) (fun hG204 => Yk.eqI (a := (((r1.log).length : Nat) : Int)) (b := ((1 : Nat) : Int)) (mayT (vr (cond (bb199) (NI ((r1.log).length)) undef) rfl) hG204) (vr (NI 1) rfl) (k_eql _ .i64 ((r1.log).length) (1)) ⟨rfl, rfl⟩) (oS rfl (Yk.pickAndN (vr (.bool (bb199)) rfl) (fun hA => (mayT (vr (cond (bb199) (.bool (decide (((r1.log).length : Nat) = (1)))) undef) rfl) hA)) (vr (.bool (false)) rfl) fun bb205 hbb206 => (oA rfl (oL_ [(0, .bool (bb205)), (1, PQ n3 0), (2, PQ n36 0), (3, NI 0), (4, PQ n51 0), (5, NI 0), (7, NI 15), (9, NI 16)] ⟨rfl, T1, T2, T18, rfl, rfl, rfl, rfl, trivial⟩ fun ρ207 ⟨T0, T1, T2, T3, T4, T5, T7, T9, _⟩ => ?_))))))))))))))))))
 refine tN (hK183 _ _ (wpF_ret (postF_ret (fn := Tryd.f35) _ rfl [.bool (bb205)] (.bool (bb205)) rfl ⟨T0, trivial⟩ ?_)))
 subst hbb187 hbb192 hbb196 hbb200 hbb206
 exact ⟨by first | rfl | decide | simp, hE⟩
end Go.Proofs.YtmonlobfofkbdaaDoor
