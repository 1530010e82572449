/- Part 3 of what stands behind these statements: laws and walks of the functions that are reached. Conditions: those that each theorem names. -/
import Derived.Test.YtmonlobfofkbdaaDoorB2
set_option linter.unusedVariables false
set_option linter.unusedSimpArgs false
namespace Go.Proofs.YtmonlobfofkbdaaDoor
open Go.RowKit
section
variable {α : Type} {b k g c : Nat} {t : TypeId} {enc : α → List Value} {w : World} {v : Value} {l : List α} {R : List Value}
theorem OG.row (h : OG b t k enc w v l) (h0 : 0 < l.length) : ∃ g c R, v = .slice (some ⟨g, 0, none⟩) l.length c ∧ b ≤ g ∧ w.heap[g]? = some (.cells (l.flatMap enc ++ R).toArray t (0, 0)) ∧ (l.flatMap enc ++ R).length = c * k ∧ l.length ≤ c ∧ c ≤ maxLen := by
  obtain ⟨-, hx, ⟨-, h1⟩ | ⟨g, c, cur, rfl, hb, hg, hn, hm, hs, ht⟩⟩ := h
  · omega
  · refine ⟨g, c, cur.toList.drop (l.length * k), rfl, hb, ?_, ?_, hn, hm⟩
    · rw [← ht, List.take_append_drop]; exact hg
    · rw [← ht, List.take_append_drop, Array.length_toList, hs]
theorem OG.ofRow (hl : ∀ x ∈ l, (enc x).length = k) (hb : b ≤ g) (hg : w.heap[g]? = some (.cells (l.flatMap enc ++ R).toArray t (0, 0))) (hL : (l.flatMap enc ++ R).length = c * k) (hn : l.length ≤ c) (hm : c ≤ maxLen) : OG b t k enc w (.slice (some ⟨g, 0, none⟩) l.length c) l :=
  ⟨hl, flat_len hl, .inr ⟨g, c, _, rfl, hb, hg, hn, hm, by rw [List.size_toArray, hL], by rw [List.toList_toArray, List.take_left' (flat_len hl)]⟩⟩
theorem flat_cut (d : α) {p : Nat} (hp : p < l.length) : l.flatMap enc = (l.take p).flatMap enc ++ enc (l.getD p d) ++ (l.drop (p + 1)).flatMap enc := by
  conv => lhs; rw [← List.take_append_drop p l, List.drop_eq_getElem_cons hp]
  rw [List.flatMap_append, List.flatMap_cons, ← List.append_assoc, List.getD_eq_getElem?_getD, List.getElem?_eq_getElem hp]
  rfl
end
section
variable {P : Program} {K : Value → World → Prop} {ρ : Slots} {w : World} {d : Option Tmp} {ty : TypeId} {pos : String} {af : Array Edge} {gd : Option (Nat × Bool)} {α : Type} {t : TypeId}
theorem Yk.lit1B {k : Nat} {enc : α → List Value} {e : TypeId} {x : Operand} {a : α} (hx : evalR ρ x = .agg (enc a).toArray) (hl : (enc a).length = k)
    (hr : ∀ (cs : Array Value), cs.size = k → ∀ w : World, (Instr.buildSlice t 1 #[(0, .agg cs)]).run P w = .ok (.slice (some ⟨w.heap.size, 0, none⟩) 1 1) (w.alloc (.cells cs e)))
    (hk : ∀ b w', w.heap.size = b → w'.heap[b]? = some (.cells (enc a).toArray e (0, 0)) → Ext w w' → w'.heap.size = w.heap.size + 1 → K (.slice (some ⟨b, 0, none⟩) 1 1) w') : Yk P K ((execOp (evalR ρ) ⟨d, .buildSlice t 1 #[(0, x)], ty, pos, af, gd⟩).run P w) := by
  have hE : Ext w (w.alloc (.cells (enc a).toArray e)) := (Below.refl _ _).alloc (Nat.le_refl _) _
  refine Yk.value (v := .slice (some ⟨w.heap.size, 0, none⟩) 1 1) (w' := w.alloc (.cells (enc a).toArray e)) ?_ (hk _ _ rfl (heap_alloc_new w _) hE (by simp))
  unfold execOp
  simp only [List.map_toArray, List.map_cons, List.map_nil, hx, Sem.run_bind, hr _ (show (enc a).toArray.size = k by rw [List.size_toArray]; exact hl), Result.andThen_ok, Sem.run_pure]
theorem set_split {l : List α} {p : Nat} {x : α} (hp : p < l.length) : l.set p x = l.take p ++ x :: l.drop (p + 1) := by rw [List.set_eq_take_append_cons_drop, if_pos hp]
theorem Yk.storeNmdId {b : Nat} {t' e : TypeId} {v : Value} {l : List Nmd} {g p : Nat} {i : Id32} {x y : Operand} (hx : evalR ρ x = PQ g (p * 33 + 1)) (hy : evalR ρ y = .agg (Lib.byteCells i.1).toArray) (h : OG b e 33 nmdC w v l) (hg : v.ownBlock = some g) (hp : p < l.length) (hinfo : (P.info? t').map (·.size) = some 32)
    (hk : ∀ w', OG b e 33 nmdC w' v (l.set p ⟨(l.getD p dNmd).name, i⟩) → Grew w w' v v → K undef w') : Yk P K ((execOp (evalR ρ) ⟨d, .store t' x y, ty, pos, af, gd⟩).run P w) := by
  obtain ⟨g', c, R, rfl, hb, hC, hL, hc, hm⟩ := h.row (by omega)
  obtain rfl : g' = g := by simpa [Value.ownBlock] using hg
  have h1 := i.2
  have h2 := (l.getD p dNmd).id.2
  have e1 : l.flatMap nmdC ++ R = ((l.take p).flatMap nmdC ++ [St (l.getD p dNmd).name]) ++ Lib.byteCells (l.getD p dNmd).id.1 ++ ((l.drop (p + 1)).flatMap nmdC ++ R) := by
    rw [flat_cut dNmd hp]
    simp [nmdC]
  have e2 : ((l.set p ⟨(l.getD p dNmd).name, i⟩).flatMap nmdC) ++ R = ((l.take p).flatMap nmdC ++ [St (l.getD p dNmd).name]) ++ Lib.byteCells i.1 ++ ((l.drop (p + 1)).flatMap nmdC ++ R) := by
    rw [set_split hp, List.flatMap_append, List.flatMap_cons]
    simp [nmdC]
  have hn : ((l.take p).flatMap nmdC).length = p * 33 := by rw [flat_len (fun x _ => nmd_len x), List.length_take]; congr 1; omega
  rw [e1] at hC
  refine Yk.storeMid hx hy hC (by rw [List.length_append, hn]; rfl) (by rw [Lib.byteCells_length, Lib.byteCells_length, h1, h2]) (by rw [Lib.byteCells_length, h1]; exact hinfo) (byteCells_one _) fun w' k1 k2 _ => hk w' ?_ ⟨k2, fun k hk => .inl hk⟩
  rw [← e2] at k1
  rw [show l.length = (l.set p (⟨(l.getD p dNmd).name, i⟩ : Nmd)).length by rw [List.length_set]]
  refine OG.ofRow (fun x _ => nmd_len x) hb k1 ?_ (by rw [List.length_set]; exact hc) hm
  rw [← hL, e1, e2]
  simp only [List.length_append, Lib.byteCells_length, h1, h2]
end
theorem nmds_one {l : List Nmd} : ∀ u ∈ l.flatMap nmdC, u.oneCell' = true := fun u hu => by
  obtain ⟨x, -, hx⟩ := List.mem_flatMap.1 hu
  exact nmd_one u hx
theorem nmds_len (l : List Nmd) : (l.flatMap nmdC).length = l.length * 33 := flat_len (fun x _ => nmd_len x)
theorem delete_og (w0 w : World) (v : Value) (l : List Nmd) (p : Nat) (hE : Ext w0 w) (h : OG w0.heap.size 70 33 nmdC w v l) (hp : p < l.length) :
    Calls Tryd.prog 163 #[v, NI p, NI (p + 1)] w fun e w' => ∃ v', e = .returned v' ∧ OG w0.heap.size 70 33 nmdC w' v' (l.eraseIdx p) ∧ Ext w0 w' := by
  obtain ⟨g, c, R, rfl, hb, hC, hL, hc, hm⟩ := h.row (by omega)
  have hl : l.length = p + 1 + (l.length - (p + 1)) := by omega
  rw [flat_cut dNmd hp] at hC hL
  refine Calls.mono (delete_blk w _ g c p (l.length - (p + 1)) _ _ _ R (by rw [nmds_len, List.length_take]; omega) (nmd_len _) (by rw [nmds_len, List.length_drop]) ((SB.first _ _ _ _).eq rfl hl rfl) hC hL (by omega) hm nmds_one) fun e w' ⟨R', e1, e2, e3, e4⟩ => ?_
  rw [← List.flatMap_append, ← List.eraseIdx_eq_take_drop_succ] at e2 e3
  have hle : (l.eraseIdx p).length = p + (l.length - (p + 1)) := by rw [List.length_eraseIdx_of_lt hp]; omega
  refine ⟨_, e1, ?_, row_fresh hE e4 hb⟩
  rw [← hle]
  exact OG.ofRow (fun x _ => nmd_len x) hb e2 e3 (by omega) hm
theorem insert_og (w0 w : World) (v v2 : Value) (l : List Nmd) (p b : Nat) (x : Nmd) (TX : TypeId) (hE : Ext w0 w) (h : OG w0.heap.size 70 33 nmdC w v l) (hp : p ≤ l.length) (hl : l.length ≤ 1000)
    (hv2 : v2 = .slice (some ⟨b, 0, none⟩) 1 1) (hX : w.heap[b]? = some (.cells (nmdC x).toArray TX (0, 0))) (hne : v.ownBlock ≠ some b) :
    Calls Tryd.prog 164 #[v, NI p, v2] w fun e w' => ∃ v', e = .returned v' ∧ OG w0.heap.size 70 33 nmdC w' v' (l.take p ++ x :: l.drop p) ∧ Ext w0 w' := by
  subst hv2
  by_cases hpe : p = l.length
  · subst hpe
    rw [List.take_length, List.drop_length]
    exact insert_end w0 w v _ l x hE h (RG.single (nmd_len x) hX) hl
  · obtain ⟨g, c, R, rfl, hb, hC, hL, hc, hm⟩ := h.row (by omega)
    have e0 : l.flatMap nmdC = (l.take p).flatMap nmdC ++ (l.drop p).flatMap nmdC := by rw [← List.flatMap_append, List.take_append_drop]
    rw [e0] at hC hL
    refine Calls.mono (insert_blk w _ _ g b c p (l.length - p) TX _ (nmdC x) _ R (by rw [nmds_len, List.length_take]; omega) (nmd_len x) (by rw [nmds_len, List.length_drop]) ((SB.first _ _ _ _).eq rfl (by omega) rfl) hC hL (by omega) hm (by omega) nmds_one nmd_one (SB.first _ _ _ _) hX (fun e => hne (by rw [e]; rfl)) (by omega)) fun e w' ⟨g', c', R', e1, e2, e3, e4, e5, e6, e7⟩ => ?_
    have e8 : (l.take p).flatMap nmdC ++ nmdC x ++ (l.drop p).flatMap nmdC = (l.take p ++ x :: l.drop p).flatMap nmdC := by rw [List.flatMap_append, List.flatMap_cons, List.append_assoc]
    rw [e8] at e2 e3
    have hle : (l.take p ++ x :: l.drop p).length = p + 1 + (l.length - p) := by rw [List.length_append, List.length_cons, List.length_take, List.length_drop]; omega
    refine ⟨_, e1, ?_, row_fresh hE e6 hb⟩
    rw [← hle]
    refine OG.ofRow (fun x _ => nmd_len x) ?_ e2 e3 (by omega) e5
    rcases e7 with rfl | e7
    · exact hb
    · exact Nat.le_trans hE.size e7
def turnP (l : List Nmd) (p : Nat) (y : Upd) : Nat × List Nmd :=
  if (if foundN l y.name p = true then (l.getD p dNmd).id else zid).1 ≠ y.old.1 then (15, [])
  else if zeroB y.new = true then (if foundN l y.name p = true then (0, l.eraseIdx p) else (0, l))
  else if foundN l y.name p = true then (0, l.set p ⟨(l.getD p dNmd).name, y.new⟩)
  else if 64 ≤ l.length then (3, []) else (0, l.take p ++ ⟨y.name, y.new⟩ :: l.drop p)
def placeN (l : List Nmd) (s : List UInt8) : Nat := (l.takeWhile fun n => decide (n.name < s)).length
theorem place_uniq : ∀ {l : List Nmd} {s : List UInt8} {p : Nat}, placeAt l s p → p = placeN l s
  | [], s, p, h => by have := h.1; simp at this; subst this; rfl
  | a :: l, s, p, h => by
    by_cases ha : a.name < s
    · cases p with
      | zero => exact absurd ha (h.2.2 0 (Nat.le_refl _) (by simp))
      | succ p =>
        have hp := h.1
        have ih : p = placeN l s := place_uniq ⟨by simpa using hp, fun j hj => h.2.1 (j + 1) (by omega), fun j hj hl => h.2.2 (j + 1) (by omega) (by simpa using hl)⟩
        unfold placeN at ih ⊢
        rw [List.takeWhile_cons, if_pos (by simpa using ha), List.length_cons, ← ih]
    · cases p with
      | zero => unfold placeN; rw [List.takeWhile_cons, if_neg (by simpa using ha)]; rfl
      | succ p => exact absurd (h.2.1 0 (by omega)) ha
def turnQ (l : List Nmd) (y : Upd) : Nat × List Nmd := turnP l (placeN l y.name) y
theorem OG.low {α : Type} {b b' k : Nat} {t : TypeId} {enc : α → List Value} {w : World} {v : Value} {l : List α} (h : OG b t k enc w v l) (hb : b' ≤ b) : OG b' t k enc w v l := ⟨h.1, ownsRow_base h.2 hb⟩
open Go.RowKit
set_option maxRecDepth 100000
theorem found_lt {l : List Nmd} {s : Bs} {p : Nat} (h : foundN l s p = true) : p < l.length := by
 unfold foundN at h
 simp only [Bool.and_eq_true, decide_eq_true_eq] at h
 exact h.1
theorem turnT {l : List Nmd} {p : Nat} {y : Upd} (hf : foundN l y.name p = true) : turnP l p y = if (l.getD p dNmd).id.1 ≠ y.old.1 then (15, []) else if zeroB y.new = true then (0, l.eraseIdx p) else (0, l.set p ⟨(l.getD p dNmd).name, y.new⟩) := by unfold turnP; rw [hf]; rfl
theorem turnF {l : List Nmd} {p : Nat} {y : Upd} (hf : foundN l y.name p = false) : turnP l p y = if List.replicate 32 0 ≠ y.old.1 then (15, []) else if zeroB y.new = true then (0, l) else if 64 ≤ l.length then (3, []) else (0, l.take p ++ ⟨y.name, y.new⟩ :: l.drop p) := by unfold turnP; rw [hf]; rfl
theorem wr33_fo67_1 : FieldOff Tryd.prog 67 1 1 := fun b o w => by simp [go_sem]
theorem wr33_ty9 : Tryd.prog.underlying 9 = some (.string) := by kernel_rfl
theorem wr33_pl88 : Plain Tryd.prog 88 := fun _ _ => by kernel_rfl
theorem wr33_al25 {d : Option Tmp} {ty : TypeId} {pos : String} {af : Array Edge} {gd : Option (Nat × Bool)} (σ : Operand → Value) (w : World) : (execOp σ ⟨d, .alloc 25, ty, pos, af, gd⟩).run Tryd.prog w = .ok (.value (PQ w.heap.size 0)) (w.alloc (.cells (Lib.byteCells (List.replicate 32 0)).toArray 25)) := by kernel_rfl
theorem wr33_ty51 : Tryd.prog.underlying 51 = some (.slice 70) := by kernel_rfl
theorem wr33_szg70 : ∀ w' : World, (sizeOf 70).run Tryd.prog w' = .ok 33 w' := fun _ => by kernel_rfl
theorem wr33_fo70_1 : FieldOff Tryd.prog 70 1 1 := fun b o w => by simp [go_sem]
theorem wr33_ty25 : Tryd.prog.underlying 25 = some (.array 32 5) := by kernel_rfl
theorem wr33_isz25 : (Tryd.prog.info? 25).map (·.size) = some 32 := by kernel_rfl
theorem wr33_fo67_2 : FieldOff Tryd.prog 67 2 2 := fun b o w => by simp [go_sem]
theorem wr33_eg25 : Tryd.prog.eqGuardType Tryd.prog.depth 25 = false := by kernel_rfl
theorem wr33_ty5 : Tryd.prog.underlying 5 = some (.int .u8) := by kernel_rfl
theorem wr33_sz5 : ∀ w' : World, (sizeOf 5).run Tryd.prog w' = .ok 1 w' := fun _ => by kernel_rfl
theorem wr33_pl74 : Plain Tryd.prog 74 := fun _ _ => by kernel_rfl
theorem wr33_fo67_3 : FieldOff Tryd.prog 67 3 34 := fun b o w => by simp [go_sem]
theorem wr33_pl83 : Plain Tryd.prog 83 := fun _ _ => by kernel_rfl
theorem wr33_pl163 : Plain Tryd.prog 163 := fun _ _ => by kernel_rfl
theorem wr33_bs70_0_1h (z0 : ByteArray) (c1_0 c1_1 c1_2 c1_3 c1_4 c1_5 c1_6 c1_7 c1_8 c1_9 c1_10 c1_11 c1_12 c1_13 c1_14 c1_15 c1_16 c1_17 c1_18 c1_19 c1_20 c1_21 c1_22 c1_23 c1_24 c1_25 c1_26 c1_27 c1_28 c1_29 c1_30 c1_31 : Value) (w : World) : (Instr.build 70 #[(0, .string z0), (1, .agg #[c1_0, c1_1, c1_2, c1_3, c1_4, c1_5, c1_6, c1_7, c1_8, c1_9, c1_10, c1_11, c1_12, c1_13, c1_14, c1_15, c1_16, c1_17, c1_18, c1_19, c1_20, c1_21, c1_22, c1_23, c1_24, c1_25, c1_26, c1_27, c1_28, c1_29, c1_30, c1_31])]).run Tryd.prog w = .ok (.agg #[.string z0, c1_0, c1_1, c1_2, c1_3, c1_4, c1_5, c1_6, c1_7, c1_8, c1_9, c1_10, c1_11, c1_12, c1_13, c1_14, c1_15, c1_16, c1_17, c1_18, c1_19, c1_20, c1_21, c1_22, c1_23, c1_24, c1_25, c1_26, c1_27, c1_28, c1_29, c1_30, c1_31]) w := by kernel_rfl
theorem wr33_bs70_0_1 (z0 : List UInt8) (z1 : Id32) (w : World) : (Instr.build 70 #[(0, St z0), (1, AB z1.1)]).run Tryd.prog w = .ok (.agg (St (z0) :: (Lib.byteCells z1.1)).toArray) w := by
 obtain ⟨z1, k1⟩ := z1
 obtain ⟨a1_0, a1_1, a1_2, a1_3, a1_4, a1_5, a1_6, a1_7, a1_8, a1_9, a1_10, a1_11, a1_12, a1_13, a1_14, a1_15, a1_16, a1_17, a1_18, a1_19, a1_20, a1_21, a1_22, a1_23, a1_24, a1_25, a1_26, a1_27, a1_28, a1_29, a1_30, a1_31, rfl⟩ := list32 k1
 exact wr33_bs70_0_1h _ _ _ _ _ _ _ _ _ _ _ _ _ _ _ _ _ _ _ _ _ _ _ _ _ _ _ _ _ _ _ _ _ w
theorem wr33_lh51 (c0 c1 c2 c3 c4 c5 c6 c7 c8 c9 c10 c11 c12 c13 c14 c15 c16 c17 c18 c19 c20 c21 c22 c23 c24 c25 c26 c27 c28 c29 c30 c31 c32 : Value) (w : World) : (Instr.buildSlice 51 1 #[(0, .agg #[c0, c1, c2, c3, c4, c5, c6, c7, c8, c9, c10, c11, c12, c13, c14, c15, c16, c17, c18, c19, c20, c21, c22, c23, c24, c25, c26, c27, c28, c29, c30, c31, c32])]).run Tryd.prog w = .ok (.slice (some ⟨w.heap.size, 0, none⟩) 1 1) (w.alloc (.cells #[c0, c1, c2, c3, c4, c5, c6, c7, c8, c9, c10, c11, c12, c13, c14, c15, c16, c17, c18, c19, c20, c21, c22, c23, c24, c25, c26, c27, c28, c29, c30, c31, c32] 70)) := by kernel_rfl
theorem wr33_lg51 : ∀ (cs : Array Value), cs.size = 33 → ∀ w : World, (Instr.buildSlice 51 1 #[(0, .agg cs)]).run Tryd.prog w = .ok (.slice (some ⟨w.heap.size, 0, none⟩) 1 1) (w.alloc (.cells cs 70))
 | ⟨c0 :: c1 :: c2 :: c3 :: c4 :: c5 :: c6 :: c7 :: c8 :: c9 :: c10 :: c11 :: c12 :: c13 :: c14 :: c15 :: c16 :: c17 :: c18 :: c19 :: c20 :: c21 :: c22 :: c23 :: c24 :: c25 :: c26 :: c27 :: c28 :: c29 :: c30 :: c31 :: c32 :: []⟩, _, w => wr33_lh51 c0 c1 c2 c3 c4 c5 c6 c7 c8 c9 c10 c11 c12 c13 c14 c15 c16 c17 c18 c19 c20 c21 c22 c23 c24 c25 c26 c27 c28 c29 c30 c31 c32 w
theorem wr33_pl164 : Plain Tryd.prog 164 := fun _ _ => by kernel_rfl
set_option maxHeartbeats 1600000
theorem turned_any (w : World) (v : Value) (l : List Nmd) (hr : RG 33 nmdC w v l) (hl : l.length ≤ 1000) (hs : sortN l) (y : Upd) :
  Calls Tryd.prog 149 #[v, .agg (updC y).toArray] w fun e w' => ∃ v', e = .returned (.tuple #[v', NI (turnQ l y).1]) ∧ OG w.heap.size 70 33 nmdC w' v' (turnQ l y).2 ∧ Ext w w' := by
 refine calls_of_wpF (args := [v, .agg (updC y).toArray]) Tryd.func149 rfl 68 rfl (Nat.le_of_ble_eq_true rfl) ?_
 intro ρ0 hb
 have T0 : ρ0 0 = (v : Value) := hb.get 0
 have T1 : ρ0 1 = (.agg (updC y).toArray : Value) := hb.get 1
 clear hb
 have hE := Ext.refl w
 refine sk fun K1 hK1 => (wt (oS rfl (Yk.box (cs := (updC y : List Value).toArray) T1 fun n2 w3 hn4 hb5 hx6 hs7 => ?_)))
 have hE := hE.trans hx6
 have hb8 := hb5; clear hb5
 have hl9 : n2 < w3.heap.size := by omega
 refine oA rfl (oA rfl (oZ (tN (hK1 _ _ (sk fun K10 hK10 => (wt (oM rfl (oS rfl (Yk.fieldAt wr33_fo67_1 (vr (PQ n2 0) rfl) (oS rfl (Yk.cell1 wr33_ty9 rfl (vr (PQ n2 1) rfl) (cellAt hb8 (show (updC y)[1]? = some (St (y.name) : Value) from upd_g1 y)) (oS rfl (Yk.callA2 wr33_pl88 T0 (vr (St (y.name)) rfl) ((place_any _ v l (hr.keep hE) hl hs y.name).mono ?_))))))))))))))
 rintro e w12 ⟨⟨p, rfl, hp⟩, hx11⟩
 refine ⟨_, rfl, ?_⟩
 have hE := hE.trans hx11
 have hb8 := eb hx11 hb8
 refine oM rfl (oS rfl (Yk.extract (vs := [NI p, .bool (foundN l y.name p)]) (vr (.tuple #[NI p, .bool (foundN l y.name p)]) rfl) (show _ = some (NI p : Value) from rfl) (oS rfl (Yk.extract (vs := [NI p, .bool (foundN l y.name p)]) (vr (.tuple #[NI p, .bool (foundN l y.name p)]) rfl) (show _ = some (.bool (foundN l y.name p) : Value) from rfl) (oA rfl (oA rfl (oZ ?_)))))))
 by_cases hf : foundN l y.name p = true
 ·have hlt : p < l.length := found_lt hf
  refine tN (hK10 _ _ (sk fun K13 hK13 => (wt (oS rfl (Yk.run (v := AB (List.replicate 32 0)) (by kernel_rfl) (oS rfl (Yk.alloc (cs := (Lib.byteCells (List.replicate 32 0)).toArray) wr33_al25 fun n14 w15 hn16 hb17 hx18 hs19 => ?_)))))))
  have hA20 := Ext.refl w12
  have hea21 := hE
  have hz22 := hE.size
  have hlt23 := lte (bl hb8) hn16
  have hE := hE.trans hx18
  have hb8 := eb hx18 hb8
  have hA20 := hA20.trans hx18
  have hb24 := hb17; clear hb17
  have hl25 : n14 < w15.heap.size := by omega
  refine oS rfl (Yk.storeAll (vr (PQ n14 0) rfl) (vr (AB (List.replicate 32 0)) rfl) hb24 (by exact idsize List.length_replicate List.length_replicate) (by exact sizeId_of List.length_replicate) (byteCells_one _) fun w26 hb27 hg28 hs29 => ?_)
  have hE := row_fresh hE hg28 (Nat.le_trans hz22 (by omega))
  have hb8 := kb hg28 hb8 (by omega)
  have hA20 := row_fresh hA20 hg28 (Nat.le_trans (Nat.le_refl _) (by omega))
  clear hb24
  have hb24 := hb27; clear hb27
  have hl30 := bl hb24
  refine oZ (tN (hK13 _ _ (sk fun K31 hK31 => (sk fun K32 hK32 => (wt (oM rfl (oZ (tN (hK32 _ _ (wpF_true (vr (.bool (true)) ((show _ = Value.bool (foundN l y.name p) from rfl).trans (congrArg Value.bool hf))) (wt (oM rfl (oM rfl ?_)))))))))))))
  have hl35 : (nmdC (l.getD (p) dNmd)).length = 33 := (RG.elem (hr.keep hE) dNmd (by omega))
  refine oS rfl (Yk.atRG wr33_ty51 wr33_szg70 (by decide) dNmd (RG.of (hr.keep hE) T0) (vr (NI p) rfl) (by omega) fun v33 hp34 => ?_)
  have hl38 : (Lib.byteCells (l.getD (p) dNmd).id.1).length = 32 := by rw [Lib.byteCells_length, (l.getD (p) dNmd).id.2]
  refine oS rfl (Yk.fieldPR (n := 32) wr33_fo70_1 (PR.of hp34 (vr v33 rfl)) fun v36 hp37 => ?_)
  have hp37 : PR (Lib.byteCells (l.getD (p) dNmd).id.1) v36 w26 := (nmd_f1 (l.getD (p) dNmd)) ▸ hp37
  refine oS rfl (Yk.loadPR (PR.of hp37 (vr v36 rfl)) wr33_ty25 rfl (by rw [hl38]; exact wr33_isz25) (oS rfl (Yk.storeAll (vr (PQ n14 0) rfl) (vr (AB ((l.getD (p) dNmd).id.1)) rfl) hb24 (by exact idsize (bytes_len32 (hl38)) List.length_replicate) (by exact sizeId_of (bytes_len32 (hl38))) (byteCells_one _) fun w39 hb40 hg41 hs42 => ?_)))
  have hE := row_fresh hE hg41 (Nat.le_trans hz22 (by omega))
  have hb8 := kb hg41 hb8 (by omega)
  have hA20 := row_fresh hA20 hg41 (Nat.le_trans (Nat.le_refl _) (by omega))
  clear hp34
  clear hp37
  clear hb24
  have hb24 := hb40; clear hb40
  have hl43 := bl hb24
  refine oZ (tN (hK31 _ _ (sk fun K44 hK44 => (sk fun K45 hK45 => (wt (oS rfl (Yk.loadAll (vr (PQ n14 0) rfl) hb24 wr33_ty25 rfl (by exact sizeId_of (bytes_len32 (hl38))) (oS rfl (Yk.fieldAt wr33_fo67_2 (vr (PQ n2 0) rfl) (oS rfl (Yk.loadPR (PR.blk hb8 (upd_m2 y) (upd_n2 y) (vr (PQ n2 2) rfl)) wr33_ty25 rfl (sizeId_of y.old.2) (oS rfl (Yk.neArr (l1 := ((l.getD (p) dNmd).id.1)) (l2 := y.old.1) wr33_ty25 wr33_ty5 wr33_sz5 wr33_eg25 (vr (AB ((l.getD (p) dNmd).id.1)) rfl) (vr (AB y.old.1) rfl) ((bytes_len32 (hl38))) (y.old.2) (oZ (tN (hK45 _ _ ?_))))))))))))))))
  refine wpF_cond (((l.getD (p) dNmd).id.1) ≠ y.old.1) (vr (.bool (decide (((l.getD (p) dNmd).id.1) ≠ y.old.1))) rfl) (fun hc1 => ?_) (fun hc1 => ?_)
  ·have hmv := hc1
   refine sk fun K46 hK46 => (wt (oA rfl (oA rfl (oZ (tN (hK46 _ _ (wpF_ret (thenF_ret (postF_ret (fn := Tryd.f149) _ rfl [(Value.slice none 0 0), NI 15] (.tuple #[(Value.slice none 0 0), NI 15]) rfl ⟨rfl, rfl, trivial⟩ ?_)))))))))
   have hT : turnP l p y = (15, []) := by rw [turnT hf, if_pos hmv]
   rw [show turnP l p y = turnQ l y by unfold turnQ; rw [← place_uniq hp]] at hT
   exact ⟨_, by rw [hT], by rw [hT]; exact (OG.nil _ _ _ _ _), hE⟩
  have hmv := hc1
  refine wpF_skip (tN (hK44 _ _ (sk fun K47 hK47 => (wt (oM rfl ?_)))))
  have hA51 := Ext.refl w39
  have hea52 := hE
  have hea53 := hA20
  have hz54 := hE.size
  have hz55 := hA20.size
  refine oS rfl (Yk.callA1 wr33_pl74 T0 ((cloneNmd_any _ v l (hr.keep hE) (by omega)).mono ?_))
  rintro e w56 ⟨v48, rfl, ho49, hx50⟩
  refine ⟨_, rfl, ?_⟩
  have hap57 : OB v48 n2 := own_older ho49.2 (bl hb8)
  have hap58 : OB v48 n14 := own_older ho49.2 (bl hb24)
  have hE := hE.trans hx50
  have hb8 := eb hx50 hb8
  have hA20 := hA20.trans hx50
  have hb24 := eb hx50 hb24
  have hA51 := hA51.trans hx50
  refine oA rfl (oZ (tN (hK47 _ _ (sk fun K59 hK59 => (wpF_block (sk fun K60 hK60 => (wt (oS rfl (Yk.fieldAt wr33_fo67_3 (vr (PQ n2 0) rfl) (oS rfl (Yk.loadPR (PR.blk hb8 (upd_m3 y) (upd_n3 y) (vr (PQ n2 34) rfl)) wr33_ty25 rfl (sizeId_of y.new.2) (oS rfl (Yk.callA1 wr33_pl83 (vr (AB y.new.1) rfl) ((fzero_any _ y.new).mono ?_))))))))))))))
  rintro e w62 ⟨rfl, hx61⟩
  refine ⟨_, rfl, ?_⟩
  have hE := hE.trans hx61
  have hb8 := eb hx61 hb8
  have hA20 := hA20.trans hx61
  have hb24 := eb hx61 hb24
  have hA51 := hA51.trans hx61
  have ho49 := ho49.keep hx61
  refine oM rfl (opsF_mayV (.bool (true)) rfl rfl (gT (vr (.bool (zeroB y.new)) rfl)) (fun hG63 => Yk.move (vr (.bool (true)) ((show _ = Value.bool (foundN l y.name p) from rfl).trans (congrArg Value.bool hf))) ⟨rfl, rfl⟩) (oS rfl (Yk.pickAndN (vr (.bool (zeroB y.new)) rfl) (fun hA => (mayT (vr (cond ((zeroB y.new)) (.bool (true)) undef) rfl) hA)) (vr (.bool (false)) rfl) fun bb64 hbb65 => (oA rfl (oL_ [(0, v), (1, .agg (updC y).toArray), (3, PQ n2 0), (4, (Value.slice none 0 0)), (5, NI 0), (6, NI p), (7, .bool (true)), (8, PQ n14 0), (9, v48), (18, .bool (true)), (39, .bool (bb64))] ⟨T0, T1, rfl, rfl, rfl, rfl, ((show _ = Value.bool (foundN l y.name p) from rfl).trans (congrArg Value.bool hf)), rfl, rfl, ((show _ = Value.bool (foundN l y.name p) from rfl).trans (congrArg Value.bool hf)), rfl, trivial⟩ fun ρ66 ⟨T0, T1, T3, T4, T5, T6, T7, T8, T9, T18, T39, _⟩ => (tN (hK60 _ _ ?_)))))))
  refine wpF_condB (bb64) T39 (fun hc2 => ?_) (fun hc2 => ?_)
  ·subst hbb65
   have hz : zeroB y.new = true := by simpa using hc2
   refine wt (oM rfl (oM rfl (oM rfl (oS rfl (Yk.bin (xv := NI p) (yv := NI 1) T6 rfl rfl (i64_add _ _ _ (by omega)) (oS rfl (Yk.callA3 wr33_pl163 T9 T6 (vr (NI ((p) + (1))) rfl) ((delete_og w39 _ v48 l p hA51 ho49 hlt).mono ?_))))))))
   rintro e w70 ⟨v67, rfl, ho68, hx69⟩
   refine ⟨_, rfl, ?_⟩
   have hE := hea52.trans hx69
   clear hb8
   have hA20 := hea53.trans hx69
   clear hb24
   have hA51 := hx69
   clear ho49
   refine oA rfl (oZ (bN (tN (hK59 _ _ (sk fun K71 hK71 => (wt (oM rfl (oA rfl (oA rfl (oZ (tN (hK71 _ _ (wpF_ret (postF_ret (fn := Tryd.f149) _ rfl [v67, NI 0] (.tuple #[v67, NI 0]) rfl ⟨rfl, rfl, trivial⟩ ?_))))))))))))))
   have hT : turnP l p y = (0, l.eraseIdx p) := by rw [turnT hf, if_neg hmv, if_pos hz]
   rw [show turnP l p y = turnQ l y by unfold turnQ; rw [← place_uniq hp]] at hT
   exact ⟨_, by rw [hT], by rw [hT]; exact (OG.low ho68 hz54), hE⟩
  subst hbb65
  have hz : zeroB y.new = false := by simpa using hc2
  refine sk fun K72 hK72 => (wt (oS rfl (Yk.fieldAt wr33_fo67_3 T3 (oS rfl (Yk.loadPR (PR.blk hb8 (upd_m3 y) (upd_n3 y) (vr (PQ n2 34) rfl)) wr33_ty25 rfl (sizeId_of y.new.2) (oS rfl (Yk.callA1 wr33_pl83 (vr (AB y.new.1) rfl) ((fzero_any _ y.new).mono ?_))))))))
  rintro e w74 ⟨rfl, hx73⟩
  refine ⟨_, rfl, ?_⟩
  have hE := hE.trans hx73
  have hb8 := eb hx73 hb8
  have hA20 := hA20.trans hx73
  have hb24 := eb hx73 hb24
  have hA51 := hA51.trans hx73
  have ho49 := ho49.keep hx73
  refine oA rfl (oL_ [(0, v), (1, .agg (updC y).toArray), (3, PQ n2 0), (4, (Value.slice none 0 0)), (5, NI 0), (6, NI p), (7, .bool (true)), (8, PQ n14 0), (9, v48), (18, .bool (true)), (51, .bool (zeroB y.new))] ⟨T0, T1, T3, T4, T5, T6, T7, T8, T9, T18, rfl, trivial⟩ fun ρ75 ⟨T0, T1, T3, T4, T5, T6, T7, T8, T9, T18, T51, _⟩ => (tN (hK72 _ _ (wpF_false (show _ = Value.bool false from (T51).trans (congrArg Value.bool (hz))) (sk fun K76 hK76 => (wt (oM rfl (oA rfl (oZ ?_)))))))))
  obtain ⟨g, hg⟩ := OG.block ho49 hlt
  refine tN (hK76 _ _ (wpF_true T7 (wt (oM rfl (oM rfl (oS rfl (Yk.fieldAt wr33_fo67_3 T3 (oS rfl (Yk.loadPR (PR.blk hb8 (upd_m3 y) (upd_n3 y) (vr (PQ n2 34) rfl)) wr33_ty25 rfl (sizeId_of y.new.2) (oS rfl (Yk.atOwnK (k := 33) (i := p) wr33_ty51 wr33_szg70 T9 ho49.2 hg T6 (hlt) (oS rfl (Yk.fieldAt wr33_fo70_1 (vr (.pointer (some ⟨g, p * 33, none⟩)) rfl) (oS rfl (Yk.storeNmdId (p := p) (i := y.new) (vr (.pointer (some ⟨g, p * 33 + 1, none⟩)) rfl) (vr (AB y.new.1) rfl) ho49 hg hlt wr33_isz25 fun w77 ho78 hg79 => ?_)))))))))))))))
  have hE := ext_grew hE hg79 ho49.2 hz54
  have hb8 := blk_grew hb8 hg79 hap57
  have hA20 := ext_grew hA20 hg79 ho49.2 hz55
  have hb24 := blk_grew hb24 hg79 hap58
  have hA51 := ext_grew hA51 hg79 ho49.2 (Nat.le_refl _)
  clear ho49
  refine oZ (bN (tN (hK59 _ _ (sk fun K80 hK80 => (wt (oM rfl (oA rfl (oA rfl (oZ (tN (hK80 _ _ (wpF_ret (postF_ret (fn := Tryd.f149) _ rfl [v48, NI 0] (.tuple #[v48, NI 0]) rfl ⟨T9, rfl, trivial⟩ ?_)))))))))))))
  have hT : turnP l p y = (0, l.set p ⟨(l.getD p dNmd).name, y.new⟩) := by rw [turnT hf, if_neg hmv, if_neg (by rw [hz]; decide)]
  rw [show turnP l p y = turnQ l y by unfold turnQ; rw [← place_uniq hp]] at hT
  exact ⟨_, by rw [hT], by rw [hT]; exact (OG.low ho78 hz54), hE⟩
 replace hf : foundN l y.name p = false := by simpa using hf
 refine tN (hK10 _ _ (sk fun K81 hK81 => (wt (oS rfl (Yk.run (v := AB (List.replicate 32 0)) (by kernel_rfl) (oS rfl (Yk.alloc (cs := (Lib.byteCells (List.replicate 32 0)).toArray) wr33_al25 fun n82 w83 hn84 hb85 hx86 hs87 => ?_)))))))
 have hA88 := Ext.refl w12
 have hea89 := hE
 have hz90 := hE.size
 have hlt91 := lte (bl hb8) hn84
 have hE := hE.trans hx86
 have hb8 := eb hx86 hb8
 have hA88 := hA88.trans hx86
 have hb92 := hb85; clear hb85
 have hl93 : n82 < w83.heap.size := by omega
 refine oS rfl (Yk.storeAll (vr (PQ n82 0) rfl) (vr (AB (List.replicate 32 0)) rfl) hb92 (by exact idsize List.length_replicate List.length_replicate) (by exact sizeId_of List.length_replicate) (byteCells_one _) fun w94 hb95 hg96 hs97 => ?_)
 have hE := row_fresh hE hg96 (Nat.le_trans hz90 (by omega))
 have hb8 := kb hg96 hb8 (by omega)
 have hA88 := row_fresh hA88 hg96 (Nat.le_trans (Nat.le_refl _) (by omega))
 clear hb92
 have hb92 := hb95; clear hb95
 have hl98 := bl hb92
 refine oZ (tN (hK81 _ _ (sk fun K99 hK99 => (sk fun K100 hK100 => (wt (oM rfl (oZ (tN (hK100 _ _ (wpF_false (vr (.bool (false)) ((show _ = Value.bool (foundN l y.name p) from rfl).trans (congrArg Value.bool hf))) (wpF_skip (tN (hK99 _ _ (sk fun K101 hK101 => (sk fun K102 hK102 => (wt (oS rfl (Yk.loadAll (vr (PQ n82 0) rfl) hb92 wr33_ty25 rfl (by exact sizeId_of List.length_replicate) (oS rfl (Yk.fieldAt wr33_fo67_2 (vr (PQ n2 0) rfl) ?_))))))))))))))))))))
 refine oS rfl (Yk.loadPR (PR.blk hb8 (upd_m2 y) (upd_n2 y) (vr (PQ n2 2) rfl)) wr33_ty25 rfl (sizeId_of y.old.2) (oS rfl (Yk.neArr (l1 := (List.replicate 32 0)) (l2 := y.old.1) wr33_ty25 wr33_ty5 wr33_sz5 wr33_eg25 (vr (AB (List.replicate 32 0)) rfl) (vr (AB y.old.1) rfl) (List.length_replicate) (y.old.2) (oZ (tN (hK102 _ _ ?_))))))
 refine wpF_cond ((List.replicate 32 0) ≠ y.old.1) (vr (.bool (decide ((List.replicate 32 0) ≠ y.old.1))) rfl) (fun hc1 => ?_) (fun hc1 => ?_)
 ·have hmv := hc1
  refine sk fun K103 hK103 => (wt (oA rfl (oA rfl (oZ (tN (hK103 _ _ (wpF_ret (thenF_ret (postF_ret (fn := Tryd.f149) _ rfl [(Value.slice none 0 0), NI 15] (.tuple #[(Value.slice none 0 0), NI 15]) rfl ⟨rfl, rfl, trivial⟩ ?_)))))))))
  have hT : turnP l p y = (15, []) := by rw [turnF hf, if_pos hmv]
  rw [show turnP l p y = turnQ l y by unfold turnQ; rw [← place_uniq hp]] at hT
  exact ⟨_, by rw [hT], by rw [hT]; exact (OG.nil _ _ _ _ _), hE⟩
 have hmv := hc1
 refine wpF_skip (tN (hK101 _ _ (sk fun K104 hK104 => (wt (oM rfl ?_)))))
 have hA108 := Ext.refl w94
 have hea109 := hE
 have hea110 := hA88
 have hz111 := hE.size
 have hz112 := hA88.size
 refine oS rfl (Yk.callA1 wr33_pl74 T0 ((cloneNmd_any _ v l (hr.keep hE) (by omega)).mono ?_))
 rintro e w113 ⟨v105, rfl, ho106, hx107⟩
 refine ⟨_, rfl, ?_⟩
 have hap114 : OB v105 n2 := own_older ho106.2 (bl hb8)
 have hap115 : OB v105 n82 := own_older ho106.2 (bl hb92)
 have hE := hE.trans hx107
 have hb8 := eb hx107 hb8
 have hA88 := hA88.trans hx107
 have hb92 := eb hx107 hb92
 have hA108 := hA108.trans hx107
 refine oA rfl (oZ (tN (hK104 _ _ (sk fun K116 hK116 => (wpF_block (sk fun K117 hK117 => (wt (oS rfl (Yk.fieldAt wr33_fo67_3 (vr (PQ n2 0) rfl) (oS rfl (Yk.loadPR (PR.blk hb8 (upd_m3 y) (upd_n3 y) (vr (PQ n2 34) rfl)) wr33_ty25 rfl (sizeId_of y.new.2) (oS rfl (Yk.callA1 wr33_pl83 (vr (AB y.new.1) rfl) ((fzero_any _ y.new).mono ?_))))))))))))))
 rintro e w119 ⟨rfl, hx118⟩
 refine ⟨_, rfl, ?_⟩
 have hE := hE.trans hx118
 have hb8 := eb hx118 hb8
 have hA88 := hA88.trans hx118
 have hb92 := eb hx118 hb92
 have hA108 := hA108.trans hx118
 have ho106 := ho106.keep hx118
 refine oM rfl (opsF_mayV (.bool (false)) rfl rfl (gT (vr (.bool (zeroB y.new)) rfl)) (fun hG120 => Yk.move (vr (.bool (false)) ((show _ = Value.bool (foundN l y.name p) from rfl).trans (congrArg Value.bool hf))) ⟨rfl, rfl⟩) (oS rfl (Yk.pickAndN (vr (.bool (zeroB y.new)) rfl) (fun hA => (mayT (vr (cond ((zeroB y.new)) (.bool (false)) undef) rfl) hA)) (vr (.bool (false)) rfl) fun bb121 hbb122 => (oA rfl (oL_ [(0, v), (1, .agg (updC y).toArray), (3, PQ n2 0), (4, (Value.slice none 0 0)), (5, NI 0), (6, NI p), (7, .bool (false)), (8, PQ n82 0), (9, v105), (18, .bool (false)), (39, .bool (bb121))] ⟨T0, T1, rfl, rfl, rfl, rfl, ((show _ = Value.bool (foundN l y.name p) from rfl).trans (congrArg Value.bool hf)), rfl, rfl, ((show _ = Value.bool (foundN l y.name p) from rfl).trans (congrArg Value.bool hf)), rfl, trivial⟩ fun ρ123 ⟨T0, T1, T3, T4, T5, T6, T7, T8, T9, T18, T39, _⟩ => (tN (hK117 _ _ ?_)))))))
 refine wpF_condB (bb121) T39 (fun hc2 => ?_) (fun hc2 => ?_)
 ·(subst hbb122; simp at hc2)
 subst hbb122
 refine sk fun K124 hK124 => (wt (oS rfl (Yk.fieldAt wr33_fo67_3 T3 (oS rfl (Yk.loadPR (PR.blk hb8 (upd_m3 y) (upd_n3 y) (vr (PQ n2 34) rfl)) wr33_ty25 rfl (sizeId_of y.new.2) (oS rfl (Yk.callA1 wr33_pl83 (vr (AB y.new.1) rfl) ((fzero_any _ y.new).mono ?_))))))))
 rintro e w126 ⟨rfl, hx125⟩
 refine ⟨_, rfl, ?_⟩
 have hE := hE.trans hx125
 have hb8 := eb hx125 hb8
 have hA88 := hA88.trans hx125
 have hb92 := eb hx125 hb92
 have hA108 := hA108.trans hx125
 have ho106 := ho106.keep hx125
 refine oA rfl (oL_ [(0, v), (1, .agg (updC y).toArray), (3, PQ n2 0), (4, (Value.slice none 0 0)), (5, NI 0), (6, NI p), (7, .bool (false)), (8, PQ n82 0), (9, v105), (18, .bool (false)), (51, .bool (zeroB y.new))] ⟨T0, T1, T3, T4, T5, T6, T7, T8, T9, T18, rfl, trivial⟩ fun ρ127 ⟨T0, T1, T3, T4, T5, T6, T7, T8, T9, T18, T51, _⟩ => (tN (hK124 _ _ ?_)))
 refine wpF_condB (zeroB y.new) T51 (fun hc3 => ?_) (fun hc3 => ?_)
 ·have hz := hc3
  refine wpF_skip (bN (tN (hK116 _ _ (sk fun K128 hK128 => (wt (oM rfl (oA rfl (oA rfl (oZ (tN (hK128 _ _ (wpF_ret (postF_ret (fn := Tryd.f149) _ rfl [v105, NI 0] (.tuple #[v105, NI 0]) rfl ⟨T9, rfl, trivial⟩ ?_)))))))))))))
  have hT : turnP l p y = (0, l) := by rw [turnF hf, if_neg hmv, if_pos hz]
  rw [show turnP l p y = turnQ l y by unfold turnQ; rw [← place_uniq hp]] at hT
  exact ⟨_, by rw [hT], by rw [hT]; exact (OG.low ho106 hz111), hE⟩
 have hz := hc3
 refine sk fun K129 hK129 => (wt (oM rfl (oA rfl (oZ (tN (hK129 _ _ (wpF_false T7 (sk fun K130 hK130 => (wt (oM rfl (oS rfl (Yk.lenRG wr33_ty51 (RG.of (hr.keep hE) T0) (oS rfl (Yk.eqI (a := (l.length : Nat)) (b := (64 : Nat)) rfl rfl (k_geq _ _ _ _) (oA rfl (oZ (tN (hK130 _ _ ?_))))))))))))))))))
 refine wpF_cond ((64) ≤ (l.length)) (vr (.bool (decide ((64) ≤ (l.length)))) rfl) (fun hc5 => ?_) (fun hc5 => ?_)
 ·have hfu : 64 ≤ l.length := by omega
  refine sk fun K131 hK131 => (wt (oA rfl (oA rfl (oZ (tN (hK131 _ _ (wpF_ret (inBlockF_ret (thenF_ret (postF_ret (fn := Tryd.f149) _ rfl [(Value.slice none 0 0), NI 3] (.tuple #[(Value.slice none 0 0), NI 3]) rfl ⟨rfl, rfl, trivial⟩ ?_))))))))))
  have hT : turnP l p y = (3, []) := by rw [turnF hf, if_neg hmv, if_neg (by rw [hz]; decide), if_pos hfu]
  rw [show turnP l p y = turnQ l y by unfold turnQ; rw [← place_uniq hp]] at hT
  exact ⟨_, by rw [hT], by rw [hT]; exact (OG.nil _ _ _ _ _), hE⟩
 have hfu : ¬ 64 ≤ l.length := by omega
 refine wt (oM rfl (oM rfl (oS rfl (Yk.fieldAt wr33_fo67_1 T3 (oS rfl (Yk.cell1 wr33_ty9 rfl (vr (PQ n2 1) rfl) (cellAt hb8 (show (updC y)[1]? = some (St (y.name) : Value) from upd_g1 y)) (oS rfl (Yk.fieldAt wr33_fo67_3 T3 (oS rfl (Yk.loadPR (PR.blk hb8 (upd_m3 y) (upd_n3 y) (vr (PQ n2 34) rfl)) wr33_ty25 rfl (sizeId_of y.new.2) (oS rfl (Yk.build2 (vr (St (y.name)) rfl) (vr (AB y.new.1) rfl) (fun w => wr33_bs70_0_1 y.name y.new w) (oS rfl (Yk.lit1B (enc := nmdC) (a := (⟨y.name, y.new⟩ : Nmd)) (vr (.agg (nmdC (⟨y.name, y.new⟩ : Nmd)).toArray) rfl) (nmd_len _) wr33_lg51 fun n132 w133 hn134 hb135 hx136 hs137 => ?_))))))))))))))
 have hap138 : OB v105 n132 := own_newer ho106.2 (by omega)
 have hE := hE.trans hx136
 have hb8 := eb hx136 hb8
 have hA88 := hA88.trans hx136
 have hb92 := eb hx136 hb92
 have hA108 := hA108.trans hx136
 have ho106 := ho106.keep hx136
 refine oS rfl (Yk.callA3 wr33_pl164 T9 T6 (vr (.slice (some ⟨n132, 0, none⟩) 1 1) rfl) ((insert_og w94 _ v105 _ l p n132 (⟨y.name, y.new⟩ : Nmd) _ hA108 ho106 hp.1 (by omega) rfl hb135 hap138).mono ?_))
 rintro e w142 ⟨v139, rfl, ho140, hx141⟩
 refine ⟨_, rfl, ?_⟩
 have hE := hea109.trans hx141
 clear hb8
 have hA88 := hea110.trans hx141
 clear hb92
 have hA108 := hx141
 clear hb135
 clear ho106
 refine oA rfl (oZ (bN (tN (hK116 _ _ (sk fun K143 hK143 => (wt (oM rfl (oA rfl (oA rfl (oZ (tN (hK143 _ _ (wpF_ret (postF_ret (fn := Tryd.f149) _ rfl [v139, NI 0] (.tuple #[v139, NI 0]) rfl ⟨rfl, rfl, trivial⟩ ?_))))))))))))))
 have hT : turnP l p y = (0, l.take p ++ ⟨y.name, y.new⟩ :: l.drop p) := by rw [turnF hf, if_neg hmv, if_neg (by rw [hz]; decide), if_neg hfu]
 rw [show turnP l p y = turnQ l y by unfold turnQ; rw [← place_uniq hp]] at hT
 exact ⟨_, by rw [hT], by rw [hT]; exact (OG.low ho140 hz111), hE⟩
open Go.RowKit
set_option maxRecDepth 100000
abbrev beginV : RefsV := (⟨[], [], [109, 97, 105, 110], zid, []⟩, ⟨.slice none 0 0, .slice none 0 0, .slice none 0 0⟩)
theorem ent_upd (e : Ent) : ((entC e).drop 0).take 66 = updC ⟨e.kind, e.name, e.old, e.new⟩ := by
 rw [List.drop_zero, show entC e = updC ⟨e.kind, e.name, e.old, e.new⟩ ++ [St e.note] by simp [entC, updC]]
 exact List.take_left' (upd_len _)
def heavyE (l : List Ent) (i : Nat) : Bool := decide (100 < (l.getD i dEntry).name.length) || decide (400 < (l.getD i dEntry).note.length)
open Classical in
noncomputable def lightR (r : Refs) : Bool := (!((decide (80 < r.branches.length) || decide (80 < r.tags.length)) || decide (80 < r.log.length))) && decide (∀ j, j < r.log.length → heavyE r.log j = false)
theorem lightR_many {r : Refs} (h : ((decide (80 < r.branches.length) || decide (80 < r.tags.length)) || decide (80 < r.log.length)) = true) : lightR r = false := by unfold lightR; rw [h]; rfl
theorem lightR_bad {r : Refs} {i : Nat} (hi : i < r.log.length) (h : heavyE r.log i = true) : lightR r = false := by
 classical
 unfold lightR
 rw [decide_eq_false (p := ∀ j, j < r.log.length → heavyE r.log j = false) (fun k => by have := k i hi; rw [h] at this; cases this), Bool.and_false]
theorem lightR_all {r : Refs} {i : Nat} (h0 : ((decide (80 < r.branches.length) || decide (80 < r.tags.length)) || decide (80 < r.log.length)) = false) (hi : r.log.length ≤ i) (h : ∀ j, j < i → heavyE r.log j = false) : lightR r = true := by
 classical
 unfold lightR
 rw [h0, decide_eq_true (p := ∀ j, j < r.log.length → heavyE r.log j = false) (fun j hj => h j (by omega))]; rfl
theorem wr31_fo49_0 : FieldOff Tryd.prog 49 0 0 := fun b o w => by simp [go_sem]
theorem wr31_ty46 : Tryd.prog.underlying 46 = some (.slice 69) := by kernel_rfl
theorem wr31_fo49_1 : FieldOff Tryd.prog 49 1 1 := fun b o w => by simp [go_sem]
theorem wr31_fo49_4 : FieldOff Tryd.prog 49 4 35 := fun b o w => by simp [go_sem]
theorem wr31_ty47 : Tryd.prog.underlying 47 = some (.slice 122) := by kernel_rfl
theorem wr31_szg122 : ∀ w' : World, (sizeOf 122).run Tryd.prog w' = .ok 67 w' := fun _ => by kernel_rfl
theorem wr31_fo122_0 : FieldOff Tryd.prog 122 0 0 := fun b o w => by simp [go_sem]
theorem wr31_fo67_1 : FieldOff Tryd.prog 67 1 1 := fun b o w => by simp [go_sem]
theorem wr31_ty9 : Tryd.prog.underlying 9 = some (.string) := by kernel_rfl
theorem wr31_fo122_1 : FieldOff Tryd.prog 122 1 66 := fun b o w => by simp [go_sem]
theorem wr31_al53 {d : Option Tmp} {ty : TypeId} {pos : String} {af : Array Edge} {gd : Option (Nat × Bool)} (σ : Operand → Value) (w : World) : (execOp σ ⟨d, .alloc 53, ty, pos, af, gd⟩).run Tryd.prog w = .ok (.value (PQ w.heap.size 0)) (w.alloc (.cells (refsC ((⟨[], [], [], zid, []⟩, ⟨.slice none 0 0, .slice none 0 0, .slice none 0 0⟩) : RefsV)).toArray 53)) := by kernel_rfl
theorem wr31_bs53_2h (z2 : ByteArray) (w : World) : (Instr.build 53 #[(2, .string z2)]).run Tryd.prog w = .ok (.agg #[.slice none 0 0, .slice none 0 0, .string z2, .int .u8 0, .int .u8 0, .int .u8 0, .int .u8 0, .int .u8 0, .int .u8 0, .int .u8 0, .int .u8 0, .int .u8 0, .int .u8 0, .int .u8 0, .int .u8 0, .int .u8 0, .int .u8 0, .int .u8 0, .int .u8 0, .int .u8 0, .int .u8 0, .int .u8 0, .int .u8 0, .int .u8 0, .int .u8 0, .int .u8 0, .int .u8 0, .int .u8 0, .int .u8 0, .int .u8 0, .int .u8 0, .int .u8 0, .int .u8 0, .int .u8 0, .int .u8 0, .slice none 0 0]) w := by kernel_rfl
theorem wr31_bs53_2 (z2 : List UInt8) (w : World) : (Instr.build 53 #[(2, St z2)]).run Tryd.prog w = .ok (.agg ((Value.slice none 0 0) :: ((Value.slice none 0 0) :: (St (z2) :: (Lib.byteCells zid.1 ++ ((Value.slice none 0 0) :: ([])))))).toArray) w := by
 exact wr31_bs53_2h _ w
theorem wr31_isz53 : (Tryd.prog.info? 53).map (·.size) = some 36 := by kernel_rfl
theorem wr31_ty53 : ∃ fs, Tryd.prog.underlying 53 = some (.struct fs) := struct_of (by kernel_rfl)
set_option maxHeartbeats 1600000
theorem light20_any (w : World) (y : RefsV) (hm : RefsAt w y) :
  Calls Tryd.prog 25 #[.agg (refsC y).toArray] w fun e w' => e = .returned (.bool (lightR y.1)) ∧ Ext w w' := by
 have hmt := hm.branches
 have hmg := hm.tags
 have hml := hm.log
 refine calls_of_wpF (args := [.agg (refsC y).toArray]) Tryd.func25 rfl 46 rfl (Nat.le_of_ble_eq_true rfl) ?_
 intro ρ0 hb
 have T0 : ρ0 0 = (.agg (refsC y).toArray : Value) := hb.get 0
 clear hb
 have hE := Ext.refl w
 refine sk fun K1 hK1 => (wt (oS rfl (Yk.box (cs := (refsC y : List Value).toArray) T0 fun n2 w3 hn4 hb5 hx6 hs7 => ?_)))
 have hE := hE.trans hx6
 have hb8 := hb5; clear hb5
 have hl9 : n2 < w3.heap.size := by omega
 refine oA rfl (oZ (tN (hK1 _ _ (sk fun K10 hK10 => (sk fun K11 hK11 => (wt (oS rfl (Yk.fieldAt wr31_fo49_0 (vr (PQ n2 0) rfl) (oS rfl (Yk.cell1 wr31_ty46 rfl (vr (PQ n2 0) rfl) (cellAt hb8 (show (refsC y)[0]? = some (y.2.branches : Value) from refs_g0 y)) (oS rfl (Yk.lenRG wr31_ty46 (RG.of (hmt.keep hE) (vr y.2.branches rfl)) (oS rfl (Yk.eqI (a := ((y.1.branches).length : Nat)) (b := (80 : Nat)) rfl rfl (k_gtr _ _ _ _) (oM rfl (opsF_mayV (PQ n2 1) rfl rfl (gF (vr (.bool (decide ((80) < ((y.1.branches).length)))) rfl)) (fun hG12 => Yk.fieldAt wr31_fo49_1 (vr (PQ n2 0) rfl) ⟨rfl, rfl⟩) (opsF_mayV (y.2.tags) rfl rfl (gF (vr (.bool (decide ((80) < ((y.1.branches).length)))) rfl)) (fun hG13 => Yk.cell1 wr31_ty46 rfl (mayT (vr (cond (!(decide ((80) < ((y.1.branches).length)))) (PQ n2 1) undef) rfl) hG13) (cellAt hb8 (show (refsC y)[1]? = some (y.2.tags : Value) from refs_g1 y)) ⟨rfl, rfl⟩) (opsF_mayV (NI ((y.1.tags).length)) rfl rfl (gF (vr (.bool (decide ((80) < ((y.1.branches).length)))) rfl)) (fun hG14 => Yk.lenRG wr31_ty46 (RG.of (hmg.keep hE) (mayT (vr (cond (!(decide ((80) < ((y.1.branches).length)))) (y.2.tags) undef) rfl) hG14)) ⟨rfl, rfl⟩) (opsF_mayV (.bool (decide ((80) < ((y.1.tags).length)))) rfl rfl (gF (vr (.bool (decide ((80) < ((y.1.branches).length)))) rfl)) (fun hG15 => Yk.eqI (a := (((y.1.tags).length : Nat) : Int)) (b := ((80 : Nat) : Int)) (mayT (vr (cond (!(decide ((80) < ((y.1.branches).length)))) (NI ((y.1.tags).length)) undef) rfl) hG15) (vr (NI 80) rfl) (k_gtr _ .i64 ((y.1.tags).length) (80)) ⟨rfl, rfl⟩) (oS rfl (Yk.pickOrN (vr (.bool (decide ((80) < ((y.1.branches).length)))) rfl) (vr (.bool (true)) rfl) (fun hA => (mayT (vr (cond (!(decide ((80) < ((y.1.branches).length)))) (.bool (decide ((80) < ((y.1.tags).length)))) undef) rfl) (not_i hA))) fun bb16 hbb17 => ?_)))))))))))))))))))))
 refine oM rfl (opsF_mayV (PQ n2 35) rfl rfl (gF (vr (.bool (bb16)) rfl)) (fun hG18 => Yk.fieldAt wr31_fo49_4 (vr (PQ n2 0) rfl) ⟨rfl, rfl⟩) (opsF_mayV (y.2.log) rfl rfl (gF (vr (.bool (bb16)) rfl)) (fun hG19 => Yk.cell1 wr31_ty47 rfl (mayT (vr (cond (!bb16) (PQ n2 35) undef) rfl) hG19) (cellAt hb8 (show (refsC y)[35]? = some (y.2.log : Value) from refs_g4 y)) ⟨rfl, rfl⟩) (opsF_mayV (NI ((y.1.log).length)) rfl rfl (gF (vr (.bool (bb16)) rfl)) (fun hG20 => Yk.lenRG wr31_ty47 (RG.of (hml.keep hE) (mayT (vr (cond (!bb16) (y.2.log) undef) rfl) hG20)) ⟨rfl, rfl⟩) (opsF_mayV (.bool (decide ((80) < ((y.1.log).length)))) rfl rfl (gF (vr (.bool (bb16)) rfl)) (fun hG21 => Yk.eqI (a := (((y.1.log).length : Nat) : Int)) (b := ((80 : Nat) : Int)) (mayT (vr (cond (!bb16) (NI ((y.1.log).length)) undef) rfl) hG21) (vr (NI 80) rfl) (k_gtr _ .i64 ((y.1.log).length) (80)) ⟨rfl, rfl⟩) (oS rfl (Yk.pickOrN (vr (.bool (bb16)) rfl) (vr (.bool (true)) rfl) (fun hA => (mayT (vr (cond (!bb16) (.bool (decide ((80) < ((y.1.log).length)))) undef) rfl) (not_i hA))) fun bb22 hbb23 => (oZ (tN (hK11 _ _ ?_)))))))))
 refine wpF_condB (bb22) (vr (.bool (bb22)) rfl) (fun hc0 => ?_) (fun hc0 => ?_)
 ·subst hbb17 hbb23
  have h0c : ((decide (80 < y.1.branches.length) || decide (80 < y.1.tags.length)) || decide (80 < y.1.log.length)) = true := hc0
  refine sk fun K24 hK24 => (wt (oA rfl (oZ (tN (hK24 _ _ (wpF_ret (thenF_ret (postF_ret (fn := Tryd.f25) _ rfl [.bool (false)] (.bool (false)) rfl ⟨rfl, trivial⟩ ?_))))))))
  exact ⟨by rw [lightR_many h0c], hE⟩
 subst hbb17 hbb23
 have h0c : ((decide (80 < y.1.branches.length) || decide (80 < y.1.tags.length)) || decide (80 < y.1.log.length)) = false := hc0
 have hc := few_of h0c
 refine wpF_skip (tN (hK10 _ _ (sk fun K25 hK25 => (sk fun K26 hK26 => (wt (oA rfl (oL_ [(0, .agg (refsC y).toArray), (1, PQ n2 0), (2, .bool (false)), (3, NI 0)] ⟨T0, rfl, rfl, rfl, trivial⟩ fun ρ27 ⟨T0, T1, T2, T3, _⟩ => (tN (hK26 _ _ (wpF_block (wpF_loop (fun (ρ : Slots) (wz : World) => ∃ i : Nat, ρ 0 = (.agg (refsC y).toArray : Value) ∧ ρ 1 = (PQ n2 0 : Value) ∧ ρ 3 = (NI i : Value) ∧ Ext w wz ∧ wz.heap[n2]? = some (.cells (refsC y).toArray 49 (0, 0)) ∧ (i ≤ y.1.log.length) ∧ (∀ j, j < i → heavyE y.1.log j = false) ∧ True) (fun ρ _ => y.1.log.length - (intOf (ρ 3)).toNat) ⟨0, T0, T1, T3, hE, hb8, Nat.zero_le _, fun j hj => absurd hj (Nat.not_lt_zero _), trivial⟩ ?_)))))))))))
 clear hE hb8
 rintro ρ28 w29 ⟨i, T0, T1, T3, hE, hb8, hi, hn, -⟩
 have q3 := T3
 refine sk fun K30 hK30 => (sk fun K31 hK31 => (wt (oM rfl (oS rfl (Yk.fieldAt wr31_fo49_4 T1 (oS rfl (Yk.cell1 wr31_ty47 rfl (vr (PQ n2 35) rfl) (cellAt hb8 (show (refsC y)[35]? = some (y.2.log : Value) from refs_g4 y)) (oS rfl (Yk.lenRG wr31_ty47 (RG.of (hml.keep hE) (vr y.2.log rfl)) (oS rfl (Yk.eqI (a := (i : Nat)) (b := ((y.1.log).length : Nat)) T3 rfl (k_lss _ _ _ _) (oZ (tN (hK31 _ _ ?_))))))))))))))
 refine wpF_cond ((i) < ((y.1.log).length)) (vr (.bool (decide ((i) < ((y.1.log).length)))) rfl) (fun hc1 => ?_) (fun hc1 => ?_)
 ·have hlt : i < y.1.log.length := hc1
  refine wpF_skip (tN (hK30 _ _ (sk fun K32 hK32 => (wpF_block (sk fun K33 hK33 => (wt (oS rfl (Yk.fieldAt wr31_fo49_4 T1 (oS rfl (Yk.cell1 wr31_ty47 rfl (vr (PQ n2 35) rfl) (cellAt hb8 (show (refsC y)[35]? = some (y.2.log : Value) from refs_g4 y)) (oM rfl ?_)))))))))))
  have hl36 : (entC ((y.1.log).getD (i) dEntry)).length = 67 := (RG.elem (hml.keep hE) dEntry (by omega))
  refine oS rfl (Yk.atRG wr31_ty47 wr31_szg122 (by decide) dEntry (RG.of (hml.keep hE) (vr y.2.log rfl)) T3 (by omega) fun v34 hp35 => (oS rfl (Yk.fieldPR (n := 66) wr31_fo122_0 (PR.of hp35 (vr v34 rfl)) fun v37 hp38 => ?_)))
  have hp38 : PR (updC (⟨((y.1.log).getD (i) dEntry).kind, ((y.1.log).getD (i) dEntry).name, ((y.1.log).getD (i) dEntry).old, ((y.1.log).getD (i) dEntry).new⟩ : Upd)) v37 w29 := (ent_upd ((y.1.log).getD (i) dEntry)) ▸ hp38
  refine oS rfl (Yk.fieldPR (n := 1) wr31_fo67_1 (PR.of hp38 (vr v37 rfl)) fun v39 hp40 => ?_)
  have hp40 : PCell (St (((⟨((y.1.log).getD (i) dEntry).kind, ((y.1.log).getD (i) dEntry).name, ((y.1.log).getD (i) dEntry).old, ((y.1.log).getD (i) dEntry).new⟩ : Upd)).name)) v39 w29 := PR.pcell ((upd_f1 (⟨((y.1.log).getD (i) dEntry).kind, ((y.1.log).getD (i) dEntry).name, ((y.1.log).getD (i) dEntry).old, ((y.1.log).getD (i) dEntry).new⟩ : Upd)) ▸ hp40)
  refine oS rfl (Yk.loadC wr31_ty9 rfl (PCell.of hp40 (vr v39 rfl)) (oS rfl (Yk.lenSt (l := ((⟨((y.1.log).getD (i) dEntry).kind, ((y.1.log).getD (i) dEntry).name, ((y.1.log).getD (i) dEntry).old, ((y.1.log).getD (i) dEntry).new⟩ : Upd)).name) wr31_ty9 (vr (St (((⟨((y.1.log).getD (i) dEntry).kind, ((y.1.log).getD (i) dEntry).name, ((y.1.log).getD (i) dEntry).old, ((y.1.log).getD (i) dEntry).new⟩ : Upd)).name)) rfl) (oS rfl (Yk.eqI (a := ((((⟨((y.1.log).getD (i) dEntry).kind, ((y.1.log).getD (i) dEntry).name, ((y.1.log).getD (i) dEntry).old, ((y.1.log).getD (i) dEntry).new⟩ : Upd)).name : List UInt8).length : Nat)) (b := (100 : Nat)) rfl rfl (k_gtr _ _ _ _) (oM rfl (opsF_mayV (PQ n2 35) rfl rfl (gF (vr (.bool (decide ((100) < ((((⟨((y.1.log).getD (i) dEntry).kind, ((y.1.log).getD (i) dEntry).name, ((y.1.log).getD (i) dEntry).old, ((y.1.log).getD (i) dEntry).new⟩ : Upd)).name : List UInt8).length)))) rfl)) (fun hG41 => Yk.fieldAt wr31_fo49_4 T1 ⟨rfl, rfl⟩) (opsF_mayV (y.2.log) rfl rfl (gF (vr (.bool (decide ((100) < ((((⟨((y.1.log).getD (i) dEntry).kind, ((y.1.log).getD (i) dEntry).name, ((y.1.log).getD (i) dEntry).old, ((y.1.log).getD (i) dEntry).new⟩ : Upd)).name : List UInt8).length)))) rfl)) (fun hG42 => Yk.cell1 wr31_ty47 rfl (mayT (vr (cond (!(decide ((100) < ((((⟨((y.1.log).getD (i) dEntry).kind, ((y.1.log).getD (i) dEntry).name, ((y.1.log).getD (i) dEntry).old, ((y.1.log).getD (i) dEntry).new⟩ : Upd)).name : List UInt8).length)))) (PQ n2 35) undef) rfl) hG42) (cellAt hb8 (show (refsC y)[35]? = some (y.2.log : Value) from refs_g4 y)) ⟨rfl, rfl⟩) (opsF_mayV (NI i) rfl rfl (gF (vr (.bool (decide ((100) < ((((⟨((y.1.log).getD (i) dEntry).kind, ((y.1.log).getD (i) dEntry).name, ((y.1.log).getD (i) dEntry).old, ((y.1.log).getD (i) dEntry).new⟩ : Upd)).name : List UInt8).length)))) rfl)) (fun hG43 => Yk.move T3 ⟨rfl, rfl⟩) ?_)))))))))
  have hl47 : (!(decide ((100) < ((((⟨((y.1.log).getD (i) dEntry).kind, ((y.1.log).getD (i) dEntry).name, ((y.1.log).getD (i) dEntry).old, ((y.1.log).getD (i) dEntry).new⟩ : Upd)).name : List UInt8).length)))) = true → (entC ((y.1.log).getD (i) dEntry)).length = 67 := fun hG44 => (RG.elem (hml.keep hE) dEntry (by simp only [gA, gB, gC, gD, gE] at hG44; omega))
  refine opsF_mayX (fun v45 => PR (entC ((y.1.log).getD (i) dEntry)) v45 w29) rfl rfl (gF (vr (.bool (decide ((100) < ((((⟨((y.1.log).getD (i) dEntry).kind, ((y.1.log).getD (i) dEntry).name, ((y.1.log).getD (i) dEntry).old, ((y.1.log).getD (i) dEntry).new⟩ : Upd)).name : List UInt8).length)))) rfl)) (fun hG44 => Yk.atRG wr31_ty47 wr31_szg122 (by decide) dEntry (RG.of (hml.keep hE) (mayT (vr (cond (!(decide ((100) < ((((⟨((y.1.log).getD (i) dEntry).kind, ((y.1.log).getD (i) dEntry).name, ((y.1.log).getD (i) dEntry).old, ((y.1.log).getD (i) dEntry).new⟩ : Upd)).name : List UInt8).length)))) (y.2.log) undef) rfl) hG44)) (mayT (vr (cond (!(decide ((100) < ((((⟨((y.1.log).getD (i) dEntry).kind, ((y.1.log).getD (i) dEntry).name, ((y.1.log).getD (i) dEntry).old, ((y.1.log).getD (i) dEntry).new⟩ : Upd)).name : List UInt8).length)))) (NI i) undef) rfl) hG44) (by simp only [gA, gB, gC, gD, gE] at hG44; omega) fun _ h => ⟨h, rfl⟩) fun v45 hp46 => ?_
  refine opsF_mayX (fun v49 => PCell (St (((y.1.log).getD (i) dEntry).note)) v49 w29) rfl rfl (gF (vr (.bool (decide ((100) < ((((⟨((y.1.log).getD (i) dEntry).kind, ((y.1.log).getD (i) dEntry).name, ((y.1.log).getD (i) dEntry).old, ((y.1.log).getD (i) dEntry).new⟩ : Upd)).name : List UInt8).length)))) rfl)) (fun hG48 => ?_) fun v49 hp50 => ?_
  ·refine Yk.fieldPR (n := 1) wr31_fo122_1 (PR.of (hp46 hG48) (vr v45 rfl)) fun v49 hp50 => ?_
   have hp50 : PCell (St (((y.1.log).getD (i) dEntry).note)) v49 w29 := PR.pcell ((ent_f4 ((y.1.log).getD (i) dEntry)) ▸ hp50)
   exact ⟨hp50, rfl⟩
  refine opsF_mayV (St (((y.1.log).getD (i) dEntry).note)) rfl rfl (gF (vr (.bool (decide ((100) < ((((⟨((y.1.log).getD (i) dEntry).kind, ((y.1.log).getD (i) dEntry).name, ((y.1.log).getD (i) dEntry).old, ((y.1.log).getD (i) dEntry).new⟩ : Upd)).name : List UInt8).length)))) rfl)) (fun hG51 => Yk.loadC wr31_ty9 rfl (PCell.of (hp50 hG51) (vr v49 rfl)) ⟨rfl, rfl⟩) (opsF_mayV (NI ((((y.1.log).getD (i) dEntry).note : List UInt8).length)) rfl rfl (gF (vr (.bool (decide ((100) < ((((⟨((y.1.log).getD (i) dEntry).kind, ((y.1.log).getD (i) dEntry).name, ((y.1.log).getD (i) dEntry).old, ((y.1.log).getD (i) dEntry).new⟩ : Upd)).name : List UInt8).length)))) rfl)) (fun hG52 => Yk.lenSt (l := ((y.1.log).getD (i) dEntry).note) wr31_ty9 (mayT (vr (cond (!(decide ((100) < ((((⟨((y.1.log).getD (i) dEntry).kind, ((y.1.log).getD (i) dEntry).name, ((y.1.log).getD (i) dEntry).old, ((y.1.log).getD (i) dEntry).new⟩ : Upd)).name : List UInt8).length)))) (St (((y.1.log).getD (i) dEntry).note)) undef) rfl) hG52) ⟨rfl, rfl⟩) (opsF_mayV (.bool (decide ((400) < ((((y.1.log).getD (i) dEntry).note : List UInt8).length)))) rfl rfl (gF (vr (.bool (decide ((100) < ((((⟨((y.1.log).getD (i) dEntry).kind, ((y.1.log).getD (i) dEntry).name, ((y.1.log).getD (i) dEntry).old, ((y.1.log).getD (i) dEntry).new⟩ : Upd)).name : List UInt8).length)))) rfl)) (fun hG53 => Yk.eqI (a := (((((y.1.log).getD (i) dEntry).note : List UInt8).length : Nat) : Int)) (b := ((400 : Nat) : Int)) (mayT (vr (cond (!(decide ((100) < ((((⟨((y.1.log).getD (i) dEntry).kind, ((y.1.log).getD (i) dEntry).name, ((y.1.log).getD (i) dEntry).old, ((y.1.log).getD (i) dEntry).new⟩ : Upd)).name : List UInt8).length)))) (NI ((((y.1.log).getD (i) dEntry).note : List UInt8).length)) undef) rfl) hG53) (vr (NI 400) rfl) (k_gtr _ .i64 ((((y.1.log).getD (i) dEntry).note : List UInt8).length) (400)) ⟨rfl, rfl⟩) (oS rfl (Yk.pickOrN (vr (.bool (decide ((100) < ((((⟨((y.1.log).getD (i) dEntry).kind, ((y.1.log).getD (i) dEntry).name, ((y.1.log).getD (i) dEntry).old, ((y.1.log).getD (i) dEntry).new⟩ : Upd)).name : List UInt8).length)))) rfl) (vr (.bool (true)) rfl) (fun hA => (mayT (vr (cond (!(decide ((100) < ((((⟨((y.1.log).getD (i) dEntry).kind, ((y.1.log).getD (i) dEntry).name, ((y.1.log).getD (i) dEntry).old, ((y.1.log).getD (i) dEntry).new⟩ : Upd)).name : List UInt8).length)))) (.bool (decide ((400) < ((((y.1.log).getD (i) dEntry).note : List UInt8).length)))) undef) rfl) (not_i hA))) fun bb54 hbb55 => (oZ ?_)))))
  clear hp35
  clear hp38
  clear hp40
  clear hp46
  clear hp50
  refine tN (hK33 _ _ ?_)
  refine wpF_condB (bb54) (vr (.bool (bb54)) rfl) (fun hc2 => ?_) (fun hc2 => ?_)
  ·subst hbb55
   have hbad : heavyE y.1.log i = true := hc2
   refine sk fun K56 hK56 => (wt (oA rfl (oZ (tN (hK56 _ _ (wpF_ret (inBlockF_ret (thenF_ret (thenF_ret (inBlockF_ret (thenF_ret (postF_ret (fn := Tryd.f25) _ rfl [.bool (false)] (.bool (false)) rfl ⟨rfl, trivial⟩ ?_))))))))))))
   exact ⟨by rw [lightR_bad hlt hbad], hE⟩
  subst hbb55
  have hbad : heavyE y.1.log i = false := hc2
  refine wpF_skip (bN (tN (hK32 _ _ (wt (oM rfl (oS rfl (Yk.bin (xv := NI i) (yv := NI 1) T3 rfl rfl (i64_add _ _ _ (by omega)) (oA rfl (oL_ [(0, .agg (refsC y).toArray), (1, PQ n2 0), (3, NI ((i) + (1)))] ⟨T0, T1, rfl, trivial⟩ fun ρ57 ⟨T0, T1, T3, _⟩ => (tN (And.intro ⟨i + 1, T0, T1, T3, hE, hb8, by omega, to_step hn hbad, trivial⟩ ?_)))))))))))
  show y.1.log.length - (intOf (ρ57 3)).toNat < y.1.log.length - (intOf (ρ28 3)).toNat
  rw [T3, q3]
  simp only [intOf, Int.toNat_natCast]; omega
 refine wpF_exit (thenF_exit (thenF_exit (inBlockF_hit (tN (hK25 _ _ (sk fun K58 hK58 => (wt (oA rfl (oZ (tN (hK58 _ _ (wpF_ret (postF_ret (fn := Tryd.f25) _ rfl [.bool (true)] (.bool (true)) rfl ⟨rfl, trivial⟩ ?_)))))))))))))
 exact ⟨by rw [lightR_all h0c (show y.1.log.length ≤ i by omega) hn], hE⟩

theorem begin_any (w : World) :
  Calls Tryd.prog 33 #[] w fun e w' => e = .returned (.agg (refsC beginV).toArray) ∧ Ext w w' := by
 refine calls_of_wpF (args := []) Tryd.func33 rfl 2 rfl (Nat.le_of_ble_eq_true rfl) ?_
 intro ρ0 hb
 clear hb
 have hE := Ext.refl w
 refine sk fun K1 hK1 => (wt (oS rfl (Yk.alloc (cs := (refsC ((⟨[], [], [], zid, []⟩, ⟨.slice none 0 0, .slice none 0 0, .slice none 0 0⟩) : RefsV)).toArray) wr31_al53 fun n2 w3 hn4 hb5 hx6 hs7 => ?_)))
 have hE := hE.trans hx6
 have hb8 := hb5; clear hb5
 have hl9 : n2 < w3.heap.size := by omega
 refine oZ (tN (hK1 _ _ (sk fun K10 hK10 => (wt (oS rfl (Yk.build1 (vr (St (([109, 97, 105, 110] : List UInt8))) rfl) (fun w => wr31_bs53_2 ([109, 97, 105, 110] : List UInt8) w) (oS rfl (Yk.storeAll (vr (PQ n2 0) rfl) (vr (.agg (refsC ((⟨[], [], ([109, 97, 105, 110] : List UInt8), zid, []⟩, ⟨(Value.slice none 0 0), (Value.slice none 0 0), (Value.slice none 0 0)⟩) : RefsV)).toArray) rfl) hb8 (by simp only [List.size_toArray, refs_len]) (st_isz (refs_len _) wr31_isz53) (refs_one (x := ((⟨[], [], ([109, 97, 105, 110] : List UInt8), zid, []⟩, ⟨(Value.slice none 0 0), (Value.slice none 0 0), (Value.slice none 0 0)⟩) : RefsV)) rfl rfl rfl) fun w11 hb12 hg13 hs14 => ?_))))))))
 have hE := row_fresh hE hg13 (Nat.le_trans (Nat.le_refl _) (by omega))
 clear hb8
 have hb8 : w11.heap[n2]? = some (.cells (refsC ((⟨[], [], ([109, 97, 105, 110] : List UInt8), zid, []⟩, ⟨(Value.slice none 0 0), (Value.slice none 0 0), (Value.slice none 0 0)⟩) : RefsV)).toArray 53 (0, 0)) := hb12; clear hb12
 have hl15 := bl hb8
 refine oZ (tN (hK10 _ _ (wpF_ret (postF_ret (fn := Tryd.f33) _ rfl [.agg (refsC ((⟨[], [], ([109, 97, 105, 110] : List UInt8), zid, []⟩, ⟨(Value.slice none 0 0), (Value.slice none 0 0), (Value.slice none 0 0)⟩) : RefsV)).toArray] (.agg (refsC ((⟨[], [], ([109, 97, 105, 110] : List UInt8), zid, []⟩, ⟨(Value.slice none 0 0), (Value.slice none 0 0), (Value.slice none 0 0)⟩) : RefsV)).toArray) rfl ⟨ResF.row rfl hb8 (wr31_ty53).choose_spec rfl (st_isz (refs_len _) wr31_isz53), trivial⟩ ?_))))
 exact ⟨rfl, hE⟩

open Go.RowKit
def hdlost (r : Refs) (y : Upd) : Bool := ((decide ((turnQ r.branches y).1 = 0) && zeroB y.new) && (!zeroB y.old)) && decide (r.head = y.name)
def branchP (r : Refs) (y : Upd) : Nat × Refs := if hdlost r y = true then (16, r) else if (turnQ r.branches y).1 = 0 then (0, ⟨(turnQ r.branches y).2, r.tags, r.head, r.at_, r.log⟩) else ((turnQ r.branches y).1, r)
def tagP (r : Refs) (y : Upd) : Nat × Refs := if (turnQ r.tags y).1 = 0 then (0, ⟨r.branches, (turnQ r.tags y).2, r.head, r.at_, r.log⟩) else ((turnQ r.tags y).1, r)
def headP (r : Refs) (y : Upd) : Nat × Refs := (0, ⟨r.branches, r.tags, y.name, y.new, r.log⟩)
def doP (r : Refs) (y : Upd) : Nat × Refs := if y.kind.toNat = 1 then branchP r y else if y.kind.toNat = 2 then tagP r y else headP r y
structure AppAt (w0 w : World) (g : Nat) (z : RefsV) : Prop where
  ext : Ext w0 w
  g0 : w0.heap.size ≤ g
  blk : w.heap[g]? = some (.cells (refsC z).toArray 53 (0, 0))
  br : OG w0.heap.size 70 33 nmdC w z.2.branches z.1.branches
  tg : OG w0.heap.size 70 33 nmdC w z.2.tags z.1.tags
  lg : OG w0.heap.size 122 67 entC w z.2.log z.1.log
  ab : z.2.branches.ownBlock ≠ some g
  at_ : z.2.tags.ownBlock ≠ some g
  al : z.2.log.ownBlock ≠ some g
  lb : ApartV z.2.log z.2.branches
  lt : ApartV z.2.log z.2.tags
theorem AppAt.keep {w0 w w' : World} {g : Nat} {z : RefsV} (h : AppAt w0 w g z) (k : Ext w w') : AppAt w0 w' g z := ⟨h.ext.trans k, h.g0, Ext.blk' k h.blk, h.br.keep k, h.tg.keep k, h.lg.keep k, h.ab, h.at_, h.al, h.lb, h.lt⟩
structure Sorted (r : Refs) : Prop where
  br : sortN r.branches
  tg : sortN r.tags
  bl : r.branches.length ≤ 64
  tl : r.tags.length ≤ 64
open Go.RowKit
set_option maxRecDepth 100000
def NewOG (t : TypeId) (w0 wb w : World) (v : Value) (l : List Nmd) : Prop := OG w0.heap.size t 33 nmdC w v l ∧ ∀ k, v.ownBlock = some k → wb.heap.size ≤ k
theorem NewOG.keep {t : TypeId} {w0 wb w w' : World} {v : Value} {l : List Nmd} (h : NewOG t w0 wb w v l) (k : Ext w w') : NewOG t w0 wb w' v l := ⟨h.1.keep k, h.2⟩
theorem NewOG.of {t : TypeId} {w0 wb w1 w : World} {v : Value} {l : List Nmd} (h : OG w1.heap.size t 33 nmdC w v l) (h0 : w0.heap.size ≤ wb.heap.size) (h1 : wb.heap.size ≤ w1.heap.size) : NewOG t w0 wb w v l := ⟨h.low (Nat.le_trans h0 h1), fun k hk => Nat.le_trans h1 (h.2.lt k hk).1⟩
theorem NewOG.apart {t : TypeId} {w0 wb w : World} {v : Value} {l : List Nmd} {g : Nat} (h : NewOG t w0 wb w v l) (hg : g < wb.heap.size) : v.ownBlock ≠ some g := fun e => by have := h.2 g e; omega
theorem NewOG.apartv {α : Type} {t t' : TypeId} {w0 wb w wa : World} {v u : Value} {l : List Nmd} {b k : Nat} {enc : α → List Value} {m : List α} (h : NewOG t w0 wb w v l) (hu : OG b t' k enc wa u m) (hle : wa.heap.size ≤ wb.heap.size) : ApartV u v := fun i h1 h2 => by
 have := (hu.2.lt i h1).2
 have := h.2 i h2
 omega
abbrev fnV (f : Nat) : Value := .func (.func f) #[] #[]
def doG : UInt8 → Option Nat := updM (updM (updM (fun _ => none) 1 (some 122)) 2 (some 123)) 3 (some 124)
theorem zeroFn : ∀ u : World, (zeroValue 128).run Tryd.prog u = .ok Value.nilFunc u := fun _ => by kernel_rfl
theorem wr34_fo53_0 : FieldOff Tryd.prog 53 0 0 := fun b o w => by simp [go_sem]
theorem wr34_ty51 : Tryd.prog.underlying 51 = some (.slice 70) := by kernel_rfl
theorem wr34_ty67 : ∃ fs, Tryd.prog.underlying 67 = some (.struct fs) := struct_of (by kernel_rfl)
theorem wr34_isz67 : (Tryd.prog.info? 67).map (·.size) = some 66 := by kernel_rfl
theorem wr34_pl149 : Plain Tryd.prog 149 := fun _ _ => by kernel_rfl
theorem wr34_fo67_3 : FieldOff Tryd.prog 67 3 34 := fun b o w => by simp [go_sem]
theorem wr34_ty25 : Tryd.prog.underlying 25 = some (.array 32 5) := by kernel_rfl
theorem wr34_pl83 : Plain Tryd.prog 83 := fun _ _ => by kernel_rfl
theorem wr34_fo67_2 : FieldOff Tryd.prog 67 2 2 := fun b o w => by simp [go_sem]
theorem wr34_fo53_2 : FieldOff Tryd.prog 53 2 2 := fun b o w => by simp [go_sem]
theorem wr34_ty9 : Tryd.prog.underlying 9 = some (.string) := by kernel_rfl
theorem wr34_fo67_1 : FieldOff Tryd.prog 67 1 1 := fun b o w => by simp [go_sem]
theorem wr34_isz51 : (Tryd.prog.info? 51).map (·.size) = some 1 := by kernel_rfl
theorem wr34_fo53_1 : FieldOff Tryd.prog 53 1 1 := fun b o w => by simp [go_sem]
theorem wr34_isz9 : (Tryd.prog.info? 9).map (·.size) = some 1 := by kernel_rfl
theorem wr34_fo53_3 : FieldOff Tryd.prog 53 3 3 := fun b o w => by simp [go_sem]
theorem wr34_isz25 : (Tryd.prog.info? 25).map (·.size) = some 32 := by kernel_rfl
theorem wr34_ty125 : Tryd.prog.underlying 125 = some (.map 5 128) := by kernel_rfl
set_option maxHeartbeats 1600000
theorem branch_any (w0 w : World) (g : Nat) (z : RefsV) (hA : AppAt w0 w g z) (hS : Sorted z.1) (y : Upd) :
  Calls Tryd.prog 122 #[PQ g 0, .agg (updC y).toArray] w fun e w' => ∃ z', (e = .returned (NI (branchP z.1 y).1) ∧ z'.1 = (branchP z.1 y).2) ∧ AppAt w0 w' g z' ∧ z'.2.log = z.2.log ∧ w.grownBy w' (some g) := by
 have hgr := World.grownBy.refl w (some g)
 have hE0 := hA.ext
 have hg0 := hA.g0
 have hblk := hA.blk
 have hbr := hA.br
 have htg := hA.tg
 have hlg := hA.lg
 have hab := hA.ab
 have hat := hA.at_
 have hal := hA.al
 have hlb := hA.lb
 have hlt := hA.lt
 have hlg0 := hA.lg
 have hgl := (bl hblk)
 refine calls_of_wpF (args := [PQ g 0, .agg (updC y).toArray]) Tryd.func122 rfl 45 rfl (Nat.le_of_ble_eq_true rfl) ?_
 intro ρ0 hb
 have T0 : ρ0 0 = (PQ g 0 : Value) := hb.get 0
 have T1 : ρ0 1 = (.agg (updC y).toArray : Value) := hb.get 1
 clear hb
 have hE := Ext.refl w
 refine sk fun K1 hK1 => (wt (oS rfl (Yk.box (cs := (updC y : List Value).toArray) T1 fun n2 w3 hn4 hb5 hx6 hs7 => ?_)))
 have hA8 := Ext.refl w
 have hea9 := hE
 have hea10 := hE0
 have hz11 := hE.size
 have hz12 := hE0.size
 have hlt13 := lte (bl hblk) hn4
 have hap14 : OB z.2.branches n2 := own_newer hbr.2 (by omega)
 have hap15 : OB z.2.tags n2 := own_newer htg.2 (by omega)
 have hap16 : OB z.2.log n2 := own_newer hlg.2 (by omega)
 have hblk := eb hx6 hblk
 have hbr := hbr.keep hx6
 have htg := htg.keep hx6
 have hlg := hlg.keep hx6
 have hgr : w.grownBy w3 (some g) := grownBy_trans hgr hx6.grown (fun _ e => by cases e)
 have hE := hE.trans hx6
 have hE0 := hE0.trans hx6
 have hA8 := hA8.trans hx6
 have hb17 := hb5; clear hb5
 have hl18 : n2 < w3.heap.size := by omega
 refine oA rfl (oZ (tN (hK1 _ _ (sk fun K19 hK19 => ?_))))
 refine wpF_draw [Is (PQ g 0), Is (PQ g 0), Is (PQ g 0), Is (z.2.branches), Is (.agg (updC y).toArray), fun x w' => ∃ v, x = .tuple #[v, NI (turnQ z.1.branches y).1] ∧ NewOG 70 w0 w3 w' v ((turnQ z.1.branches y).2), fun x w' => ∃ v, x = .tuple #[v, NI (turnQ z.1.branches y).1] ∧ NewOG 70 w0 w3 w' v ((turnQ z.1.branches y).2), fun x w' => NewOG 70 w0 w3 w' x ((turnQ z.1.branches y).2), Is (NI ((turnQ z.1.branches y).1)), fun x w' => NewOG 70 w0 w3 w' x ((turnQ z.1.branches y).2), Is (NI ((turnQ z.1.branches y).1))] (by kernel_rfl) [8, 9, 10, 11, 12, 13, 7, 14, 15, 5, 6] (by kernel_rfl) (by kernel_rfl) (si5 ⟨(fun _ _ _ ⟨v, h1, h2⟩ k => ⟨v, h1, h2.keep k⟩), (fun _ _ _ ⟨v, h1, h2⟩ k => ⟨v, h1, h2.keep k⟩), (fun _ _ _ h k => NewOG.keep h k), Stab.is _, (fun _ _ _ h k => NewOG.keep h k), Stab.is _, trivial⟩) ?hs1001 ?hQ1001
 case hs1001 =>
  refine ⟨?_, ?_, ?_, ?_, ?_, ?_, ?_, ?_, ?_, ?_, ?_, trivial⟩
  ·refine stepN rfl fun σ w1 hC h => ?_
   have e0 := (eqo (h 0 (by decide))).trans T0
   exact Yk.move e0 ⟨Ext.refl _, rfl⟩
  ·refine stepN rfl fun σ w1 hC h => ?_
   have e8 := eqo (h 8 (by decide))
   exact Yk.nilCheck e8 ⟨Ext.refl _, rfl⟩
  ·refine stepN rfl fun σ w1 hC h => ?_
   have e9 := eqo (h 9 (by decide))
   exact Yk.fieldAt wr34_fo53_0 e9 ⟨Ext.refl _, rfl⟩
  ·refine stepN rfl fun σ w1 hC h => ?_
   have e10 := eqo (h 10 (by decide))
   exact Yk.cell1 wr34_ty51 rfl e10 (cellAt (eb hC hblk) (show (refsC z)[0]? = some (z.2.branches : Value) from refs_g0 z)) ⟨Ext.refl _, rfl⟩
  ·refine stepN rfl fun σ w1 hC h => ?_
   have e3 : σ 3 = PQ n2 0 := (eqo (h 3 (by decide))).trans rfl
   exact Yk.loadAll e3 (eb hC hb17) (wr34_ty67).choose_spec rfl (st_isz (upd_len y) wr34_isz67) ⟨Ext.refl _, rfl⟩
  ·refine stepN rfl fun σ w1 hC h => ?_
   have e11 := eqo (h 11 (by decide))
   have e12 := eqo (h 12 (by decide))
   refine Yk.callA2 wr34_pl149 e11 e12 ((turned_any _ z.2.branches z.1.branches (RG.ofOwn (hbr.keep hC)) (by have := hS.bl; omega) hS.br y).mono ?_)
   rintro e w2 ⟨v, rfl, ho, hx⟩
   exact ⟨_, rfl, hx, v, rfl, NewOG.of ho hE0.size hC.size⟩
  ·refine stepN rfl fun σ w1 hC h => ?_
   have e13 : (fun x w' => ∃ v, x = .tuple #[v, NI (turnQ z.1.branches y).1] ∧ NewOG 70 w0 w3 w' v ((turnQ z.1.branches y).2)) (σ 13) w1 := h 13 (by decide)
   exact Yk.move rfl ⟨Ext.refl _, e13⟩
  ·refine stepN rfl fun σ w1 hC h => ?_
   have e7 : (fun x w' => ∃ v, x = .tuple #[v, NI (turnQ z.1.branches y).1] ∧ NewOG 70 w0 w3 w' v ((turnQ z.1.branches y).2)) (σ 7) w1 := h 7 (by decide)
   obtain ⟨v0, h1_, h2_⟩ := e7
   exact Yk.extract (vs := [v0, _]) h1_ (show _ = some v0 from rfl) ⟨Ext.refl _, h2_⟩
  ·refine stepN rfl fun σ w1 hC h => ?_
   have e7 : (fun x w' => ∃ v, x = .tuple #[v, NI (turnQ z.1.branches y).1] ∧ NewOG 70 w0 w3 w' v ((turnQ z.1.branches y).2)) (σ 7) w1 := h 7 (by decide)
   obtain ⟨v0, h1_, h2_⟩ := e7
   exact Yk.extract (vs := [v0, NI (turnQ z.1.branches y).1]) h1_ (show _ = some (NI (turnQ z.1.branches y).1 : Value) from rfl) ⟨Ext.refl _, rfl⟩
  ·refine stepN rfl fun σ w1 hC h => ?_
   have e14 : (fun x w' => NewOG 70 w0 w3 w' x ((turnQ z.1.branches y).2)) (σ 14) w1 := h 14 (by decide)
   exact Yk.assign rfl ⟨Ext.refl _, e14⟩
  ·refine stepN rfl fun σ w1 hC h => ?_
   have e15 := eqo (h 15 (by decide))
   exact Yk.assign e15 ⟨Ext.refl _, rfl⟩
 intro ρ20 w21 hx22 he hf
 obtain ⟨-, -, -, -, -, -, -, -, -, k5, k6, -⟩ := hf
 obtain ⟨T0, T1, T3, T4, -⟩ := he.hold [(0, _), (1, _), (3, PQ n2 0), (4, NI 0)] ⟨T0, T1, rfl, rfl, trivial⟩ rfl
 clear he
 have hblk := eb hx22 hblk
 have hbr := hbr.keep hx22
 have htg := htg.keep hx22
 have hlg := hlg.keep hx22
 have hgr : w.grownBy w21 (some g) := grownBy_trans hgr hx22.grown (fun _ e => by cases e)
 have hE := hE.trans hx22
 have hE0 := hE0.trans hx22
 have hA8 := hA8.trans hx22
 have hb17 := eb hx22 hb17
 have k5 : (fun x w' => NewOG 70 w0 w3 w' x ((turnQ z.1.branches y).2)) (ρ20 5) w21 := k5
 obtain ⟨v23, T5⟩ : ∃ v, ρ20 5 = v := ⟨_, rfl⟩
 rw [T5] at k5
 have hk24 := k5; clear k5
 have hap25 : OB v23 g := NewOG.apart hk24 (by omega)
 have hap26 : OB v23 n2 := NewOG.apart hk24 (by omega)
 have hap27 : ApartV z.2.log v23 := NewOG.apartv hk24 hlg0 (by omega)
 have ho28 := hk24.1; clear hk24
 have T6 : ρ20 6 = NI ((turnQ z.1.branches y).1) := k6
 clear k6
 refine tN (hK19 _ _ (sk fun K29 hK29 => (sk fun K30 hK30 => ?_)))
 refine wpF_draw [Is (NI ((turnQ z.1.branches y).1)), Is (.bool (decide (((turnQ z.1.branches y).1 : Nat) = (0)))), Is (.bool (decide (((turnQ z.1.branches y).1 : Nat) = (0)))), Is (cond ((decide (((turnQ z.1.branches y).1 : Nat) = (0)))) (PQ n2 34) undef), Is (cond ((decide (((turnQ z.1.branches y).1 : Nat) = (0)))) (AB y.new.1) undef), Is (cond ((decide (((turnQ z.1.branches y).1 : Nat) = (0)))) (.bool (zeroB y.new)) undef), Is (.bool ((decide (((turnQ z.1.branches y).1 : Nat) = (0))) && (zeroB y.new))), Is (.bool ((decide (((turnQ z.1.branches y).1 : Nat) = (0))) && (zeroB y.new))), Is (cond ((decide (((turnQ z.1.branches y).1 : Nat) = (0))) && (zeroB y.new)) (PQ n2 2) undef), Is (cond ((decide (((turnQ z.1.branches y).1 : Nat) = (0))) && (zeroB y.new)) (AB y.old.1) undef), Is (cond ((decide (((turnQ z.1.branches y).1 : Nat) = (0))) && (zeroB y.new)) (.bool (zeroB y.old)) undef), Is (cond ((decide (((turnQ z.1.branches y).1 : Nat) = (0))) && (zeroB y.new)) (.bool (!(zeroB y.old))) undef), Is (.bool (((decide (((turnQ z.1.branches y).1 : Nat) = (0))) && (zeroB y.new)) && (!(zeroB y.old)))), Is (.bool (((decide (((turnQ z.1.branches y).1 : Nat) = (0))) && (zeroB y.new)) && (!(zeroB y.old)))), Is (cond (((decide (((turnQ z.1.branches y).1 : Nat) = (0))) && (zeroB y.new)) && (!(zeroB y.old))) (PQ g 0) undef), Is (cond (((decide (((turnQ z.1.branches y).1 : Nat) = (0))) && (zeroB y.new)) && (!(zeroB y.old))) (PQ g 0) undef), Is (cond (((decide (((turnQ z.1.branches y).1 : Nat) = (0))) && (zeroB y.new)) && (!(zeroB y.old))) (PQ g 2) undef), Is (cond (((decide (((turnQ z.1.branches y).1 : Nat) = (0))) && (zeroB y.new)) && (!(zeroB y.old))) (St (z.1.head)) undef), Is (cond (((decide (((turnQ z.1.branches y).1 : Nat) = (0))) && (zeroB y.new)) && (!(zeroB y.old))) (PQ n2 1) undef), Is (cond (((decide (((turnQ z.1.branches y).1 : Nat) = (0))) && (zeroB y.new)) && (!(zeroB y.old))) (St (y.name)) undef), Is (cond (((decide (((turnQ z.1.branches y).1 : Nat) = (0))) && (zeroB y.new)) && (!(zeroB y.old))) (.bool (decide ((z.1.head : List UInt8) = (y.name : List UInt8)))) undef), Is (.bool ((((decide (((turnQ z.1.branches y).1 : Nat) = (0))) && (zeroB y.new)) && (!(zeroB y.old))) && (decide ((z.1.head : List UInt8) = (y.name : List UInt8)))))] (by kernel_rfl) [16, 17, 18, 19, 20, 21, 22, 23, 24, 25, 26, 27, 28, 29, 30, 31, 32, 33, 34, 35, 36, 37] (by kernel_rfl) (by kernel_rfl) (si10 (si12 trivial)) ?hs2002 ?hQ2002
 case hs2002 =>
  refine ⟨?_, ?_, ?_, ?_, ?_, ?_, ?_, ?_, ?_, ?_, ?_, ?_, ?_, ?_, ?_, ?_, ?_, ?_, ?_, ?_, ?_, ?_, trivial⟩
  ·refine stepN rfl fun σ w1 hC h => ?_
   have e6 := (eqo (h 6 (by decide))).trans T6
   exact Yk.move e6 ⟨Ext.refl _, rfl⟩
  ·refine stepN rfl fun σ w1 hC h => ?_
   have e16 := eqo (h 16 (by decide))
   exact Yk.eqI (a := ((turnQ z.1.branches y).1 : Nat)) (b := (0 : Nat)) e16 rfl (k_eql _ _ _ _) ⟨Ext.refl _, rfl⟩
  ·refine stepN rfl fun σ w1 hC h => ?_
   have e17 := eqo (h 17 (by decide))
   exact Yk.move e17 ⟨Ext.refl _, rfl⟩
  ·refine stepM 2 true 18 (G := (decide (((turnQ z.1.branches y).1 : Nat) = (0)))) rfl rfl (fun x _ (h : x = .bool (decide (((turnQ z.1.branches y).1 : Nat) = (0)))) => gT h) (fun hu_ _ => mayU hu_) fun hG σ w1 hC h => ?_
   have e3 := (eqo (h 3 (by decide))).trans T3
   exact Yk.fieldAt wr34_fo67_3 e3 ⟨Ext.refl _, mayI hG⟩
  ·refine stepM 2 true 18 (G := (decide (((turnQ z.1.branches y).1 : Nat) = (0)))) rfl rfl (fun x _ (h : x = .bool (decide (((turnQ z.1.branches y).1 : Nat) = (0)))) => gT h) (fun hu_ _ => mayU hu_) fun hG σ w1 hC h => ?_
   have e19 := eqo (h 19 (by decide))
   exact Yk.loadPR (PR.blk (eb hC hb17) (upd_m3 y) (upd_n3 y) (mayT e19 hG)) wr34_ty25 rfl (sizeId_of y.new.2) ⟨Ext.refl _, mayI hG⟩
  ·refine stepM 2 true 18 (G := (decide (((turnQ z.1.branches y).1 : Nat) = (0)))) rfl rfl (fun x _ (h : x = .bool (decide (((turnQ z.1.branches y).1 : Nat) = (0)))) => gT h) (fun hu_ _ => mayU hu_) fun hG σ w1 hC h => ?_
   have e20 := eqo (h 20 (by decide))
   refine Yk.callA1 wr34_pl83 (mayT e20 hG) ((fzero_any _ y.new).mono ?_)
   rintro e w2 ⟨rfl, hx⟩
   exact ⟨_, rfl, hx, mayI hG⟩
  ·refine stepN rfl fun σ w1 hC h => ?_
   have e18 := eqo (h 18 (by decide))
   have e21 := eqo (h 21 (by decide))
   exact Yk.pickAnd e18 (fun hA => (mayT e21 hA)) (vr (.bool (false)) rfl) ⟨Ext.refl _, rfl⟩
  ·refine stepN rfl fun σ w1 hC h => ?_
   have e22 := eqo (h 22 (by decide))
   exact Yk.move e22 ⟨Ext.refl _, rfl⟩
  ·refine stepM 7 true 23 (G := (decide (((turnQ z.1.branches y).1 : Nat) = (0))) && (zeroB y.new)) rfl rfl (fun x _ (h : x = .bool ((decide (((turnQ z.1.branches y).1 : Nat) = (0))) && (zeroB y.new))) => gT h) (fun hu_ _ => mayU hu_) fun hG σ w1 hC h => ?_
   have e3 := (eqo (h 3 (by decide))).trans T3
   exact Yk.fieldAt wr34_fo67_2 e3 ⟨Ext.refl _, mayI hG⟩
  ·refine stepM 7 true 23 (G := (decide (((turnQ z.1.branches y).1 : Nat) = (0))) && (zeroB y.new)) rfl rfl (fun x _ (h : x = .bool ((decide (((turnQ z.1.branches y).1 : Nat) = (0))) && (zeroB y.new))) => gT h) (fun hu_ _ => mayU hu_) fun hG σ w1 hC h => ?_
   have e24 := eqo (h 24 (by decide))
   exact Yk.loadPR (PR.blk (eb hC hb17) (upd_m2 y) (upd_n2 y) (mayT e24 hG)) wr34_ty25 rfl (sizeId_of y.old.2) ⟨Ext.refl _, mayI hG⟩
  ·refine stepM 7 true 23 (G := (decide (((turnQ z.1.branches y).1 : Nat) = (0))) && (zeroB y.new)) rfl rfl (fun x _ (h : x = .bool ((decide (((turnQ z.1.branches y).1 : Nat) = (0))) && (zeroB y.new))) => gT h) (fun hu_ _ => mayU hu_) fun hG σ w1 hC h => ?_
   have e25 := eqo (h 25 (by decide))
   refine Yk.callA1 wr34_pl83 (mayT e25 hG) ((fzero_any _ y.old).mono ?_)
   rintro e w2 ⟨rfl, hx⟩
   exact ⟨_, rfl, hx, mayI hG⟩
  ·refine stepM 7 true 23 (G := (decide (((turnQ z.1.branches y).1 : Nat) = (0))) && (zeroB y.new)) rfl rfl (fun x _ (h : x = .bool ((decide (((turnQ z.1.branches y).1 : Nat) = (0))) && (zeroB y.new))) => gT h) (fun hu_ _ => mayU hu_) fun hG σ w1 hC h => ?_
   have e26 := eqo (h 26 (by decide))
   exact Yk.notB (mayT e26 hG) ⟨Ext.refl _, mayI hG⟩
  ·refine stepN rfl fun σ w1 hC h => ?_
   have e23 := eqo (h 23 (by decide))
   have e27 := eqo (h 27 (by decide))
   exact Yk.pickAnd e23 (fun hA => (mayT e27 hA)) (vr (.bool (false)) rfl) ⟨Ext.refl _, rfl⟩
  ·refine stepN rfl fun σ w1 hC h => ?_
   have e28 := eqo (h 28 (by decide))
   exact Yk.move e28 ⟨Ext.refl _, rfl⟩
  ·refine stepM 13 true 29 (G := ((decide (((turnQ z.1.branches y).1 : Nat) = (0))) && (zeroB y.new)) && (!(zeroB y.old))) rfl rfl (fun x _ (h : x = .bool (((decide (((turnQ z.1.branches y).1 : Nat) = (0))) && (zeroB y.new)) && (!(zeroB y.old)))) => gT h) (fun hu_ _ => mayU hu_) fun hG σ w1 hC h => ?_
   have e0 := (eqo (h 0 (by decide))).trans T0
   exact Yk.move e0 ⟨Ext.refl _, mayI hG⟩
  ·refine stepM 13 true 29 (G := ((decide (((turnQ z.1.branches y).1 : Nat) = (0))) && (zeroB y.new)) && (!(zeroB y.old))) rfl rfl (fun x _ (h : x = .bool (((decide (((turnQ z.1.branches y).1 : Nat) = (0))) && (zeroB y.new)) && (!(zeroB y.old)))) => gT h) (fun hu_ _ => mayU hu_) fun hG σ w1 hC h => ?_
   have e30 := eqo (h 30 (by decide))
   exact Yk.nilCheck (mayT e30 hG) ⟨Ext.refl _, mayI hG⟩
  ·refine stepM 13 true 29 (G := ((decide (((turnQ z.1.branches y).1 : Nat) = (0))) && (zeroB y.new)) && (!(zeroB y.old))) rfl rfl (fun x _ (h : x = .bool (((decide (((turnQ z.1.branches y).1 : Nat) = (0))) && (zeroB y.new)) && (!(zeroB y.old)))) => gT h) (fun hu_ _ => mayU hu_) fun hG σ w1 hC h => ?_
   have e31 := eqo (h 31 (by decide))
   exact Yk.fieldAt wr34_fo53_2 (mayT e31 hG) ⟨Ext.refl _, mayI hG⟩
  ·refine stepM 13 true 29 (G := ((decide (((turnQ z.1.branches y).1 : Nat) = (0))) && (zeroB y.new)) && (!(zeroB y.old))) rfl rfl (fun x _ (h : x = .bool (((decide (((turnQ z.1.branches y).1 : Nat) = (0))) && (zeroB y.new)) && (!(zeroB y.old)))) => gT h) (fun hu_ _ => mayU hu_) fun hG σ w1 hC h => ?_
   have e32 := eqo (h 32 (by decide))
   exact Yk.cell1 wr34_ty9 rfl (mayT e32 hG) (cellAt (eb hC hblk) (show (refsC z)[2]? = some (St (z.1.head) : Value) from refs_g2 z)) ⟨Ext.refl _, mayI hG⟩
  ·refine stepM 13 true 29 (G := ((decide (((turnQ z.1.branches y).1 : Nat) = (0))) && (zeroB y.new)) && (!(zeroB y.old))) rfl rfl (fun x _ (h : x = .bool (((decide (((turnQ z.1.branches y).1 : Nat) = (0))) && (zeroB y.new)) && (!(zeroB y.old)))) => gT h) (fun hu_ _ => mayU hu_) fun hG σ w1 hC h => ?_
   have e3 := (eqo (h 3 (by decide))).trans T3
   exact Yk.fieldAt wr34_fo67_1 e3 ⟨Ext.refl _, mayI hG⟩
  ·refine stepM 13 true 29 (G := ((decide (((turnQ z.1.branches y).1 : Nat) = (0))) && (zeroB y.new)) && (!(zeroB y.old))) rfl rfl (fun x _ (h : x = .bool (((decide (((turnQ z.1.branches y).1 : Nat) = (0))) && (zeroB y.new)) && (!(zeroB y.old)))) => gT h) (fun hu_ _ => mayU hu_) fun hG σ w1 hC h => ?_
   have e34 := eqo (h 34 (by decide))
   exact Yk.cell1 wr34_ty9 rfl (mayT e34 hG) (cellAt (eb hC hb17) (show (updC y)[1]? = some (St (y.name) : Value) from upd_g1 y)) ⟨Ext.refl _, mayI hG⟩
  ·refine stepM 13 true 29 (G := ((decide (((turnQ z.1.branches y).1 : Nat) = (0))) && (zeroB y.new)) && (!(zeroB y.old))) rfl rfl (fun x _ (h : x = .bool (((decide (((turnQ z.1.branches y).1 : Nat) = (0))) && (zeroB y.new)) && (!(zeroB y.old)))) => gT h) (fun hu_ _ => mayU hu_) fun hG σ w1 hC h => ?_
   have e33 := eqo (h 33 (by decide))
   have e35 := eqo (h 35 (by decide))
   exact Yk.eqSt (l := z.1.head) (m := y.name) (.inl rfl) (mayT e33 hG) (mayT e35 hG) (decide ((z.1.head : List UInt8) = (y.name : List UInt8))) rfl ⟨Ext.refl _, mayI hG⟩
  ·refine stepN rfl fun σ w1 hC h => ?_
   have e29 := eqo (h 29 (by decide))
   have e36 := eqo (h 36 (by decide))
   exact Yk.pickAnd e29 (fun hA => (mayT e36 hA)) (vr (.bool (false)) rfl) ⟨Ext.refl _, rfl⟩
 intro ρ31 w32 hx33 he hf
 obtain ⟨-, -, -, -, -, -, -, -, -, -, -, -, -, -, -, -, -, -, -, -, -, k37, -⟩ := hf
 obtain ⟨T0, T1, T3, T4, T5, T6, -⟩ := he.hold [(0, _), (1, _), (3, _), (4, _), (5, _), (6, _)] ⟨T0, T1, T3, T4, T5, T6, trivial⟩ rfl
 clear he
 have hblk := eb hx33 hblk
 have hbr := hbr.keep hx33
 have htg := htg.keep hx33
 have hlg := hlg.keep hx33
 have hgr : w.grownBy w32 (some g) := grownBy_trans hgr hx33.grown (fun _ e => by cases e)
 have hE := hE.trans hx33
 have hE0 := hE0.trans hx33
 have hA8 := hA8.trans hx33
 have hb17 := eb hx33 hb17
 have ho28 := ho28.keep hx33
 have T37 : ρ31 37 = .bool ((((decide (((turnQ z.1.branches y).1 : Nat) = (0))) && (zeroB y.new)) && (!(zeroB y.old))) && (decide ((z.1.head : List UInt8) = (y.name : List UInt8)))) := k37
 clear k37
 refine tN (hK30 _ _ ?_)
 refine wpF_condB ((((decide (((turnQ z.1.branches y).1 : Nat) = (0))) && (zeroB y.new)) && (!(zeroB y.old))) && (decide ((z.1.head : List UInt8) = (y.name : List UInt8)))) T37 (fun hc0 => ?_) (fun hc0 => ?_)
 ·have h0c : hdlost z.1 y = true := hc0
  refine sk fun K34 hK34 => (wt (oA rfl (oZ (tN (hK34 _ _ (wpF_ret (thenF_ret (postF_ret (fn := Tryd.f122) _ rfl [NI 16] (NI 16) rfl ⟨rfl, trivial⟩ ?_))))))))
  exact ⟨z, ⟨by unfold branchP; rw [if_pos h0c], by unfold branchP; rw [if_pos h0c]⟩, ⟨hE0, hg0, hblk, hbr, htg, hlg, hab, hat, hal, hlb, hlt⟩, rfl, hgr⟩
 have h0c : hdlost z.1 y = false := hc0
 refine wpF_skip (tN (hK29 _ _ (sk fun K35 hK35 => (sk fun K36 hK36 => (wt (oM rfl (oS rfl (Yk.eqI (a := ((turnQ z.1.branches y).1 : Nat)) (b := (0 : Nat)) T6 rfl (k_eql _ _ _ _) (oZ (tN (hK36 _ _ ?_)))))))))))
 refine wpF_cond (((turnQ z.1.branches y).1 : Nat) = (0)) (vr (.bool (decide (((turnQ z.1.branches y).1 : Nat) = (0)))) rfl) (fun hc1 => ?_) (fun hc1 => ?_)
 ·have h1c := hc1
  refine wt (oM rfl (oM rfl (oS rfl (Yk.nilCheck T0 (oS rfl (Yk.fieldAt wr34_fo53_0 (vr (PQ g 0) rfl) (oS rfl (Yk.storeC (i := 0) (v := v23) (vr (PQ g 0) rfl) T5 hblk (by rw [refs_len]; decide) wr34_isz51 (RG.one (RG.ofOwn ho28)).1 (RG.one (RG.ofOwn ho28)).2 fun w37 hb38 hg39 hs40 => ?_))))))))
  have hbr := OG.kept hbr hg39 hab
  have htg := OG.kept htg hg39 hat
  have hlg := OG.kept hlg hg39 hal
  have hgr : w.grownBy w37 (some g) := grownBy_trans hgr hg39 (fun _ e => .inl e)
  clear hE
  have hE0 := row_fresh hE0 hg39 (Nat.le_trans (Nat.le_refl _) (by omega))
  clear hA8
  have hb17 := kb hg39 hb17 (by omega)
  have ho28 := OG.kept ho28 hg39 hap25
  clear hblk
  have hblk : w37.heap[g]? = some (.cells (refsC ((⟨(turnQ z.1.branches y).2, z.1.tags, z.1.head, z.1.at_, z.1.log⟩, ⟨v23, z.2.tags, z.2.log⟩) : RefsV)).toArray 53 (0, 0)) := blk_eq hb38 (refs_s0 z v23 ((turnQ z.1.branches y).2)); clear hb38
  have hl41 := bl hblk
  refine oZ (tN (hK35 _ _ (sk fun K42 hK42 => (wt (oM rfl (oA rfl (oZ (tN (hK42 _ _ (wpF_ret (postF_ret (fn := Tryd.f122) _ rfl [NI ((turnQ z.1.branches y).1)] (NI ((turnQ z.1.branches y).1)) rfl ⟨T6, trivial⟩ ?_)))))))))))
  exact ⟨((⟨(turnQ z.1.branches y).2, z.1.tags, z.1.head, z.1.at_, z.1.log⟩, ⟨v23, z.2.tags, z.2.log⟩) : RefsV), ⟨by unfold branchP; rw [if_neg (by rw [h0c]; decide), if_pos h1c, h1c], by unfold branchP; rw [if_neg (by rw [h0c]; decide), if_pos h1c]⟩, ⟨hE0, hg0, hblk, ho28, htg, hlg, hap25, hat, hal, hap27, hlt⟩, rfl, hgr⟩
 have h1c := hc1
 refine wpF_skip (tN (hK35 _ _ (sk fun K43 hK43 => (wt (oM rfl (oA rfl (oZ (tN (hK43 _ _ (wpF_ret (postF_ret (fn := Tryd.f122) _ rfl [NI ((turnQ z.1.branches y).1)] (NI ((turnQ z.1.branches y).1)) rfl ⟨T6, trivial⟩ ?_)))))))))))
 exact ⟨z, ⟨by unfold branchP; rw [if_neg (by rw [h0c]; decide), if_neg h1c], by unfold branchP; rw [if_neg (by rw [h0c]; decide), if_neg h1c]⟩, ⟨hE0, hg0, hblk, hbr, htg, hlg, hab, hat, hal, hlb, hlt⟩, rfl, hgr⟩

theorem tag_any (w0 w : World) (g : Nat) (z : RefsV) (hA : AppAt w0 w g z) (hS : Sorted z.1) (y : Upd) :
  Calls Tryd.prog 123 #[PQ g 0, .agg (updC y).toArray] w fun e w' => ∃ z', (e = .returned (NI (tagP z.1 y).1) ∧ z'.1 = (tagP z.1 y).2) ∧ AppAt w0 w' g z' ∧ z'.2.log = z.2.log ∧ w.grownBy w' (some g) := by
 have hgr := World.grownBy.refl w (some g)
 have hE0 := hA.ext
 have hg0 := hA.g0
 have hblk := hA.blk
 have hbr := hA.br
 have htg := hA.tg
 have hlg := hA.lg
 have hab := hA.ab
 have hat := hA.at_
 have hal := hA.al
 have hlb := hA.lb
 have hlt := hA.lt
 have hlg0 := hA.lg
 have hgl := (bl hblk)
 refine calls_of_wpF (args := [PQ g 0, .agg (updC y).toArray]) Tryd.func123 rfl 23 rfl (Nat.le_of_ble_eq_true rfl) ?_
 intro ρ0 hb
 have T0 : ρ0 0 = (PQ g 0 : Value) := hb.get 0
 have T1 : ρ0 1 = (.agg (updC y).toArray : Value) := hb.get 1
 clear hb
 have hE := Ext.refl w
 refine sk fun K1 hK1 => (wt (oS rfl (Yk.box (cs := (updC y : List Value).toArray) T1 fun n2 w3 hn4 hb5 hx6 hs7 => ?_)))
 have hA8 := Ext.refl w
 have hea9 := hE
 have hea10 := hE0
 have hz11 := hE.size
 have hz12 := hE0.size
 have hlt13 := lte (bl hblk) hn4
 have hap14 : OB z.2.branches n2 := own_newer hbr.2 (by omega)
 have hap15 : OB z.2.tags n2 := own_newer htg.2 (by omega)
 have hap16 : OB z.2.log n2 := own_newer hlg.2 (by omega)
 have hblk := eb hx6 hblk
 have hbr := hbr.keep hx6
 have htg := htg.keep hx6
 have hlg := hlg.keep hx6
 have hgr : w.grownBy w3 (some g) := grownBy_trans hgr hx6.grown (fun _ e => by cases e)
 have hE := hE.trans hx6
 have hE0 := hE0.trans hx6
 have hA8 := hA8.trans hx6
 have hb17 := hb5; clear hb5
 have hl18 : n2 < w3.heap.size := by omega
 refine oA rfl (oZ (tN (hK1 _ _ (sk fun K19 hK19 => ?_))))
 refine wpF_draw [Is (PQ g 0), Is (PQ g 0), Is (PQ g 1), Is (z.2.tags), Is (.agg (updC y).toArray), fun x w' => ∃ v, x = .tuple #[v, NI (turnQ z.1.tags y).1] ∧ NewOG 70 w0 w3 w' v ((turnQ z.1.tags y).2), fun x w' => ∃ v, x = .tuple #[v, NI (turnQ z.1.tags y).1] ∧ NewOG 70 w0 w3 w' v ((turnQ z.1.tags y).2), fun x w' => NewOG 70 w0 w3 w' x ((turnQ z.1.tags y).2), Is (NI ((turnQ z.1.tags y).1)), fun x w' => NewOG 70 w0 w3 w' x ((turnQ z.1.tags y).2), Is (NI ((turnQ z.1.tags y).1))] (by kernel_rfl) [8, 9, 10, 11, 12, 13, 7, 14, 15, 5, 6] (by kernel_rfl) (by kernel_rfl) (si5 ⟨(fun _ _ _ ⟨v, h1, h2⟩ k => ⟨v, h1, h2.keep k⟩), (fun _ _ _ ⟨v, h1, h2⟩ k => ⟨v, h1, h2.keep k⟩), (fun _ _ _ h k => NewOG.keep h k), Stab.is _, (fun _ _ _ h k => NewOG.keep h k), Stab.is _, trivial⟩) ?hs1001 ?hQ1001
 case hs1001 =>
  refine ⟨?_, ?_, ?_, ?_, ?_, ?_, ?_, ?_, ?_, ?_, ?_, trivial⟩
  ·refine stepN rfl fun σ w1 hC h => ?_
   have e0 := (eqo (h 0 (by decide))).trans T0
   exact Yk.move e0 ⟨Ext.refl _, rfl⟩
  ·refine stepN rfl fun σ w1 hC h => ?_
   have e8 := eqo (h 8 (by decide))
   exact Yk.nilCheck e8 ⟨Ext.refl _, rfl⟩
  ·refine stepN rfl fun σ w1 hC h => ?_
   have e9 := eqo (h 9 (by decide))
   exact Yk.fieldAt wr34_fo53_1 e9 ⟨Ext.refl _, rfl⟩
  ·refine stepN rfl fun σ w1 hC h => ?_
   have e10 := eqo (h 10 (by decide))
   exact Yk.cell1 wr34_ty51 rfl e10 (cellAt (eb hC hblk) (show (refsC z)[1]? = some (z.2.tags : Value) from refs_g1 z)) ⟨Ext.refl _, rfl⟩
  ·refine stepN rfl fun σ w1 hC h => ?_
   have e3 : σ 3 = PQ n2 0 := (eqo (h 3 (by decide))).trans rfl
   exact Yk.loadAll e3 (eb hC hb17) (wr34_ty67).choose_spec rfl (st_isz (upd_len y) wr34_isz67) ⟨Ext.refl _, rfl⟩
  ·refine stepN rfl fun σ w1 hC h => ?_
   have e11 := eqo (h 11 (by decide))
   have e12 := eqo (h 12 (by decide))
   refine Yk.callA2 wr34_pl149 e11 e12 ((turned_any _ z.2.tags z.1.tags (RG.ofOwn (htg.keep hC)) (by have := hS.tl; omega) hS.tg y).mono ?_)
   rintro e w2 ⟨v, rfl, ho, hx⟩
   exact ⟨_, rfl, hx, v, rfl, NewOG.of ho hE0.size hC.size⟩
  ·refine stepN rfl fun σ w1 hC h => ?_
   have e13 : (fun x w' => ∃ v, x = .tuple #[v, NI (turnQ z.1.tags y).1] ∧ NewOG 70 w0 w3 w' v ((turnQ z.1.tags y).2)) (σ 13) w1 := h 13 (by decide)
   exact Yk.move rfl ⟨Ext.refl _, e13⟩
  ·refine stepN rfl fun σ w1 hC h => ?_
   have e7 : (fun x w' => ∃ v, x = .tuple #[v, NI (turnQ z.1.tags y).1] ∧ NewOG 70 w0 w3 w' v ((turnQ z.1.tags y).2)) (σ 7) w1 := h 7 (by decide)
   obtain ⟨v0, h1_, h2_⟩ := e7
   exact Yk.extract (vs := [v0, _]) h1_ (show _ = some v0 from rfl) ⟨Ext.refl _, h2_⟩
  ·refine stepN rfl fun σ w1 hC h => ?_
   have e7 : (fun x w' => ∃ v, x = .tuple #[v, NI (turnQ z.1.tags y).1] ∧ NewOG 70 w0 w3 w' v ((turnQ z.1.tags y).2)) (σ 7) w1 := h 7 (by decide)
   obtain ⟨v0, h1_, h2_⟩ := e7
   exact Yk.extract (vs := [v0, NI (turnQ z.1.tags y).1]) h1_ (show _ = some (NI (turnQ z.1.tags y).1 : Value) from rfl) ⟨Ext.refl _, rfl⟩
  ·refine stepN rfl fun σ w1 hC h => ?_
   have e14 : (fun x w' => NewOG 70 w0 w3 w' x ((turnQ z.1.tags y).2)) (σ 14) w1 := h 14 (by decide)
   exact Yk.assign rfl ⟨Ext.refl _, e14⟩
  ·refine stepN rfl fun σ w1 hC h => ?_
   have e15 := eqo (h 15 (by decide))
   exact Yk.assign e15 ⟨Ext.refl _, rfl⟩
 intro ρ20 w21 hx22 he hf
 obtain ⟨-, -, -, -, -, -, -, -, -, k5, k6, -⟩ := hf
 obtain ⟨T0, T1, T3, T4, -⟩ := he.hold [(0, _), (1, _), (3, PQ n2 0), (4, NI 0)] ⟨T0, T1, rfl, rfl, trivial⟩ rfl
 clear he
 have hblk := eb hx22 hblk
 have hbr := hbr.keep hx22
 have htg := htg.keep hx22
 have hlg := hlg.keep hx22
 have hgr : w.grownBy w21 (some g) := grownBy_trans hgr hx22.grown (fun _ e => by cases e)
 have hE := hE.trans hx22
 have hE0 := hE0.trans hx22
 have hA8 := hA8.trans hx22
 have hb17 := eb hx22 hb17
 have k5 : (fun x w' => NewOG 70 w0 w3 w' x ((turnQ z.1.tags y).2)) (ρ20 5) w21 := k5
 obtain ⟨v23, T5⟩ : ∃ v, ρ20 5 = v := ⟨_, rfl⟩
 rw [T5] at k5
 have hk24 := k5; clear k5
 have hap25 : OB v23 g := NewOG.apart hk24 (by omega)
 have hap26 : OB v23 n2 := NewOG.apart hk24 (by omega)
 have hap27 : ApartV z.2.log v23 := NewOG.apartv hk24 hlg0 (by omega)
 have ho28 := hk24.1; clear hk24
 have T6 : ρ20 6 = NI ((turnQ z.1.tags y).1) := k6
 clear k6
 refine tN (hK19 _ _ (sk fun K29 hK29 => (sk fun K30 hK30 => (wt (oM rfl (oS rfl (Yk.eqI (a := ((turnQ z.1.tags y).1 : Nat)) (b := (0 : Nat)) T6 rfl (k_eql _ _ _ _) (oZ (tN (hK30 _ _ ?_))))))))))
 refine wpF_cond (((turnQ z.1.tags y).1 : Nat) = (0)) (vr (.bool (decide (((turnQ z.1.tags y).1 : Nat) = (0)))) rfl) (fun hc0 => ?_) (fun hc0 => ?_)
 ·have h1c := hc0
  refine wt (oM rfl (oM rfl (oS rfl (Yk.nilCheck T0 (oS rfl (Yk.fieldAt wr34_fo53_1 (vr (PQ g 0) rfl) (oS rfl (Yk.storeC (i := 1) (v := v23) (vr (PQ g 1) rfl) T5 hblk (by rw [refs_len]; decide) wr34_isz51 (RG.one (RG.ofOwn ho28)).1 (RG.one (RG.ofOwn ho28)).2 fun w31 hb32 hg33 hs34 => ?_))))))))
  have hbr := OG.kept hbr hg33 hab
  have htg := OG.kept htg hg33 hat
  have hlg := OG.kept hlg hg33 hal
  have hgr : w.grownBy w31 (some g) := grownBy_trans hgr hg33 (fun _ e => .inl e)
  clear hE
  have hE0 := row_fresh hE0 hg33 (Nat.le_trans (Nat.le_refl _) (by omega))
  clear hA8
  have hb17 := kb hg33 hb17 (by omega)
  have ho28 := OG.kept ho28 hg33 hap25
  clear hblk
  have hblk : w31.heap[g]? = some (.cells (refsC ((⟨z.1.branches, (turnQ z.1.tags y).2, z.1.head, z.1.at_, z.1.log⟩, ⟨z.2.branches, v23, z.2.log⟩) : RefsV)).toArray 53 (0, 0)) := blk_eq hb32 (refs_s1 z v23 ((turnQ z.1.tags y).2)); clear hb32
  have hl35 := bl hblk
  refine oZ (tN (hK29 _ _ (sk fun K36 hK36 => (wt (oM rfl (oA rfl (oZ (tN (hK36 _ _ (wpF_ret (postF_ret (fn := Tryd.f123) _ rfl [NI ((turnQ z.1.tags y).1)] (NI ((turnQ z.1.tags y).1)) rfl ⟨T6, trivial⟩ ?_)))))))))))
  exact ⟨((⟨z.1.branches, (turnQ z.1.tags y).2, z.1.head, z.1.at_, z.1.log⟩, ⟨z.2.branches, v23, z.2.log⟩) : RefsV), ⟨by unfold tagP; rw [if_pos h1c, h1c], by unfold tagP; rw [if_pos h1c]⟩, ⟨hE0, hg0, hblk, hbr, ho28, hlg, hab, hap25, hal, hlb, hap27⟩, rfl, hgr⟩
 have h1c := hc0
 refine wpF_skip (tN (hK29 _ _ (sk fun K37 hK37 => (wt (oM rfl (oA rfl (oZ (tN (hK37 _ _ (wpF_ret (postF_ret (fn := Tryd.f123) _ rfl [NI ((turnQ z.1.tags y).1)] (NI ((turnQ z.1.tags y).1)) rfl ⟨T6, trivial⟩ ?_)))))))))))
 exact ⟨z, ⟨by unfold tagP; rw [if_neg h1c], by unfold tagP; rw [if_neg h1c]⟩, ⟨hE0, hg0, hblk, hbr, htg, hlg, hab, hat, hal, hlb, hlt⟩, rfl, hgr⟩

theorem head_any (w0 w : World) (g : Nat) (z : RefsV) (hA : AppAt w0 w g z) (hS : Sorted z.1) (y : Upd) :
  Calls Tryd.prog 124 #[PQ g 0, .agg (updC y).toArray] w fun e w' => ∃ z', (e = .returned (NI (headP z.1 y).1) ∧ z'.1 = (headP z.1 y).2) ∧ AppAt w0 w' g z' ∧ z'.2.log = z.2.log ∧ w.grownBy w' (some g) := by
 have hgr := World.grownBy.refl w (some g)
 have hE0 := hA.ext
 have hg0 := hA.g0
 have hblk := hA.blk
 have hbr := hA.br
 have htg := hA.tg
 have hlg := hA.lg
 have hab := hA.ab
 have hat := hA.at_
 have hal := hA.al
 have hlb := hA.lb
 have hlt := hA.lt
 have hlg0 := hA.lg
 have hgl := (bl hblk)
 refine calls_of_wpF (args := [PQ g 0, .agg (updC y).toArray]) Tryd.func124 rfl 15 rfl (Nat.le_of_ble_eq_true rfl) ?_
 intro ρ0 hb
 have T0 : ρ0 0 = (PQ g 0 : Value) := hb.get 0
 have T1 : ρ0 1 = (.agg (updC y).toArray : Value) := hb.get 1
 clear hb
 have hE := Ext.refl w
 refine sk fun K1 hK1 => (wt (oS rfl (Yk.box (cs := (updC y : List Value).toArray) T1 fun n2 w3 hn4 hb5 hx6 hs7 => ?_)))
 have hA8 := Ext.refl w
 have hea9 := hE
 have hea10 := hE0
 have hz11 := hE.size
 have hz12 := hE0.size
 have hlt13 := lte (bl hblk) hn4
 have hap14 : OB z.2.branches n2 := own_newer hbr.2 (by omega)
 have hap15 : OB z.2.tags n2 := own_newer htg.2 (by omega)
 have hap16 : OB z.2.log n2 := own_newer hlg.2 (by omega)
 have hblk := eb hx6 hblk
 have hbr := hbr.keep hx6
 have htg := htg.keep hx6
 have hlg := hlg.keep hx6
 have hgr : w.grownBy w3 (some g) := grownBy_trans hgr hx6.grown (fun _ e => by cases e)
 have hE := hE.trans hx6
 have hE0 := hE0.trans hx6
 have hA8 := hA8.trans hx6
 have hb17 := hb5; clear hb5
 have hl18 : n2 < w3.heap.size := by omega
 refine oA rfl (oZ (tN (hK1 _ _ (sk fun K19 hK19 => ?_))))
 have hx20 : Ext w3 (World.drew w3) := (Below.refl _ _).drew
 have hblk := eb hx20 hblk
 have hbr := hbr.keep hx20
 have htg := htg.keep hx20
 have hlg := hlg.keep hx20
 have hgr : w.grownBy (World.drew w3) (some g) := grownBy_trans hgr hx20.grown (fun _ e => by cases e)
 have hE := hE.trans hx20
 have hE0 := hE0.trans hx20
 have hA8 := hA8.trans hx20
 have hb17 := eb hx20 hb17
 refine wpF_float [(0, 5, PQ g 0), (1, 6, PQ g 0), (2, 7, PQ n2 1), (3, 8, St (y.name)), (4, 9, PQ n2 34), (5, 10, AB y.new.1)] [6, 7, 8, 9, 10, 11] (fun wz => Ext w0 wz ∧ wz.heap[n2]? = some (.cells (updC y).toArray 67 (0, 0)) ∧ True) (by kernel_rfl) (by kernel_rfl) (by kernel_rfl) ⟨hE0, hb17, trivial⟩ ⟨fun w21 ⟨hE0, hb17, _⟩ => Yk.move T0 ⟨rfl, rfl⟩, fun w21 ⟨hE0, hb17, _⟩ => Yk.move T0 ⟨rfl, rfl⟩, fun w21 ⟨hE0, hb17, _⟩ => Yk.fieldAt wr34_fo67_1 (vr (PQ n2 0) rfl) ⟨rfl, rfl⟩, fun w21 ⟨hE0, hb17, _⟩ => Yk.cell1 wr34_ty9 rfl (vr (PQ n2 1) rfl) (cellAt hb17 (show (updC y)[1]? = some (St (y.name) : Value) from upd_g1 y)) ⟨rfl, rfl⟩, fun w21 ⟨hE0, hb17, _⟩ => Yk.fieldAt wr34_fo67_3 (vr (PQ n2 0) rfl) ⟨rfl, rfl⟩, fun w21 ⟨hE0, hb17, _⟩ => Yk.loadPR (PR.blk hb17 (upd_m3 y) (upd_n3 y) (vr (PQ n2 34) rfl)) wr34_ty25 rfl (sizeId_of y.new.2) ⟨rfl, rfl⟩, trivial⟩ (chF_step rfl (Yk.nilCheck (vr (PQ g 0) rfl) ?_))
 refine ⟨.inr ⟨hE0, hb17, trivial⟩, ?_⟩
 refine chF_step rfl (Yk.fieldAt wr34_fo53_2 (vr (PQ g 0) rfl) ?_)
 refine ⟨.inr ⟨hE0, hb17, trivial⟩, ?_⟩
 refine chF_step rfl (Yk.storeC (i := 2) (v := St (y.name)) (vr (PQ g 2) rfl) (vr (St (y.name)) rfl) hblk (by rw [refs_len]; decide) wr34_isz9 rfl rfl fun w22 hb23 hg24 hs25 => ?_)
 have hbr := OG.kept hbr hg24 hab
 have htg := OG.kept htg hg24 hat
 have hlg := OG.kept hlg hg24 hal
 have hgr : w.grownBy w22 (some g) := grownBy_trans hgr hg24 (fun _ e => .inl e)
 clear hE
 have hE0 := row_fresh hE0 hg24 (Nat.le_trans (Nat.le_refl _) (by omega))
 clear hA8
 have hb17 := kb hg24 hb17 (by omega)
 clear hblk
 have hblk : w22.heap[g]? = some (.cells (refsC ((⟨z.1.branches, z.1.tags, y.name, z.1.at_, z.1.log⟩, ⟨z.2.branches, z.2.tags, z.2.log⟩) : RefsV)).toArray 53 (0, 0)) := blk_eq hb23 (refs_s2 z y.name); clear hb23
 have hl26 := bl hblk
 refine ⟨.inr ⟨hE0, hb17, trivial⟩, ?_⟩
 refine chF_step rfl (Yk.nilCheck (vr (PQ g 0) rfl) ?_)
 refine ⟨.inr ⟨hE0, hb17, trivial⟩, ?_⟩
 refine chF_step rfl (Yk.fieldAt wr34_fo53_3 (vr (PQ g 0) rfl) ?_)
 refine ⟨.inr ⟨hE0, hb17, trivial⟩, ?_⟩
 refine chF_step rfl (Yk.storeMid (a := refs_a3 ((⟨z.1.branches, z.1.tags, y.name, z.1.at_, z.1.log⟩, ⟨z.2.branches, z.2.tags, z.2.log⟩) : RefsV)) (m := Lib.byteCells z.1.at_.1) (z := refs_z3 ((⟨z.1.branches, z.1.tags, y.name, z.1.at_, z.1.log⟩, ⟨z.2.branches, z.2.tags, z.2.log⟩) : RefsV)) (cells := Lib.byteCells y.new.1) (vr (PQ g 3) rfl) (vr (AB y.new.1) rfl) (refs_m3 ((⟨z.1.branches, z.1.tags, y.name, z.1.at_, z.1.log⟩, ⟨z.2.branches, z.2.tags, z.2.log⟩) : RefsV) ▸ hblk) (refs_n3 ((⟨z.1.branches, z.1.tags, y.name, z.1.at_, z.1.log⟩, ⟨z.2.branches, z.2.tags, z.2.log⟩) : RefsV)) (by rw [Lib.byteCells_length, Lib.byteCells_length, z.1.at_.2, y.new.2]) (by rw [Lib.byteCells_length, y.new.2]; exact wr34_isz25) (byteCells_one _) fun w27 hb28 hg29 hs30 => ?_)
 have hbr := OG.kept hbr hg29 hab
 have htg := OG.kept htg hg29 hat
 have hlg := OG.kept hlg hg29 hal
 have hgr : w.grownBy w27 (some g) := grownBy_trans hgr hg29 (fun _ e => .inl e)
 have hE0 := row_fresh hE0 hg29 (Nat.le_trans (Nat.le_refl _) (by omega))
 have hb17 := kb hg29 hb17 (by omega)
 clear hblk
 have hblk : w27.heap[g]? = some (.cells (refsC ((⟨z.1.branches, z.1.tags, y.name, y.new, z.1.log⟩, ⟨z.2.branches, z.2.tags, z.2.log⟩) : RefsV)).toArray 53 (0, 0)) := blk_eq hb28 (refs_s3 ((⟨z.1.branches, z.1.tags, y.name, z.1.at_, z.1.log⟩, ⟨z.2.branches, z.2.tags, z.2.log⟩) : RefsV) y.new); clear hb28
 have hl31 := bl hblk
 refine ⟨.inl rfl, ?_⟩
 refine chF_nil (tN (hK19 _ _ (sk fun K32 hK32 => (wt (oA rfl (oZ (tN (hK32 _ _ (wpF_ret (postF_ret (fn := Tryd.f124) _ rfl [NI 0] (NI 0) rfl ⟨rfl, trivial⟩ ?_))))))))))
 exact ⟨((⟨z.1.branches, z.1.tags, y.name, y.new, z.1.log⟩, ⟨z.2.branches, z.2.tags, z.2.log⟩) : RefsV), ⟨rfl, rfl⟩, ⟨hE0, hg0, hblk, hbr, htg, hlg, hab, hat, hal, hlb, hlt⟩, rfl, hgr⟩

theorem fkinds_any (w : World) :
  Calls Tryd.prog 76 #[] w fun e w' => ∃ b, e = .returned (.map (some b)) ∧ MapF B8 fnV (fun _ : UInt8 => True) w' b doG ∧ w.heap.size ≤ b ∧ Ext w w' := by
 refine calls_of_wpF (args := []) Tryd.func76 rfl 3 rfl (Nat.le_of_ble_eq_true rfl) ?_
 intro ρ0 hb
 clear hb
 have hE := Ext.refl w
 refine sk fun K1 hK1 => (wt (oA rfl (oZ (tN (hK1 _ _ (sk fun K2 hK2 => (wt (oS rfl (Yk.mkMap B8 fnV (fun _ : UInt8 => True) fun n3 w4 hn5 hb6 hx7 hs8 => ?_)))))))))
 have hE := hE.trans hx7
 have hl9 : n3 < w4.heap.size := by omega
 refine oS rfl (Yk.insM (ek := B8) (ev := fnV) (D := (fun _ : UInt8 => True)) (c := 122) u8Law u8_ok wr34_ty125 (vr (.map (some n3)) rfl) (vr (B8 (1)) rfl) rfl hb6 trivial fun w10 hb11 hg12 hs13 => ?_)
 have hE := row_fresh hE hg12 (Nat.le_trans (Nat.le_refl _) (by omega))
 clear hb6
 have hl14 : n3 < w10.heap.size := hb11.lt
 refine oS rfl (Yk.insM (ek := B8) (ev := fnV) (D := (fun _ : UInt8 => True)) (c := 123) u8Law u8_ok wr34_ty125 (vr (.map (some n3)) rfl) (vr (B8 (2)) rfl) rfl hb11 trivial fun w15 hb16 hg17 hs18 => ?_)
 have hE := row_fresh hE hg17 (Nat.le_trans (Nat.le_refl _) (by omega))
 clear hb11
 have hl19 : n3 < w15.heap.size := hb16.lt
 refine oS rfl (Yk.insM (ek := B8) (ev := fnV) (D := (fun _ : UInt8 => True)) (c := 124) u8Law u8_ok wr34_ty125 (vr (.map (some n3)) rfl) (vr (B8 (3)) rfl) rfl hb16 trivial fun w20 hb21 hg22 hs23 => ?_)
 have hE := row_fresh hE hg22 (Nat.le_trans (Nat.le_refl _) (by omega))
 clear hb16
 have hl24 : n3 < w20.heap.size := hb21.lt
 refine oM rfl (oA rfl (oZ (tN (hK2 _ _ (wpF_ret (postF_ret (fn := Tryd.f76) _ rfl [.map (some n3)] (.map (some n3)) rfl ⟨rfl, trivial⟩ ?_))))))
 exact ⟨_, rfl, hb21, by omega, hE⟩
open Go.RowKit
theorem doG_cases {k : UInt8} {f : Nat} (h : doG k = some f) : (k.toNat = 1 ∧ f = 122) ∨ (k.toNat = 2 ∧ f = 123) ∨ (k.toNat = 3 ∧ f = 124) := by
  unfold doG updM at h
  split at h
  · rename_i e; subst e; exact .inr (.inr ⟨rfl, (Option.some.inj h).symm⟩)
  · split at h
    · rename_i e; subst e; exact .inr (.inl ⟨rfl, (Option.some.inj h).symm⟩)
    · split at h
      · rename_i e; subst e; exact .inl ⟨rfl, (Option.some.inj h).symm⟩
      · cases h
theorem doG_some {k : UInt8} (h : kindB k = true) : ∃ f, doG k = some f := by
  unfold kindB at h
  simp only [Bool.or_eq_true, decide_eq_true_eq] at h
  rcases h with (h | h) | h
  · obtain rfl : k = 1 := UInt8.toNat_inj.1 h
    exact ⟨_, rfl⟩
  · obtain rfl : k = 2 := UInt8.toNat_inj.1 h
    exact ⟨_, rfl⟩
  · obtain rfl : k = 3 := UInt8.toNat_inj.1 h
    exact ⟨_, rfl⟩
theorem plB : Plain Tryd.prog 122 := fun _ _ => by kernel_rfl
theorem plT : Plain Tryd.prog 123 := fun _ _ => by kernel_rfl
theorem plH : Plain Tryd.prog 124 := fun _ _ => by kernel_rfl
theorem plain_do {k : UInt8} {f : Nat} (h : doG k = some f) : Plain Tryd.prog f := by
  rcases doG_cases h with ⟨-, e⟩ | ⟨-, e⟩ | ⟨-, e⟩ <;> rw [e]
  · exact plB
  · exact plT
  · exact plH
theorem do_any (w0 w : World) (g : Nat) (z : RefsV) (hA : AppAt w0 w g z) (hS : Sorted z.1) (y : Upd) {f : Nat} (hf : doG y.kind = some f) :
    Calls Tryd.prog f #[PQ g 0, .agg (updC y).toArray] w fun e w' => ∃ z', (e = .returned (NI (doP z.1 y).1) ∧ z'.1 = (doP z.1 y).2) ∧ AppAt w0 w' g z' ∧ z'.2.log = z.2.log ∧ w.grownBy w' (some g) := by
  rcases doG_cases hf with ⟨hk, rfl⟩ | ⟨hk, rfl⟩ | ⟨hk, rfl⟩
  · rw [show doP z.1 y = branchP z.1 y by unfold doP; rw [if_pos hk]]; exact branch_any w0 w g z hA hS y
  · rw [show doP z.1 y = tagP z.1 y by unfold doP; rw [if_neg (by omega), if_pos hk]]; exact tag_any w0 w g z hA hS y
  · rw [show doP z.1 y = headP z.1 y by unfold doP; rw [if_neg (by omega), if_neg (by omega)]]; exact head_any w0 w g z hA hS y
section
variable {α β : Type} {b b' k k' g : Nat} {t t' : TypeId} {enc : α → List Value} {enc' : β → List Value} {w : World} {u v : Value} {l : List α} {m : List β}
theorem OG.off (h : OG b t k enc w v l) {cs : Array Value} {fr : Nat × Nat} (hb : w.heap[g]? = some (.cells cs t' fr)) (hne : t ≠ t') : v.ownBlock ≠ some g := by
  obtain ⟨-, -, ⟨rfl, -⟩ | ⟨g', c, cur, rfl, -, hg, -⟩⟩ := h
  · simp [Value.ownBlock]
  · intro e
    obtain rfl : g' = g := by simpa [Value.ownBlock] using e
    rw [hg] at hb
    simp only [Option.some.injEq, Obj.cells.injEq] at hb
    exact hne hb.2.1
theorem OG.offMap {γ δ : Type} {ek : γ → Value} {ev : δ → Value} {D : γ → Prop} {G : γ → Option δ} (h : OG b t k enc w v l) (hb : MapF ek ev D w g G) : v.ownBlock ≠ some g := by
  obtain ⟨es, c, hm, -⟩ := hb
  obtain ⟨-, -, ⟨rfl, -⟩ | ⟨g', c, cur, rfl, -, hg, -⟩⟩ := h
  · simp [Value.ownBlock]
  · intro e
    obtain rfl : g' = g := by simpa [Value.ownBlock] using e
    rw [hg] at hm
    cases hm
theorem OG.apart (hu : OG b t k enc w u l) (hv : OG b' t' k' enc' w v m) (hne : t ≠ t') : ApartV u v := fun g h1 h2 => by
  obtain ⟨-, -, ⟨rfl, -⟩ | ⟨g', c, cur, rfl, -, hg, -⟩⟩ := hv
  · simp [Value.ownBlock] at h2
  · obtain rfl : g' = g := by simpa [Value.ownBlock] using h2
    exact hu.off hg hne h1
end
structure RefsOw (b : Nat) (w : World) (z : RefsV) : Prop where
  br : OG b 70 33 nmdC w z.2.branches z.1.branches
  tg : OG b 70 33 nmdC w z.2.tags z.1.tags
  lg : OG b 122 67 entC w z.2.log z.1.log
theorem RefsOw.keep {b : Nat} {w w' : World} {z : RefsV} (h : RefsOw b w z) (k : Ext w w') : RefsOw b w' z := ⟨h.br.keep k, h.tg.keep k, h.lg.keep k⟩
theorem RefsOw.zero {b : Nat} {w : World} {z : RefsV} (h : RefsOw b w z) : RefsOw 0 w z := ⟨h.br.low (Nat.zero_le _), h.tg.low (Nat.zero_le _), h.lg.low (Nat.zero_le _)⟩
theorem Yk.maxNI {P : Program} {K : Value → World → Prop} {ρ : Slots} {w : World} {d : Option Tmp} {ty : TypeId} {pos : String} {af : Array Edge} {gd : Option (Nat × Bool)} {t1 t2 : TypeId} {x y : Operand} {n m : Nat} (hx : evalR ρ x = .int .i64 ((n : Int) - (m : Int))) (hy : evalR ρ y = NI 0) (hk : K (NI (n - m)) w) :
    Yk P K ((execOp (evalR ρ) ⟨d, .call ⟨.builtin .max, #[x, y], #[t1, t2]⟩, ty, pos, af, gd⟩).run P w) := by
  refine Yk.value (v := NI (n - m)) (w' := w) ?_ hk
  unfold execOp
  simp only [resolve, invoke, builtin, hx, hy, List.map_toArray, List.map_cons, List.map_nil, Sem.run_bind, Sem.run_pure, Result.andThen_ok]
  have hr : (Builtin.max_ #[t1, t2] ty #[.int .i64 ((n : Int) - (m : Int)), NI 0]).run P w = .ok (NI (n - m)) w := by
    simp only [Builtin.max_, List.foldlM_cons, List.foldlM_nil, Sem.run_bind, Builtin.max2, Sem.run_pure, Result.andThen_ok]
    congr 2
    simp only [Int.natCast_zero]
    split <;> omega
  rw [hr]
  rfl
abbrev zeroR : Refs := ⟨[], [], [], zid, []⟩
def entOf (y : Upd) (note : Bs) : Ent := ⟨y.kind, y.name, y.old, y.new, note⟩
def addlog (r : Refs) (e : Ent) : Refs := ⟨r.branches, r.tags, r.head, r.at_, r.log ++ [e]⟩
def stepP (note : Bs) (r : Refs) (y : Upd) : Nat × Refs := if updErr y ≠ 0 then (updErr y, r) else if (doP r y).1 ≠ 0 then ((doP r y).1, r) else (0, addlog (doP r y).2 (entOf y note))
def runP (note : Bs) : Refs → List Upd → Nat × Refs
  | r, [] => (0, r)
  | r, y :: l => if (stepP note r y).1 ≠ 0 then ((stepP note r y).1, zeroR) else runP note (stepP note r y).2 l
def cutlog (r : Refs) : Refs := ⟨r.branches, r.tags, r.head, r.at_, r.log.drop (r.log.length - 64)⟩
noncomputable def applyP (r : Refs) (l : List Upd) (note : Bs) : Nat × Refs :=
  if ((!rightF r) || (!noteB note)) = true then (1, zeroR) else if (runP note r l).1 ≠ 0 then ((runP note r l).1, zeroR) else (0, cutlog (runP note r l).2)
theorem runP_at {note : Bs} {r : Refs} {l : List Upd} {i : Nat} (hi : i < l.length) : runP note r (l.drop i) = if (stepP note r (l.getD i dUpd)).1 ≠ 0 then ((stepP note r (l.getD i dUpd)).1, zeroR) else runP note (stepP note r (l.getD i dUpd)).2 (l.drop (i + 1)) := by
  rw [List.drop_eq_getElem_cons hi, List.getD_eq_getElem?_getD, List.getElem?_eq_getElem hi]
  rfl
section
variable {note : Bs} {r r' : Refs} {l : List Upd} {i e : Nat}
theorem runP_err1 (hi : i < l.length) (h : updErr (l.getD i dUpd) ≠ 0) : runP note r (l.drop i) = (updErr (l.getD i dUpd), zeroR) := by
  rw [runP_at hi, show stepP note r (l.getD i dUpd) = (updErr (l.getD i dUpd), r) by unfold stepP; rw [if_pos h], if_pos h]
theorem runP_err2 (hi : i < l.length) (h : updErr (l.getD i dUpd) = 0) (h2 : (doP r (l.getD i dUpd)).1 ≠ 0) : runP note r (l.drop i) = ((doP r (l.getD i dUpd)).1, zeroR) := by
  rw [runP_at hi, show stepP note r (l.getD i dUpd) = ((doP r (l.getD i dUpd)).1, r) by unfold stepP; rw [if_neg (fun k => k h), if_pos h2], if_pos h2]
theorem runP_next (hi : i < l.length) (h : updErr (l.getD i dUpd) = 0) (h2 : (doP r (l.getD i dUpd)).1 = 0) : runP note r (l.drop i) = runP note (addlog (doP r (l.getD i dUpd)).2 (entOf (l.getD i dUpd) note)) (l.drop (i + 1)) := by
  rw [runP_at hi, show stepP note r (l.getD i dUpd) = (0, addlog (doP r (l.getD i dUpd)).2 (entOf (l.getD i dUpd) note)) by unfold stepP; rw [if_neg (fun k => k h), if_neg (fun k => k h2)], if_neg (fun k => k rfl)]
theorem runP_end (hi : l.length ≤ i) : runP note r (l.drop i) = (0, r) := by rw [List.drop_of_length_le hi]; rfl
theorem applyP_bad (h : ((!rightF r) || (!noteB note)) = true) : applyP r l note = (1, zeroR) := by unfold applyP; rw [if_pos h]
theorem applyP_err (h0 : ((!rightF r) || (!noteB note)) = false) (h : runP note r l = (e, zeroR)) (he : e ≠ 0) : applyP r l note = (e, zeroR) := by unfold applyP; rw [h0, if_neg (by decide), h, if_pos he]
theorem applyP_ok (h0 : ((!rightF r) || (!noteB note)) = false) (h : runP note r l = (0, r')) : applyP r l note = (0, cutlog r') := by unfold applyP; rw [h0, if_neg (by decide), h, if_neg (fun k => k rfl)]
theorem updErr_kind {y : Upd} (h : updErr y = 0) : kindB y.kind = true := by
  unfold updErr at h
  cases hk : kindB y.kind with
  | true => rfl
  | false => rw [hk] at h; simp at h
end
theorem sortN_map {l : List Nmd} : sortN l ↔ (l.map (·.name)).Pairwise (· < ·) := by
  rw [List.pairwise_map, List.pairwise_iff_getElem]
  unfold sortN
  constructor
  · intro h i j hi hj hij
    have := h i j hij hj
    rwa [List.getD_eq_getElem?_getD, List.getElem?_eq_getElem hi, List.getD_eq_getElem?_getD, List.getElem?_eq_getElem hj] at this
  · intro h i j hij hj
    have := h i j (by omega) hj hij
    rw [List.getD_eq_getElem?_getD, List.getElem?_eq_getElem (by omega), List.getD_eq_getElem?_getD, List.getElem?_eq_getElem hj]
    exact this
theorem placeN_cons {a : Nmd} {l : List Nmd} {s : Bs} : placeN (a :: l) s = if a.name < s then placeN l s + 1 else 0 := by
  unfold placeN
  rw [List.takeWhile_cons]
  by_cases h : a.name < s <;> simp [h]
theorem placeN_le : ∀ (l : List Nmd) (s : Bs), placeN l s ≤ l.length
  | [], s => Nat.le_refl _
  | a :: l, s => by rw [placeN_cons]; have := placeN_le l s; split <;> simp <;> omega
theorem placeN_lt : ∀ {l : List Nmd} {s : Bs} {j : Nat}, j < placeN l s → (l.getD j dNmd).name < s
  | [], s, j, h => by simp [placeN] at h
  | a :: l, s, j, h => by
    rw [placeN_cons] at h
    split at h
    · cases j with
      | zero => assumption
      | succ j => exact placeN_lt (l := l) (by omega)
    · omega
theorem placeN_ge : ∀ {l : List Nmd} {s : Bs}, placeN l s < l.length → ¬ (l.getD (placeN l s) dNmd).name < s
  | [], s, h => by simp at h
  | a :: l, s, h => by
    rw [placeN_cons] at h ⊢
    split at h
    · rename_i e
      rw [if_pos e]
      exact placeN_ge (l := l) (by simpa using h)
    · rename_i e
      rw [if_neg e]
      exact e
theorem placeN_at {l : List Nmd} {s : Bs} (hs : sortN l) : placeAt l s (placeN l s) := by
  refine ⟨placeN_le l s, fun j hj => placeN_lt hj, fun j h1 h2 => ?_⟩
  exact place_high hs (placeN_ge (by omega)) j h1 h2
theorem names_tri {a b : Bs} (h : ¬ a < b) (h2 : a ≠ b) : b < a := by
  by_cases h3 : b < a
  · exact h3
  · exact absurd (List.le_antisymm h3 h) h2
theorem getD_map_name {l : List Nmd} {i : Nat} : (l.getD i dNmd).name = (l.map (·.name)).getD i [] := by
  rw [List.getD_eq_getElem?_getD, List.getD_eq_getElem?_getD, List.getElem?_map]
  cases l[i]? <;> rfl
theorem turnQ_sorted {l : List Nmd} {y : Upd} (hs : sortN l) (hl : l.length ≤ 64) : sortN (turnQ l y).2 ∧ (turnQ l y).2.length ≤ 64 := by
  have hp := placeN_at (s := y.name) hs
  have hnil : sortN [] := fun i j _ h => by simp at h
  unfold turnQ
  rcases hf : foundN l y.name (placeN l y.name) with _ | _
  · rw [turnF hf]
    split
    · exact ⟨hnil, by simp⟩
    · split
      · exact ⟨hs, hl⟩
      · split
        · exact ⟨hnil, by simp⟩
        · refine ⟨?_, by rw [List.length_append, List.length_cons, List.length_take, List.length_drop]; have := hp.1; omega⟩
          have hs0 := hs
          rw [sortN_map] at hs ⊢
          rw [List.map_append, List.map_cons, List.pairwise_append, List.pairwise_cons]
          refine ⟨?_, ⟨?_, ?_⟩, ?_⟩
          · rw [List.map_take]; exact hs.sublist (List.take_sublist _ _)
          · intro a ha
            obtain ⟨n, hn, rfl⟩ := List.mem_map.1 ha
            obtain ⟨i, hi, rfl⟩ := List.mem_iff_getElem.1 hn
            rw [List.length_drop] at hi
            have h1 := hp.2.2 (placeN l y.name + i) (by omega) (by omega)
            rw [List.getD_eq_getElem?_getD, List.getElem?_eq_getElem (by omega)] at h1
            rw [List.getElem_drop]
            refine names_tri h1 fun e => ?_
            have hi0 : i = 0 := by
              refine Nat.eq_zero_of_not_pos fun h0 => ?_
              have h2 := hs0 (placeN l y.name) (placeN l y.name + i) (by omega) (by omega)
              rw [show l.getD (placeN l y.name + i) dNmd = l[placeN l y.name + i]'(by omega) from by rw [List.getD_eq_getElem?_getD, List.getElem?_eq_getElem (by omega)]; rfl] at h2
              refine hp.2.2 (placeN l y.name) (Nat.le_refl _) (by omega) ?_
              rw [e] at h2; exact h2
            subst hi0
            unfold foundN at hf
            rw [List.getD_eq_getElem?_getD, List.getElem?_eq_getElem (by omega)] at hf
            simp only [Bool.and_eq_false_iff, decide_eq_false_iff_not] at hf
            rcases hf with hf | hf
            · omega
            · exact hf e
          · rw [List.map_drop]; exact hs.sublist (List.drop_sublist _ _)
          · intro a ha c hc
            obtain ⟨n, hn, rfl⟩ := List.mem_map.1 ha
            obtain ⟨i, hi, rfl⟩ := List.mem_iff_getElem.1 hn
            rw [List.length_take] at hi
            rw [List.getElem_take]
            have h1 := hp.2.1 i (by omega)
            rw [List.getD_eq_getElem?_getD, List.getElem?_eq_getElem (by omega)] at h1
            rcases List.mem_cons.1 hc with rfl | hc
            · exact h1
            · obtain ⟨m, hm, rfl⟩ := List.mem_map.1 hc
              obtain ⟨j, hj, rfl⟩ := List.mem_iff_getElem.1 hm
              rw [List.length_drop] at hj
              rw [List.getElem_drop]
              have h2 := hs0 i (placeN l y.name + j) (by omega) (by omega)
              rw [List.getD_eq_getElem?_getD, List.getElem?_eq_getElem (by omega), List.getD_eq_getElem?_getD, List.getElem?_eq_getElem (by omega)] at h2
              exact h2
  · rw [turnT hf]
    have hlt := found_lt hf
    split
    · exact ⟨hnil, by simp⟩
    · split
      · refine ⟨?_, Nat.le_trans (List.length_eraseIdx_le _ _) hl⟩
        rw [sortN_map] at hs ⊢
        exact hs.sublist ((List.eraseIdx_sublist _ _).map _)
      · refine ⟨?_, by rw [List.length_set]; exact hl⟩
        rw [sortN_map] at hs ⊢
        rw [List.map_set, getD_map_name]
        rw [show (l.map (·.name)).set (placeN l y.name) ((l.map (·.name)).getD (placeN l y.name) []) = l.map (·.name) from by
          rw [List.getD_eq_getElem?_getD, List.getElem?_eq_getElem (by rw [List.length_map]; exact hlt)]; exact List.set_getElem_self _]
        exact hs
theorem doP_sorted {r : Refs} {y : Upd} (h : Sorted r) : Sorted (doP r y).2 := by
  unfold doP
  split
  · unfold branchP
    split
    · exact h
    · split
      · have := turnQ_sorted (y := y) h.br h.bl
        exact ⟨this.1, h.tg, this.2, h.tl⟩
      · exact h
  · split
    · unfold tagP
      split
      · have := turnQ_sorted (y := y) h.tg h.tl
        exact ⟨h.br, this.1, h.bl, this.2⟩
      · exact h
    · exact ⟨h.br, h.tg, h.bl, h.tl⟩
theorem doP_log {r : Refs} {y : Upd} : (doP r y).2.log = r.log := by
  unfold doP
  split
  · unfold branchP; split
    · rfl
    · split <;> rfl
  · split
    · unfold tagP; split <;> rfl
    · rfl
theorem nlistB_sorted {l : List Nmd} (h : nlistB l = true) : sortN l ∧ l.length ≤ 64 := by
  classical
  unfold nlistB at h
  have h := of_decide_eq_true h
  refine ⟨?_, h.2⟩
  have step : ∀ j, j + 1 < l.length → (l.getD j dNmd).name < (l.getD (j + 1) dNmd).name := fun j hj => by
    have := h.1 (j + 1) hj
    unfold nE at this
    simp only [Bool.or_eq_false_iff, Bool.and_eq_false_iff, decide_eq_false_iff_not, Bool.not_eq_false', Nat.add_sub_cancel] at this
    rcases this.2 with h1 | h1
    · omega
    · rw [bytesLess_eq] at h1
      exact of_decide_eq_true h1
  intro i j hij hj
  induction j with
  | zero => omega
  | succ j ih =>
    by_cases e : i = j
    · subst e; exact step i hj
    · exact List.lt_trans (ih (by omega) (by omega)) (step j hj)
theorem rightF_lists {r : Refs} (h : rightF r = true) : nlistB r.branches = true ∧ nlistB r.tags = true ∧ r.log.length ≤ 64 := by
  unfold rightF at h
  simp only [Bool.and_eq_true] at h
  have h1 := h.1
  unfold rE1 at h1
  simp only [Bool.not_eq_true', Bool.or_eq_false_iff, Bool.not_eq_false', decide_eq_false_iff_not] at h1
  exact ⟨h1.1.1, h1.1.2, by omega⟩
theorem rightF_sorted {r : Refs} (h : rightF r = true) : Sorted r := by
  obtain ⟨h1, h2, -⟩ := rightF_lists h
  exact ⟨(nlistB_sorted h1).1, (nlistB_sorted h2).1, (nlistB_sorted h1).2, (nlistB_sorted h2).2⟩
open Go.RowKit
structure GoodR (r : Refs) : Prop where
  br : nlistB r.branches = true
  tg : nlistB r.tags = true
  hd : rE2 r = false
  lg : ∀ e ∈ r.log, kindB e.kind = true ∧ noteB e.note = true ∧ e.name.length ≤ 32
theorem nlistB_iff {l : List Nmd} : nlistB l = true ↔ (∀ n ∈ l, nameB n.name = true ∧ zeroB n.id = false) ∧ sortN l ∧ l.length ≤ 64 := by
  classical
  constructor
  · intro h
    refine ⟨fun n hn => ?_, nlistB_sorted h⟩
    unfold nlistB at h
    have h := (of_decide_eq_true h).1
    obtain ⟨i, hi, rfl⟩ := List.mem_iff_getElem.1 hn
    have := h i hi
    unfold nE at this
    rw [List.getD_eq_getElem?_getD, List.getElem?_eq_getElem hi] at this
    simp only [Bool.or_eq_false_iff, Bool.not_eq_false', Option.getD_some] at this
    exact this.1
  · rintro ⟨h1, h2, h3⟩
    unfold nlistB
    refine decide_eq_true ⟨fun j hj => ?_, h3⟩
    unfold nE
    have := h1 (l.getD j dNmd) (getD_mem dNmd hj)
    rw [this.1, this.2]
    simp only [Bool.not_true, Bool.false_or, Bool.and_eq_false_iff, decide_eq_false_iff_not, Bool.not_eq_false']
    by_cases h0 : 0 < j
    · right
      rw [bytesLess_eq]
      exact decide_eq_true (h2 (j - 1) j (by omega) hj)
    · exact .inl h0
theorem rightF_iff {r : Refs} : rightF r = true ↔ GoodR r ∧ r.log.length ≤ 64 := by
  classical
  constructor
  · intro h
    obtain ⟨h1, h2, h3⟩ := rightF_lists h
    unfold rightF at h
    simp only [Bool.and_eq_true, Bool.not_eq_true', decide_eq_true_eq] at h
    refine ⟨⟨h1, h2, h.2.1, fun e he => ?_⟩, h3⟩
    obtain ⟨i, hi, rfl⟩ := List.mem_iff_getElem.1 he
    have := h.2.2 i hi
    unfold entE at this
    rw [List.getD_eq_getElem?_getD, List.getElem?_eq_getElem hi] at this
    simp only [Bool.or_eq_false_iff, Bool.not_eq_false', Option.getD_some, decide_eq_false_iff_not] at this
    exact ⟨this.1.1, this.1.2, by omega⟩
  · rintro ⟨h, h3⟩
    refine rightF_all (i := r.log.length) ?_ h.hd (Nat.le_refl _) fun j hj => ?_
    · unfold rE1; rw [h.br, h.tg]; simp; omega
    · have := h.lg _ (getD_mem dEntry hj)
      unfold entE
      rw [this.1, this.2.1, decide_eq_false (by omega)]
      rfl
open Go.RowKit
set_option maxRecDepth 100000
noncomputable def look0P (r : Refs) : Id32 × Nat := if rightF r = true then (if r.head = [] then (r.at_, 0) else if foundN r.branches r.head (placeN r.branches r.head) = true then ((r.branches.getD (placeN r.branches r.head) dNmd).id, 0) else (zid, 4)) else (zid, 1)
theorem wr36_al25 {d : Option Tmp} {ty : TypeId} {pos : String} {af : Array Edge} {gd : Option (Nat × Bool)} (σ : Operand → Value) (w : World) : (execOp σ ⟨d, .alloc 25, ty, pos, af, gd⟩).run Tryd.prog w = .ok (.value (PQ w.heap.size 0)) (w.alloc (.cells (Lib.byteCells (List.replicate 32 0)).toArray 25)) := by kernel_rfl
theorem wr36_ty53 : ∃ fs, Tryd.prog.underlying 53 = some (.struct fs) := struct_of (by kernel_rfl)
theorem wr36_isz53 : (Tryd.prog.info? 53).map (·.size) = some 36 := by kernel_rfl
theorem wr36_pl31 : Plain Tryd.prog 31 := fun _ _ => by kernel_rfl
theorem wr36_ty25 : Tryd.prog.underlying 25 = some (.array 32 5) := by kernel_rfl
theorem wr36_fo53_2 : FieldOff Tryd.prog 53 2 2 := fun b o w => by simp [go_sem]
theorem wr36_ty9 : Tryd.prog.underlying 9 = some (.string) := by kernel_rfl
theorem wr36_fo53_3 : FieldOff Tryd.prog 53 3 3 := fun b o w => by simp [go_sem]
theorem wr36_fo53_0 : FieldOff Tryd.prog 53 0 0 := fun b o w => by simp [go_sem]
theorem wr36_ty51 : Tryd.prog.underlying 51 = some (.slice 70) := by kernel_rfl
theorem wr36_pl88 : Plain Tryd.prog 88 := fun _ _ => by kernel_rfl
theorem wr36_szg70 : ∀ w' : World, (sizeOf 70).run Tryd.prog w' = .ok 33 w' := fun _ => by kernel_rfl
theorem wr36_fo70_1 : FieldOff Tryd.prog 70 1 1 := fun b o w => by simp [go_sem]
theorem wr36_isz25 : (Tryd.prog.info? 25).map (·.size) = some 32 := by kernel_rfl
set_option maxHeartbeats 1600000
theorem look0_any (w : World) (z : RefsV) (hm : RefsAt w z) (hL : RefsLt z.1) :
  Calls Tryd.prog 39 #[.agg (refsC z).toArray, St []] w fun e w' => e = .returned (.tuple #[AB ((look0P z.1).1.1), NI (look0P z.1).2]) ∧ Ext w w' := by
 have hmt := hm.branches
 have hmg := hm.tags
 have hml := hm.log
 refine calls_of_wpF (args := [.agg (refsC z).toArray, St (([] : List UInt8))]) Tryd.func39 rfl 70 rfl (Nat.le_of_ble_eq_true rfl) ?_
 intro ρ0 hb
 have T0 : ρ0 0 = (.agg (refsC z).toArray : Value) := hb.get 0
 have T1 : ρ0 1 = (St (([] : List UInt8)) : Value) := hb.get 1
 clear hb
 have hE := Ext.refl w
 refine sk fun K1 hK1 => (wt (oS rfl (Yk.box (cs := (refsC z : List Value).toArray) T0 fun n2 w3 hn4 hb5 hx6 hs7 => ?_)))
 have hE := hE.trans hx6
 have hb8 := hb5; clear hb5
 have hl9 : n2 < w3.heap.size := by omega
 refine oS rfl (Yk.alloc (cs := (Lib.byteCells (List.replicate 32 0)).toArray) wr36_al25 fun n10 w11 hn12 hb13 hx14 hs15 => ?_)
 have hA16 := Ext.refl w3
 have hea17 := hE
 have hz18 := hE.size
 have hlt19 := lte (bl hb8) hn12
 have hE := hE.trans hx14
 have hb8 := eb hx14 hb8
 have hA16 := hA16.trans hx14
 have hb20 := hb13; clear hb13
 have hl21 : n10 < w11.heap.size := by omega
 refine oA rfl (oZ (tN (hK1 _ _ (sk fun K22 hK22 => (sk fun K23 hK23 => (wt (oS rfl (Yk.loadAll (vr (PQ n2 0) rfl) hb8 (wr36_ty53).choose_spec rfl (st_isz (refs_len z) wr36_isz53) (oS rfl (Yk.callA1 wr36_pl31 (vr (.agg (refsC z).toArray) rfl) ((fright_any _ z ⟨(hmt.keep hE), (hmg.keep hE), (hml.keep hE)⟩ hL).mono ?_)))))))))))
 rintro e w25 ⟨rfl, hx24⟩
 refine ⟨_, rfl, ?_⟩
 have hE := hE.trans hx24
 have hb8 := eb hx24 hb8
 have hA16 := hA16.trans hx24
 have hb20 := eb hx24 hb20
 refine oS rfl (Yk.notB (vr (.bool (rightF z.1)) rfl) (oZ (tN (hK23 _ _ ?_))))
 refine wpF_condB (!(rightF z.1)) (vr (.bool (!(rightF z.1))) rfl) (fun hc0 => ?_) (fun hc0 => ?_)
 ·have hrt : rightF z.1 = false := by simpa using hc0
  refine sk fun K26 hK26 => (wt (oS rfl (Yk.run (v := AB (List.replicate 32 0)) (by kernel_rfl) (oS rfl (Yk.storeAll (vr (PQ n10 0) rfl) (vr (AB (List.replicate 32 0)) rfl) hb20 (by exact idsize List.length_replicate List.length_replicate) (by exact sizeId_of List.length_replicate) (byteCells_one _) fun w27 hb28 hg29 hs30 => ?_)))))
  have hE := row_fresh hE hg29 (Nat.le_trans hz18 (by omega))
  have hb8 := kb hg29 hb8 (by omega)
  have hA16 := row_fresh hA16 hg29 (Nat.le_trans (Nat.le_refl _) (by omega))
  clear hb20
  have hb20 := hb28; clear hb28
  have hl31 := bl hb20
  refine oA rfl (oZ (tN (hK26 _ _ (wpF_ret (thenF_ret (postF_ret (fn := Tryd.f39) _ rfl [AB (List.replicate 32 0), NI 1] (.tuple #[AB (List.replicate 32 0), NI 1]) rfl ⟨ResF.row rfl hb20 wr36_ty25 rfl (by exact sizeId_of List.length_replicate), rfl, trivial⟩ ?_))))))
  have hT : look0P z.1 = (zid, 1) := by unfold look0P; rw [if_neg (by rw [hrt]; decide)]
  exact ⟨by rw [hT]; try rfl, hE⟩
 have hrt : rightF z.1 = true := by simpa using hc0
 have hS := rightF_sorted hrt
 refine wpF_skip (tN (hK22 _ _ (sk fun K32 hK32 => (sk fun K33 hK33 => (wt (oM rfl (oS rfl (Yk.eqSt (l := ([] : List UInt8)) (m := ([] : List UInt8)) (.inl rfl) T1 (vr (St (([] : List UInt8))) rfl) (decide (([] : List UInt8) = (([] : List UInt8) : List UInt8))) rfl (oZ (tN (hK33 _ _ (wpF_true (vr (.bool (true)) (congrArg Value.bool (decide_eq_true (rfl)))) (sk fun K34 hK34 => (sk fun K35 hK35 => (wt (oS rfl (Yk.fieldAt wr36_fo53_2 (vr (PQ n2 0) rfl) (oS rfl (Yk.cell1 wr36_ty9 rfl (vr (PQ n2 2) rfl) (cellAt hb8 (show (refsC z)[2]? = some (St (z.1.head) : Value) from refs_g2 z)) (oS rfl (Yk.eqSt (l := z.1.head) (m := ([] : List UInt8)) (.inl rfl) (vr (St (z.1.head)) rfl) (vr (St (([] : List UInt8))) rfl) (decide ((z.1.head : List UInt8) = (([] : List UInt8) : List UInt8))) rfl ?_)))))))))))))))))))))
 refine oZ (tN (hK35 _ _ ?_))
 refine wpF_cond ((z.1.head : List UInt8) = (([] : List UInt8) : List UInt8)) (vr (.bool (decide ((z.1.head : List UInt8) = (([] : List UInt8) : List UInt8)))) rfl) (fun hc2 => ?_) (fun hc2 => ?_)
 ·have hh := hc2
  refine sk fun K36 hK36 => (wt (oS rfl (Yk.fieldAt wr36_fo53_3 (vr (PQ n2 0) rfl) (oS rfl (Yk.loadPR (PR.blk hb8 (refs_m3 z) (refs_n3 z) (vr (PQ n2 3) rfl)) wr36_ty25 rfl (sizeId_of z.1.at_.2) (oS rfl (Yk.storeAll (vr (PQ n10 0) rfl) (vr (AB z.1.at_.1) rfl) hb20 (by exact idsize z.1.at_.2 List.length_replicate) (by exact sizeId_of z.1.at_.2) (byteCells_one _) fun w37 hb38 hg39 hs40 => ?_)))))))
  have hE := row_fresh hE hg39 (Nat.le_trans hz18 (by omega))
  have hb8 := kb hg39 hb8 (by omega)
  have hA16 := row_fresh hA16 hg39 (Nat.le_trans (Nat.le_refl _) (by omega))
  clear hb20
  have hb20 := hb38; clear hb38
  have hl41 := bl hb20
  refine oA rfl (oZ (tN (hK36 _ _ (wpF_ret (thenF_ret (thenF_ret (postF_ret (fn := Tryd.f39) _ rfl [AB z.1.at_.1, NI 0] (.tuple #[AB z.1.at_.1, NI 0]) rfl ⟨ResF.row rfl hb20 wr36_ty25 rfl (by exact sizeId_of z.1.at_.2), rfl, trivial⟩ ?_)))))))
  have hT : look0P z.1 = (z.1.at_, 0) := by unfold look0P; rw [if_pos hrt, if_pos hh]
  exact ⟨by rw [hT]; try rfl, hE⟩
 have hh := hc2
 refine wpF_skip (tN (hK34 _ _ (sk fun K42 hK42 => (sk fun K43 hK43 => (wt (oS rfl (Yk.fieldAt wr36_fo53_0 (vr (PQ n2 0) rfl) (oS rfl (Yk.cell1 wr36_ty51 rfl (vr (PQ n2 0) rfl) (cellAt hb8 (show (refsC z)[0]? = some (z.2.branches : Value) from refs_g0 z)) (oS rfl (Yk.fieldAt wr36_fo53_2 (vr (PQ n2 0) rfl) (oS rfl (Yk.cell1 wr36_ty9 rfl (vr (PQ n2 2) rfl) (cellAt hb8 (show (refsC z)[2]? = some (St (z.1.head) : Value) from refs_g2 z)) (oS rfl (Yk.callA2 wr36_pl88 (vr z.2.branches rfl) (vr (St (z.1.head)) rfl) ((place_any _ _ z.1.branches (hmt.keep hE) (by have := hS.bl; omega) hS.br z.1.head).mono ?_))))))))))))))))
 rintro e w45 ⟨⟨p, rfl, hp⟩, hx44⟩
 refine ⟨_, rfl, ?_⟩
 have hE := hE.trans hx44
 have hb8 := eb hx44 hb8
 have hA16 := hA16.trans hx44
 have hb20 := eb hx44 hb20
 refine oM rfl (oS rfl (Yk.extract (vs := [NI p, .bool (foundN z.1.branches z.1.head p)]) (vr (.tuple #[NI p, .bool (foundN z.1.branches z.1.head p)]) rfl) (show _ = some (NI p : Value) from rfl) (oS rfl (Yk.extract (vs := [NI p, .bool (foundN z.1.branches z.1.head p)]) (vr (.tuple #[NI p, .bool (foundN z.1.branches z.1.head p)]) rfl) (show _ = some (.bool (foundN z.1.branches z.1.head p) : Value) from rfl) (oA rfl (oA rfl (oZ (tN (hK43 _ _ (sk fun K46 hK46 => (wt (oM rfl (oZ (tN (hK46 _ _ ?_)))))))))))))))
 refine wpF_condB (foundN z.1.branches z.1.head p) (vr (.bool (foundN z.1.branches z.1.head p)) rfl) (fun hc3 => ?_) (fun hc3 => ?_)
 ·have hf := hc3
  have hlt := found_lt hf
  refine sk fun K47 hK47 => (wt (oS rfl (Yk.fieldAt wr36_fo53_0 (vr (PQ n2 0) rfl) (oS rfl (Yk.cell1 wr36_ty51 rfl (vr (PQ n2 0) rfl) (cellAt hb8 (show (refsC z)[0]? = some (z.2.branches : Value) from refs_g0 z)) (oM rfl ?_))))))
  have hl50 : (nmdC ((z.1.branches).getD (p) dNmd)).length = 33 := (RG.elem (hmt.keep hE) dNmd (hlt))
  refine oS rfl (Yk.atRG wr36_ty51 wr36_szg70 (by decide) dNmd (RG.of (hmt.keep hE) (vr z.2.branches rfl)) (vr (NI p) rfl) (hlt) fun v48 hp49 => ?_)
  have hl53 : (Lib.byteCells ((z.1.branches).getD (p) dNmd).id.1).length = 32 := by rw [Lib.byteCells_length, ((z.1.branches).getD (p) dNmd).id.2]
  refine oS rfl (Yk.fieldPR (n := 32) wr36_fo70_1 (PR.of hp49 (vr v48 rfl)) fun v51 hp52 => ?_)
  have hp52 : PR (Lib.byteCells ((z.1.branches).getD (p) dNmd).id.1) v51 w45 := (nmd_f1 ((z.1.branches).getD (p) dNmd)) ▸ hp52
  refine oS rfl (Yk.loadPR (PR.of hp52 (vr v51 rfl)) wr36_ty25 rfl (by rw [hl53]; exact wr36_isz25) (oS rfl (Yk.storeAll (vr (PQ n10 0) rfl) (vr (AB (((z.1.branches).getD (p) dNmd).id.1)) rfl) hb20 (by exact idsize (bytes_len32 (hl53)) List.length_replicate) (by exact sizeId_of (bytes_len32 (hl53))) (byteCells_one _) fun w54 hb55 hg56 hs57 => ?_)))
  have hE := row_fresh hE hg56 (Nat.le_trans hz18 (by omega))
  have hb8 := kb hg56 hb8 (by omega)
  have hA16 := row_fresh hA16 hg56 (Nat.le_trans (Nat.le_refl _) (by omega))
  clear hp49
  clear hp52
  clear hb20
  have hb20 := hb55; clear hb55
  have hl58 := bl hb20
  refine oA rfl (oZ (tN (hK47 _ _ (wpF_ret (thenF_ret (thenF_ret (postF_ret (fn := Tryd.f39) _ rfl [AB (((z.1.branches).getD (p) dNmd).id.1), NI 0] (.tuple #[AB (((z.1.branches).getD (p) dNmd).id.1), NI 0]) rfl ⟨ResF.row rfl hb20 wr36_ty25 rfl (by exact sizeId_of (bytes_len32 (hl53))), rfl, trivial⟩ ?_)))))))
  have hT : look0P z.1 = ((z.1.branches.getD p dNmd).id, 0) := by unfold look0P; rw [if_pos hrt, if_neg hh, ← place_uniq hp, if_pos hf]
  exact ⟨by rw [hT]; try rfl, hE⟩
 have hf := hc3
 refine wpF_skip (tN (hK42 _ _ (sk fun K59 hK59 => (wt (oS rfl (Yk.run (v := AB (List.replicate 32 0)) (by kernel_rfl) (oS rfl (Yk.storeAll (vr (PQ n10 0) rfl) (vr (AB (List.replicate 32 0)) rfl) hb20 (by exact idsize List.length_replicate List.length_replicate) (by exact sizeId_of List.length_replicate) (byteCells_one _) fun w60 hb61 hg62 hs63 => ?_))))))))
 have hE := row_fresh hE hg62 (Nat.le_trans hz18 (by omega))
 have hb8 := kb hg62 hb8 (by omega)
 have hA16 := row_fresh hA16 hg62 (Nat.le_trans (Nat.le_refl _) (by omega))
 clear hb20
 have hb20 := hb61; clear hb61
 have hl64 := bl hb20
 refine oA rfl (oZ (tN (hK59 _ _ (wpF_ret (thenF_ret (postF_ret (fn := Tryd.f39) _ rfl [AB (List.replicate 32 0), NI 4] (.tuple #[AB (List.replicate 32 0), NI 4]) rfl ⟨ResF.row rfl hb20 wr36_ty25 rfl (by exact sizeId_of List.length_replicate), rfl, trivial⟩ ?_))))))
 have hT : look0P z.1 = (zid, 4) := by unfold look0P; rw [if_pos hrt, if_neg hh, ← place_uniq hp, if_neg (by rw [hf]; decide)]
 exact ⟨by rw [hT]; try rfl, hE⟩
open Go.RowKit
abbrev mainB : Bs := [109, 97, 105, 110]
abbrev id1 : Id32 := ⟨1 :: List.replicate 31 0, rfl⟩
abbrev u1 : Upd := ⟨1, mainB, zid, id1⟩
abbrev u2 : Upd := ⟨1, mainB, id1, zid⟩
abbrev firstB : Bs := [102, 105, 114, 115, 116]
abbrev againB : Bs := [97, 103, 97, 105, 110]
abbrev r1 : Refs := ⟨[⟨mainB, id1⟩], [], mainB, zid, [entOf u1 firstB]⟩
theorem main_name : nameB mainB = true := by decide
theorem dec_ascii {l : Bs} {a : Nat} (h : ∀ x ∈ l, x.toNat < 128) (ha : a < l.length) : decU l a = some (a + 1) := by
  have hx : (l.getD a 0).toNat < 128 := h _ (getD_mem 0 ha)
  have hl : leadO (l.getD a 0) = some (0, (l.getD a 0).toNat, 0) := by unfold leadO; rw [if_pos hx]
  unfold decU
  rw [hl]
  simp only [tailU]
  rw [if_neg (by omega), if_pos ⟨Nat.zero_le _, by unfold mayB; simp only [Nat.zero_le, decide_true, Bool.true_and, Bool.and_eq_true, Bool.or_eq_true, decide_eq_true_eq]; omega⟩]
theorem utf_ascii {l : Bs} (h : ∀ x ∈ l, x.toNat < 128) : ∀ (n a : Nat), l.length ≤ a + n → utfB l a = true
  | 0, a, hn => utfB_end (by omega)
  | n + 1, a, hn => by
    by_cases ha : a < l.length
    · rw [utfB_some ha (dec_ascii h ha)]; exact utf_ascii h n _ (by omega)
    · exact utfB_end ha
theorem note_ascii {l : Bs} (h : ∀ x ∈ l, x.toNat < 128) (hl : l.length ≤ 256) : noteB l = true := by unfold noteB; rw [decide_eq_true hl, utf_ascii h l.length 0 (by omega)]; rfl
theorem first_note : noteB firstB = true := note_ascii (by decide) (by decide)
theorem again_note : noteB againB = true := note_ascii (by decide) (by decide)
theorem nil_note : noteB [] = true := note_ascii (by decide) (by decide)
theorem nil_list : nlistB [] = true := by rw [nlistB_all (i := 0) (Nat.le_refl _) (fun j hj => absurd hj (Nat.not_lt_zero _))]; rfl
theorem one_list : nlistB [⟨mainB, id1⟩] = true := by
  rw [nlistB_all (i := 1) (Nat.le_refl _) (fun j hj => by cases j with
    | zero => rfl
    | succ j => omega)]; rfl
theorem right0 : rightF beginV.1 = true := rightF_all (i := 0) (by unfold rE1; rw [nil_list]; rfl) (by unfold rE2; rw [show beginV.1.head = mainB from rfl, main_name]; rfl) (Nat.le_refl _) (fun j hj => absurd hj (Nat.not_lt_zero _))
theorem right1 : rightF r1 = true := rightF_all (i := 1) (by unfold rE1; rw [nil_list, one_list]; rfl) (by unfold rE2; rw [main_name]; rfl) (Nat.le_refl _) (fun j hj => by
  cases j with
  | zero => show entE [entOf u1 firstB] 0 = false; unfold entE; rw [show (([entOf u1 firstB] : List Ent).getD 0 dEntry).note = firstB from rfl, first_note]; rfl
  | succ j => omega)
theorem updErr1 : updErr u1 = 0 := by decide
theorem updErr2 : updErr u2 = 0 := by decide
theorem do1 : doP beginV.1 u1 = (0, ⟨[⟨mainB, id1⟩], [], mainB, zid, []⟩) := rfl
theorem do2 : (doP r1 u1).1 = 15 := by decide
theorem do3 : (doP r1 u2).1 = 16 := by decide
theorem apply_1 : applyP beginV.1 [u1] firstB = (0, r1) := by
  have h := runP_next (note := firstB) (r := beginV.1) (l := [u1]) (i := 0) (by decide) updErr1 (by show (doP beginV.1 u1).1 = 0; rw [do1])
  rw [List.drop_zero] at h
  rw [applyP_ok (by rw [right0, first_note]; rfl) (h.trans (runP_end (by decide)))]
  show (0, cutlog (addlog (doP beginV.1 u1).2 (entOf u1 firstB))) = _
  rw [do1]
  rfl
theorem look_1 : look0P r1 = (id1, 0) := by
  unfold look0P
  rw [if_pos right1]
  rfl
theorem apply_2 : applyP r1 [u1] againB = (15, zeroR) := by
  have h := runP_err2 (note := againB) (r := r1) (l := [u1]) (i := 0) (by decide) updErr1 (by show (doP r1 u1).1 ≠ 0; rw [do2]; decide)
  rw [List.drop_zero, show (doP r1 ([u1].getD 0 dUpd)).1 = 15 from do2] at h
  exact applyP_err (by rw [right1, again_note]; rfl) h (by decide)
theorem apply_3 : applyP r1 [u2] [] = (16, zeroR) := by
  have h := runP_err2 (note := []) (r := r1) (l := [u2]) (i := 0) (by decide) updErr2 (by show (doP r1 u2).1 ≠ 0; rw [do3]; decide)
  rw [List.drop_zero, show (doP r1 ([u2].getD 0 dUpd)).1 = 16 from do3] at h
  exact applyP_err (by rw [right1, nil_note]; rfl) h (by decide)
open Go.RowKit
/-! ### Numbers below 0; a literal of bytes (any program) -/
theorem zi_sub (t : TypeId) (a b : Int) (h : -9223372036854775808 ≤ a - b ∧ a - b ≤ 9223372036854775807) : Go.binOp .sub t (.int .i64 a) (.int .i64 b) = pure (.int .i64 (a - b)) := by
  show pure (Value.int .i64 (IntKind.i64.wrap (a - b))) = _
  rw [IntWalk.i64_in _ h]
open Go.RowKit
set_option maxRecDepth 100000
theorem entC_of (y : Upd) (note : Bs) : updC y ++ [Value.string ⟨note.toArray⟩] = entC (entOf y note) := by simp [entC, updC, entOf]
theorem wr35_al53 {d : Option Tmp} {ty : TypeId} {pos : String} {af : Array Edge} {gd : Option (Nat × Bool)} (σ : Operand → Value) (w : World) : (execOp σ ⟨d, .alloc 53, ty, pos, af, gd⟩).run Tryd.prog w = .ok (.value (PQ w.heap.size 0)) (w.alloc (.cells (refsC ((⟨[], [], [], zid, []⟩, ⟨.slice none 0 0, .slice none 0 0, .slice none 0 0⟩) : RefsV)).toArray 53)) := by kernel_rfl
theorem wr35_ty53 : ∃ fs, Tryd.prog.underlying 53 = some (.struct fs) := struct_of (by kernel_rfl)
theorem wr35_isz53 : (Tryd.prog.info? 53).map (·.size) = some 36 := by kernel_rfl
theorem wr35_pl31 : Plain Tryd.prog 31 := fun _ _ => by kernel_rfl
theorem wr35_pl73 : Plain Tryd.prog 73 := fun _ _ => by kernel_rfl
theorem wr35_fo53_0 : FieldOff Tryd.prog 53 0 0 := fun b o w => by simp [go_sem]
theorem wr35_ty51 : Tryd.prog.underlying 51 = some (.slice 70) := by kernel_rfl
theorem wr35_pl74 : Plain Tryd.prog 74 := fun _ _ => by kernel_rfl
theorem wr35_fo53_1 : FieldOff Tryd.prog 53 1 1 := fun b o w => by simp [go_sem]
theorem wr35_fo53_4 : FieldOff Tryd.prog 53 4 35 := fun b o w => by simp [go_sem]
theorem wr35_ty47 : Tryd.prog.underlying 47 = some (.slice 122) := by kernel_rfl
theorem wr35_pl75 : Plain Tryd.prog 75 := fun _ _ => by kernel_rfl
theorem wr35_isz51 : (Tryd.prog.info? 51).map (·.size) = some 1 := by kernel_rfl
theorem wr35_isz47 : (Tryd.prog.info? 47).map (·.size) = some 1 := by kernel_rfl
theorem wr35_pl76 : Plain Tryd.prog 76 := fun _ _ => by kernel_rfl
theorem wr35_ty22 : Tryd.prog.underlying 22 = some (.slice 67) := by kernel_rfl
theorem wr35_szg67 : ∀ w' : World, (sizeOf 67).run Tryd.prog w' = .ok 66 w' := fun _ => by kernel_rfl
theorem wr35_ty67 : ∃ fs, Tryd.prog.underlying 67 = some (.struct fs) := struct_of (by kernel_rfl)
theorem wr35_isz67 : (Tryd.prog.info? 67).map (·.size) = some 66 := by kernel_rfl
theorem wr35_al67 {d : Option Tmp} {ty : TypeId} {pos : String} {af : Array Edge} {gd : Option (Nat × Bool)} (σ : Operand → Value) (w : World) : (execOp σ ⟨d, .alloc 67, ty, pos, af, gd⟩).run Tryd.prog w = .ok (.value (PQ w.heap.size 0)) (w.alloc (.cells (updC (⟨0, [], zid, zid⟩ : Upd)).toArray 67)) := by kernel_rfl
theorem wr35_pl77 : Plain Tryd.prog 77 := fun _ _ => by kernel_rfl
theorem wr35_fo67_0 : FieldOff Tryd.prog 67 0 0 := fun b o w => by simp [go_sem]
theorem wr35_ty5 : Tryd.prog.underlying 5 = some (.int .u8) := by kernel_rfl
theorem wr35_ty125 : Tryd.prog.underlying 125 = some (.map 5 128) := by kernel_rfl
theorem wr35_bdE : ∀ (cs : Array Value), cs.size = 66 → ∀ (s : ByteArray) (w : World), (Instr.build 122 #[(0, Value.agg cs), (1, Value.string s)]).run Tryd.prog w = .ok (.agg (cs.toList ++ [Value.string s]).toArray) w
 | ⟨c0 :: c1 :: c2 :: c3 :: c4 :: c5 :: c6 :: c7 :: c8 :: c9 :: c10 :: c11 :: c12 :: c13 :: c14 :: c15 :: c16 :: c17 :: c18 :: c19 :: c20 :: c21 :: c22 :: c23 :: c24 :: c25 :: c26 :: c27 :: c28 :: c29 :: c30 :: c31 :: c32 :: c33 :: c34 :: c35 :: c36 :: c37 :: c38 :: c39 :: c40 :: c41 :: c42 :: c43 :: c44 :: c45 :: c46 :: c47 :: c48 :: c49 :: c50 :: c51 :: c52 :: c53 :: c54 :: c55 :: c56 :: c57 :: c58 :: c59 :: c60 :: c61 :: c62 :: c63 :: c64 :: c65 :: []⟩, _, s, w => by kernel_rfl
theorem wr35_lh47 (c0 c1 c2 c3 c4 c5 c6 c7 c8 c9 c10 c11 c12 c13 c14 c15 c16 c17 c18 c19 c20 c21 c22 c23 c24 c25 c26 c27 c28 c29 c30 c31 c32 c33 c34 c35 c36 c37 c38 c39 c40 c41 c42 c43 c44 c45 c46 c47 c48 c49 c50 c51 c52 c53 c54 c55 c56 c57 c58 c59 c60 c61 c62 c63 c64 c65 c66 : Value) (w : World) : (Instr.buildSlice 47 1 #[(0, .agg #[c0, c1, c2, c3, c4, c5, c6, c7, c8, c9, c10, c11, c12, c13, c14, c15, c16, c17, c18, c19, c20, c21, c22, c23, c24, c25, c26, c27, c28, c29, c30, c31, c32, c33, c34, c35, c36, c37, c38, c39, c40, c41, c42, c43, c44, c45, c46, c47, c48, c49, c50, c51, c52, c53, c54, c55, c56, c57, c58, c59, c60, c61, c62, c63, c64, c65, c66])]).run Tryd.prog w = .ok (.slice (some ⟨w.heap.size, 0, none⟩) 1 1) (w.alloc (.cells #[c0, c1, c2, c3, c4, c5, c6, c7, c8, c9, c10, c11, c12, c13, c14, c15, c16, c17, c18, c19, c20, c21, c22, c23, c24, c25, c26, c27, c28, c29, c30, c31, c32, c33, c34, c35, c36, c37, c38, c39, c40, c41, c42, c43, c44, c45, c46, c47, c48, c49, c50, c51, c52, c53, c54, c55, c56, c57, c58, c59, c60, c61, c62, c63, c64, c65, c66] 122)) := by kernel_rfl
theorem wr35_lg47 : ∀ (cs : Array Value), cs.size = 67 → ∀ w : World, (Instr.buildSlice 47 1 #[(0, .agg cs)]).run Tryd.prog w = .ok (.slice (some ⟨w.heap.size, 0, none⟩) 1 1) (w.alloc (.cells cs 122))
 | ⟨c0 :: c1 :: c2 :: c3 :: c4 :: c5 :: c6 :: c7 :: c8 :: c9 :: c10 :: c11 :: c12 :: c13 :: c14 :: c15 :: c16 :: c17 :: c18 :: c19 :: c20 :: c21 :: c22 :: c23 :: c24 :: c25 :: c26 :: c27 :: c28 :: c29 :: c30 :: c31 :: c32 :: c33 :: c34 :: c35 :: c36 :: c37 :: c38 :: c39 :: c40 :: c41 :: c42 :: c43 :: c44 :: c45 :: c46 :: c47 :: c48 :: c49 :: c50 :: c51 :: c52 :: c53 :: c54 :: c55 :: c56 :: c57 :: c58 :: c59 :: c60 :: c61 :: c62 :: c63 :: c64 :: c65 :: c66 :: []⟩, _, w => wr35_lh47 c0 c1 c2 c3 c4 c5 c6 c7 c8 c9 c10 c11 c12 c13 c14 c15 c16 c17 c18 c19 c20 c21 c22 c23 c24 c25 c26 c27 c28 c29 c30 c31 c32 c33 c34 c35 c36 c37 c38 c39 c40 c41 c42 c43 c44 c45 c46 c47 c48 c49 c50 c51 c52 c53 c54 c55 c56 c57 c58 c59 c60 c61 c62 c63 c64 c65 c66 w
theorem wr35_ig122 : ∃ z, (Tryd.prog.info? 122).map (fun i => (i.zero, i.size, i.bytes)) = some (some z, 67, 104) ∧ z.cells.size = 67 := info_ex (by kernel_rfl)
theorem wr35_szg122 : ∀ w' : World, (sizeOf 122).run Tryd.prog w' = .ok 67 w' := fun _ => by kernel_rfl
set_option maxHeartbeats 1600000
theorem apply20_any (w : World) (z0 : RefsV) (hm : RefsAt w z0) (hL : RefsLt z0.1) (lv : Value) (l : List Upd) (hr : RG 66 updC w lv l) (hl : l.length ≤ 1000) (hln : ∀ u ∈ l, u.name.length ≤ 9223372036854775807) (note : Bs) :
  Calls Tryd.prog 26 #[.agg (refsC z0).toArray, lv, St note] w fun e w' => ∃ v, e = .returned (.tuple #[.agg (refsC ((applyP z0.1 l note).2, v)).toArray, NI (applyP z0.1 l note).1]) ∧ RefsOw w.heap.size w' ((applyP z0.1 l note).2, v) ∧ Ext w w' := by
 have hmt := hm.branches
 have hmg := hm.tags
 have hml := hm.log
 refine calls_of_wpF (args := [.agg (refsC z0).toArray, lv, St (note)]) Tryd.func26 rfl 77 rfl (Nat.le_of_ble_eq_true rfl) ?_
 intro ρ0 hb
 have T0 : ρ0 0 = (.agg (refsC z0).toArray : Value) := hb.get 0
 have T1 : ρ0 1 = (lv : Value) := hb.get 1
 have T2 : ρ0 2 = (St (note) : Value) := hb.get 2
 clear hb
 have hE := Ext.refl w
 refine sk fun K1 hK1 => (wt (oS rfl (Yk.box (cs := (refsC z0 : List Value).toArray) T0 fun n2 w3 hn4 hb5 hx6 hs7 => ?_)))
 have hE := hE.trans hx6
 have hb8 := hb5; clear hb5
 have hl9 : n2 < w3.heap.size := by omega
 refine oS rfl (Yk.alloc (cs := (refsC ((⟨[], [], [], zid, []⟩, ⟨.slice none 0 0, .slice none 0 0, .slice none 0 0⟩) : RefsV)).toArray) wr35_al53 fun n10 w11 hn12 hb13 hx14 hs15 => ?_)
 have hA16 := Ext.refl w3
 have hea17 := hE
 have hz18 := hE.size
 have hlt19 := lte (bl hb8) hn12
 have hE := hE.trans hx14
 have hb8 := eb hx14 hb8
 have hA16 := hA16.trans hx14
 have hb20 := hb13; clear hb13
 have hl21 : n10 < w11.heap.size := by omega
 refine oA rfl (oZ (tN (hK1 _ _ (sk fun K22 hK22 => (sk fun K23 hK23 => (wt (oS rfl (Yk.loadAll (vr (PQ n2 0) rfl) hb8 (wr35_ty53).choose_spec rfl (st_isz (refs_len z0) wr35_isz53) (oS rfl (Yk.callA1 wr35_pl31 (vr (.agg (refsC z0).toArray) rfl) ((fright_any _ z0 ⟨(hmt.keep hE), (hmg.keep hE), (hml.keep hE)⟩ hL).mono ?_)))))))))))
 rintro e w25 ⟨rfl, hx24⟩
 refine ⟨_, rfl, ?_⟩
 have hE := hE.trans hx24
 have hb8 := eb hx24 hb8
 have hA16 := hA16.trans hx24
 have hb20 := eb hx24 hb20
 refine oS rfl (Yk.notB (vr (.bool (rightF z0.1)) rfl) (oM rfl (opsF_mayV (St (note)) rfl rfl (gF (vr (.bool (!(rightF z0.1))) rfl)) (fun hG26 => Yk.move T2 ⟨rfl, rfl⟩) (opsF_mayC (.bool (noteB note)) rfl rfl (gF (vr (.bool (!(rightF z0.1))) rfl)) (fun hG27 => Yk.callA1 wr35_pl73 (mayT (vr (cond (!(!(rightF z0.1))) (St (note)) undef) rfl) hG27) ((note_any _ note).mono (by rintro e w2 ⟨rfl, hx⟩; exact ⟨_, rfl, rfl, hx⟩))) fun w29 hx30 => ?_))))
 have hE := hE.trans hx30
 have hb8 := eb hx30 hb8
 have hA16 := hA16.trans hx30
 have hb20 := eb hx30 hb20
 refine opsF_mayV (.bool (!(noteB note))) rfl rfl (gF (vr (.bool (!(rightF z0.1))) rfl)) (fun hG31 => Yk.notB (mayT (vr (cond (!(!(rightF z0.1))) (.bool (noteB note)) undef) rfl) hG31) ⟨rfl, rfl⟩) (oS rfl (Yk.pickOrN (vr (.bool (!(rightF z0.1))) rfl) (vr (.bool (true)) rfl) (fun hA => (mayT (vr (cond (!(!(rightF z0.1))) (.bool (!(noteB note))) undef) rfl) (not_i hA))) fun bb32 hbb33 => (oZ (tN (hK23 _ _ ?_)))))
 refine wpF_condB (bb32) (vr (.bool (bb32)) rfl) (fun hc0 => ?_) (fun hc0 => ?_)
 ·subst hbb33
  have h0c : ((!rightF z0.1) || (!noteB note)) = true := hc0
  refine sk fun K34 hK34 => (wt (oS rfl (Yk.run (v := .agg (refsC ((⟨[], [], [], zid, []⟩, ⟨.slice none 0 0, .slice none 0 0, .slice none 0 0⟩) : RefsV)).toArray) (by kernel_rfl) (oS rfl (Yk.storeAll (vr (PQ n10 0) rfl) (vr (.agg (refsC ((⟨[], [], [], zid, []⟩, ⟨.slice none 0 0, .slice none 0 0, .slice none 0 0⟩) : RefsV)).toArray) rfl) hb20 (by simp only [List.size_toArray, refs_len]) (st_isz (refs_len _) wr35_isz53) (refs_one (x := ((⟨[], [], [], zid, []⟩, ⟨.slice none 0 0, .slice none 0 0, .slice none 0 0⟩) : RefsV)) rfl rfl rfl) fun w35 hb36 hg37 hs38 => ?_)))))
  have hE := row_fresh hE hg37 (Nat.le_trans hz18 (by omega))
  have hb8 := kb hg37 hb8 (by omega)
  have hA16 := row_fresh hA16 hg37 (Nat.le_trans (Nat.le_refl _) (by omega))
  clear hb20
  have hb20 : w35.heap[n10]? = some (.cells (refsC ((⟨[], [], [], zid, []⟩, ⟨.slice none 0 0, .slice none 0 0, .slice none 0 0⟩) : RefsV)).toArray 53 (0, 0)) := hb36; clear hb36
  have hl39 := bl hb20
  refine oA rfl (oZ (tN (hK34 _ _ (wpF_ret (thenF_ret (postF_ret (fn := Tryd.f26) _ rfl [.agg (refsC ((⟨[], [], [], zid, []⟩, ⟨.slice none 0 0, .slice none 0 0, .slice none 0 0⟩) : RefsV)).toArray, NI 1] (.tuple #[.agg (refsC ((⟨[], [], [], zid, []⟩, ⟨.slice none 0 0, .slice none 0 0, .slice none 0 0⟩) : RefsV)).toArray, NI 1]) rfl ⟨ResF.row rfl hb20 (wr35_ty53).choose_spec rfl (st_isz (refs_len _) wr35_isz53), rfl, trivial⟩ ?_))))))
  have hAp := applyP_bad (l := l) h0c
  exact ⟨⟨.slice none 0 0, .slice none 0 0, .slice none 0 0⟩, by rw [hAp], by rw [hAp]; exact ⟨OG.nil _ _ _ _ _, OG.nil _ _ _ _ _, OG.nil _ _ _ _ _⟩, hE⟩
 subst hbb33
 have h0c : ((!rightF z0.1) || (!noteB note)) = false := hc0
 have hrt : rightF z0.1 = true := by simp only [Bool.or_eq_false_iff, Bool.not_eq_false'] at h0c; exact h0c.1
 have hS0 := rightF_sorted hrt
 have hlg := (rightF_lists hrt).2.2
 have hb0 := hS0.bl
 have ht0 := hS0.tl
 refine wpF_skip (tN (hK22 _ _ (sk fun K40 hK40 => ?_)))
 refine wpF_draw_cut 9 [Is (PQ n2 0), Is (z0.2.branches), fun z' w' => OG w.heap.size 70 33 nmdC w' z' (z0.1.branches), Is (PQ n2 1), Is (z0.2.tags), fun z' w' => OG w.heap.size 70 33 nmdC w' z' (z0.1.tags), Is (PQ n2 35), Is (z0.2.log), fun z' w' => OG w.heap.size 122 67 entC w' z' (z0.1.log)] (by kernel_rfl) [22, 23, 24, 25, 26, 27, 28, 29, 30, 31, 32, 33] (by kernel_rfl) (by kernel_rfl) (by kernel_rfl) (by kernel_rfl) rfl rfl (si2 ⟨(fun _ _ _ h k => OG.keep h k), (si2 ⟨(fun _ _ _ h k => OG.keep h k), (si2 ⟨(fun _ _ _ h k => OG.keep h k), trivial⟩)⟩)⟩) ?hs1003 ?hQ1003
 case hs1003 =>
  refine ⟨?_, ?_, ?_, ?_, ?_, ?_, ?_, ?_, ?_, ?_, ?_, ?_, ?_, ?_, ?_, trivial⟩
  ·refine stepFC (stepN rfl fun σ w1 hC h => ?_)
   have e3 : σ 3 = PQ n2 0 := (eqo (h 3 (by decide))).trans rfl
   exact Yk.fieldAt wr35_fo53_0 e3 ⟨Ext.refl _, rfl⟩
  ·refine stepFC (stepN rfl fun σ w1 hC h => ?_)
   have e22 := eqo (h 22 (by decide))
   exact Yk.cell1 wr35_ty51 rfl e22 (cellAt (eb hC hb8) (show (refsC z0)[0]? = some (z0.2.branches : Value) from refs_g0 z0)) ⟨Ext.refl _, rfl⟩
  ·refine stepFC (stepN rfl fun σ w1 hC h => ?_)
   have e23 := eqo (h 23 (by decide))
   refine Yk.callA1 wr35_pl74 e23 ((cloneNmd_any _ z0.2.branches (z0.1.branches) (hmt.keep (hE.trans hC)) (by have := hb0; omega)).mono ?_)
   rintro e w2 ⟨v, rfl, ho, hx⟩
   exact ⟨_, rfl, hx, OG.low ho (Nat.le_trans hE.size hC.size)⟩
  ·refine stepFC (stepN rfl fun σ w1 hC h => ?_)
   have e3 : σ 3 = PQ n2 0 := (eqo (h 3 (by decide))).trans rfl
   exact Yk.fieldAt wr35_fo53_1 e3 ⟨Ext.refl _, rfl⟩
  ·refine stepFC (stepN rfl fun σ w1 hC h => ?_)
   have e25 := eqo (h 25 (by decide))
   exact Yk.cell1 wr35_ty51 rfl e25 (cellAt (eb hC hb8) (show (refsC z0)[1]? = some (z0.2.tags : Value) from refs_g1 z0)) ⟨Ext.refl _, rfl⟩
  ·refine stepFC (stepN rfl fun σ w1 hC h => ?_)
   have e26 := eqo (h 26 (by decide))
   refine Yk.callA1 wr35_pl74 e26 ((cloneNmd_any _ z0.2.tags (z0.1.tags) (hmg.keep (hE.trans hC)) (by have := ht0; omega)).mono ?_)
   rintro e w2 ⟨v, rfl, ho, hx⟩
   exact ⟨_, rfl, hx, OG.low ho (Nat.le_trans hE.size hC.size)⟩
  ·refine stepFC (stepN rfl fun σ w1 hC h => ?_)
   have e3 : σ 3 = PQ n2 0 := (eqo (h 3 (by decide))).trans rfl
   exact Yk.fieldAt wr35_fo53_4 e3 ⟨Ext.refl _, rfl⟩
  ·refine stepFC (stepN rfl fun σ w1 hC h => ?_)
   have e28 := eqo (h 28 (by decide))
   exact Yk.cell1 wr35_ty47 rfl e28 (cellAt (eb hC hb8) (show (refsC z0)[35]? = some (z0.2.log : Value) from refs_g4 z0)) ⟨Ext.refl _, rfl⟩
  ·refine stepFC (stepN rfl fun σ w1 hC h => ?_)
   have e29 := eqo (h 29 (by decide))
   refine Yk.callA1 wr35_pl75 e29 ((cloneEnt_any _ z0.2.log (z0.1.log) (hml.keep (hE.trans hC)) (by have := hlg; omega)).mono ?_)
   rintro e w2 ⟨v, rfl, ho, hx⟩
   exact ⟨_, rfl, hx, OG.low ho (Nat.le_trans hE.size hC.size)⟩
  ·exact trivial
  ·exact trivial
  ·exact trivial
  ·exact trivial
  ·exact trivial
  ·exact trivial
 intro ρ41 w42 hx43 he hf
 obtain ⟨-, -, k24, -, -, k27, -, -, k30, -⟩ := hf
 obtain ⟨T0, T1, T2, T3, T6, T7, -⟩ := he.hold [(0, _), (1, _), (2, _), (3, PQ n2 0), (6, PQ n10 0), (7, NI 0)] ⟨T0, T1, T2, rfl, rfl, rfl, trivial⟩ rfl
 clear he
 have hE := hE.trans hx43
 have hb8 := eb hx43 hb8
 have hA16 := hA16.trans hx43
 have hb20 := eb hx43 hb20
 have k24 : (fun z' w' => OG w.heap.size 70 33 nmdC w' z' (z0.1.branches)) (ρ41 24) w42 := k24
 obtain ⟨v44, T24⟩ : ∃ v, ρ41 24 = v := ⟨_, rfl⟩
 rw [T24] at k24
 have hk45 := k24; clear k24
 have hap46 := OG.off hk45 hb8 (by decide)
 have hap47 := OG.off hk45 hb20 (by decide)
 have k27 : (fun z' w' => OG w.heap.size 70 33 nmdC w' z' (z0.1.tags)) (ρ41 27) w42 := k27
 obtain ⟨v48, T27⟩ : ∃ v, ρ41 27 = v := ⟨_, rfl⟩
 rw [T27] at k27
 have hk49 := k27; clear k27
 have hap50 := OG.off hk49 hb8 (by decide)
 have hap51 := OG.off hk49 hb20 (by decide)
 have k30 : (fun z' w' => OG w.heap.size 122 67 entC w' z' (z0.1.log)) (ρ41 30) w42 := k30
 obtain ⟨v52, T30⟩ : ∃ v, ρ41 30 = v := ⟨_, rfl⟩
 rw [T30] at k30
 have hk53 := k30; clear k30
 have hap54 := OG.off hk53 hb8 (by decide)
 have hap55 := OG.off hk53 hb20 (by decide)
 refine oS rfl (Yk.fieldAt wr35_fo53_0 T3 (oS rfl (Yk.storeC (i := 0) (v := v44) (vr (PQ n2 0) rfl) T24 hb8 (by rw [refs_len]; decide) wr35_isz51 (RG.one (RG.ofOwn hk45)).1 (RG.one (RG.ofOwn hk45)).2 fun w56 hb57 hg58 hs59 => ?_)))
 have hE := row_fresh hE hg58 (Nat.le_trans (Nat.le_refl _) (by omega))
 clear hA16
 have hb20 := kb hg58 hb20 (by omega)
 have hk45 := OG.kept hk45 hg58 hap46
 have hk49 := OG.kept hk49 hg58 hap50
 have hk53 := OG.kept hk53 hg58 hap54
 clear hb8
 have hb8 : w56.heap[n2]? = some (.cells (refsC ((⟨z0.1.branches, z0.1.tags, z0.1.head, z0.1.at_, z0.1.log⟩, ⟨v44, z0.2.tags, z0.2.log⟩) : RefsV)).toArray 53 (0, 0)) := blk_eq hb57 (refs_s0 z0 v44 (z0.1.branches)); clear hb57
 have hl60 := bl hb8
 refine oS rfl (Yk.fieldAt wr35_fo53_1 T3 (oS rfl (Yk.storeC (i := 1) (v := v48) (vr (PQ n2 1) rfl) T27 hb8 (by rw [refs_len]; decide) wr35_isz51 (RG.one (RG.ofOwn hk49)).1 (RG.one (RG.ofOwn hk49)).2 fun w61 hb62 hg63 hs64 => ?_)))
 have hE := row_fresh hE hg63 (Nat.le_trans (Nat.le_refl _) (by omega))
 have hb20 := kb hg63 hb20 (by omega)
 have hk45 := OG.kept hk45 hg63 hap46
 have hk49 := OG.kept hk49 hg63 hap50
 have hk53 := OG.kept hk53 hg63 hap54
 clear hb8
 have hb8 : w61.heap[n2]? = some (.cells (refsC ((⟨z0.1.branches, z0.1.tags, z0.1.head, z0.1.at_, z0.1.log⟩, ⟨v44, v48, z0.2.log⟩) : RefsV)).toArray 53 (0, 0)) := blk_eq hb62 (refs_s1 ((⟨z0.1.branches, z0.1.tags, z0.1.head, z0.1.at_, z0.1.log⟩, ⟨v44, z0.2.tags, z0.2.log⟩) : RefsV) v48 (z0.1.tags)); clear hb62
 have hl65 := bl hb8
 refine oS rfl (Yk.fieldAt wr35_fo53_4 T3 (oS rfl (Yk.storeC (i := 35) (v := v52) (vr (PQ n2 35) rfl) T30 hb8 (by rw [refs_len]; decide) wr35_isz47 (RG.one (RG.ofOwn hk53)).1 (RG.one (RG.ofOwn hk53)).2 fun w66 hb67 hg68 hs69 => ?_)))
 have hE := row_fresh hE hg68 (Nat.le_trans (Nat.le_refl _) (by omega))
 have hb20 := kb hg68 hb20 (by omega)
 have hk45 := OG.kept hk45 hg68 hap46
 have hk49 := OG.kept hk49 hg68 hap50
 have hk53 := OG.kept hk53 hg68 hap54
 clear hb8
 have hb8 : w66.heap[n2]? = some (.cells (refsC ((⟨z0.1.branches, z0.1.tags, z0.1.head, z0.1.at_, z0.1.log⟩, ⟨v44, v48, v52⟩) : RefsV)).toArray 53 (0, 0)) := blk_eq hb67 (refs_s4 ((⟨z0.1.branches, z0.1.tags, z0.1.head, z0.1.at_, z0.1.log⟩, ⟨v44, v48, z0.2.log⟩) : RefsV) v52 (z0.1.log)); clear hb67
 have hl70 := bl hb8
 refine oZ (tN (hK40 _ _ (sk fun K71 hK71 => (wt (oS rfl (Yk.callA0 wr35_pl76  ((fkinds_any _).mono ?_)))))))
 rintro e w73 ⟨gm, rfl, hmp, hgm, hx72⟩
 refine ⟨_, rfl, ?_⟩
 have hlt74 : n10 < gm := Nat.lt_of_lt_of_le (bl hb20) hgm
 have hlt75 : n2 < gm := Nat.lt_of_lt_of_le (bl hb8) hgm
 have hE := hE.trans hx72
 have hb20 := eb hx72 hb20
 have hk45 := hk45.keep hx72
 have hk49 := hk49.keep hx72
 have hk53 := hk53.keep hx72
 have hb8 := eb hx72 hb8
 have hgl : gm < w73.heap.size := hmp.lt
 refine oA rfl (oZ (tN (hK71 _ _ (sk fun K76 hK76 => (sk fun K77 hK77 => (wt (oM rfl (oS rfl (Yk.lenRG wr35_ty22 (RG.of (hr.keep hE) T1) (oM rfl (oL_ [(0, .agg (refsC z0).toArray), (1, lv), (2, St (note)), (3, PQ n2 0), (6, PQ n10 0), (7, NI 0), (8, .map (some gm)), (35, lv), (36, NI l.length), (37, NI 0)] ⟨T0, T1, T2, T3, T6, T7, rfl, T1, rfl, rfl, trivial⟩ fun ρ78 ⟨T0, T1, T2, T3, T6, T7, T8, T35, T36, T37, _⟩ => ?_)))))))))))
 have ho79 : OG w.heap.size 70 33 nmdC w73 v44 (z0.1.branches) := hk45
 have ho80 : OG w.heap.size 70 33 nmdC w73 v48 (z0.1.tags) := hk49
 have ho81 : OG w.heap.size 122 67 entC w73 v52 (z0.1.log) := hk53
 have hP : AppAt w w73 n2 ((⟨z0.1.branches, z0.1.tags, z0.1.head, z0.1.at_, z0.1.log⟩, ⟨v44, v48, v52⟩) : RefsV) := ⟨hE, by omega, hb8, ho79, ho80, ho81, (OG.off ho79 hb8 (by decide)), (OG.off ho80 hb8 (by decide)), (OG.off ho81 hb8 (by decide)), OG.apart ho81 ho79 (by decide), OG.apart ho81 ho80 (by decide)⟩
 refine tN (hK77 _ _ (wpF_block (wpF_loop (fun (ρ : Slots) (wz : World) => ∃ i : Nat, ∃ z : RefsV, ρ 0 = (.agg (refsC z0).toArray : Value) ∧ ρ 1 = (lv : Value) ∧ ρ 2 = (St (note) : Value) ∧ ρ 3 = (PQ n2 0 : Value) ∧ ρ 6 = (PQ n10 0 : Value) ∧ ρ 8 = (.map (some gm) : Value) ∧ ρ 35 = (lv : Value) ∧ ρ 36 = (NI l.length : Value) ∧ ρ 37 = (NI i : Value) ∧ Ext w wz ∧ wz.heap[n10]? = some (.cells (refsC ((⟨[], [], [], zid, []⟩, ⟨.slice none 0 0, .slice none 0 0, .slice none 0 0⟩) : RefsV)).toArray 53 (0, 0)) ∧ MapF B8 fnV (fun _ : UInt8 => True) wz gm doG ∧ AppAt w wz n2 z ∧ (i ≤ l.length) ∧ (runP note z0.1 l = runP note z.1 (l.drop i)) ∧ (Sorted z.1) ∧ (z.1.log.length ≤ 64 + i) ∧ True) (fun ρ _ => l.length - (intOf (ρ 37)).toNat) ⟨0, ((⟨z0.1.branches, z0.1.tags, z0.1.head, z0.1.at_, z0.1.log⟩, ⟨v44, v48, v52⟩) : RefsV), T0, T1, T2, T3, T6, T8, T35, T36, T37, hE, hb20, hmp, hP, Nat.zero_le _, rfl, ⟨hS0.br, hS0.tg, hS0.bl, hS0.tl⟩, (show z0.1.log.length ≤ 64 + 0 by omega), trivial⟩ ?_)))
 clear hk45
 clear hk49
 clear hk53
 clear hb8
 clear hP
 clear hE hb20 hmp
 rintro ρ82 w83 ⟨i, z, T0, T1, T2, T3, T6, T8, T35, T36, T37, hE, hb20, hmp, hQ, hi, hrun, hS, hlog, -⟩
 have q37 := T37
 refine sk fun K84 hK84 => (wt (oS rfl (Yk.eqI (a := (i : Nat)) (b := (l.length : Nat)) T37 T36 (k_lss _ _ _ _) (oZ (tN (hK84 _ _ (sk fun K85 hK85 => ?_)))))))
 refine wpF_cond ((i) < (l.length)) (vr (.bool (decide ((i) < (l.length)))) rfl) (fun hc1 => ?_) (fun hc1 => ?_)
 ·have hlt : i < l.length := hc1
  refine wpF_skip (tN (hK85 _ _ (sk fun K86 hK86 => (wpF_block (sk fun K87 hK87 => (wt ?_))))))
  have hl90 : (updC (l.getD (i) dUpd)).length = 66 := (RG.elem (hr.keep hE) dUpd (by omega))
  refine oS rfl (Yk.atRG wr35_ty22 wr35_szg67 (by decide) dUpd (RG.of (hr.keep hE) T35) T37 (by omega) fun v88 hp89 => (oS rfl (Yk.loadPR (PR.of hp89 (vr v88 rfl)) (wr35_ty67).choose_spec rfl (by rw [upd_len]; exact wr35_isz67) (oS rfl (Yk.alloc (cs := (updC (⟨0, [], zid, zid⟩ : Upd)).toArray) wr35_al67 fun n91 w92 hn93 hb94 hx95 hs96 => ?_)))))
  have hA97 := Ext.refl w83
  have hea98 := hE
  have hz99 := hE.size
  have hlt100 := lte (bl hb20) hn93
  have hlt101 := lte hmp.lt hn93
  have hE := hE.trans hx95
  have hb20 := eb hx95 hb20
  have hmp := hmp.keep hx95
  have hA97 := hA97.trans hx95
  have hb102 := hb94; clear hb94
  have hl103 : n91 < w92.heap.size := by omega
  refine oS rfl (Yk.storeAll (vr (PQ n91 0) rfl) (vr (.agg (updC (l.getD (i) dUpd)).toArray) rfl) hb102 (by simp only [List.size_toArray, upd_len]) (st_isz (upd_len _) wr35_isz67) (upd_one (x := (l.getD (i) dUpd))) fun w104 hb105 hg106 hs107 => ?_)
  have hE := row_fresh hE hg106 (Nat.le_trans hz99 (by omega))
  have hb20 := kb hg106 hb20 (by omega)
  have hmp := MapF.other hmp hg106 (some_ne (by omega))
  have hA97 := row_fresh hA97 hg106 (Nat.le_trans (Nat.le_refl _) (by omega))
  clear hb102
  have hb102 : w104.heap[n91]? = some (.cells (updC (l.getD (i) dUpd)).toArray 67 (0, 0)) := hb105; clear hb105
  have hl108 := bl hb102
  refine oZ ?_
  clear hp89
  refine tN (hK87 _ _ (sk fun K109 hK109 => (sk fun K110 hK110 => (wt (oS rfl (Yk.loadAll (vr (PQ n91 0) rfl) hb102 (wr35_ty67).choose_spec rfl (st_isz (upd_len (l.getD (i) dUpd)) wr35_isz67) (oS rfl (Yk.callA1 wr35_pl77 (vr (.agg (updC (l.getD (i) dUpd)).toArray) rfl) ((update_any _ (l.getD i dUpd) (hln _ (getD_mem dUpd hlt))).mono ?_)))))))))
  rintro e w112 ⟨rfl, hx111⟩
  refine ⟨_, rfl, ?_⟩
  have hE := hE.trans hx111
  have hb20 := eb hx111 hb20
  have hmp := hmp.keep hx111
  have hA97 := hA97.trans hx111
  have hb102 := eb hx111 hb102
  refine oA rfl (oZ (tN (hK110 _ _ (sk fun K113 hK113 => (wt (oM rfl (oS rfl (Yk.eqI (a := (updErr (l.getD i dUpd) : Nat)) (b := (0 : Nat)) rfl rfl (k_neq _ _ _ _) (oZ (tN (hK113 _ _ ?_)))))))))))
  refine wpF_cond ((updErr (l.getD i dUpd) : Nat) ≠ (0)) (vr (.bool (decide ((updErr (l.getD i dUpd) : Nat) ≠ (0)))) rfl) (fun hc2 => ?_) (fun hc2 => ?_)
  ·have hU : updErr (l.getD i dUpd) ≠ 0 := hc2
   refine sk fun K114 hK114 => (wt (oS rfl (Yk.run (v := .agg (refsC ((⟨[], [], [], zid, []⟩, ⟨.slice none 0 0, .slice none 0 0, .slice none 0 0⟩) : RefsV)).toArray) (by kernel_rfl) (oM rfl (oS rfl (Yk.storeAll T6 (vr (.agg (refsC ((⟨[], [], [], zid, []⟩, ⟨.slice none 0 0, .slice none 0 0, .slice none 0 0⟩) : RefsV)).toArray) rfl) hb20 (by simp only [List.size_toArray, refs_len]) (st_isz (refs_len _) wr35_isz53) (refs_one (x := ((⟨[], [], [], zid, []⟩, ⟨.slice none 0 0, .slice none 0 0, .slice none 0 0⟩) : RefsV)) rfl rfl rfl) fun w115 hb116 hg117 hs118 => ?_))))))
   have hE := row_fresh hE hg117 (Nat.le_trans hz18 (by omega))
   have hmp := MapF.other hmp hg117 (some_ne (by omega))
   clear hA97
   have hb102 := kb hg117 hb102 (by omega)
   clear hb20
   have hb20 : w115.heap[n10]? = some (.cells (refsC ((⟨[], [], [], zid, []⟩, ⟨.slice none 0 0, .slice none 0 0, .slice none 0 0⟩) : RefsV)).toArray 53 (0, 0)) := hb116; clear hb116
   have hl119 := bl hb20
   refine oA rfl (oZ (tN (hK114 _ _ (wpF_ret (thenF_ret (inBlockF_ret (thenF_ret (thenF_ret (inBlockF_ret (thenF_ret (postF_ret (fn := Tryd.f26) _ rfl [.agg (refsC ((⟨[], [], [], zid, []⟩, ⟨.slice none 0 0, .slice none 0 0, .slice none 0 0⟩) : RefsV)).toArray, NI (updErr (l.getD i dUpd))] (.tuple #[.agg (refsC ((⟨[], [], [], zid, []⟩, ⟨.slice none 0 0, .slice none 0 0, .slice none 0 0⟩) : RefsV)).toArray, NI (updErr (l.getD i dUpd))]) rfl ⟨ResF.row T6 hb20 (wr35_ty53).choose_spec rfl (st_isz (refs_len _) wr35_isz53), rfl, trivial⟩ ?_)))))))))))
   have hAp := applyP_err h0c (hrun.trans (runP_err1 hlt hU)) hU
   exact ⟨⟨.slice none 0 0, .slice none 0 0, .slice none 0 0⟩, by rw [hAp], by rw [hAp]; exact ⟨OG.nil _ _ _ _ _, OG.nil _ _ _ _ _, OG.nil _ _ _ _ _⟩, hE⟩
  have hU : updErr (l.getD i dUpd) = 0 := by simpa using hc2
  obtain ⟨f, hF⟩ := doG_some (updErr_kind hU)
  refine wpF_skip (tN (hK109 _ _ (sk fun K120 hK120 => (sk fun K121 hK121 => (wt (oM rfl (oS rfl (Yk.fieldAt wr35_fo67_0 (vr (PQ n91 0) rfl) (oS rfl (Yk.cell1 wr35_ty5 rfl (vr (PQ n91 0) rfl) (cellAt hb102 (show (updC (l.getD (i) dUpd))[0]? = some (B8 (((l.getD (i) dUpd)).kind) : Value) from upd_g0 (l.getD (i) dUpd))) (oS rfl (Yk.lookMS (ek := B8) (ev := fnV) (D := fun _ : UInt8 => True) u8Law u8_ok (fun _ _ => b8_inj) wr35_ty125 (z := Value.nilFunc) zeroFn T8 (vr (B8 (((l.getD (i) dUpd)).kind)) rfl) hmp trivial hF (oS rfl (Yk.loadAll (vr (PQ n91 0) rfl) hb102 (wr35_ty67).choose_spec rfl (st_isz (upd_len (l.getD (i) dUpd)) wr35_isz67) (oS rfl (Yk.clo (plain_do hF) (caps := #[]) (vr (fnV f) rfl) #[PQ n2 0, .agg (updC (l.getD (i) dUpd)).toArray] (by simp only [List.map_toArray, List.map_cons, List.map_nil, List.append_toArray, List.cons_append, List.nil_append]; exact congrArg List.toArray (list2 T3 (vr (.agg (updC (l.getD (i) dUpd)).toArray) rfl))) ((do_any w _ n2 z (hQ.keep hA97) hS (l.getD i dUpd) hF).mono ?_)))))))))))))))))
  rintro e w123 ⟨z1, ⟨rfl, hz1⟩, hR, hl1, hg1⟩
  refine ⟨_, rfl, ?_⟩
  have hE := row_fresh hE hg1 (Nat.le_trans (Nat.le_refl _) (by omega))
  have hb20 := kb hg1 hb20 (by omega)
  have hmp := MapF.other hmp hg1 (some_ne (by omega))
  clear hA97
  have hb102 := kb hg1 hb102 (by omega)
  refine oA rfl (oZ ?_)
  have hb124 := hR.blk
  have ho125 := hR.br
  have ho126 := hR.tg
  have ho127 := hR.lg
  have hap128 := OG.off ho125 hb20 (by decide)
  have hap129 := OG.off ho126 hb20 (by decide)
  have hap130 := OG.off ho127 hb20 (by decide)
  have hap131 := OG.offMap ho127 hmp
  have hap132 := OG.off ho125 hb102 (by decide)
  have hap133 := OG.off ho126 hb102 (by decide)
  have hap134 := OG.off ho127 hb102 (by decide)
  have hap135 := OG.off ho125 hb124 (by decide)
  have hap136 := OG.off ho126 hb124 (by decide)
  have hap137 := OG.off ho127 hb124 (by decide)
  have hap138 := OG.apart ho127 ho125 (by decide)
  have hap139 := OG.apart ho127 ho126 (by decide)
  clear hR
  refine tN (hK121 _ _ (sk fun K140 hK140 => (wt (oM rfl (oS rfl (Yk.eqI (a := ((doP z.1 (l.getD i dUpd)).1 : Nat)) (b := (0 : Nat)) rfl rfl (k_neq _ _ _ _) (oZ (tN (hK140 _ _ ?_)))))))))
  refine wpF_cond (((doP z.1 (l.getD i dUpd)).1 : Nat) ≠ (0)) (vr (.bool (decide (((doP z.1 (l.getD i dUpd)).1 : Nat) ≠ (0)))) rfl) (fun hc3 => ?_) (fun hc3 => ?_)
  ·have hD : (doP z.1 (l.getD i dUpd)).1 ≠ 0 := hc3
   refine sk fun K141 hK141 => (wt (oS rfl (Yk.run (v := .agg (refsC ((⟨[], [], [], zid, []⟩, ⟨.slice none 0 0, .slice none 0 0, .slice none 0 0⟩) : RefsV)).toArray) (by kernel_rfl) (oM rfl (oS rfl (Yk.storeAll T6 (vr (.agg (refsC ((⟨[], [], [], zid, []⟩, ⟨.slice none 0 0, .slice none 0 0, .slice none 0 0⟩) : RefsV)).toArray) rfl) hb20 (by simp only [List.size_toArray, refs_len]) (st_isz (refs_len _) wr35_isz53) (refs_one (x := ((⟨[], [], [], zid, []⟩, ⟨.slice none 0 0, .slice none 0 0, .slice none 0 0⟩) : RefsV)) rfl rfl rfl) fun w142 hb143 hg144 hs145 => ?_))))))
   have hE := row_fresh hE hg144 (Nat.le_trans hz18 (by omega))
   have hmp := MapF.other hmp hg144 (some_ne (by omega))
   have hb102 := kb hg144 hb102 (by omega)
   have hb124 := kb hg144 hb124 (by omega)
   have ho125 := OG.kept ho125 hg144 hap128
   have ho126 := OG.kept ho126 hg144 hap129
   have ho127 := OG.kept ho127 hg144 hap130
   clear hb20
   have hb20 : w142.heap[n10]? = some (.cells (refsC ((⟨[], [], [], zid, []⟩, ⟨.slice none 0 0, .slice none 0 0, .slice none 0 0⟩) : RefsV)).toArray 53 (0, 0)) := hb143; clear hb143
   have hl146 := bl hb20
   refine oA rfl (oZ (tN (hK141 _ _ (wpF_ret (thenF_ret (inBlockF_ret (thenF_ret (thenF_ret (inBlockF_ret (thenF_ret (postF_ret (fn := Tryd.f26) _ rfl [.agg (refsC ((⟨[], [], [], zid, []⟩, ⟨.slice none 0 0, .slice none 0 0, .slice none 0 0⟩) : RefsV)).toArray, NI ((doP z.1 (l.getD i dUpd)).1)] (.tuple #[.agg (refsC ((⟨[], [], [], zid, []⟩, ⟨.slice none 0 0, .slice none 0 0, .slice none 0 0⟩) : RefsV)).toArray, NI ((doP z.1 (l.getD i dUpd)).1)]) rfl ⟨ResF.row T6 hb20 (wr35_ty53).choose_spec rfl (st_isz (refs_len _) wr35_isz53), rfl, trivial⟩ ?_)))))))))))
   have hAp := applyP_err h0c (hrun.trans (runP_err2 hlt hU hD)) hD
   exact ⟨⟨.slice none 0 0, .slice none 0 0, .slice none 0 0⟩, by rw [hAp], by rw [hAp]; exact ⟨OG.nil _ _ _ _ _, OG.nil _ _ _ _ _, OG.nil _ _ _ _ _⟩, hE⟩
  have hD : (doP z.1 (l.getD i dUpd)).1 = 0 := by simpa using hc3
  refine wpF_skip (tN (hK120 _ _ (wt (oS rfl (Yk.fieldAt wr35_fo53_4 T3 (oS rfl (Yk.cell1 wr35_ty47 rfl (vr (PQ n2 35) rfl) (cellAt hb124 (show (refsC z1)[35]? = some (z1.2.log : Value) from refs_g4 z1)) (oS rfl (Yk.loadAll (vr (PQ n91 0) rfl) hb102 (wr35_ty67).choose_spec rfl (st_isz (upd_len (l.getD (i) dUpd)) wr35_isz67) (oM rfl (oS rfl (Yk.build2 (vr (.agg (updC (l.getD (i) dUpd)).toArray) rfl) T2 (fun w => (wr35_bdE _ (by rw [List.size_toArray]; exact upd_len _) _ w).trans (by rw [List.toList_toArray, entC_of])) (oS rfl (Yk.lit1G (a := (entOf (l.getD i dUpd) note)) (enc := entC) (vr (.agg (entC (entOf (l.getD i dUpd) note)).toArray) rfl) (ent_len _) wr35_lg47 fun v147 w148 hr149 hx150 => ?_))))))))))))))
  have hE := hE.trans hx150
  have hb20 := eb hx150 hb20
  have hmp := hmp.keep hx150
  have hb102 := eb hx150 hb102
  have hb124 := eb hx150 hb124
  have ho125 := ho125.keep hx150
  have ho126 := ho126.keep hx150
  have ho127 := ho127.keep hx150
  refine oS rfl (Yk.appendRG _ _ w.heap.size _ 104 wr35_ty47 wr35_ig122.choose_spec.1 wr35_ig122.choose_spec.2 wr35_ty47 (z1.1.log) ([(entOf (l.getD i dUpd) note)]) (OG.of ho127 (vr z1.2.log rfl)) (RG.of hr149 (vr v147 rfl)) (fun _ _ => ent_one) (by have h_ := congrArg (fun r => r.log.length) hz1; simp only [doP_log] at h_; simp only [List.length_cons, List.length_nil]; omega) (by have h_ := congrArg (fun r => r.log.length) hz1; simp only [doP_log] at h_; simp only [List.length_cons, List.length_nil]; omega) hE.size fun v151 w152 ho153 hg154 => ?_)
  have hg154 : Grew w148 w152 z1.2.log v151 := hg154
  have hap155 : OB v151 n10 := apart_grew hg154 hap130 (bl hb20)
  have hap156 : OB v151 gm := apart_grew hg154 hap131 hmp.lt
  have hap157 : OB v151 n91 := apart_grew hg154 hap134 (bl hb102)
  have hap158 : OB v151 n2 := apart_grew hg154 hap137 (bl hb124)
  have hap159 : ApartV v151 z1.2.branches := apartv_grew hg154 hap138 ho125.2
  have hap160 : ApartV z1.2.branches v151 := fun k h1 h2 => hap159 k h2 h1
  have hap161 : ApartV v151 z1.2.tags := apartv_grew hg154 hap139 ho126.2
  have hap162 : ApartV z1.2.tags v151 := fun k h1 h2 => hap161 k h2 h1
  have hE := ext_grew hE hg154 ho127.2 (Nat.le_refl _)
  have hb20 := blk_grew hb20 hg154 hap130
  have hmp := MapF.grew hmp hg154 hap131
  have hb102 := blk_grew hb102 hg154 hap134
  have hb124 := blk_grew hb124 hg154 hap137
  have ho125 := og_grew ho125 hg154 hap138
  have ho126 := og_grew ho126 hg154 hap139
  clear hr149
  clear ho127
  refine oS rfl (Yk.fieldAt wr35_fo53_4 T3 (oS rfl (Yk.storeC (i := 35) (v := v151) (vr (PQ n2 35) rfl) (vr v151 rfl) hb124 (by rw [refs_len]; decide) wr35_isz47 (RG.one (RG.ofOwn ho153)).1 (RG.one (RG.ofOwn ho153)).2 fun w163 hb164 hg165 hs166 => ?_)))
  have hE := row_fresh hE hg165 (Nat.le_trans (Nat.le_refl _) (by omega))
  have hb20 := kb hg165 hb20 (by omega)
  have hmp := MapF.other hmp hg165 (some_ne (by omega))
  have hb102 := kb hg165 hb102 (by omega)
  have ho125 := OG.kept ho125 hg165 hap135
  have ho126 := OG.kept ho126 hg165 hap136
  have ho153 := OG.kept ho153 hg165 hap158
  clear hb124
  have hb124 : w163.heap[n2]? = some (.cells (refsC ((⟨z1.1.branches, z1.1.tags, z1.1.head, z1.1.at_, (z1.1.log) ++ [(entOf (l.getD i dUpd) note)]⟩, ⟨z1.2.branches, z1.2.tags, v151⟩) : RefsV)).toArray 53 (0, 0)) := blk_eq hb164 (refs_s4 z1 v151 ((z1.1.log) ++ [(entOf (l.getD i dUpd) note)])); clear hb164
  have hl167 := bl hb124
  refine oZ (bN (tN (hK86 _ _ (wt (oS rfl (Yk.bin (xv := NI i) (yv := NI 1) T37 rfl rfl (i64_add _ _ _ (by omega)) (oM rfl (oL_ [(0, .agg (refsC z0).toArray), (1, lv), (2, St (note)), (3, PQ n2 0), (6, PQ n10 0), (8, .map (some gm)), (10, PQ n91 0), (11, NI (updErr (l.getD i dUpd))), (12, NI ((doP z.1 (l.getD i dUpd)).1)), (35, lv), (36, NI l.length), (37, NI ((i) + (1)))] ⟨T0, T1, T2, T3, T6, T8, rfl, rfl, rfl, T35, T36, rfl, trivial⟩ fun ρ168 ⟨T0, T1, T2, T3, T6, T8, T10, T11, T12, T35, T36, T37, _⟩ => ?_))))))))
  have ho169 : OG w.heap.size 70 33 nmdC w163 z1.2.branches (z1.1.branches) := ho125
  have ho170 : OG w.heap.size 70 33 nmdC w163 z1.2.tags (z1.1.tags) := ho126
  have ho171 : OG w.heap.size 122 67 entC w163 v151 ((z1.1.log) ++ [(entOf (l.getD i dUpd) note)]) := ho153
  have hP : AppAt w w163 n2 ((⟨z1.1.branches, z1.1.tags, z1.1.head, z1.1.at_, (z1.1.log) ++ [(entOf (l.getD i dUpd) note)]⟩, ⟨z1.2.branches, z1.2.tags, v151⟩) : RefsV) := ⟨hE, by omega, hb124, ho169, ho170, ho171, (OG.off ho169 hb124 (by decide)), (OG.off ho170 hb124 (by decide)), (OG.off ho171 hb124 (by decide)), OG.apart ho171 ho169 (by decide), OG.apart ho171 ho170 (by decide)⟩
  have hS2 : Sorted (addlog (doP z.1 (l.getD i dUpd)).2 (entOf (l.getD i dUpd) note)) := by have h_ := doP_sorted (y := (l.getD i dUpd)) hS; exact ⟨h_.br, h_.tg, h_.bl, h_.tl⟩
  have hlog2 : (addlog (doP z.1 (l.getD i dUpd)).2 (entOf (l.getD i dUpd) note)).log.length ≤ 64 + (i + 1) := by simp only [addlog, List.length_append, List.length_cons, List.length_nil, doP_log]; omega
  rw [← hz1] at hS2 hlog2
  refine tN (And.intro ⟨i + 1, ((⟨z1.1.branches, z1.1.tags, z1.1.head, z1.1.at_, (z1.1.log) ++ [(entOf (l.getD i dUpd) note)]⟩, ⟨z1.2.branches, z1.2.tags, v151⟩) : RefsV), T0, T1, T2, T3, T6, T8, T35, T36, T37, hE, hb20, hmp, hP, by omega, (hrun.trans (runP_next hlt hU hD)).trans (by rw [hz1]; rfl), hS2, hlog2, trivial⟩ ?_)
  show l.length - (intOf (ρ168 37)).toNat < l.length - (intOf (ρ82 37)).toNat
  rw [T37, q37]
  simp only [intOf, Int.toNat_natCast]; omega
 have hb172 := hQ.blk
 have ho173 := hQ.br
 have ho174 := hQ.tg
 have ho175 := hQ.lg
 have hap176 := OG.off ho173 hb20 (by decide)
 have hap177 := OG.off ho174 hb20 (by decide)
 have hap178 := OG.off ho175 hb20 (by decide)
 have hap179 := OG.offMap ho175 hmp
 have hap180 := OG.off ho173 hb172 (by decide)
 have hap181 := OG.off ho174 hb172 (by decide)
 have hap182 := OG.off ho175 hb172 (by decide)
 have hap183 := OG.apart ho175 ho173 (by decide)
 have hap184 := OG.apart ho175 ho174 (by decide)
 clear hQ
 refine wpF_exit (thenF_exit (thenF_exit (inBlockF_hit (tN (hK76 _ _ (sk fun K185 hK185 => (wt (oS rfl (Yk.fieldAt wr35_fo53_4 T3 (oS rfl (Yk.cell1 wr35_ty47 rfl (vr (PQ n2 35) rfl) (cellAt hb172 (show (refsC z)[35]? = some (z.2.log : Value) from refs_g4 z)) (oS rfl (Yk.fieldAt wr35_fo53_4 T3 (oS rfl (Yk.cell1 wr35_ty47 rfl (vr (PQ n2 35) rfl) (cellAt hb172 (show (refsC z)[35]? = some (z.2.log : Value) from refs_g4 z)) (oS rfl (Yk.lenRG wr35_ty47 (RG.of (RG.ofOwn ho175) (vr z.2.log rfl)) (oS rfl (Yk.bin (xv := .int .i64 ((((z.1.log).length : Nat) : Int))) (yv := .int .i64 (((64 : Nat) : Int))) rfl rfl rfl (zi_sub _ ((((z.1.log).length : Nat) : Int)) (((64 : Nat) : Int)) (by omega)) (oS rfl (Yk.maxNI (n := z.1.log.length) (m := 64) (vr (.int .i64 ((((((z.1.log).length : Nat) : Int)) - (((64 : Nat) : Int))) : Int)) rfl) (vr (NI 0) rfl) (oS rfl (Yk.sliceLoW wr35_ty47 wr35_szg122 (vr z.2.log rfl) (RG.ofOwn ho175) (vr (NI (z.1.log.length - 64)) rfl) (by omega) fun v186 hr187 ha188 => ?_)))))))))))))))))))))))
 have hz_ := hE.size
 refine oS rfl (Yk.callA1 wr35_pl75 (vr v186 rfl) ((cloneEnt_any _ v186 ((z.1.log).drop (z.1.log.length - 64)) hr187 (by rw [List.length_drop]; omega)).mono ?_))
 rintro e w192 ⟨v189, rfl, ho190, hx191⟩
 refine ⟨_, rfl, ?_⟩
 have hE := hE.trans hx191
 have hb20 := eb hx191 hb20
 have hmp := hmp.keep hx191
 have hb172 := eb hx191 hb172
 have ho173 := ho173.keep hx191
 have ho174 := ho174.keep hx191
 have ho175 := ho175.keep hx191
 have hr187 := hr187.keep hx191
 have ho190 := OG.low ho190 hz_
 have hap193 := OG.off ho190 hb172 (by decide)
 have hap194 := OG.off ho190 hb20 (by decide)
 refine oS rfl (Yk.fieldAt wr35_fo53_4 T3 (oS rfl (Yk.storeC (i := 35) (v := v189) (vr (PQ n2 35) rfl) (vr v189 rfl) hb172 (by rw [refs_len]; decide) wr35_isz47 (RG.one (RG.ofOwn ho190)).1 (RG.one (RG.ofOwn ho190)).2 fun w195 hb196 hg197 hs198 => ?_)))
 have hE := row_fresh hE hg197 (Nat.le_trans (Nat.le_refl _) (by omega))
 have hb20 := kb hg197 hb20 (by omega)
 have hmp := MapF.other hmp hg197 (some_ne (by omega))
 have ho173 := OG.kept ho173 hg197 hap180
 have ho174 := OG.kept ho174 hg197 hap181
 have ho175 := OG.kept ho175 hg197 hap182
 clear hr187
 have ho190 := OG.kept ho190 hg197 hap193
 clear hb172
 have hb172 : w195.heap[n2]? = some (.cells (refsC ((⟨z.1.branches, z.1.tags, z.1.head, z.1.at_, (z.1.log).drop (z.1.log.length - 64)⟩, ⟨z.2.branches, z.2.tags, v189⟩) : RefsV)).toArray 53 (0, 0)) := blk_eq hb196 (refs_s4 z v189 ((z.1.log).drop (z.1.log.length - 64))); clear hb196
 have hl199 := bl hb172
 refine oZ (tN (hK185 _ _ (sk fun K200 hK200 => (wt (oS rfl (Yk.loadAll T3 hb172 (wr35_ty53).choose_spec rfl (st_isz (refs_len ((⟨z.1.branches, z.1.tags, z.1.head, z.1.at_, (z.1.log).drop (z.1.log.length - 64)⟩, ⟨z.2.branches, z.2.tags, v189⟩) : RefsV)) wr35_isz53) (oS rfl (Yk.storeAll T6 (vr (.agg (refsC ((⟨z.1.branches, z.1.tags, z.1.head, z.1.at_, (z.1.log).drop (z.1.log.length - 64)⟩, ⟨z.2.branches, z.2.tags, v189⟩) : RefsV)).toArray) rfl) hb20 (by simp only [List.size_toArray, refs_len]) (st_isz (refs_len _) wr35_isz53) (refs_one (x := ((⟨z.1.branches, z.1.tags, z.1.head, z.1.at_, (z.1.log).drop (z.1.log.length - 64)⟩, ⟨z.2.branches, z.2.tags, v189⟩) : RefsV)) (RG.one (RG.ofOwn ho173)).2 (RG.one (RG.ofOwn ho174)).2 (RG.one (RG.ofOwn ho190)).2) fun w201 hb202 hg203 hs204 => ?_))))))))
 have hE := row_fresh hE hg203 (Nat.le_trans hz18 (by omega))
 have hmp := MapF.other hmp hg203 (some_ne (by omega))
 have ho173 := OG.kept ho173 hg203 hap176
 have ho174 := OG.kept ho174 hg203 hap177
 have ho175 := OG.kept ho175 hg203 hap178
 have ho190 := OG.kept ho190 hg203 hap194
 have hb172 := kb hg203 hb172 (by omega)
 clear hb20
 have hb20 : w201.heap[n10]? = some (.cells (refsC ((⟨z.1.branches, z.1.tags, z.1.head, z.1.at_, (z.1.log).drop (z.1.log.length - 64)⟩, ⟨z.2.branches, z.2.tags, v189⟩) : RefsV)).toArray 53 (0, 0)) := hb202; clear hb202
 have hl205 := bl hb20
 refine oA rfl (oZ (tN (hK200 _ _ (wpF_ret (postF_ret (fn := Tryd.f26) _ rfl [.agg (refsC ((⟨z.1.branches, z.1.tags, z.1.head, z.1.at_, (z.1.log).drop (z.1.log.length - 64)⟩, ⟨z.2.branches, z.2.tags, v189⟩) : RefsV)).toArray, NI 0] (.tuple #[.agg (refsC ((⟨z.1.branches, z.1.tags, z.1.head, z.1.at_, (z.1.log).drop (z.1.log.length - 64)⟩, ⟨z.2.branches, z.2.tags, v189⟩) : RefsV)).toArray, NI 0]) rfl ⟨ResF.row T6 hb20 (wr35_ty53).choose_spec rfl (st_isz (refs_len _) wr35_isz53), rfl, trivial⟩ ?_)))))
 have hAp := applyP_ok h0c (hrun.trans (runP_end (show l.length ≤ i by omega)))
 exact ⟨⟨z.2.branches, z.2.tags, v189⟩, by rw [hAp]; rfl, by rw [hAp]; exact ⟨ho173, ho174, ho190⟩, hE⟩
open Go.RowKit
section
variable {P : Program} {l : List Oper} {kill : Nat → List Nat} {C : Nat → World → Prop} {R : Nat → World → World → Prop} {Φ : Nat → Fact} {a0 : Act}
theorem tail_anyW {z : Nat} (g : Good l z) {k : Nat} (ht : ∀ i, k ≤ i → i < l.length → ∀ m, k ≤ m → m < i → ((masks l []).getD i 0).testBit m = true) {Q : Exit → Act → World → Prop} :
    ∀ (fuel m : Nat) (listed : Array Bool) (a : Act) (w : World), listed.size = l.length → (∀ i, On listed i ↔ i < m) → k ≤ m → m ≤ l.length → l.length ≤ m + fuel → wpList P l.toArray Q (l.drop m) a w → wpAny P .any l.toArray Q fuel listed a w := by
  have noReady : ∀ (m : Nat) (listed : Array Bool), listed.size = l.length → (∀ i, On listed i ↔ i < m) → l.length ≤ m → Region.ready .any l.toArray listed = [] := by
    intro m listed hsz hon hm
    cases hr : Region.ready .any l.toArray listed with
    | nil => rfl
    | cons x xs =>
      exfalso
      have hmem : x ∈ Region.ready .any l.toArray listed := by rw [hr]; simp
      obtain ⟨h1, o, ho, _⟩ := mem_ready.1 hmem
      have hx : x < l.length := by simpa using (Array.getElem?_eq_some_iff.1 ho).1
      have h2 := (hon x).2 (by omega)
      have hx' : x < listed.size := h2.lt
      unfold On at h2
      simp [hx'] at h1 h2
      rw [h1] at h2
      cases h2
  intro fuel
  induction fuel with
  | zero =>
    intro m listed a w hsz hon hk hm hf hw
    rw [List.drop_of_length_le (by omega)] at hw
    exact ⟨noReady m listed hsz hon (by omega), hw⟩
  | succ fuel ih =>
    intro m listed a w hsz hon hk hm hf hw
    by_cases hml : m = l.length
    · have hr := noReady m listed hsz hon (by omega)
      rw [List.drop_of_length_le (by omega)] at hw
      exact ⟨fun _ => hw, fun i hi => by rw [hr] at hi; cases hi⟩
    · have hlt : m < l.length := by omega
      have hoff : ¬ On listed m := fun x => by have := (hon m).1 x; omega
      have hI : Inv l (fun _ => []) (fun _ _ => True) (fun _ _ => True) (fun _ _ _ => True) a listed a w :=
        ⟨hsz, fun i o ho hi e he hb => (hon _).2 (by have := g.back i o ho e he hb; have := (hon i).1 hi; omega), rfl, rfl, fun _ _ _ => trivial, trivial, fun _ _ => rfl, fun _ _ _ _ _ _ _ _ => trivial⟩
      refine ⟨fun hr => ?_, fun i hi => ?_⟩
      · exfalso
        have ho : l[m]? = some l[m] := List.getElem?_eq_getElem hlt
        have : m ∈ Region.ready .any l.toArray listed := by
          refine mem_ready.2 ⟨?_, l[m], by rw [List.getElem?_toArray]; exact ho, fun e he hb => (hon _).2 (g.back m _ ho e he hb)⟩
          have hm' : m < listed.size := by omega
          unfold On at hoff
          simp [hm'] at hoff ⊢
          exact hoff
        rw [hr] at this
        cases this
      · obtain ⟨h1, o, ho, hall⟩ := mem_ready.1 hi
        have ho' : l[i]? = some o := by simpa using ho
        have hil : i < l.length := (List.getElem?_eq_some_iff.1 ho').1
        have hno : ¬ On listed i := fun x => by
          have hx : i < listed.size := by omega
          unfold On at x
          simp [hx] at h1 x
          rw [h1] at x
          cases x
        have him : i = m := by
          by_cases h2 : i < m
          · exact absurd ((hon i).2 h2) hno
          · by_cases h3 : i = m
            · exact h3
            · exact absurd (hI.maskReady ho' (fun e he hb => hall e he hb) (ht i (by omega) hil m hk (by omega))) hoff
        subst him
        rw [List.drop_eq_getElem_cons hlt] at hw
        obtain rfl : l[i] = o := by rw [List.getElem?_eq_getElem hlt] at ho'; exact Option.some.inj ho'
        have nxt : ∀ a' w', wpList P l.toArray Q (l.drop (i + 1)) a' w' → wpAny P .any l.toArray Q fuel (listed.setIfInBounds i true) a' w' := fun a' w' hw' =>
          ih (i + 1) _ a' w' (by simpa using hsz) (fun j => by rw [on_set (by omega), hon j]; omega) (by omega) (by omega) (by omega) hw'
        unfold wpOp
        simp only [List.getElem?_toArray, ho']
        unfold wpList at hw
        split at hw
        · rename_i hwt
          rw [if_pos hwt]
          exact hw.imp (fun h => Oper.wp_mono nxt h) (fun h => h)
        · rename_i hwt
          rw [if_neg hwt]
          exact nxt _ _ hw
end
def freeE (l : List Oper) (oe : Oper) (e : Nat) : Bool :=
  (List.range l.length).all fun j => match l[j]? with
    | some o => Nat.beq j e || (o.after.any (fun x => Region.binds .any x && x.on == e) || (oe.apart l.toArray o || ((masks l []).getD e 0).testBit j))
    | none => true
def tailE (l : List Oper) (k e : Nat) : Bool := Nat.blt e k && (List.range l.length).all fun i => Nat.blt i k || (List.range i).all fun m => Nat.beq m e || ((masks l []).getD i 0).testBit m
theorem tailE_iff {l : List Oper} {k e : Nat} (h : tailE l k e = true) : e < k ∧ ∀ i, k ≤ i → i < l.length → ∀ m, m < i → m ≠ e → ((masks l []).getD i 0).testBit m = true := by
  unfold tailE at h
  rw [Bool.and_eq_true] at h
  refine ⟨Nat.le_of_ble_eq_true h.1, fun i hi hl m hm hne => ?_⟩
  have h1 := List.all_eq_true.1 h.2 i (by simpa using hl)
  rcases Bool.or_eq_true _ _ ▸ h1 with h2 | h2
  · have := Nat.le_of_ble_eq_true h2
    omega
  · have h3 := List.all_eq_true.1 h2 m (by simpa using hm)
    rcases Bool.or_eq_true _ _ ▸ h3 with h4 | h4
    · exact absurd (Nat.eq_of_beq_eq_true h4) hne
    · exact h4
section
variable {P : Program} {l : List Oper} {Φ : Nat → Fact} {a0 : Act} {w0 : World} {Q : Exit → Act → World → Prop} {e k : Nat} {oe : Oper}
theorem extract_yields {dst : Option Tmp} {t : Tmp} {n : Nat} {ty : TypeId} {pos : String} {af : Array Edge} (he : l[e]? = some ⟨dst, .extract (.tmp t) n, ty, pos, af, none⟩) {K : Act → World → Prop} {a : Act} {w : World}
    (h : wpOp P l.toArray (fun _ _ _ => False) e K a w) : ∃ x, Yields P l.toArray ⟨dst, .extract (.tmp t) n, ty, pos, af, none⟩ x a ∧ K (a.put dst x) w := by
  unfold wpOp at h
  simp only [List.getElem?_toArray, he, Region.wanted, if_true] at h
  rcases h with h | ⟨-, -, -, h⟩
  · unfold Oper.wp at h
    have hr : ∀ v : Value, (∃ x, ∀ w : World, (Instr.extract v n).run P w = .ok x w) ∨ ∀ w : World, ∃ s, (Instr.extract v n).run P w = .halt (.stuck s) w := by
      intro v
      cases v with
      | tuple vs =>
        cases hx : vs[n]? with
        | some x => exact .inl ⟨x, fun w => by simp [Instr.extract, hx]⟩
        | none => exact .inr fun w => ⟨_, by simp only [Instr.extract, hx]; rfl⟩
      | _ => exact .inr fun w => ⟨_, by simp only [Instr.extract]; rfl⟩
    rcases hr (a.eval (.tmp t)) with ⟨x, hx⟩ | hx
    · have he : ∀ w : World, (execOp a.eval ⟨dst, .extract (.tmp t) n, ty, pos, af, none⟩).run P w = .ok (.value x) w := fun w => by
        unfold execOp
        simp only [Sem.run_bind, hx, Result.andThen_ok, Sem.run_pure]
      rw [he] at h
      exact ⟨x, .inl ⟨rfl, he⟩, h⟩
    · obtain ⟨s, hs⟩ := hx w
      have he : (execOp a.eval ⟨dst, .extract (.tmp t) n, ty, pos, af, none⟩).run P w = .halt (.stuck s) w := by
        unfold execOp
        simp only [Sem.run_bind, hs]
        rfl
      rw [he] at h
      exact h.elim
  · exact h.elim
theorem anyInvE (g : Good l a0.tmps.size) (hsel : Region.noSelect l.toArray = true) {d t : Tmp} {n : Nat} {ty : TypeId} {pos : String} {af : Array Edge} (he : l[e]? = some ⟨some d, .extract (.tmp t) n, ty, pos, af, none⟩)
    (hte : tailE l k e = true) (hfr : freeE l ⟨some d, .extract (.tmp t) n, ty, pos, af, none⟩ e = true) (hk : k ≤ l.length) (hst : ∀ i, Stab Ext (Φ i))
    (hs : ∀ i o, l[i]? = some o → i < k → StepOk P l (fun _ => Ext w0) (fun _ => Ext) Φ a0.tmps i o) (hQp : ∀ v c a w, Q (.panic c) (a.put (some d) v) w → Q (.panic c) a w)
    (hQ : ∀ listed a' w', (∀ i, On listed i ↔ i < k) → Inv l (fun _ => []) (fun _ => Ext w0) (fun _ _ => True) Φ a0 listed a' w' → wpList P l.toArray Q (l.drop k) a' w') :
    ∀ (fuel : Nat) (listed : Array Bool) (a : Act) (w : World), (listed.toList.filter (!·)).length = fuel → (∀ i, On listed i → i < k) → e ∉ Region.ready .any l.toArray listed → Inv l (fun _ => []) (fun _ => Ext w0) (fun _ _ => True) Φ a0 listed a w → wpAny P .any l.toArray Q fuel listed a w := by
  obtain ⟨hek, hte⟩ := tailE_iff hte
  have ht : ∀ i, k ≤ i → i < l.length → ∀ m, k ≤ m → m < i → ((masks l []).getD i 0).testBit m = true := fun i hi hl m hkm hm => hte i hi hl m hm (by omega)
  have hkl : killB l (fun _ => []) = true := by unfold killB; simp
  have hC : ∀ n m, n < l.length → m < l.length → n ≠ m → ((masks l []).getD n 0).testBit m = false → ∀ w w', Ext w0 w → Ext w w' → Ext w0 w' := fun _ _ _ _ _ _ _ _ hc hr => hc.trans hr
  have hE : ∀ n listed (w w' : World), n < l.length → listed.size = l.length → ¬ On listed n → (∀ i k, On listed i ∨ i = n → ((masks l []).getD i 0).testBit k = true → On listed k) → True → Ext w w' → True := fun _ _ _ _ _ _ _ _ _ _ => trivial
  have hΦ : ∀ n i, n < l.length → i < l.length → i ∉ ([] : List Nat) → i ≠ n → ((masks l []).getD i 0).testBit n = false → ∀ v w w', Φ i v w → Ext w w' → Φ i v w' := fun _ i _ _ _ _ _ v w w' => hst i v w w'
  have hRr : ∀ (n : Nat) o (w : World), l[n]? = some o → o.guard.isSome = true → Ext w w := fun _ _ w _ _ => Ext.refl w
  intro fuel
  induction fuel using Nat.strongRecOn with
  | _ fuel ih =>
  intro listed a w hf hoff hre h
  by_cases hfull : ∀ i, i < k → On listed i
  · have hon : ∀ i, On listed i ↔ i < k := fun i => ⟨hoff i, hfull i⟩
    refine tail_anyW g ht fuel k listed a w h.size hon (Nat.le_refl _) hk ?_ (hQ listed a w hon h)
    have e1 := List.take_append_drop k listed.toList
    rw [← e1, List.filter_append, List.length_append] at hf
    have e2 : (listed.toList.drop k).filter (!·) = listed.toList.drop k := List.filter_eq_self.2 fun b hb => by
      obtain ⟨j, hj, rfl⟩ := List.getElem_of_mem hb
      rw [List.getElem_drop]
      have hno : ¬ On listed (k + j) := fun x => by have := hoff _ x; omega
      rw [List.length_drop] at hj
      have hlt : k + j < listed.size := by rw [← Array.length_toList]; omega
      unfold On at hno
      simp [hlt] at hno
      simp [hno]
    rw [e2, List.length_drop] at hf
    have hz : listed.toList.length = l.length := by rw [Array.length_toList]; exact h.size
    omega
  · have hunl : ∀ i, i < l.length → ¬ On listed i → listed.getD i true = false := fun i hi hno => by
      have hi' : i < listed.size := by rw [h.size]; exact hi
      unfold On at hno
      simp [hi'] at hno ⊢
      exact hno
    have hlow : ∃ j, j < k ∧ j ≠ e ∧ ¬ On listed j := by
      refine Classical.byContradiction fun hn => hfull fun i hi => Classical.byContradiction fun hx => ?_
      have hall : ∀ j, j < k → j ≠ e → On listed j := fun j hj hje => Classical.byContradiction fun hx => hn ⟨j, hj, hje, hx⟩
      have hie : i = e := Classical.byContradiction fun hne => hx (hall i hi hne)
      subst hie
      refine hre (mem_ready.2 ⟨hunl i (by omega) hx, _, by rw [List.getElem?_toArray]; exact he, fun x hxm hb => ?_⟩)
      have := g.back i _ he x hxm hb
      exact hall x.on (by omega) (by omega)
    obtain ⟨j0, hj0, hj0e, hoff0⟩ := hlow
    have hpos : ∀ (L : Array Bool) i, L.size = l.length → i < l.length → L.getD i true = false → ∃ m, (L.toList.filter (!·)).length = m + 1 ∧ ((L.setIfInBounds i true).toList.filter (!·)).length = m := fun L i hL hi hx => by
      have hi' : i < L.size := by omega
      have := count_set L.toList i (by simp [hi'] at hx; simp [hi', hx])
      exact ⟨_, this.symm, by rw [Array.toList_setIfInBounds]⟩
    obtain ⟨f0, hf0, -⟩ := hpos listed j0 h.size (by omega) (hunl j0 (by omega) hoff0)
    obtain rfl : fuel = f0 + 1 := by omega
    refine ⟨fun hr => ?_, fun i hi => ?_⟩
    · exfalso
      have full : ∀ i, i < l.length → On listed i := by
        intro i
        induction i using Nat.strongRecOn with
        | _ i ih2 =>
          intro hi
          refine Classical.byContradiction fun hno => ?_
          have ho : l[i]? = some l[i] := List.getElem?_eq_getElem hi
          have : i ∈ Region.ready .any l.toArray listed := mem_ready.2 ⟨hunl i hi hno, l[i], by rw [List.getElem?_toArray]; exact ho, fun x hx hb => by
            have hlt := g.back i _ ho x hx hb
            exact ih2 x.on hlt (by omega)⟩
          rw [hr] at this
          cases this
      exact hoff0 (full j0 (by omega))
    · have hie : i ≠ e := fun x => hre (x ▸ hi)
      obtain ⟨h1, o, ho, hall0⟩ := mem_ready.1 hi
      have ho' : l[i]? = some o := by simpa using ho
      have hilt : i < l.length := (List.getElem?_eq_some_iff.1 ho').1
      have hil : i < listed.size := by rw [h.size]; exact hilt
      have hno : ¬ On listed i := by
        unfold On
        simp [hil] at h1 ⊢
        exact h1
      have hall : ∀ x ∈ o.after, Region.binds .any x = true → On listed x.on := fun x hx hb => hall0 x hx hb
      have hik : i < k := by
        by_cases h2 : i < k
        · exact h2
        · exact absurd (h.maskReady ho' hall (hte i (by omega) hilt j0 (by omega) hj0e)) hoff0
      obtain ⟨f1, hf1, hcnt⟩ := hpos listed i h.size hilt h1
      obtain rfl : f1 = f0 := by omega
      refine h.step g hkl hC hE hΦ hRr ho' hno hall (hs i o ho' hik) fun a' w' h' => ?_
      have hoff' : ∀ j, On (listed.setIfInBounds i true) j → j < k := fun j hx => by
        rcases (on_set hil).1 hx with rfl | h3
        · exact hik
        · exact hoff j h3
      by_cases hre' : e ∈ Region.ready .any l.toArray (listed.setIfInBounds i true)
      · obtain ⟨q1, oe', hoe, hq⟩ := mem_ready.1 hre'
        have hoe' : l[e]? = some oe' := by simpa using hoe
        obtain rfl := Option.some.inj (he.symm.trans hoe')
        have helt : e < l.length := by omega
        have hel : e < (listed.setIfInBounds i true).size := by rw [h'.size]; exact helt
        have hnoe : ¬ On (listed.setIfInBounds i true) e := by
          unfold On
          rw [Array.getD_eq_getD_getElem?] at q1 ⊢
          rw [Array.getElem?_eq_getElem hel] at q1 ⊢
          simp only [Option.getD_some] at q1 ⊢
          rw [q1]
          decide
        have hw := h'.step g hkl hC hE hΦ hRr he hnoe (fun x hx hb => hq x hx hb) (hs e _ he hek) (K := fun a2 w2 => Inv l (fun _ => []) (fun _ => Ext w0) (fun _ _ => True) Φ a0 ((listed.setIfInBounds i true).setIfInBounds e true) a2 w2) (Q := fun _ _ _ => False) (fun _ _ hx => hx)
        obtain ⟨x, hy, hK⟩ := extract_yields he hw
        obtain ⟨f2, hf2, hcnt2⟩ := hpos _ e h'.size helt q1
        obtain rfl : f1 = f2 + 1 := by omega
        refine wpAny_first hoe (Region.noSelect_spec hsel) (hQp x) f2 _ a' w' (fun j oj hoj hje hjun hjno => ?_) hre' hy (ih f2 (by omega) _ _ _ hcnt2 (fun j hx => ?_) (fun hx => ?_) hK)
        · have hoj' : l[j]? = some oj := by simpa using hoj
          have hjl : j < l.length := (List.getElem?_eq_some_iff.1 hoj').1
          have hfj := List.all_eq_true.1 hfr j (by simpa using hjl)
          rw [hoj'] at hfj
          simp only [Bool.or_eq_true] at hfj
          rcases hfj with h3 | h3 | h3 | h3
          · exact absurd (Nat.eq_of_beq_eq_true h3) hje
          · obtain ⟨y, hy1, hy2⟩ := Array.any_eq_true'.1 h3
            simp only [Bool.and_eq_true, beq_iff_eq] at hy2
            exact absurd hy2.2 (hjno y hy1 hy2.1)
          · exact h3
          · have hon := h'.maskReady he (fun x hx hb => hq x hx hb) h3
            have hjl' := hon.lt
            unfold On at hon
            rw [Array.getD_eq_getD_getElem?, Array.getElem?_eq_getElem hjl'] at hon hjun
            simp only [Option.getD_some] at hon hjun
            rw [hon] at hjun
            cases hjun
        · rcases (on_set hel).1 hx with rfl | h3
          · exact hek
          · exact hoff' j h3
        · have := (mem_ready.1 hx).1
          simp [hel] at this
      · exact ih f1 (by omega) _ _ _ hcnt hoff' hre' h'
end
section
variable {P : Program} {n : Nat} {ρ : Slots} {w : World} {Q : PostF}
theorem wpF_draw_late {l r : List Oper} (e k0 : Nat) (Φs : List Fact) {id : Nat} (hm : P.follows .mixedOrders = true) (ds : List Tmp) (hg : goodB l n = true) {d t : Tmp} {m : Nat} {ty : TypeId} {pos : String} {af : Array Edge} (he : l[e]? = some ⟨some d, .extract (.tmp t) m, ty, pos, af, none⟩) (hsel : Region.noSelect l.toArray = true)
    (hn : tailE l k0 e = true) (hfr : freeE l ⟨some d, .extract (.tmp t) m, ty, pos, af, none⟩ e = true) (haf : af.any (fun x => Region.binds .any x) = true) (hk0 : Nat.ble Φs.length k0 = true) (hds : slotsW l = ds) (hr : (l.drop k0) = r) (hlt : Nat.blt k0 l.length = true) (hst : AllStab Ext Φs)
    (hQp : ∀ c ρ ρ' w, Q (.panic c) ρ w → Q (.panic c) ρ' w)
    (hs : StepsFC P l k0 (fun _ => Ext w) (fun _ => Ext) (facts Φs) ρ 0 l)
    (hQ : ∀ (ρ' : Slots) w1, Ext w w1 → EndF ds ρ ρ' → EndFacts l (fun _ => []) (facts Φs) ρ' w1 ds → opsF P l.toArray n Q r ρ' w1) : wpF P n (.region id l.toArray true) Q ρ w := by
  intro a ha
  obtain ⟨T, df⟩ := a
  have hz : T.size = n := ha.size
  subst hz
  have hk1 : k0 < l.length := Nat.le_of_ble_eq_true hlt
  have g := good_of hg
  have hno0 : ∀ i, ¬ On (Array.replicate l.toArray.size false) i := fun i h => by
    unfold On at h
    rw [Array.getD_eq_getD_getElem?, Array.getElem?_replicate] at h
    split at h <;> simp at h
  refine wp_region_any hm (anyInvE (a0 := { tmps := T, defers := df }) (w0 := w) (Φ := facts Φs) g hsel he hn hfr (Nat.le_of_lt hk1) (fun i => hst.get Φs i) (fun i o ho hi => ?_) (fun v c a' w' hx => ?_) (fun listed a' w' hon h => ?_) _ _ _ _ (by simp) (fun i h => absurd h (hno0 i)) ?_ ?_)
  · have hst := StepsFC.get l 0 hs i o ho (by omega)
    rw [Nat.zero_add] at hst
    have h2 := StepsF.ok (P := P) (l := l) (C := fun _ => Ext w) (R := fun _ => Ext) (Φ := facts Φs) (T := T) ha.get [o] i ⟨hst, trivial⟩
    exact h2.1
  · obtain ⟨ρ', hf, hq⟩ := hx
    exact ⟨fun t => a'.tmps.getD t undef, ⟨by have := hf.size; simpa [Act.put] using this, by have := hf.defers; simpa [Act.put] using this, fun _ => rfl⟩, hQp _ _ _ _ hq⟩
  · have hw : ∀ d k, writer l d l.length = some k → (List.range l.length).all (fun n => !([] : List Nat).contains k) = true → facts Φs k (a'.tmps.getD d undef) w' := fun d k hk hall => by
      obtain ⟨h1, ⟨o, ho, hd'⟩, h3⟩ := writer_some _ hk
      by_cases hkL : k0 ≤ k
      · have e : facts Φs k = fun _ _ => True := by
          have := Nat.le_of_ble_eq_true hk0
          unfold facts
          rw [List.getD_eq_getElem?_getD, List.getElem?_eq_none (by omega)]
          rfl
        rw [e]
        trivial
      exact h.new d k o ho hd' ((hon k).2 (by omega)) (fun k' o' hkk ho' hd'' _ => h3 k' o' hkk (List.getElem?_eq_some_iff.1 ho').1 ho' hd'') (fun n hn => by simp)
    have hget : ∀ t, a'.tmps.getD t undef = if t ∈ ds then a'.tmps.getD t undef else ρ t := fun t => by
      by_cases hn : t ∈ ds
      · rw [if_pos hn]
      · rw [if_neg hn, ← ha.get]
        exact h.old t fun k o ho hd _ => hn (by
          rw [← hds]
          unfold slotsW
          rw [List.mem_eraseDups, List.mem_filterMap]
          exact ⟨o, List.mem_of_getElem? ho, hd⟩)
    have hcl := h.cls k0 hk1 (fun x => by have := (hon k0).1 x; omega)
    have hend : EndF ds ρ (fun t => a'.tmps.getD t undef) := ⟨fun t ht => by rw [hget t, if_neg (by simpa using ht)]⟩
    have := hQ (fun t => a'.tmps.getD t undef) w' hcl hend (endFacts_of hw ds)
    rw [hr]
    exact this a' ⟨h.tmps, h.defers.trans ha.defers, fun t => rfl⟩
  · intro hx
    obtain ⟨-, o, ho, hall⟩ := mem_ready.1 hx
    obtain rfl := Option.some.inj (he.symm.trans (by simpa using ho))
    obtain ⟨x, hx1, hx2⟩ := Array.any_eq_true'.1 haf
    exact hno0 _ (hall x hx1 hx2)
  · exact ⟨Array.size_replicate, fun i o _ h => absurd h (hno0 i), rfl, rfl, fun n hn _ => (Below.refl _ _).drew, trivial, fun t _ => rfl, fun t k o _ _ h => absurd h (hno0 k)⟩
end
open Go.RowKit
set_option maxRecDepth 100000
theorem apply_to {w : World} {z : RefsV} {lv : Value} {l : List Upd} {note : Bs} {R : Refs} {n : Nat} (hA : applyP z.1 l note = (n, R)) (hm : RefsAt w z) (hL : RefsLt z.1) (hr : RG 66 updC w lv l) (hl : l.length ≤ 1000) (hln : ∀ u ∈ l, u.name.length ≤ 9223372036854775807) :
  Calls Tryd.prog 26 #[.agg (refsC z).toArray, lv, St note] w fun e w' => ∃ v, e = .returned (.tuple #[.agg (refsC (R, v)).toArray, NI n]) ∧ RefsOw w.heap.size w' (R, v) ∧ Ext w w' := by
 have h := apply20_any w z hm hL lv l hr hl hln note
 rw [hA] at h
 exact h
theorem look_to {w : World} {z : RefsV} {i : Id32} {n : Nat} (hA : look0P z.1 = (i, n)) (hm : RefsAt w z) (hL : RefsLt z.1) :
  Calls Tryd.prog 39 #[.agg (refsC z).toArray, St []] w fun e w' => e = .returned (.tuple #[AB i.1, NI n]) ∧ Ext w w' := by
 have h := look0_any w z hm hL
 rw [hA] at h
 exact h
theorem begin_lt : RefsLt beginV.1 := ⟨by decide, by decide, by decide, by decide, by decide, by decide⟩
theorem r1_lt : RefsLt r1 := ⟨by decide, by decide, by decide, by decide, by decide, by decide⟩
theorem wr37_bs67_0_1_3h (z0 : Int) (z1 : ByteArray) (c3_0 c3_1 c3_2 c3_3 c3_4 c3_5 c3_6 c3_7 c3_8 c3_9 c3_10 c3_11 c3_12 c3_13 c3_14 c3_15 c3_16 c3_17 c3_18 c3_19 c3_20 c3_21 c3_22 c3_23 c3_24 c3_25 c3_26 c3_27 c3_28 c3_29 c3_30 c3_31 : Value) (w : World) : (Instr.build 67 #[(0, .int .u8 z0), (1, .string z1), (3, .agg #[c3_0, c3_1, c3_2, c3_3, c3_4, c3_5, c3_6, c3_7, c3_8, c3_9, c3_10, c3_11, c3_12, c3_13, c3_14, c3_15, c3_16, c3_17, c3_18, c3_19, c3_20, c3_21, c3_22, c3_23, c3_24, c3_25, c3_26, c3_27, c3_28, c3_29, c3_30, c3_31])]).run Tryd.prog w = .ok (.agg #[.int .u8 z0, .string z1, .int .u8 0, .int .u8 0, .int .u8 0, .int .u8 0, .int .u8 0, .int .u8 0, .int .u8 0, .int .u8 0, .int .u8 0, .int .u8 0, .int .u8 0, .int .u8 0, .int .u8 0, .int .u8 0, .int .u8 0, .int .u8 0, .int .u8 0, .int .u8 0, .int .u8 0, .int .u8 0, .int .u8 0, .int .u8 0, .int .u8 0, .int .u8 0, .int .u8 0, .int .u8 0, .int .u8 0, .int .u8 0, .int .u8 0, .int .u8 0, .int .u8 0, .int .u8 0, c3_0, c3_1, c3_2, c3_3, c3_4, c3_5, c3_6, c3_7, c3_8, c3_9, c3_10, c3_11, c3_12, c3_13, c3_14, c3_15, c3_16, c3_17, c3_18, c3_19, c3_20, c3_21, c3_22, c3_23, c3_24, c3_25, c3_26, c3_27, c3_28, c3_29, c3_30, c3_31]) w := by kernel_rfl
theorem wr37_bs67_0_1_3 (z0 : UInt8) (z1 : List UInt8) (z3 : Id32) (w : World) : (Instr.build 67 #[(0, B8 z0), (1, St z1), (3, AB z3.1)]).run Tryd.prog w = .ok (.agg (B8 (z0) :: (St (z1) :: (Lib.byteCells zid.1 ++ (Lib.byteCells z3.1)))).toArray) w := by
 obtain ⟨z3, k3⟩ := z3
 obtain ⟨a3_0, a3_1, a3_2, a3_3, a3_4, a3_5, a3_6, a3_7, a3_8, a3_9, a3_10, a3_11, a3_12, a3_13, a3_14, a3_15, a3_16, a3_17, a3_18, a3_19, a3_20, a3_21, a3_22, a3_23, a3_24, a3_25, a3_26, a3_27, a3_28, a3_29, a3_30, a3_31, rfl⟩ := list32 k3
 exact wr37_bs67_0_1_3h _ _ _ _ _ _ _ _ _ _ _ _ _ _ _ _ _ _ _ _ _ _ _ _ _ _ _ _ _ _ _ _ _ _ w
theorem wr37_al67 {d : Option Tmp} {ty : TypeId} {pos : String} {af : Array Edge} {gd : Option (Nat × Bool)} (σ : Operand → Value) (w : World) : (execOp σ ⟨d, .alloc 67, ty, pos, af, gd⟩).run Tryd.prog w = .ok (.value (PQ w.heap.size 0)) (w.alloc (.cells (updC (⟨0, [], zid, zid⟩ : Upd)).toArray 67)) := by kernel_rfl
theorem wr37_isz67 : (Tryd.prog.info? 67).map (·.size) = some 66 := by kernel_rfl
theorem wr37_pl33 : Plain Tryd.prog 33 := fun _ _ => by kernel_rfl
theorem wr37_ty67 : ∃ fs, Tryd.prog.underlying 67 = some (.struct fs) := struct_of (by kernel_rfl)
theorem wr37_lh22 (c0 c1 c2 c3 c4 c5 c6 c7 c8 c9 c10 c11 c12 c13 c14 c15 c16 c17 c18 c19 c20 c21 c22 c23 c24 c25 c26 c27 c28 c29 c30 c31 c32 c33 c34 c35 c36 c37 c38 c39 c40 c41 c42 c43 c44 c45 c46 c47 c48 c49 c50 c51 c52 c53 c54 c55 c56 c57 c58 c59 c60 c61 c62 c63 c64 c65 : Value) (w : World) : (Instr.buildSlice 22 1 #[(0, .agg #[c0, c1, c2, c3, c4, c5, c6, c7, c8, c9, c10, c11, c12, c13, c14, c15, c16, c17, c18, c19, c20, c21, c22, c23, c24, c25, c26, c27, c28, c29, c30, c31, c32, c33, c34, c35, c36, c37, c38, c39, c40, c41, c42, c43, c44, c45, c46, c47, c48, c49, c50, c51, c52, c53, c54, c55, c56, c57, c58, c59, c60, c61, c62, c63, c64, c65])]).run Tryd.prog w = .ok (.slice (some ⟨w.heap.size, 0, none⟩) 1 1) (w.alloc (.cells #[c0, c1, c2, c3, c4, c5, c6, c7, c8, c9, c10, c11, c12, c13, c14, c15, c16, c17, c18, c19, c20, c21, c22, c23, c24, c25, c26, c27, c28, c29, c30, c31, c32, c33, c34, c35, c36, c37, c38, c39, c40, c41, c42, c43, c44, c45, c46, c47, c48, c49, c50, c51, c52, c53, c54, c55, c56, c57, c58, c59, c60, c61, c62, c63, c64, c65] 67)) := by kernel_rfl
theorem wr37_lg22 : ∀ (cs : Array Value), cs.size = 66 → ∀ w : World, (Instr.buildSlice 22 1 #[(0, .agg cs)]).run Tryd.prog w = .ok (.slice (some ⟨w.heap.size, 0, none⟩) 1 1) (w.alloc (.cells cs 67))
 | ⟨c0 :: c1 :: c2 :: c3 :: c4 :: c5 :: c6 :: c7 :: c8 :: c9 :: c10 :: c11 :: c12 :: c13 :: c14 :: c15 :: c16 :: c17 :: c18 :: c19 :: c20 :: c21 :: c22 :: c23 :: c24 :: c25 :: c26 :: c27 :: c28 :: c29 :: c30 :: c31 :: c32 :: c33 :: c34 :: c35 :: c36 :: c37 :: c38 :: c39 :: c40 :: c41 :: c42 :: c43 :: c44 :: c45 :: c46 :: c47 :: c48 :: c49 :: c50 :: c51 :: c52 :: c53 :: c54 :: c55 :: c56 :: c57 :: c58 :: c59 :: c60 :: c61 :: c62 :: c63 :: c64 :: c65 :: []⟩, _, w => wr37_lh22 c0 c1 c2 c3 c4 c5 c6 c7 c8 c9 c10 c11 c12 c13 c14 c15 c16 c17 c18 c19 c20 c21 c22 c23 c24 c25 c26 c27 c28 c29 c30 c31 c32 c33 c34 c35 c36 c37 c38 c39 c40 c41 c42 c43 c44 c45 c46 c47 c48 c49 c50 c51 c52 c53 c54 c55 c56 c57 c58 c59 c60 c61 c62 c63 c64 c65 w
theorem wr37_pl26 : Plain Tryd.prog 26 := fun _ _ => by kernel_rfl
theorem wr37_al53 {d : Option Tmp} {ty : TypeId} {pos : String} {af : Array Edge} {gd : Option (Nat × Bool)} (σ : Operand → Value) (w : World) : (execOp σ ⟨d, .alloc 53, ty, pos, af, gd⟩).run Tryd.prog w = .ok (.value (PQ w.heap.size 0)) (w.alloc (.cells (refsC ((⟨[], [], [], zid, []⟩, ⟨.slice none 0 0, .slice none 0 0, .slice none 0 0⟩) : RefsV)).toArray 53)) := by kernel_rfl
theorem wr37_isz53 : (Tryd.prog.info? 53).map (·.size) = some 36 := by kernel_rfl
theorem wr37_ty53 : ∃ fs, Tryd.prog.underlying 53 = some (.struct fs) := struct_of (by kernel_rfl)
theorem wr37_pl39 : Plain Tryd.prog 39 := fun _ _ => by kernel_rfl
theorem wr37_al25 {d : Option Tmp} {ty : TypeId} {pos : String} {af : Array Edge} {gd : Option (Nat × Bool)} (σ : Operand → Value) (w : World) : (execOp σ ⟨d, .alloc 25, ty, pos, af, gd⟩).run Tryd.prog w = .ok (.value (PQ w.heap.size 0)) (w.alloc (.cells (Lib.byteCells (List.replicate 32 0)).toArray 25)) := by kernel_rfl
theorem wr37_bs67_0_1_2h (z0 : Int) (z1 : ByteArray) (c2_0 c2_1 c2_2 c2_3 c2_4 c2_5 c2_6 c2_7 c2_8 c2_9 c2_10 c2_11 c2_12 c2_13 c2_14 c2_15 c2_16 c2_17 c2_18 c2_19 c2_20 c2_21 c2_22 c2_23 c2_24 c2_25 c2_26 c2_27 c2_28 c2_29 c2_30 c2_31 : Value) (w : World) : (Instr.build 67 #[(0, .int .u8 z0), (1, .string z1), (2, .agg #[c2_0, c2_1, c2_2, c2_3, c2_4, c2_5, c2_6, c2_7, c2_8, c2_9, c2_10, c2_11, c2_12, c2_13, c2_14, c2_15, c2_16, c2_17, c2_18, c2_19, c2_20, c2_21, c2_22, c2_23, c2_24, c2_25, c2_26, c2_27, c2_28, c2_29, c2_30, c2_31])]).run Tryd.prog w = .ok (.agg #[.int .u8 z0, .string z1, c2_0, c2_1, c2_2, c2_3, c2_4, c2_5, c2_6, c2_7, c2_8, c2_9, c2_10, c2_11, c2_12, c2_13, c2_14, c2_15, c2_16, c2_17, c2_18, c2_19, c2_20, c2_21, c2_22, c2_23, c2_24, c2_25, c2_26, c2_27, c2_28, c2_29, c2_30, c2_31, .int .u8 0, .int .u8 0, .int .u8 0, .int .u8 0, .int .u8 0, .int .u8 0, .int .u8 0, .int .u8 0, .int .u8 0, .int .u8 0, .int .u8 0, .int .u8 0, .int .u8 0, .int .u8 0, .int .u8 0, .int .u8 0, .int .u8 0, .int .u8 0, .int .u8 0, .int .u8 0, .int .u8 0, .int .u8 0, .int .u8 0, .int .u8 0, .int .u8 0, .int .u8 0, .int .u8 0, .int .u8 0, .int .u8 0, .int .u8 0, .int .u8 0, .int .u8 0]) w := by kernel_rfl
theorem wr37_bs67_0_1_2 (z0 : UInt8) (z1 : List UInt8) (z2 : Id32) (w : World) : (Instr.build 67 #[(0, B8 z0), (1, St z1), (2, AB z2.1)]).run Tryd.prog w = .ok (.agg (B8 (z0) :: (St (z1) :: (Lib.byteCells z2.1 ++ (Lib.byteCells zid.1)))).toArray) w := by
 obtain ⟨z2, k2⟩ := z2
 obtain ⟨a2_0, a2_1, a2_2, a2_3, a2_4, a2_5, a2_6, a2_7, a2_8, a2_9, a2_10, a2_11, a2_12, a2_13, a2_14, a2_15, a2_16, a2_17, a2_18, a2_19, a2_20, a2_21, a2_22, a2_23, a2_24, a2_25, a2_26, a2_27, a2_28, a2_29, a2_30, a2_31, rfl⟩ := list32 k2
 exact wr37_bs67_0_1_2h _ _ _ _ _ _ _ _ _ _ _ _ _ _ _ _ _ _ _ _ _ _ _ _ _ _ _ _ _ _ _ _ _ _ w
theorem wr37_ty25 : Tryd.prog.underlying 25 = some (.array 32 5) := by kernel_rfl
theorem wr37_eg25 : Tryd.prog.eqGuardType Tryd.prog.depth 25 = false := by kernel_rfl
theorem wr37_ty5 : Tryd.prog.underlying 5 = some (.int .u8) := by kernel_rfl
theorem wr37_sz5 : ∀ w' : World, (sizeOf 5).run Tryd.prog w' = .ok 1 w' := fun _ => by kernel_rfl
theorem wr37_fo53_4 : FieldOff Tryd.prog 53 4 35 := fun b o w => by simp [go_sem]
theorem wr37_ty47 : Tryd.prog.underlying 47 = some (.slice 122) := by kernel_rfl
set_option maxHeartbeats 1600000
theorem awake20 (w : World) :
  Calls Tryd.prog 35 #[] w fun e w' => e = .returned (.bool true) ∧ Ext w w' := by
 refine calls_of_wpF (args := []) Tryd.func35 rfl 64 rfl (Nat.le_of_ble_eq_true rfl) ?_
 intro ρ0 hb
 clear hb
 have hE := Ext.refl w
 refine sk fun K1 hK1 => (wt (oA rfl (oZ (tN (hK1 _ _ (sk fun K2 hK2 => (wt (oS rfl (Yk.run (v := AB id1.1) (by kernel_rfl) (oS rfl (Yk.build3 (vr (B8 (1)) rfl) (vr (St (([109, 97, 105, 110] : List UInt8))) rfl) (vr (AB id1.1) rfl) (fun w => wr37_bs67_0_1_3 1 ([109, 97, 105, 110] : List UInt8) id1 w) (oS rfl (Yk.alloc (cs := (updC (⟨0, [], zid, zid⟩ : Upd)).toArray) wr37_al67 fun n3 w4 hn5 hb6 hx7 hs8 => ?_)))))))))))))
 have hE := hE.trans hx7
 have hb9 := hb6; clear hb6
 have hl10 : n3 < w4.heap.size := by omega
 refine oS rfl (Yk.storeAll (vr (PQ n3 0) rfl) (vr (.agg (updC (⟨1, ([109, 97, 105, 110] : List UInt8), zid, id1⟩ : Upd)).toArray) rfl) hb9 (by simp only [List.size_toArray, upd_len]) (st_isz (upd_len _) wr37_isz67) (upd_one (x := (⟨1, ([109, 97, 105, 110] : List UInt8), zid, id1⟩ : Upd))) fun w11 hb12 hg13 hs14 => ?_)
 have hE := row_fresh hE hg13 (Nat.le_trans (Nat.le_refl _) (by omega))
 clear hb9
 have hb9 : w11.heap[n3]? = some (.cells (updC (⟨1, ([109, 97, 105, 110] : List UInt8), zid, id1⟩ : Upd)).toArray 67 (0, 0)) := hb12; clear hb12
 have hl15 := bl hb9
 refine oZ (tN (hK2 _ _ (sk fun K16 hK16 => ?_)))
 have hA17 := Ext.refl w11
 have hea18 := hE
 have hz19 := hE.size
 have hlt20 : n3 < w11.heap.size := (bl hb9)
 refine wpF_draw_late 6 8 [Is (.agg (refsC beginV).toArray), Is (.agg (updC (⟨1, ([109, 97, 105, 110] : List UInt8), zid, id1⟩ : Upd)).toArray), fun x w' => RG 66 (updC) w' x ([(⟨1, ([109, 97, 105, 110] : List UInt8), zid, id1⟩ : Upd)]), fun x w' => ∃ v, x = .tuple #[.agg (refsC (r1, v)).toArray, NI 0] ∧ RefsOw 0 w' (r1, v), fun x w' => ∃ v, x = .tuple #[.agg (refsC (r1, v)).toArray, NI 0] ∧ RefsOw 0 w' (r1, v), fun x w' => ∃ v, x = .agg (refsC (r1, v)).toArray ∧ RefsOw 0 w' (r1, v), Is (NI 0), fun x w' => ∃ g, x = PQ g 0 ∧ w'.heap[g]? = some (.cells (refsC ((⟨[], [], [], zid, []⟩, ⟨.slice none 0 0, .slice none 0 0, .slice none 0 0⟩) : RefsV)).toArray 53 (0, 0)) ∧ w11.heap.size ≤ g] (by kernel_rfl) [13, 14, 15, 16, 12, 17, 18, 2, 3] (by kernel_rfl) rfl (by kernel_rfl) (by kernel_rfl) (by kernel_rfl) (by kernel_rfl) (by kernel_rfl) (by kernel_rfl) rfl rfl (si2 ⟨(fun _ _ _ h k => RG.keep h k), (fun _ _ _ ⟨v, h1, h2⟩ k => ⟨v, h1, h2.keep k⟩), (fun _ _ _ ⟨v, h1, h2⟩ k => ⟨v, h1, h2.keep k⟩), (fun _ _ _ ⟨v, h1, h2⟩ k => ⟨v, h1, h2.keep k⟩), Stab.is _, (fun _ _ _ ⟨g, h1, h2, h3⟩ k => ⟨g, h1, eb k h2, h3⟩), trivial⟩) (fun _ _ _ _ h => h) ?hs1002 ?hQ1002
 case hs1002 =>
  refine ⟨?_, ?_, ?_, ?_, ?_, ?_, ?_, ?_, ?_, ?_, trivial⟩
  ·refine stepFC (stepN rfl fun σ w1 hC h => (Yk.callA0 wr37_pl33  ((begin_any _).mono ?_)))
   rintro e w2 ⟨rfl, hx⟩
   exact ⟨_, rfl, hx, rfl⟩
  ·refine stepFC (stepN rfl fun σ w1 hC h => ?_)
   have e1 : σ 1 = PQ n3 0 := (eqo (h 1 (by decide))).trans rfl
   exact Yk.loadAll e1 (eb hC hb9) (wr37_ty67).choose_spec rfl (st_isz (upd_len (⟨1, ([109, 97, 105, 110] : List UInt8), zid, id1⟩ : Upd)) wr37_isz67) ⟨Ext.refl _, rfl⟩
  ·refine stepFC (stepN rfl fun σ w1 hC h => ?_)
   have e14 := eqo (h 14 (by decide))
   exact Yk.lit1G (a := (⟨1, ([109, 97, 105, 110] : List UInt8), zid, id1⟩ : Upd)) (enc := updC) e14 (upd_len _) wr37_lg22 fun v w2 h hx => ⟨hx, h⟩
  ·refine stepFC (stepN rfl fun σ w1 hC h => ?_)
   have e13 := eqo (h 13 (by decide))
   have e15 : (fun x w' => RG 66 (updC) w' x ([(⟨1, ([109, 97, 105, 110] : List UInt8), zid, id1⟩ : Upd)])) (σ 15) w1 := h 15 (by decide)
   refine Yk.callA3 wr37_pl26 e13 rfl (vr (St (([102, 105, 114, 115, 116] : List UInt8))) rfl) ((apply_to apply_1 (lv := σ 15) (z := beginV) ⟨RG.nil _ _ _, RG.nil _ _ _, RG.nil _ _ _⟩ begin_lt e15 (by decide) (by decide)).mono ?_)
   rintro e w2 ⟨v, rfl, hR, hx⟩
   exact ⟨_, rfl, hx, v, rfl, hR.zero⟩
  ·refine stepFC (stepN rfl fun σ w1 hC h => ?_)
   have e16 : (fun x w' => ∃ v, x = .tuple #[.agg (refsC (r1, v)).toArray, NI 0] ∧ RefsOw 0 w' (r1, v)) (σ 16) w1 := h 16 (by decide)
   exact Yk.move rfl ⟨Ext.refl _, e16⟩
  ·refine stepFC (stepN rfl fun σ w1 hC h => ?_)
   have e12 : (fun x w' => ∃ v, x = .tuple #[.agg (refsC (r1, v)).toArray, NI 0] ∧ RefsOw 0 w' (r1, v)) (σ 12) w1 := h 12 (by decide)
   obtain ⟨v0, h1_, h2_⟩ := e12
   exact Yk.extract (vs := [.agg (refsC (r1, v0)).toArray, NI 0]) h1_ (show _ = some (Value.agg (refsC (r1, v0)).toArray) from rfl) ⟨Ext.refl _, v0, rfl, h2_⟩
  ·refine stepFC (stepN rfl fun σ w1 hC h => ?_)
   have e12 : (fun x w' => ∃ v, x = .tuple #[.agg (refsC (r1, v)).toArray, NI 0] ∧ RefsOw 0 w' (r1, v)) (σ 12) w1 := h 12 (by decide)
   obtain ⟨v0, h1_, h2_⟩ := e12
   exact Yk.extract (vs := [.agg (refsC (r1, v0)).toArray, NI 0]) h1_ (show _ = some (NI 0 : Value) from rfl) ⟨Ext.refl _, rfl⟩
  ·refine stepFC (stepN rfl fun σ w1 hC h => ?_)
   exact Yk.alloc (cs := (refsC ((⟨[], [], [], zid, []⟩, ⟨.slice none 0 0, .slice none 0 0, .slice none 0 0⟩) : RefsV)).toArray) wr37_al53 fun g w2 hn hb hx hs => ⟨hx, g, rfl, hb, Nat.le_trans (show Ext w11 w1 from hC).size (Nat.le_of_eq hn)⟩
  ·exact trivial
  ·exact trivial
 intro ρ21 w22 hx23 he hf
 obtain ⟨-, -, -, -, -, k17, k18, k2, -⟩ := hf
 obtain ⟨T0, T1, -⟩ := he.hold [(0, .bool (false)), (1, PQ n3 0)] ⟨rfl, rfl, trivial⟩ rfl
 clear he
 have hE := hE.trans hx23
 have hb9 := eb hx23 hb9
 have hA17 := hA17.trans hx23
 have k17 : (fun x w' => ∃ v, x = .agg (refsC (r1, v)).toArray ∧ RefsOw 0 w' (r1, v)) (ρ21 17) w22 := k17
 obtain ⟨v24, T17⟩ : ∃ v, ρ21 17 = v := ⟨_, rfl⟩
 rw [T17] at k17
 have hk25 := k17; clear k17
 obtain ⟨v26, hq_, hR27⟩ := hk25
 rw [hq_] at T17; clear hq_
 have ho28 : OG 0 70 33 nmdC w22 v26.branches r1.branches := OG.low hR27.br (Nat.zero_le _)
 have hap29 := OG.off ho28 hb9 (by decide)
 have ho30 : OG 0 70 33 nmdC w22 v26.tags r1.tags := OG.low hR27.tg (Nat.zero_le _)
 have hap31 := OG.off ho30 hb9 (by decide)
 have ho32 : OG 0 122 67 entC w22 v26.log r1.log := OG.low hR27.lg (Nat.zero_le _)
 have hap33 := OG.off ho32 hb9 (by decide)
 have T18 : ρ21 18 = NI 0 := k18
 have k2 : (fun x w' => ∃ g, x = PQ g 0 ∧ w'.heap[g]? = some (.cells (refsC ((⟨[], [], [], zid, []⟩, ⟨.slice none 0 0, .slice none 0 0, .slice none 0 0⟩) : RefsV)).toArray 53 (0, 0)) ∧ w11.heap.size ≤ g) (ρ21 2) w22 := k2
 obtain ⟨v34, T2⟩ : ∃ v, ρ21 2 = v := ⟨_, rfl⟩
 rw [T2] at k2
 have hk35 := k2; clear k2
 obtain ⟨n36, rfl, hb37, hn38⟩ := hk35
 have hl39 := bl hb37
 clear k18
 have hap40 := OG.off ho28 hb37 (by decide)
 have hap41 := OG.off ho30 hb37 (by decide)
 have hap42 := OG.off ho32 hb37 (by decide)
 refine oS rfl (Yk.storeAll T2 T17 hb37 (by simp only [List.size_toArray, refs_len]) (st_isz (refs_len _) wr37_isz53) (refs_one (x := (r1, v26)) (RG.one (RG.ofOwn ho28)).2 (RG.one (RG.ofOwn ho30)).2 (RG.one (RG.ofOwn ho32)).2) fun w43 hb44 hg45 hs46 => ?_)
 have hE := row_fresh hE hg45 (Nat.le_trans hz19 (by omega))
 have hb9 := kb hg45 hb9 (by omega)
 have hA17 := row_fresh hA17 hg45 (Nat.le_trans (Nat.le_refl _) (by omega))
 have ho28 := OG.kept ho28 hg45 hap40
 have ho30 := OG.kept ho30 hg45 hap41
 have ho32 := OG.kept ho32 hg45 hap42
 clear hb37
 have hb37 : w43.heap[n36]? = some (.cells (refsC (r1, v26)).toArray 53 (0, 0)) := hb44; clear hb44
 have hl47 := bl hb37
 refine oA rfl (oZ (tN (hK16 _ _ (sk fun K48 hK48 => (wt (oS rfl (Yk.loadAll T2 hb37 (wr37_ty53).choose_spec rfl (st_isz (refs_len (r1, v26)) wr37_isz53) (oS rfl (Yk.callA2 wr37_pl39 (vr (.agg (refsC (r1, v26)).toArray) rfl) (vr (St (([] : List UInt8))) rfl) ((look_to look_1 ⟨RG.ofOwn ho28, RG.ofOwn ho30, RG.ofOwn ho32⟩ r1_lt).mono ?_))))))))))
 rintro e w50 ⟨rfl, hx49⟩
 refine ⟨_, rfl, ?_⟩
 have hE := hE.trans hx49
 have hb9 := eb hx49 hb9
 have hA17 := hA17.trans hx49
 have ho28 := ho28.keep hx49
 have ho30 := ho30.keep hx49
 have ho32 := ho32.keep hx49
 have hb37 := eb hx49 hb37
 refine oM rfl (oS rfl (Yk.extract (vs := [AB id1.1, NI 0]) (vr (.tuple #[AB id1.1, NI 0]) rfl) (show _ = some (AB id1.1 : Value) from rfl) (oS rfl (Yk.extract (vs := [AB id1.1, NI 0]) (vr (.tuple #[AB id1.1, NI 0]) rfl) (show _ = some (NI 0 : Value) from rfl) (oS rfl (Yk.alloc (cs := (Lib.byteCells (List.replicate 32 0)).toArray) wr37_al25 fun n51 w52 hn53 hb54 hx55 hs56 => ?_))))))
 have hA57 := Ext.refl w50
 have hea58 := hE
 have hea59 := hA17
 have hz60 := hE.size
 have hz61 := hA17.size
 have hlt62 := lte (bl hb9) hn53
 have hlt63 := lte (bl hb37) hn53
 have hap64 : OB v26.branches n51 := own_newer ho28.2 (by omega)
 have hap65 : OB v26.tags n51 := own_newer ho30.2 (by omega)
 have hap66 : OB v26.log n51 := own_newer ho32.2 (by omega)
 have hE := hE.trans hx55
 have hb9 := eb hx55 hb9
 have hA17 := hA17.trans hx55
 have ho28 := ho28.keep hx55
 have ho30 := ho30.keep hx55
 have ho32 := ho32.keep hx55
 have hb37 := eb hx55 hb37
 have hA57 := hA57.trans hx55
 have hb67 := hb54; clear hb54
 have hl68 : n51 < w52.heap.size := by omega
 have hap69 := OG.off ho28 hb67 (by decide)
 have hap70 := OG.off ho30 hb67 (by decide)
 have hap71 := OG.off ho32 hb67 (by decide)
 have hap72 := OG.off ho28 hb67 (by decide)
 have hap73 := OG.off ho30 hb67 (by decide)
 have hap74 := OG.off ho32 hb67 (by decide)
 refine oS rfl (Yk.storeAll (vr (PQ n51 0) rfl) (vr (AB id1.1) rfl) hb67 (by exact idsize id1.2 List.length_replicate) (by exact sizeId_of id1.2) (byteCells_one _) fun w75 hb76 hg77 hs78 => ?_)
 have hE := row_fresh hE hg77 (Nat.le_trans hz60 (by omega))
 have hb9 := kb hg77 hb9 (by omega)
 have hA17 := row_fresh hA17 hg77 (Nat.le_trans hz61 (by omega))
 have ho28 := OG.kept ho28 hg77 hap72
 have ho30 := OG.kept ho30 hg77 hap73
 have ho32 := OG.kept ho32 hg77 hap74
 have hb37 := kb hg77 hb37 (by omega)
 have hA57 := row_fresh hA57 hg77 (Nat.le_trans (Nat.le_refl _) (by omega))
 clear hb67
 have hb67 := hb76; clear hb76
 have hl79 := bl hb67
 refine oA rfl (oZ (tN (hK48 _ _ (sk fun K80 hK80 => (wt (oS rfl (Yk.loadAll T2 hb37 (wr37_ty53).choose_spec rfl (st_isz (refs_len (r1, v26)) wr37_isz53) (oS rfl (Yk.loadAll T1 hb9 (wr37_ty67).choose_spec rfl (st_isz (upd_len (⟨1, ([109, 97, 105, 110] : List UInt8), zid, id1⟩ : Upd)) wr37_isz67) (oS rfl (Yk.lit1G (a := (⟨1, ([109, 97, 105, 110] : List UInt8), zid, id1⟩ : Upd)) (enc := updC) (vr (.agg (updC (⟨1, ([109, 97, 105, 110] : List UInt8), zid, id1⟩ : Upd)).toArray) rfl) (upd_len _) wr37_lg22 fun v81 w82 hr83 hx84 => ?_)))))))))))
 have hE := hE.trans hx84
 have hb9 := eb hx84 hb9
 have hA17 := hA17.trans hx84
 have ho28 := ho28.keep hx84
 have ho30 := ho30.keep hx84
 have ho32 := ho32.keep hx84
 have hb37 := eb hx84 hb37
 have hA57 := hA57.trans hx84
 have hb67 := eb hx84 hb67
 refine oS rfl (Yk.callA3 wr37_pl26 (vr (.agg (refsC (r1, v26)).toArray) rfl) (vr v81 rfl) (vr (St (([97, 103, 97, 105, 110] : List UInt8))) rfl) ((apply_to apply_2 ⟨RG.ofOwn ho28, RG.ofOwn ho30, RG.ofOwn ho32⟩ r1_lt hr83 (by decide) (by decide)).mono ?_))
 rintro e w88 ⟨v85, rfl, hR86, hx87⟩
 refine ⟨_, rfl, ?_⟩
 have hE := hE.trans hx87
 have hb9 := eb hx87 hb9
 have hA17 := hA17.trans hx87
 have ho28 := ho28.keep hx87
 have ho30 := ho30.keep hx87
 have ho32 := ho32.keep hx87
 have hb37 := eb hx87 hb37
 have hA57 := hA57.trans hx87
 have hb67 := eb hx87 hb67
 have hr83 := hr83.keep hx87
 have ho89 : OG 0 70 33 nmdC w88 v85.branches zeroR.branches := OG.low hR86.br (Nat.zero_le _)
 have hap90 := OG.off ho89 hb9 (by decide)
 have hap91 := OG.off ho89 hb37 (by decide)
 have hap92 := OG.off ho89 hb67 (by decide)
 have ho93 : OG 0 70 33 nmdC w88 v85.tags zeroR.tags := OG.low hR86.tg (Nat.zero_le _)
 have hap94 := OG.off ho93 hb9 (by decide)
 have hap95 := OG.off ho93 hb37 (by decide)
 have hap96 := OG.off ho93 hb67 (by decide)
 have ho97 : OG 0 122 67 entC w88 v85.log zeroR.log := OG.low hR86.lg (Nat.zero_le _)
 have hap98 := OG.off ho97 hb9 (by decide)
 have hap99 := OG.off ho97 hb37 (by decide)
 have hap100 := OG.off ho97 hb67 (by decide)
 refine oM rfl (oS rfl (Yk.extract (vs := [.agg (refsC (zeroR, v85)).toArray, NI 15]) (vr (.tuple #[.agg (refsC (zeroR, v85)).toArray, NI 15]) rfl) (show _ = some (.agg (refsC (zeroR, v85)).toArray : Value) from rfl) (oS rfl (Yk.extract (vs := [.agg (refsC (zeroR, v85)).toArray, NI 15]) (vr (.tuple #[.agg (refsC (zeroR, v85)).toArray, NI 15]) rfl) (show _ = some (NI 15 : Value) from rfl) (oS rfl (Yk.alloc (cs := (refsC ((⟨[], [], [], zid, []⟩, ⟨.slice none 0 0, .slice none 0 0, .slice none 0 0⟩) : RefsV)).toArray) wr37_al53 fun n101 w102 hn103 hb104 hx105 hs106 => ?_))))))
 have hA107 := Ext.refl w88
 have hea108 := hE
 have hea109 := hA17
 have hea110 := hA57
 have hz111 := hE.size
 have hz112 := hA17.size
 have hz113 := hA57.size
 have hlt114 := lte (bl hb9) hn103
 have hlt115 := lte (bl hb37) hn103
 have hlt116 := lte (bl hb67) hn103
 have hap117 : OB v26.branches n101 := own_newer ho28.2 (by omega)
 have hap118 : OB v26.tags n101 := own_newer ho30.2 (by omega)
 have hap119 : OB v26.log n101 := own_newer ho32.2 (by omega)
 have hap120 : OB v85.branches n101 := own_newer ho89.2 (by omega)
 have hap121 : OB v85.tags n101 := own_newer ho93.2 (by omega)
 have hap122 : OB v85.log n101 := own_newer ho97.2 (by omega)
 have hE := hE.trans hx105
 have hb9 := eb hx105 hb9
 have hA17 := hA17.trans hx105
 have ho28 := ho28.keep hx105
 have ho30 := ho30.keep hx105
 have ho32 := ho32.keep hx105
 have hb37 := eb hx105 hb37
 have hA57 := hA57.trans hx105
 have hb67 := eb hx105 hb67
 have ho89 := ho89.keep hx105
 have ho93 := ho93.keep hx105
 have ho97 := ho97.keep hx105
 have hA107 := hA107.trans hx105
 have hb123 := hb104; clear hb104
 have hl124 : n101 < w102.heap.size := by omega
 have hap125 := OG.off ho28 hb123 (by decide)
 have hap126 := OG.off ho30 hb123 (by decide)
 have hap127 := OG.off ho32 hb123 (by decide)
 have hap128 := OG.off ho89 hb123 (by decide)
 have hap129 := OG.off ho93 hb123 (by decide)
 have hap130 := OG.off ho97 hb123 (by decide)
 refine oS rfl (Yk.storeAll (vr (PQ n101 0) rfl) (vr (.agg (refsC (zeroR, v85)).toArray) rfl) hb123 (by simp only [List.size_toArray, refs_len]) (st_isz (refs_len _) wr37_isz53) (refs_one (x := (zeroR, v85)) (RG.one (RG.ofOwn ho89)).2 (RG.one (RG.ofOwn ho93)).2 (RG.one (RG.ofOwn ho97)).2) fun w131 hb132 hg133 hs134 => ?_)
 have hE := row_fresh hE hg133 (Nat.le_trans hz111 (by omega))
 have hb9 := kb hg133 hb9 (by omega)
 have hA17 := row_fresh hA17 hg133 (Nat.le_trans hz112 (by omega))
 have ho28 := OG.kept ho28 hg133 hap125
 have ho30 := OG.kept ho30 hg133 hap126
 have ho32 := OG.kept ho32 hg133 hap127
 have hb37 := kb hg133 hb37 (by omega)
 have hA57 := row_fresh hA57 hg133 (Nat.le_trans hz113 (by omega))
 have hb67 := kb hg133 hb67 (by omega)
 have ho89 := OG.kept ho89 hg133 hap128
 have ho93 := OG.kept ho93 hg133 hap129
 have ho97 := OG.kept ho97 hg133 hap130
 have hA107 := row_fresh hA107 hg133 (Nat.le_trans (Nat.le_refl _) (by omega))
 clear hb123
 have hb123 : w131.heap[n101]? = some (.cells (refsC (zeroR, v85)).toArray 53 (0, 0)) := hb132; clear hb132
 have hl135 := bl hb123
 refine oA rfl (oZ (tN (hK80 _ _ (sk fun K136 hK136 => (wt (oS rfl (Yk.loadAll T2 hb37 (wr37_ty53).choose_spec rfl (st_isz (refs_len (r1, v26)) wr37_isz53) (oS rfl (Yk.run (v := AB id1.1) (by kernel_rfl) (oS rfl (Yk.build3 (vr (B8 (1)) rfl) (vr (St (([109, 97, 105, 110] : List UInt8))) rfl) (vr (AB id1.1) rfl) (fun w => wr37_bs67_0_1_2 1 ([109, 97, 105, 110] : List UInt8) id1 w) (oS rfl (Yk.lit1G (a := (⟨1, ([109, 97, 105, 110] : List UInt8), id1, zid⟩ : Upd)) (enc := updC) (vr (.agg (updC (⟨1, ([109, 97, 105, 110] : List UInt8), id1, zid⟩ : Upd)).toArray) rfl) (upd_len _) wr37_lg22 fun v137 w138 hr139 hx140 => ?_)))))))))))))
 have hE := hE.trans hx140
 have hb9 := eb hx140 hb9
 have hA17 := hA17.trans hx140
 have ho28 := ho28.keep hx140
 have ho30 := ho30.keep hx140
 have ho32 := ho32.keep hx140
 have hb37 := eb hx140 hb37
 have hA57 := hA57.trans hx140
 have hb67 := eb hx140 hb67
 have ho89 := ho89.keep hx140
 have ho93 := ho93.keep hx140
 have ho97 := ho97.keep hx140
 have hA107 := hA107.trans hx140
 have hb123 := eb hx140 hb123
 refine oS rfl (Yk.callA3 wr37_pl26 (vr (.agg (refsC (r1, v26)).toArray) rfl) (vr v137 rfl) (vr (St (([] : List UInt8))) rfl) ((apply_to apply_3 ⟨RG.ofOwn ho28, RG.ofOwn ho30, RG.ofOwn ho32⟩ r1_lt hr139 (by decide) (by decide)).mono ?_))
 rintro e w144 ⟨v141, rfl, hR142, hx143⟩
 refine ⟨_, rfl, ?_⟩
 have hE := hE.trans hx143
 have hb9 := eb hx143 hb9
 have hA17 := hA17.trans hx143
 have ho28 := ho28.keep hx143
 have ho30 := ho30.keep hx143
 have ho32 := ho32.keep hx143
 have hb37 := eb hx143 hb37
 have hA57 := hA57.trans hx143
 have hb67 := eb hx143 hb67
 have ho89 := ho89.keep hx143
 have ho93 := ho93.keep hx143
 have ho97 := ho97.keep hx143
 have hA107 := hA107.trans hx143
 have hb123 := eb hx143 hb123
 have hr139 := hr139.keep hx143
 have ho145 : OG 0 70 33 nmdC w144 v141.branches zeroR.branches := OG.low hR142.br (Nat.zero_le _)
 have hap146 := OG.off ho145 hb9 (by decide)
 have hap147 := OG.off ho145 hb37 (by decide)
 have hap148 := OG.off ho145 hb67 (by decide)
 have hap149 := OG.off ho145 hb123 (by decide)
 have ho150 : OG 0 70 33 nmdC w144 v141.tags zeroR.tags := OG.low hR142.tg (Nat.zero_le _)
 have hap151 := OG.off ho150 hb9 (by decide)
 have hap152 := OG.off ho150 hb37 (by decide)
 have hap153 := OG.off ho150 hb67 (by decide)
 have hap154 := OG.off ho150 hb123 (by decide)
 have ho155 : OG 0 122 67 entC w144 v141.log zeroR.log := OG.low hR142.lg (Nat.zero_le _)
 have hap156 := OG.off ho155 hb9 (by decide)
 have hap157 := OG.off ho155 hb37 (by decide)
 have hap158 := OG.off ho155 hb67 (by decide)
 have hap159 := OG.off ho155 hb123 (by decide)
 refine oM rfl (oS rfl (Yk.extract (vs := [.agg (refsC (zeroR, v141)).toArray, NI 16]) (vr (.tuple #[.agg (refsC (zeroR, v141)).toArray, NI 16]) rfl) (show _ = some (.agg (refsC (zeroR, v141)).toArray : Value) from rfl) (oS rfl (Yk.extract (vs := [.agg (refsC (zeroR, v141)).toArray, NI 16]) (vr (.tuple #[.agg (refsC (zeroR, v141)).toArray, NI 16]) rfl) (show _ = some (NI 16 : Value) from rfl) (oS rfl (Yk.alloc (cs := (refsC ((⟨[], [], [], zid, []⟩, ⟨.slice none 0 0, .slice none 0 0, .slice none 0 0⟩) : RefsV)).toArray) wr37_al53 fun n160 w161 hn162 hb163 hx164 hs165 => ?_))))))
 have hA166 := Ext.refl w144
 have hea167 := hE
 have hea168 := hA17
 have hea169 := hA57
 have hea170 := hA107
 have hz171 := hE.size
 have hz172 := hA17.size
 have hz173 := hA57.size
 have hz174 := hA107.size
 have hlt175 := lte (bl hb9) hn162
 have hlt176 := lte (bl hb37) hn162
 have hlt177 := lte (bl hb67) hn162
 have hlt178 := lte (bl hb123) hn162
 have hap179 : OB v26.branches n160 := own_newer ho28.2 (by omega)
 have hap180 : OB v26.tags n160 := own_newer ho30.2 (by omega)
 have hap181 : OB v26.log n160 := own_newer ho32.2 (by omega)
 have hap182 : OB v85.branches n160 := own_newer ho89.2 (by omega)
 have hap183 : OB v85.tags n160 := own_newer ho93.2 (by omega)
 have hap184 : OB v85.log n160 := own_newer ho97.2 (by omega)
 have hap185 : OB v141.branches n160 := own_newer ho145.2 (by omega)
 have hap186 : OB v141.tags n160 := own_newer ho150.2 (by omega)
 have hap187 : OB v141.log n160 := own_newer ho155.2 (by omega)
 have hE := hE.trans hx164
 have hb9 := eb hx164 hb9
 have hA17 := hA17.trans hx164
 have ho28 := ho28.keep hx164
 have ho30 := ho30.keep hx164
 have ho32 := ho32.keep hx164
 have hb37 := eb hx164 hb37
 have hA57 := hA57.trans hx164
 have hb67 := eb hx164 hb67
 have ho89 := ho89.keep hx164
 have ho93 := ho93.keep hx164
 have ho97 := ho97.keep hx164
 have hA107 := hA107.trans hx164
 have hb123 := eb hx164 hb123
 have ho145 := ho145.keep hx164
 have ho150 := ho150.keep hx164
 have ho155 := ho155.keep hx164
 have hA166 := hA166.trans hx164
 have hb188 := hb163; clear hb163
 have hl189 : n160 < w161.heap.size := by omega
 have hap190 := OG.off ho28 hb188 (by decide)
 have hap191 := OG.off ho30 hb188 (by decide)
 have hap192 := OG.off ho32 hb188 (by decide)
 have hap193 := OG.off ho89 hb188 (by decide)
 have hap194 := OG.off ho93 hb188 (by decide)
 have hap195 := OG.off ho97 hb188 (by decide)
 have hap196 := OG.off ho145 hb188 (by decide)
 have hap197 := OG.off ho150 hb188 (by decide)
 have hap198 := OG.off ho155 hb188 (by decide)
 refine oS rfl (Yk.storeAll (vr (PQ n160 0) rfl) (vr (.agg (refsC (zeroR, v141)).toArray) rfl) hb188 (by simp only [List.size_toArray, refs_len]) (st_isz (refs_len _) wr37_isz53) (refs_one (x := (zeroR, v141)) (RG.one (RG.ofOwn ho145)).2 (RG.one (RG.ofOwn ho150)).2 (RG.one (RG.ofOwn ho155)).2) fun w199 hb200 hg201 hs202 => ?_)
 have hE := row_fresh hE hg201 (Nat.le_trans hz171 (by omega))
 have hb9 := kb hg201 hb9 (by omega)
 have hA17 := row_fresh hA17 hg201 (Nat.le_trans hz172 (by omega))
 have ho28 := OG.kept ho28 hg201 hap190
 have ho30 := OG.kept ho30 hg201 hap191
 have ho32 := OG.kept ho32 hg201 hap192
 have hb37 := kb hg201 hb37 (by omega)
 have hA57 := row_fresh hA57 hg201 (Nat.le_trans hz173 (by omega))
 have hb67 := kb hg201 hb67 (by omega)
 have ho89 := OG.kept ho89 hg201 hap193
 have ho93 := OG.kept ho93 hg201 hap194
 have ho97 := OG.kept ho97 hg201 hap195
 have hA107 := row_fresh hA107 hg201 (Nat.le_trans hz174 (by omega))
 have hb123 := kb hg201 hb123 (by omega)
 have ho145 := OG.kept ho145 hg201 hap196
 have ho150 := OG.kept ho150 hg201 hap197
 have ho155 := OG.kept ho155 hg201 hap198
 have hA166 := row_fresh hA166 hg201 (Nat.le_trans (Nat.le_refl _) (by omega))
 clear hb188
 have hb188 : w199.heap[n160]? = some (.cells (refsC (zeroR, v141)).toArray 53 (0, 0)) := hb200; clear hb200
 have hl203 := bl hb188
 refine oA rfl (oZ (tN (hK136 _ _ (sk fun K204 hK204 => (wt (oM rfl (oS rfl (Yk.eqI (a := (0 : Nat)) (b := (0 : Nat)) T18 rfl (k_eql _ _ _ _) (oM rfl (opsF_mayV (NI 0) rfl rfl (gT (vr (.bool (decide ((0 : Nat) = (0)))) rfl)) (fun hG205 => Yk.move (vr (NI 0) rfl) ⟨rfl, rfl⟩) (opsF_mayV (.bool (decide ((0 : Nat) = (0)))) rfl rfl (gT (vr (.bool (decide ((0 : Nat) = (0)))) rfl)) (fun hG206 => Yk.eqI (a := ((0 : Nat) : Int)) (b := ((0 : Nat) : Int)) (mayT (vr (cond ((decide ((0 : Nat) = (0)))) (NI 0) undef) rfl) hG206) (vr (NI 0) rfl) (k_eql _ .i64 (0) (0)) ⟨rfl, rfl⟩) (oS rfl (Yk.pickAndN (vr (.bool (decide ((0 : Nat) = (0)))) rfl) (fun hA => (mayT (vr (cond ((decide ((0 : Nat) = (0)))) (.bool (decide ((0 : Nat) = (0)))) undef) rfl) hA)) (vr (.bool (false)) rfl) fun bb207 hbb208 => (oM rfl (opsF_mayV (AB id1.1) rfl rfl (gT (vr (.bool (bb207)) rfl)) (fun hG209 => Yk.loadAll (vr (PQ n51 0) rfl) hb67 wr37_ty25 rfl (by exact sizeId_of id1.2) ⟨rfl, rfl⟩) (opsF_mayV (AB id1.1) rfl rfl (gT (vr (.bool (bb207)) rfl)) (fun hG210 => Yk.run (v := AB id1.1) (by kernel_rfl) ⟨rfl, rfl⟩) (opsF_mayV (.bool (decide (id1.1 = id1.1))) rfl rfl (gT (vr (.bool (bb207)) rfl)) (fun hG211 => Yk.eqArr (l1 := id1.1) (l2 := id1.1) wr37_ty25 wr37_ty5 wr37_sz5 wr37_eg25 (mayT (vr (cond (bb207) (AB id1.1) undef) rfl) hG211) (mayT (vr (cond (bb207) (AB id1.1) undef) rfl) hG211) (id1.2) (id1.2) ⟨rfl, rfl⟩) (oS rfl (Yk.pickAndN (vr (.bool (bb207)) rfl) (fun hA => (mayT (vr (cond (bb207) (.bool (decide (id1.1 = id1.1))) undef) rfl) hA)) (vr (.bool (false)) rfl) fun bb212 hbb213 => ?_)))))))))))))))))))
 refine oM rfl (opsF_mayV (NI 15) rfl rfl (gT (vr (.bool (bb212)) rfl)) (fun hG214 => Yk.move (vr (NI 15) rfl) ⟨rfl, rfl⟩) (opsF_mayV (.bool (decide ((15 : Nat) = (15)))) rfl rfl (gT (vr (.bool (bb212)) rfl)) (fun hG215 => Yk.eqI (a := ((15 : Nat) : Int)) (b := ((15 : Nat) : Int)) (mayT (vr (cond (bb212) (NI 15) undef) rfl) hG215) (vr (NI 15) rfl) (k_eql _ .i64 (15) (15)) ⟨rfl, rfl⟩) (oS rfl (Yk.pickAndN (vr (.bool (bb212)) rfl) (fun hA => (mayT (vr (cond (bb212) (.bool (decide ((15 : Nat) = (15)))) undef) rfl) hA)) (vr (.bool (false)) rfl) fun bb216 hbb217 => (oM rfl (opsF_mayV (NI 16) rfl rfl (gT (vr (.bool (bb216)) rfl)) (fun hG218 => Yk.move (vr (NI 16) rfl) ⟨rfl, rfl⟩) (opsF_mayV (.bool (decide ((16 : Nat) = (16)))) rfl rfl (gT (vr (.bool (bb216)) rfl)) (fun hG219 => Yk.eqI (a := ((16 : Nat) : Int)) (b := ((16 : Nat) : Int)) (mayT (vr (cond (bb216) (NI 16) undef) rfl) hG219) (vr (NI 16) rfl) (k_eql _ .i64 (16) (16)) ⟨rfl, rfl⟩) (oS rfl (Yk.pickAndN (vr (.bool (bb216)) rfl) (fun hA => (mayT (vr (cond (bb216) (.bool (decide ((16 : Nat) = (16)))) undef) rfl) hA)) (vr (.bool (false)) rfl) fun bb220 hbb221 => (oM rfl (opsF_mayV (PQ n36 35) rfl rfl (gT (vr (.bool (bb220)) rfl)) (fun hG222 => Yk.fieldAt wr37_fo53_4 T2 ⟨rfl, rfl⟩) (opsF_mayV (((r1, v26)).2.log) rfl rfl (gT (vr (.bool (bb220)) rfl)) (fun hG223 => Yk.cell1 wr37_ty47 rfl (mayT (vr (cond (bb220) (PQ n36 35) undef) rfl) hG223) (cellAt hb37 (show (refsC (r1, v26))[35]? = some (((r1, v26)).2.log : Value) from refs_g4 (r1, v26))) ⟨rfl, rfl⟩) (opsF_mayV (NI ((r1.log).length)) rfl rfl (gT (vr (.bool (bb220)) rfl)) (fun hG224 => Yk.lenRG wr37_ty47 (RG.of (RG.ofOwn ho32) (mayT (vr (cond (bb220) (((r1, v26)).2.log) undef) rfl) hG224)) ⟨rfl, rfl⟩) (opsF_mayV (.bool (decide (((r1.log).length : Nat) = (1)))) rfl rfl (gT (vr (.bool (bb220)) rfl)) (fun hG225 => Yk.eqI (a := (((r1.log).length : Nat) : Int)) (b := ((1 : Nat) : Int)) (mayT (vr (cond (bb220) (NI ((r1.log).length)) undef) rfl) hG225) (vr (NI 1) rfl) (k_eql _ .i64 ((r1.log).length) (1)) ⟨rfl, rfl⟩) (oS rfl (Yk.pickAndN (vr (.bool (bb220)) rfl) (fun hA => (mayT (vr (cond (bb220) (.bool (decide (((r1.log).length : Nat) = (1)))) undef) rfl) hA)) (vr (.bool (false)) rfl) fun bb226 hbb227 => (oA rfl (oL_ [(0, .bool (bb226)), (1, PQ n3 0), (2, PQ n36 0), (3, NI 0), (4, PQ n51 0), (5, NI 0), (7, NI 15), (9, NI 16)] ⟨rfl, T1, T2, T18, rfl, rfl, rfl, rfl, trivial⟩ fun ρ228 ⟨T0, T1, T2, T3, T4, T5, T7, T9, _⟩ => ?_))))))))))))))))))
 refine tN (hK204 _ _ (wpF_ret (postF_ret (fn := Tryd.f35) _ rfl [.bool (bb226)] (.bool (bb226)) rfl ⟨T0, trivial⟩ ?_)))
 subst hbb208 hbb213 hbb217 hbb221 hbb227
 exact ⟨by first | rfl | decide | simp, hE⟩
end Go.Proofs.YtmonlobfofkbdaaDoor
