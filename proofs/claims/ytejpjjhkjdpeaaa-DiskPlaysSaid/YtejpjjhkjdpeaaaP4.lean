/- Part 4 of what stands behind these statements: laws and walks of the functions that are reached. Conditions: those that each theorem names. -/
import Derived.Test.YtejpjjhkjdpeaaaP3
set_option linter.unusedVariables false
set_option linter.unusedSimpArgs false
namespace Go.Proofs.Ytejpjjhkjdpeaaa
open Go.RowKit
set_option linter.unusedVariables false
set_option linter.unusedSimpArgs false
theorem apartv_tag {w : World} {u v : Value} {b b' k k' n n' : Nat} {t t' : TypeId} {xs ys : List Value} (hu : w.ownsRow b t k u n xs) (hv : w.ownsRow b' t' k' v n' ys) (ht : t ≠ t') : ApartV u v := fun i h1 h2 => tag_ne (tag_own hu h1) (tag_own hv h2) (fun q => ht (by simpa using q)) rfl
theorem offv_tag {w : World} {u : Value} {b k n : Nat} {t t' : TypeId} {xs : List Value} {g : Nat} {cs : Array Value} {fr : Nat × Nat} (hu : w.ownsRow b t k u n xs) (hg : w.heap[g]? = some (.cells cs t' fr)) (ht : t ≠ t') : u.ownBlock ≠ some g := fun q => tag_ne (tag_own hu q) (tag_cells hg) (fun e => ht (by simpa using e)) rfl
theorem RowsO.low {base b' : Nat} {w : World} {vs : List Value} {ls : List (List UInt8)} (h : RowsO base w vs ls) (hb : b' ≤ base) : RowsO b' w vs ls := ⟨h.len, fun i hi => ownsRow_base (h.own i hi) hb, h.apart⟩
theorem RowsO.eq {base : Nat} {w : World} {vs vs' : List Value} {ls ls' : List (List UInt8)} (h : RowsO base w vs ls) (e1 : vs = vs') (e2 : ls = ls') : RowsO base w vs' ls' := by rw [← e1, ← e2]; exact h
theorem getD_set {α : Type} {l : List α} {k i : Nat} {x d : α} (hk : k < l.length) : (l.set k x).getD i d = if i = k then x else l.getD i d := by
  rw [List.getD_eq_getElem?_getD, List.getD_eq_getElem?_getD, List.getElem?_set]
  by_cases h : k = i
  · subst h; simp [hk]
  · simp [h, Ne.symm h]
theorem RowsO.setRow {base : Nat} {w w' : World} {vs : List Value} {ls : List (List UInt8)} (h : RowsO base w vs ls) {k : Nat} (hk : k < ls.length) {B : Nat → Prop} (hc : Chg B w w') (hB : ∀ i, i < w.heap.size → B i → (vs.getD k undef).ownBlock = some i ∨ tagW w i ≠ some (5 + 1)) {v : Value} {l : List UInt8} (hv : w'.ownsRow base 5 1 v l.length (Lib.byteCells l)) (hf : ∀ i, v.ownBlock = some i → (vs.getD k undef).ownBlock = some i ∨ w.heap.size ≤ i) :
    RowsO base w' (vs.set k v) (ls.set k l) := by
  have hvk : k < vs.length := by rw [h.len]; exact hk
  refine ⟨by rw [List.length_set, List.length_set, h.len], fun i hi => ?_, fun i j hi hj hne x hx => ?_⟩
  · rw [List.length_set] at hi
    rw [getD_set hvk, getD_set hk]
    by_cases e : i = k
    · rw [if_pos e, if_pos e]; exact hv
    · rw [if_neg e, if_neg e]
      refine ownsRow_chg hc (h.own i hi) fun x hx q => ?_
      rcases hB x ((h.own i hi).lt x hx).2 q with q | q
      · exact h.apart i k hi hk e x hx q
      · exact q (tag_own (h.own i hi) hx)
  · rw [List.length_set] at hi hj
    rw [getD_set hvk] at hx ⊢
    by_cases ei : i = k
    · rw [if_pos ei] at hx
      have ej : ¬ j = k := fun q => hne (ei.trans q.symm)
      rw [if_neg ej]
      rcases hf x hx with q | q
      · exact fun y => h.apart k j hk hj (Ne.symm ej) x q y
      · exact fun y => by have := ((h.own j hj).lt x y).2; omega
    · rw [if_neg ei] at hx
      by_cases ej : j = k
      · rw [if_pos ej]
        intro y
        rcases hf x y with q | q
        · exact h.apart i k hi hk ei x hx q
        · have := ((h.own i hi).lt x hx).2
          omega
      · rw [if_neg ej]; exact h.apart i j hi hj hne x hx
section
variable {P : Nat → Prop} {base : Nat} {w : World} {D D' : Dsk} {V V' : RdkW}
theorem RdO.same (h : RdO base w D V) (e1 : D'.files = D.files) (e2 : D'.now = D.now) (e3 : D'.kept = D.kept) (e4 : D'.acts = D.acts) : RdO base w D' V :=
  ⟨by rw [e1]; exact h.files, by rw [e1]; exact h.synced, by rw [e2]; exact h.now, by rw [e3]; exact h.kept, by rw [e4]; exact h.acts⟩
theorem RdO.keep {w' : World} (h : RdO base w D V) (k : Ext w w') : RdO base w' D V := by
  obtain ⟨vs, h1, h2⟩ := h.files
  exact ⟨⟨vs, h1.keep k, h2.keep k⟩, h.synced.keep k, h.now.keep k, h.kept.keep k, h.acts.keep k⟩
theorem arm_same (D : Dsk) : (armD D).1.files = D.files ∧ (armD D).1.now = D.now ∧ (armD D).1.kept = D.kept ∧ (armD D).1.acts = D.acts ∧ (armD D).1.quota = D.quota ∧ (armD D).1.refused = D.refused := by
  unfold armD
  split <;> exact ⟨rfl, rfl, rfl, rfl, rfl, rfl⟩
theorem arm_ok (h : DOk D) : DOk (armD D).1 := by
  obtain ⟨e1, e2, e3, e4, -, -⟩ := arm_same D
  exact ⟨by rw [e1, e2]; exact h.now, by rw [e1, e3]; exact h.kept, by rw [e1, e4]; exact h.acts, by rw [e1]; exact h.syn⟩
theorem RdO.armed (h : RdO base w D V) : RdO base w (armD D).1 V := by
  obtain ⟨e1, e2, e3, e4, -⟩ := arm_same D
  exact h.same e1 e2 e3 e4
theorem arm_lt (h : DLt D) : DLt (armD D).1 := by
  obtain ⟨e1, e2, e3, e4, e5, e6⟩ := arm_same D
  refine ⟨by rw [e5]; exact h.quota, ?_, by rw [e6]; exact h.refused, ?_, by rw [e4]; exact h.acts, by rw [e2]; exact h.now, by rw [e3, e4]; exact h.kept, by rw [e1]; exact h.files⟩
  · have : usedD (armD D).1 = usedD D := by unfold usedD fileD; rw [e1, e2]
    rw [this]; exact h.used
  · have := h.arm
    unfold armD
    split
    · exact this
    · show D.arm - 1 < _; omega
end
section
variable {D D1 : Dsk} {s b : List UInt8} {dn : Bool}
theorem appendD_no (h : readyD D s s ≠ 0) : appendD D s b = (D, readyD D s s) := if_pos h
theorem appendD_full (h : ¬ readyD D s s ≠ 0) (hf : D.quota < usedD D + b.length) : appendD D s b = ({ D with refused := D.refused + 1 }, 8) := (if_neg h).trans (if_pos hf)
theorem appendD_down (h : ¬ readyD D s s ≠ 0) (hf : ¬ D.quota < usedD D + b.length) (ha : armD D = (D1, true)) : appendD D s b = (D1, 9) := by
  unfold appendD
  rw [if_neg h, if_neg hf, ha, if_pos rfl]
theorem appendD_yes (h : ¬ readyD D s s ≠ 0) (hf : ¬ D.quota < usedD D + b.length) (ha : armD D = (D1, false)) : appendD D s b = (addD D1 s b, 0) := by
  unfold appendD
  rw [if_neg h, if_neg hf, ha, if_neg (by simp)]
theorem doD_down {f : Dsk → Dsk} (ha : armD D = (D1, true)) : doD D f = (D1, 9) := by
  unfold doD
  rw [ha, if_pos rfl]
theorem doD_yes {f : Dsk → Dsk} (ha : armD D = (D1, false)) : doD D f = (f D1, 0) := by
  unfold doD
  rw [ha, if_neg (by simp)]
theorem hasD_no {t : List UInt8} (h : readyD D s t ≠ 0) : hasD D s t = .error (readyD D s t) := if_pos h
theorem hasD_none {t : List UInt8} (h : ¬ readyD D s t ≠ 0) (hk : lookD D.now s = none) : hasD D s t = .error 4 := by unfold hasD; rw [if_neg h, hk]
theorem hasD_some {t : List UInt8} {k : Nat} (h : ¬ readyD D s t ≠ 0) (hk : lookD D.now s = some k) : hasD D s t = .ok k := by unfold hasD; rw [if_neg h, hk]
theorem map_set_fst {l : List (List UInt8 × Nat)} {k : Nat} {x : List UInt8 × Nat} : (l.set k x).map Prod.fst = (l.map Prod.fst).set k x.1 := List.map_set
theorem map_set_snd {l : List (List UInt8 × Nat)} {k : Nat} {x : List UInt8} (hk : k < l.length) : (l.set k (x, (l.getD k ([], 0)).2)).map (fun x => ((x.2 : Nat) : Int)) = l.map (fun x => ((x.2 : Nat) : Int)) := by
  rw [List.map_set]
  refine List.ext_getElem (by simp) fun i h1 h2 => ?_
  rw [List.getElem_set]
  split
  · rename_i e; subst e
    rw [List.getD_eq_getElem?_getD, List.getElem?_eq_getElem hk]
    simp
  · rfl
theorem addD_new (h : lookD D.now s = none) : addD D s b = { turnedD D ⟨[], s, D.files.length⟩ with files := D.files ++ [(b, 0)] } := by unfold addD; rw [h]
end
section
variable {P : Program} {K : Value → World → Prop} {ρ : Slots} {w : World} {d : Option Tmp} {ty : TypeId} {pos : String} {af : Array Edge} {gd : Option (Nat × Bool)}
theorem Yk.lenRGe {α : Type} {k : Nat} {enc : α → List Value} {l : List α} {n : Nat} {t e : TypeId} (ht : P.underlying t = some (.slice e)) {x : Operand} (h : RG k enc w (evalR ρ x) l) (hn : l.length = n) (hk : K (NI n) w) : Yk P K ((execOp (evalR ρ) ⟨d, .call ⟨.builtin .len, #[x], #[t]⟩, ty, pos, af, gd⟩).run P w) :=
  Yk.lenRG ht h (hn ▸ hk)
theorem OG.cell1 {α : Type} {b : Nat} {t : TypeId} {enc : α → List Value} {v : Value} {l : List α} {g i : Nat} {c : Value} (dd : α) (h : OG b t 1 enc w v l) (hg : v.ownBlock = some g) (hi : i < l.length) (hc : enc (l.getD i dd) = [c]) : PCell c (PQ g (i * 1)) w := by
  obtain ⟨hen, hxl, ⟨-, h0⟩ | ⟨g', cap, cur, rfl, hb, hh, hn, hm, hs, ht⟩⟩ := h
  · omega
  · obtain rfl : g' = g := by simpa [Value.ownBlock] using hg
    refine ⟨_, rfl, cellAt (l := cur.toList) (by rw [Array.toArray_toList]; exact hh) ?_⟩
    obtain ⟨c1, -⟩ := flatMap_cut dd l i dd hen hi
    have hpre := flatMap_len (l.take i) (fun y hy => hen y (List.mem_of_mem_take hy))
    rw [List.length_take, Nat.min_eq_left (Nat.le_of_lt hi)] at hpre
    have e : (cur.toList.take (l.length * 1))[i * 1]? = some c := by
      rw [ht, c1, hc, List.append_assoc, List.getElem?_append_right (by omega), hpre, Nat.sub_self]
      rfl
    rwa [List.getElem?_take_of_lt (by omega)] at e
theorem reslice_hi {t e : TypeId} (ht : P.underlying t = some (.slice e)) (he : ∀ w' : World, (sizeOf e).run P w' = .ok 1 w') {v : Value} {xs : List UInt8} (h : RB w v xs) (k : IntKind) {n : Nat} (hn : n ≤ xs.length) : ∃ ao c, (∀ w : World, (Instr.sliceAt t v none (some (.int k ((n : Nat) : Int))) none).run P w = .ok (.slice ao n c) w) ∧ RB w (.slice ao n c) (xs.take n) := by
  obtain ⟨ao, c, ⟨h1, -⟩, h2⟩ := run_reslice_readsW ht he h none (some (.int k ((n : Nat) : Int))) 0 n (Nat.zero_le _) hn (.inl ⟨rfl, rfl⟩) (.inr ⟨k, rfl⟩)
  have h3 := RB.take_drop hn h2
  rw [List.drop_zero, Nat.sub_zero] at h3
  exact ⟨ao, c, h1, h3⟩
theorem Yk.sliceHiR {t : TypeId} {x hi : Operand} {v v' h : Value} (hx : evalR ρ x = v) (hhi : evalR ρ hi = h) (hrun : ∀ w : World, (Instr.sliceAt t v none (some h) none).run P w = .ok v' w) (hk : K v' w) : Yk P K ((execOp (evalR ρ) ⟨d, .slice t x none (some hi) none, ty, pos, af, gd⟩).run P w) := by
  refine Yk.value (v := v') (w' := w) ?_ hk
  unfold execOp
  simp only [hx, hhi, Option.map_some, Option.map_none, hrun, Sem.run_bind, Sem.run_pure, Result.andThen_ok]
theorem Yk.storeOG1 {α : Type} {b : Nat} {t t' : TypeId} {enc : α → List Value} {v : Value} {l : List α} {g i : Nat} {a : α} {c : Value} {x y : Operand} (dd : α) (hx : evalR ρ x = PQ g (i * 1)) (hy : evalR ρ y = c) (hea : enc a = [c]) (h : OG b t 1 enc w v l) (hg : v.ownBlock = some g) (hi : i < l.length) (h1 : c.cells = #[c] ∧ c.oneCell' = true) (hinfo : (P.info? t').map (·.size) = some 1)
    (hk : ∀ w', OG b t 1 enc w' v (l.set i a) → Grew w w' v v → K undef w') : Yk P K ((execOp (evalR ρ) ⟨d, .store t' x y, ty, pos, af, gd⟩).run P w) := by
  obtain ⟨hen, hxl, ⟨-, h0⟩ | ⟨g', cap, cur, rfl, hb, hh, hn, hm, hs, ht⟩⟩ := h
  · omega
  · obtain rfl : g' = g := by simpa [Value.ownBlock] using hg
    obtain ⟨c1, c2⟩ := flatMap_cut dd l i a hen hi
    have hpre := flatMap_len (l.take i) (fun y hy => hen y (List.mem_of_mem_take hy))
    rw [List.length_take, Nat.min_eq_left (Nat.le_of_lt hi)] at hpre
    have hd : (enc (l.getD i dd)).length = 1 := hen _ (getD_memO dd hi)
    obtain ⟨T, hcur⟩ : ∃ T, cur = ((l.take i).flatMap enc ++ enc (l.getD i dd) ++ ((l.drop (i + 1)).flatMap enc ++ T)).toArray := by
      refine ⟨cur.toList.drop (l.length * 1), ?_⟩
      apply Array.toList_inj.1
      rw [List.toList_toArray, ← List.append_assoc, ← c1, ← ht, List.take_append_drop]
    rw [hcur] at hh
    have hset : ((l.take i).flatMap enc ++ enc (l.getD i dd) ++ ((l.drop (i + 1)).flatMap enc ++ T)).set (i * 1) c = (l.set i a).flatMap enc ++ T := by
      obtain ⟨z, hz⟩ : ∃ z, enc (l.getD i dd) = [z] := by
        match q : enc (l.getD i dd), hd with
        | [z], _ => exact ⟨z, rfl⟩
      rw [c2, hea, hz, List.append_assoc, List.set_append_right _ _ (by omega), hpre, Nat.sub_self]
      simp
    have hlen : ((l.set i a).flatMap enc).length = (l.set i a).length * 1 := flatMap_len _ (fun y hy => by rcases List.mem_or_eq_of_mem_set hy with hy | rfl; exact hen y hy; rw [hea]; rfl)
    refine Yk.storeC hx hy hh (by simp only [List.length_append, hpre, hd]; omega) hinfo h1.1 h1.2 fun w' e1 e2 e3 => hk w' ⟨fun y hy => ?_, hlen, .inr ⟨g', cap, _, by rw [List.length_set], hb, e1, by rw [List.length_set]; exact hn, hm, ?_, ?_⟩⟩ ⟨e2, fun k hk => .inl hk⟩
    · rcases List.mem_or_eq_of_mem_set hy with hy | rfl
      · exact hen y hy
      · rw [hea]; rfl
    · rw [← hs, hcur]; simp only [List.size_toArray, List.length_set]
    · rw [List.toList_toArray, hset, ← hlen]
      exact List.take_left
end
open Go.RowKit
set_option maxRecDepth 100000
set_option linter.unusedVariables false
set_option linter.unusedSimpArgs false
theorem armed_is {P : Nat → Prop} (w : World) (D : Dsk) (V : RdkW) (hR : RdAt P w D V) (hL : DLt D) {D1 : Dsk} {dn : Bool} (hD : armD D = (D1, dn)) :
  Calls Try.prog 56 #[.agg (rdkC (refP D, V)).toArray] w fun e w' => e = .returned (.tuple #[.agg (rdkC (refP D1, V)).toArray, .bool dn]) ∧ Ext w w' := by
 have h := armed_any w D V hR hL
 rw [hD] at h
 exact h
theorem ready_may {D : Dsk} {s t : List UInt8} (h : readyD D s t = 0) : mayD s = true := by
 unfold readyD at h
 split at h
 ·cases h
 ·split at h
  ·rename_i q; exact q.1
  ·cases h
theorem set_fst_self {l : List (List UInt8 × Nat)} {k n : Nat} (hk : k < l.length) : (l.set k ((l.getD k ([], 0)).1, n)).map Prod.fst = l.map Prod.fst := by
 rw [List.map_set]
 refine List.ext_getElem (by simp) fun i h1 h2 => ?_
 rw [List.getElem_set]
 split
 ·rename_i e; subst e
  rw [List.getD_eq_getElem?_getD, List.getElem?_eq_getElem hk]
  simp
 ·rfl
theorem map_set_snd2 {l : List (List UInt8 × Nat)} {k : Nat} {x : List UInt8 × Nat} : (l.set k x).map (fun x => ((x.2 : Nat) : Int)) = (l.map (fun x => ((x.2 : Nat) : Int))).set k ((x.2 : Nat) : Int) := List.map_set
theorem getD_last' {l : List (List UInt8)} {n : Nat} (h : l.length = n) : (l ++ [[]]).getD n [] = [] := by subst h; exact getD_last
theorem set_last {l : List (List UInt8)} {x y : List UInt8} : (l ++ [x]).set l.length y = l ++ [y] := by
 rw [List.set_append_right _ _ (Nat.le_refl _), Nat.sub_self]; rfl
theorem rd4_al50 {d : Option Tmp} {ty : TypeId} {pos : String} {af : Array Edge} {gd : Option (Nat × Bool)} (σ : Operand → Value) (w : World) : (execOp σ ⟨d, .alloc 50, ty, pos, af, gd⟩).run Try.prog w = .ok (.value (PQ w.heap.size 0)) (w.alloc (.cells (rdkC ((⟨false, 0, [], [], [], [], [], 0, 0, false⟩, ⟨.slice none 0 0, .slice none 0 0, .slice none 0 0, .slice none 0 0, .slice none 0 0⟩) : RdkV)).toArray 50)) := by kernel_rfl
theorem rd4_ty50 : ∃ fs, Try.prog.underlying 50 = some (.struct fs) := struct_of (by kernel_rfl)
theorem rd4_isz50 : (Try.prog.info? 50).map (·.size) = some 10 := by kernel_rfl
theorem rd4_pl54 : Plain Try.prog 54 := fun _ _ => by kernel_rfl
theorem rd4_pl55 : Plain Try.prog 55 := fun _ _ => by kernel_rfl
theorem rd4_ty24 : Try.prog.underlying 24 = some (.slice 5) := by kernel_rfl
theorem rd4_fo50_1 : FieldOff Try.prog 50 1 1 := fun b o w => by simp [go_sem]
theorem rd4_ty3 : Try.prog.underlying 3 = some (.int .i64) := by kernel_rfl
theorem rd4_pl21 : Plain Try.prog 21 := fun _ _ => by kernel_rfl
theorem rd4_fo50_7 : FieldOff Try.prog 50 7 7 := fun b o w => by simp [go_sem]
theorem rd4_isz3 : (Try.prog.info? 3).map (·.size) = some 1 := by kernel_rfl
theorem rd4_pl56 : Plain Try.prog 56 := fun _ _ => by kernel_rfl
theorem rd4_fo50_4 : FieldOff Try.prog 50 4 4 := fun b o w => by simp [go_sem]
theorem rd4_ty47 : Try.prog.underlying 47 = some (.slice 89) := by kernel_rfl
theorem rd4_pl57 : Plain Try.prog 57 := fun _ _ => by kernel_rfl
theorem rd4_fo50_2 : FieldOff Try.prog 50 2 2 := fun b o w => by simp [go_sem]
theorem rd4_ty23 : Try.prog.underlying 23 = some (.slice 24) := by kernel_rfl
theorem rd4_bs98_1_2h (z1 : ByteArray) (z2 : Int) (w : World) : (Instr.build 98 #[(1, .string z1), (2, .int .i64 z2)]).run Try.prog w = .ok (.agg #[.string ⟨#[]⟩, .string z1, .int .i64 z2]) w := by kernel_rfl
theorem rd4_bs98_1_2 (z1 : List UInt8) (z2 : Nat) (w : World) : (Instr.build 98 #[(1, St z1), (2, NI z2)]).run Try.prog w = .ok (.agg (St ([]) :: (St (z1) :: (NI (z2) :: ([])))).toArray) w := by
 exact rd4_bs98_1_2h _ _ w
theorem rd4_al98 {d : Option Tmp} {ty : TypeId} {pos : String} {af : Array Edge} {gd : Option (Nat × Bool)} (σ : Operand → Value) (w : World) : (execOp σ ⟨d, .alloc 98, ty, pos, af, gd⟩).run Try.prog w = .ok (.value (PQ w.heap.size 0)) (w.alloc (.cells (racC (⟨[], [], 0⟩ : ActD)).toArray 98)) := by kernel_rfl
theorem rd4_isz98 : (Try.prog.info? 98).map (·.size) = some 3 := by kernel_rfl
theorem rd4_lk23 (ao : Option Addr) (n : Nat) (c : Nat) (w : World) : (Instr.buildSlice 23 1 #[(0, .slice ao n c)]).run Try.prog w = .ok (.slice (some ⟨w.heap.size, 0, none⟩) 1 1) (w.alloc (.cells #[.slice ao n c] 24)) := by kernel_rfl
theorem rd4_ig24 : ∃ z, (Try.prog.info? 24).map (fun i => (i.zero, i.size, i.bytes)) = some (some z, 1, 24) ∧ z.cells.size = 1 := info_ex (by kernel_rfl)
theorem rd4_isz23 : (Try.prog.info? 23).map (·.size) = some 1 := by kernel_rfl
theorem rd4_fo50_3 : FieldOff Try.prog 50 3 3 := fun b o w => by simp [go_sem]
theorem rd4_ty25 : Try.prog.underlying 25 = some (.slice 3) := by kernel_rfl
theorem rd4_lk25 (z : Int) (w : World) : (Instr.buildSlice 25 1 #[(0, .int .i64 z)]).run Try.prog w = .ok (.slice (some ⟨w.heap.size, 0, none⟩) 1 1) (w.alloc (.cells #[.int .i64 z] 3)) := by kernel_rfl
theorem rd4_ig3 : ∃ z, (Try.prog.info? 3).map (fun i => (i.zero, i.size, i.bytes)) = some (some z, 1, 8) ∧ z.cells.size = 1 := info_ex (by kernel_rfl)
theorem rd4_isz25 : (Try.prog.info? 25).map (·.size) = some 1 := by kernel_rfl
theorem rd4_ty98 : ∃ fs, Try.prog.underlying 98 = some (.struct fs) := struct_of (by kernel_rfl)
theorem rd4_pl58 : Plain Try.prog 58 := fun _ _ => by kernel_rfl
theorem rd4_isz47 : (Try.prog.info? 47).map (·.size) = some 1 := by kernel_rfl
theorem rd4_fo50_6 : FieldOff Try.prog 50 6 6 := fun b o w => by simp [go_sem]
theorem rd4_ty48 : Try.prog.underlying 48 = some (.slice 98) := by kernel_rfl
theorem rd4_lh48 (c0 c1 c2 : Value) (w : World) : (Instr.buildSlice 48 1 #[(0, .agg #[c0, c1, c2])]).run Try.prog w = .ok (.slice (some ⟨w.heap.size, 0, none⟩) 1 1) (w.alloc (.cells #[c0, c1, c2] 98)) := by kernel_rfl
theorem rd4_lg48 : ∀ (cs : Array Value), cs.size = 3 → ∀ w : World, (Instr.buildSlice 48 1 #[(0, .agg cs)]).run Try.prog w = .ok (.slice (some ⟨w.heap.size, 0, none⟩) 1 1) (w.alloc (.cells cs 98))
 | ⟨[c0, c1, c2]⟩, _, w => rd4_lh48 c0 c1 c2 w
theorem rd4_ig98 : ∃ z, (Try.prog.info? 98).map (fun i => (i.zero, i.size, i.bytes)) = some (some z, 3, 40) ∧ z.cells.size = 3 := info_ex (by kernel_rfl)
theorem rd4_isz48 : (Try.prog.info? 48).map (·.size) = some 1 := by kernel_rfl
theorem rd4_szg24 : ∀ w' : World, (sizeOf 24).run Try.prog w' = .ok 1 w' := fun _ => by kernel_rfl
theorem rd4_inf5 : (Try.prog.info? 5).map (fun i => (i.zero, i.size, i.bytes)) = some (some (.int .u8 0), 1, 1) := by kernel_rfl
theorem rd4_isz24 : (Try.prog.info? 24).map (·.size) = some 1 := by kernel_rfl
theorem rd4_szg3 : ∀ w' : World, (sizeOf 3).run Try.prog w' = .ok 1 w' := fun _ => by kernel_rfl
theorem rd4_l0_47 (w : World) : (Instr.buildSlice 47 0 #[]).run Try.prog w = .ok (.slice (some ⟨w.heap.size, 0, none⟩) 0 0) (w.alloc (.cells #[] 89)) := by kernel_rfl
theorem rd4_ig89 : ∃ z, (Try.prog.info? 89).map (fun i => (i.zero, i.size, i.bytes)) = some (some z, 2, 24) ∧ z.cells.size = 2 := info_ex (by kernel_rfl)
theorem rd4_fo50_5 : FieldOff Try.prog 50 5 5 := fun b o w => by simp [go_sem]
theorem rd4_bs98_0_1_2h (z0 : ByteArray) (z1 : ByteArray) (z2 : Int) (w : World) : (Instr.build 98 #[(0, .string z0), (1, .string z1), (2, .int .i64 z2)]).run Try.prog w = .ok (.agg #[.string z0, .string z1, .int .i64 z2]) w := by kernel_rfl
theorem rd4_bs98_0_1_2 (z0 : List UInt8) (z1 : List UInt8) (z2 : Nat) (w : World) : (Instr.build 98 #[(0, St z0), (1, St z1), (2, NI z2)]).run Try.prog w = .ok (.agg (St (z0) :: (St (z1) :: (NI (z2) :: ([])))).toArray) w := by
 exact rd4_bs98_0_1_2h _ _ _ w
theorem rd4_fo98_1 : FieldOff Try.prog 98 1 1 := fun b o w => by simp [go_sem]
theorem rd4_isz9 : (Try.prog.info? 9).map (·.size) = some 1 := by kernel_rfl
set_option maxHeartbeats 1600000
theorem rappend_any {P : Nat → Prop} (w : World) (D : Dsk) (V : RdkW) (hR : RdAt P w D V) (hP : ∀ b, w.heap.size ≤ b → P b) (hok : DOk D) (hL : DLt D) (hfn : D.files.length < 1099511627776) (s : List UInt8) (vb : Value) (b : List UInt8) (hb : RB w vb b) (hbl : b.length < 1099511627776) (hn1 : D.now.length + 1 < 1099511627776) (ha1 : D.acts.length + 1 < 1099511627776) (hf1 : D.files.length + 1 < 1099511627776) :
  Calls Try.prog 40 #[.agg (rdkC (refP D, V)).toArray, St s, vb] w fun e w' => ∃ V', e = .returned (.tuple #[.agg (rdkC (refP (appendD D s b).1, V')).toArray, NI (appendD D s b).2]) ∧ RdAt P w' (appendD D s b).1 V' ∧ Ext w w' := by
 obtain ⟨vs, hvs, hfiles0⟩ := hR.files
 have hfiles := hfiles0.1
 have hsynced := hR.synced.1
 have hnow := hR.now.1
 have hkept := hR.kept.1
 have hacts := hR.acts.1
 have hqt := hL.quota
 have hut := hL.used
 have hrt := hL.refused
 refine calls_of_wpF (args := [.agg (rdkC (refP D, V)).toArray, St (s), vb]) Try.func40 rfl 89 rfl (Nat.le_of_ble_eq_true rfl) ?_
 intro ρ0 hb
 have T0 : ρ0 0 = (.agg (rdkC (refP D, V)).toArray : Value) := hb.get 0
 have T1 : ρ0 1 = (St (s) : Value) := hb.get 1
 have T2 : ρ0 2 = (vb : Value) := hb.get 2
 clear hb
 have hE := Ext.refl w
 refine sk fun K1 hK1 => (wt (oS rfl (Yk.box (cs := (rdkC (refP D, V) : List Value).toArray) T0 fun n2 w3 hn4 hb5 hx6 hs7 => ?_)))
 have hE := hE.trans hx6
 have hb8 := hb5; clear hb5
 have hl9 : n2 < w3.heap.size := by omega
 refine oS rfl (Yk.alloc (cs := (rdkC ((⟨false, 0, [], [], [], [], [], 0, 0, false⟩, ⟨.slice none 0 0, .slice none 0 0, .slice none 0 0, .slice none 0 0, .slice none 0 0⟩) : RdkV)).toArray) rd4_al50 fun n10 w11 hn12 hb13 hx14 hs15 => ?_)
 have hA16 := Ext.refl w3
 have hea17 := hE
 have hz18 := hE.size
 have hlt19 := lte (bl hb8) hn12
 have hE := hE.trans hx14
 have hb8 := eb hx14 hb8
 have hA16 := hA16.trans hx14
 have hb20 := hb13; clear hb13
 have hl21 : n10 < w11.heap.size := by omega
 refine oA rfl (oZ (tN (hK1 _ _ (sk fun K22 hK22 => (sk fun K23 hK23 => (wt (oS rfl (Yk.loadAll (vr (PQ n2 0) rfl) hb8 (rd4_ty50).choose_spec rfl (st_isz (rdk_len (refP D, V)) rd4_isz50) (oM rfl (oM rfl (oS rfl (Yk.callA3 rd4_pl54 (vr (.agg (rdkC (refP D, V)).toArray) rfl) T1 T1 ((ready_any _ D V (hR.keep hE) s s).mono ?_)))))))))))))
 rintro e w25 ⟨rfl, hx24⟩
 refine ⟨_, rfl, ?_⟩
 have hE := hE.trans hx24
 have hb8 := eb hx24 hb8
 have hA16 := hA16.trans hx24
 have hb20 := eb hx24 hb20
 refine oA rfl (oZ (tN (hK23 _ _ (sk fun K26 hK26 => (wt (oM rfl (oS rfl (Yk.eqI (a := ((readyD D s s) : Nat)) (b := (0 : Nat)) rfl rfl (k_neq _ _ _ _) (oZ (tN (hK26 _ _ ?_)))))))))))
 refine wpF_cond (((readyD D s s) : Nat) ≠ (0)) (vr (.bool (decide (((readyD D s s) : Nat) ≠ (0)))) rfl) (fun hc0 => ?_) (fun hc0 => ?_)
 ·refine sk fun K27 hK27 => (wt (oS rfl (Yk.loadAll (vr (PQ n2 0) rfl) hb8 (rd4_ty50).choose_spec rfl (st_isz (rdk_len (refP D, V)) rd4_isz50) (oM rfl (oS rfl (Yk.storeAll (vr (PQ n10 0) rfl) (vr (.agg (rdkC (refP D, V)).toArray) rfl) hb20 (by simp only [List.size_toArray, rdk_len]) (st_isz (rdk_len _) rd4_isz50) (rdk_one (x := (refP D, V)) (RG.one (hfiles.keep hE)).2 (RG.one (hsynced.keep hE)).2 (RG.one (hnow.keep hE)).2 (RG.one (hkept.keep hE)).2 (RG.one (hacts.keep hE)).2) fun w28 hb29 hg30 hs31 => ?_))))))
  have hE := row_fresh hE hg30 (Nat.le_trans hz18 (by omega))
  have hb8 := kb hg30 hb8 (by omega)
  have hA16 := row_fresh hA16 hg30 (Nat.le_trans (Nat.le_refl _) (by omega))
  clear hb20
  have hb20 : w28.heap[n10]? = some (.cells (rdkC (refP D, V)).toArray 50 (0, 0)) := hb29; clear hb29
  have hl32 := bl hb20
  refine oA rfl (oZ (tN (hK27 _ _ (wpF_ret (thenF_ret (postF_ret (fn := Try.f40) _ rfl [.agg (rdkC (refP D, V)).toArray, NI (readyD D s s)] (.tuple #[.agg (rdkC (refP D, V)).toArray, NI (readyD D s s)]) rfl ⟨ResF.row rfl hb20 (rd4_ty50).choose_spec rfl (st_isz (rdk_len _) rd4_isz50), rfl, trivial⟩ ?_))))))
  rw [appendD_no hc0]
  exact ⟨V, rfl, (hR.keep hE), hE⟩
 refine wpF_skip (tN (hK22 _ _ (sk fun K33 hK33 => (wt (oS rfl (Yk.loadAll (vr (PQ n2 0) rfl) hb8 (rd4_ty50).choose_spec rfl (st_isz (rdk_len (refP D, V)) rd4_isz50) ?_))))))
 have hsz_ : w.heap.size ≤ w25.heap.size := (hE).size
 have hl_n2 : n2 < w25.heap.size := (bl hb8)
 have hl_n10 : n10 < w25.heap.size := (bl hb20)
 refine oS rfl (Yk.callA1 rd4_pl55 (vr (.agg (rdkC (refP D, V)).toArray) rfl) ((copy_any _ D V (hR.keep hE) hL hfn).mono ?_))
 rintro e w36 ⟨V1, rfl, hO34, hx35⟩
 refine ⟨_, rfl, ?_⟩
 have hE := hE.trans hx35
 have hb8 := eb hx35 hb8
 have hA16 := hA16.trans hx35
 have hb20 := eb hx35 hb20
 obtain ⟨us, hFs, h1files⟩ := hO34.files
 have h1synced := hO34.synced
 have h1now := hO34.now
 have h1kept := hO34.kept
 have h1acts := hO34.acts
 have hap37 : OB V1.files n2 := own_older h1files.2 hl_n2
 have hap38 : OB V1.synced n2 := own_older h1synced.2 hl_n2
 have hap39 : OB V1.now n2 := own_older h1now.2 hl_n2
 have hap40 : OB V1.kept n2 := own_older h1kept.2 hl_n2
 have hap41 : OB V1.acts n2 := own_older h1acts.2 hl_n2
 have hap42 : OB V1.files n10 := own_older h1files.2 hl_n10
 have hap43 : OB V1.synced n10 := own_older h1synced.2 hl_n10
 have hap44 : OB V1.now n10 := own_older h1now.2 hl_n10
 have hap45 : OB V1.kept n10 := own_older h1kept.2 hl_n10
 have hap46 : OB V1.acts n10 := own_older h1acts.2 hl_n10
 have hFs := RowsO.low hFs hsz_
 have h1files := OG.low h1files hsz_
 have h1synced := OG.low h1synced hsz_
 have h1now := OG.low h1now hsz_
 have h1kept := OG.low h1kept hsz_
 have h1acts := OG.low h1acts hsz_
 have hap47 : ApartV V1.files V1.synced := apartv_tag h1files.2 h1synced.2 (by decide)
 have hap48 : ApartV V1.files V1.now := apartv_tag h1files.2 h1now.2 (by decide)
 have hap49 : ApartV V1.files V1.kept := apartv_tag h1files.2 h1kept.2 (by decide)
 have hap50 : ApartV V1.files V1.acts := apartv_tag h1files.2 h1acts.2 (by decide)
 have hap51 : ApartV V1.synced V1.files := apartv_tag h1synced.2 h1files.2 (by decide)
 have hap52 : ApartV V1.synced V1.now := apartv_tag h1synced.2 h1now.2 (by decide)
 have hap53 : ApartV V1.synced V1.kept := apartv_tag h1synced.2 h1kept.2 (by decide)
 have hap54 : ApartV V1.synced V1.acts := apartv_tag h1synced.2 h1acts.2 (by decide)
 have hap55 : ApartV V1.now V1.files := apartv_tag h1now.2 h1files.2 (by decide)
 have hap56 : ApartV V1.now V1.synced := apartv_tag h1now.2 h1synced.2 (by decide)
 have hap57 : ApartV V1.now V1.acts := apartv_tag h1now.2 h1acts.2 (by decide)
 have hap58 : ApartV V1.kept V1.files := apartv_tag h1kept.2 h1files.2 (by decide)
 have hap59 : ApartV V1.kept V1.synced := apartv_tag h1kept.2 h1synced.2 (by decide)
 have hap60 : ApartV V1.kept V1.acts := apartv_tag h1kept.2 h1acts.2 (by decide)
 have hap61 : ApartV V1.acts V1.files := apartv_tag h1acts.2 h1files.2 (by decide)
 have hap62 : ApartV V1.acts V1.synced := apartv_tag h1acts.2 h1synced.2 (by decide)
 have hap63 : ApartV V1.acts V1.now := apartv_tag h1acts.2 h1now.2 (by decide)
 have hap64 : ApartV V1.acts V1.kept := apartv_tag h1acts.2 h1kept.2 (by decide)
 refine oS rfl (Yk.storeAll (vr (PQ n2 0) rfl) (vr (.agg (rdkC (refP D, V1)).toArray) rfl) hb8 (by simp only [List.size_toArray, rdk_len]) (st_isz (rdk_len _) rd4_isz50) (rdk_one (x := (refP D, V1)) (RG.one (RG.ofOwn h1files)).2 (RG.one (RG.ofOwn h1synced)).2 (RG.one (RG.ofOwn h1now)).2 (RG.one (RG.ofOwn h1kept)).2 (RG.one (RG.ofOwn h1acts)).2) fun w65 hb66 hg67 hs68 => ?_)
 have hE := row_fresh hE hg67 (Nat.le_trans (Nat.le_refl _) (by omega))
 clear hA16
 have hb20 := kb hg67 hb20 (by omega)
 have h1files := OG.kept h1files hg67 hap37
 have h1synced := OG.kept h1synced hg67 hap38
 have h1now := OG.kept h1now hg67 hap39
 have h1kept := OG.kept h1kept hg67 hap40
 have h1acts := OG.kept h1acts hg67 hap41
 have hFs : RowsO w.heap.size w65 us (D.files.map Prod.fst) := RowsO.set hFs hg67 hb8 (by decide)
 clear hb8
 have hb8 : w65.heap[n2]? = some (.cells (rdkC (refP D, V1)).toArray 50 (0, 0)) := hb66; clear hb66
 have hl69 := bl hb8
 refine oZ ?_
 have hO0 := (⟨⟨us, hFs, h1files⟩, h1synced, h1now, h1kept, h1acts⟩ : RdO w.heap.size _ D V1)
 refine tN (hK33 _ _ (sk fun K70 hK70 => (sk fun K71 hK71 => ?_)))
 refine wpF_draw [Is (vb), Is (NI b.length), Is (PQ n2 1), Is (NI D.quota), Is (.agg (rdkC (refP D, V1)).toArray), Is (NI (usedD D)), Is (.int .i64 (((((D.quota : Nat) : Int)) - ((((usedD D) : Nat) : Int))) : Int)), Is (.bool (decide ((((((D.quota : Nat) : Int)) - ((((usedD D) : Nat) : Int))) : Int) < ((b.length : Nat) : Int))))] (by kernel_rfl) [22, 23, 24, 25, 26, 27, 28, 29] (by kernel_rfl) (by kernel_rfl) (si8 trivial) ?hs1005 ?hQ1005
 case hs1005 =>
  refine ⟨?_, ?_, ?_, ?_, ?_, ?_, ?_, ?_, trivial⟩
  ·refine stepN rfl fun σ w1 hC h => ?_
   have e2 := (eqo (h 2 (by decide))).trans T2
   exact Yk.move e2 ⟨Ext.refl _, rfl⟩
  ·refine stepN rfl fun σ w1 hC h => ?_
   have e22 := eqo (h 22 (by decide))
   exact Yk.lenRB rd4_ty24 (RB.of (hb.keep (hE.trans hC)) e22) ⟨Ext.refl _, rfl⟩
  ·refine stepN rfl fun σ w1 hC h => ?_
   have e3 : σ 3 = PQ n2 0 := (eqo (h 3 (by decide))).trans rfl
   exact Yk.fieldAt rd4_fo50_1 e3 ⟨Ext.refl _, rfl⟩
  ·refine stepN rfl fun σ w1 hC h => ?_
   have e24 := eqo (h 24 (by decide))
   exact Yk.cell1 rd4_ty3 rfl e24 (cellAt (eb hC hb8) (show (rdkC (refP D, V1))[1]? = some (NI D.quota : Value) from rdk_g1 (refP D, V1))) ⟨Ext.refl _, rfl⟩
  ·refine stepN rfl fun σ w1 hC h => ?_
   have e3 : σ 3 = PQ n2 0 := (eqo (h 3 (by decide))).trans rfl
   exact Yk.loadAll e3 (eb hC hb8) (rd4_ty50).choose_spec rfl (st_isz (rdk_len (refP D, V1)) rd4_isz50) ⟨Ext.refl _, rfl⟩
  ·refine stepN rfl fun σ w1 hC h => ?_
   have e26 := eqo (h 26 (by decide))
   refine Yk.callA1 rd4_pl21 e26 ((used_any _ D V1 (RdO.at_ (hO0.keep hC) (P := fun _ => True) (fun _ _ => trivial)) hok hL).mono ?_)
   rintro e w2 ⟨rfl, hx⟩
   exact ⟨_, rfl, hx, rfl⟩
  ·refine stepN rfl fun σ w1 hC h => ?_
   have e25 := eqo (h 25 (by decide))
   have e27 := eqo (h 27 (by decide))
   exact Yk.bin (xv := .int .i64 (((D.quota : Nat) : Int))) (yv := .int .i64 ((((usedD D) : Nat) : Int))) e25 e27 rfl (zi_sub _ (((D.quota : Nat) : Int)) ((((usedD D) : Nat) : Int)) (by omega)) ⟨Ext.refl _, rfl⟩
  ·refine stepN rfl fun σ w1 hC h => ?_
   have e23 := eqo (h 23 (by decide))
   have e28 := eqo (h 28 (by decide))
   exact Yk.eqI e23 e28 (z_gtr _ .i64 ((b.length : Nat) : Int) (((((D.quota : Nat) : Int)) - ((((usedD D) : Nat) : Int))) : Int)) ⟨Ext.refl _, rfl⟩
 intro ρ72 w73 hx74 he hf
 obtain ⟨-, -, -, -, -, -, -, k29, -⟩ := hf
 obtain ⟨T0, T1, T2, T3, T6, T7, T8, -⟩ := he.hold [(0, _), (1, _), (2, _), (3, PQ n2 0), (6, PQ n10 0), (7, NI 0), (8, NI (readyD D s s))] ⟨T0, T1, T2, rfl, rfl, rfl, rfl, trivial⟩ rfl
 clear he
 have hE := hE.trans hx74
 have hb20 := eb hx74 hb20
 have h1files := h1files.keep hx74
 have h1synced := h1synced.keep hx74
 have h1now := h1now.keep hx74
 have h1kept := h1kept.keep hx74
 have h1acts := h1acts.keep hx74
 have hFs : RowsO w.heap.size w73 us (D.files.map Prod.fst) := (hFs.keep hx74)
 have hb8 := eb hx74 hb8
 have hO0 : RdO w.heap.size w73 D V1 := (hO0.keep hx74)
 have T29 : ρ72 29 = .bool (decide ((((((D.quota : Nat) : Int)) - ((((usedD D) : Nat) : Int))) : Int) < ((b.length : Nat) : Int))) := k29
 clear k29
 refine tN (hK71 _ _ ?_)
 refine wpF_cond ((((((D.quota : Nat) : Int)) - ((((usedD D) : Nat) : Int))) : Int) < ((b.length : Nat) : Int)) T29 (fun hc1 => ?_) (fun hc1 => ?_)
 ·have hq : D.quota < usedD D + b.length := by have h := hc1; omega
  refine sk fun K75 hK75 => (wt (oS rfl (Yk.fieldAt rd4_fo50_7 T3 (oS rfl (Yk.cell1 rd4_ty3 rfl (vr (PQ n2 7) rfl) (cellAt hb8 (show (rdkC (refP D, V1))[7]? = some (NI D.refused : Value) from rdk_g7 (refP D, V1))) (oS rfl (Yk.bin (xv := NI D.refused) (yv := NI 1) rfl rfl rfl (i64_add _ _ _ (by omega)) (oS rfl (Yk.fieldAt rd4_fo50_7 T3 (oS rfl (Yk.storeC (i := 7) (v := NI ((D.refused) + (1))) (vr (PQ n2 7) rfl) (vr (NI ((D.refused) + (1))) rfl) hb8 (by rw [rdk_len]; decide) rd4_isz3 rfl rfl fun w76 hb77 hg78 hs79 => ?_)))))))))))
  have hE := row_fresh hE hg78 (Nat.le_trans (Nat.le_refl _) (by omega))
  have hb20 := kb hg78 hb20 (by omega)
  have h1files := OG.kept h1files hg78 hap37
  have h1synced := OG.kept h1synced hg78 hap38
  have h1now := OG.kept h1now hg78 hap39
  have h1kept := OG.kept h1kept hg78 hap40
  have h1acts := OG.kept h1acts hg78 hap41
  have hFs : RowsO w.heap.size w76 us (D.files.map Prod.fst) := RowsO.set hFs hg78 hb8 (by decide)
  clear hO0
  clear hb8
  have hb8 : w76.heap[n2]? = some (.cells (rdkC ((⟨true, ((D.quota : Nat) : Int), (D.files.map Prod.fst), (D.files.map fun x => ((x.2 : Nat) : Int)), D.now, D.kept, D.acts, ((D.refused) + (1)), D.arm, D.down⟩, ⟨V1.files, V1.synced, V1.now, V1.kept, V1.acts⟩) : RdkV)).toArray 50 (0, 0)) := blk_eq hb77 (rdk_s7 (refP D, V1) ((D.refused) + (1))); clear hb77
  have hl80 := bl hb8
  refine oZ (tN (hK75 _ _ (sk fun K81 hK81 => (wt (oS rfl (Yk.loadAll T3 hb8 (rd4_ty50).choose_spec rfl (st_isz (rdk_len ((⟨true, ((D.quota : Nat) : Int), (D.files.map Prod.fst), (D.files.map fun x => ((x.2 : Nat) : Int)), D.now, D.kept, D.acts, ((D.refused) + (1)), D.arm, D.down⟩, ⟨V1.files, V1.synced, V1.now, V1.kept, V1.acts⟩) : RdkV)) rd4_isz50) (oS rfl (Yk.storeAll T6 (vr (.agg (rdkC ((⟨true, ((D.quota : Nat) : Int), (D.files.map Prod.fst), (D.files.map fun x => ((x.2 : Nat) : Int)), D.now, D.kept, D.acts, ((D.refused) + (1)), D.arm, D.down⟩, ⟨V1.files, V1.synced, V1.now, V1.kept, V1.acts⟩) : RdkV)).toArray) rfl) hb20 (by simp only [List.size_toArray, rdk_len]) (st_isz (rdk_len _) rd4_isz50) (rdk_one (x := ((⟨true, ((D.quota : Nat) : Int), (D.files.map Prod.fst), (D.files.map fun x => ((x.2 : Nat) : Int)), D.now, D.kept, D.acts, ((D.refused) + (1)), D.arm, D.down⟩, ⟨V1.files, V1.synced, V1.now, V1.kept, V1.acts⟩) : RdkV)) (RG.one (RG.ofOwn h1files)).2 (RG.one (RG.ofOwn h1synced)).2 (RG.one (RG.ofOwn h1now)).2 (RG.one (RG.ofOwn h1kept)).2 (RG.one (RG.ofOwn h1acts)).2) fun w82 hb83 hg84 hs85 => ?_))))))))
  have hE := row_fresh hE hg84 (Nat.le_trans hz18 (by omega))
  have h1files := OG.kept h1files hg84 hap42
  have h1synced := OG.kept h1synced hg84 hap43
  have h1now := OG.kept h1now hg84 hap44
  have h1kept := OG.kept h1kept hg84 hap45
  have h1acts := OG.kept h1acts hg84 hap46
  have hFs : RowsO w.heap.size w82 us (D.files.map Prod.fst) := RowsO.set hFs hg84 hb20 (by decide)
  have hb8 := kb hg84 hb8 (by omega)
  clear hb20
  have hb20 : w82.heap[n10]? = some (.cells (rdkC ((⟨true, ((D.quota : Nat) : Int), (D.files.map Prod.fst), (D.files.map fun x => ((x.2 : Nat) : Int)), D.now, D.kept, D.acts, ((D.refused) + (1)), D.arm, D.down⟩, ⟨V1.files, V1.synced, V1.now, V1.kept, V1.acts⟩) : RdkV)).toArray 50 (0, 0)) := hb83; clear hb83
  have hl86 := bl hb20
  refine oA rfl (oZ (tN (hK81 _ _ (wpF_ret (thenF_ret (postF_ret (fn := Try.f40) _ rfl [.agg (rdkC ((⟨true, ((D.quota : Nat) : Int), (D.files.map Prod.fst), (D.files.map fun x => ((x.2 : Nat) : Int)), D.now, D.kept, D.acts, ((D.refused) + (1)), D.arm, D.down⟩, ⟨V1.files, V1.synced, V1.now, V1.kept, V1.acts⟩) : RdkV)).toArray, NI 8] (.tuple #[.agg (rdkC ((⟨true, ((D.quota : Nat) : Int), (D.files.map Prod.fst), (D.files.map fun x => ((x.2 : Nat) : Int)), D.now, D.kept, D.acts, ((D.refused) + (1)), D.arm, D.down⟩, ⟨V1.files, V1.synced, V1.now, V1.kept, V1.acts⟩) : RdkV)).toArray, NI 8]) rfl ⟨ResF.row T6 hb20 (rd4_ty50).choose_spec rfl (st_isz (rdk_len _) rd4_isz50), rfl, trivial⟩ ?_))))))
  have hOe : RdO w.heap.size w82 ({ D with refused := D.refused + 1 }) V1 := ⟨⟨us, hFs, h1files⟩, h1synced, h1now, h1kept, h1acts⟩
  rw [appendD_full hc0 hq]
  exact ⟨V1, rfl, hOe.at_ hP, hE⟩
 have hq : ¬ D.quota < usedD D + b.length := by have h := hc1; omega
 refine wpF_skip (tN (hK70 _ _ (sk fun K87 hK87 => (wt (oS rfl (Yk.loadAll T3 hb8 (rd4_ty50).choose_spec rfl (st_isz (rdk_len (refP D, V1)) rd4_isz50) ?_))))))
 have hO1 := (⟨⟨us, hFs, h1files⟩, h1synced, h1now, h1kept, h1acts⟩ : RdO w.heap.size _ D V1)
 obtain ⟨D1, dn, hD1⟩ : ∃ x y, armD D = (x, y) := ⟨_, _, rfl⟩
 have hD1f : (armD D).1 = D1 := congrArg Prod.fst hD1
 have hO2 := hO1.armed
 rw [hD1f] at hO2
 have hok1 := arm_ok hok
 rw [hD1f] at hok1
 have hL1 := arm_lt hL
 rw [hD1f] at hL1
 have hfe := arm_same D
 rw [hD1f] at hfe
 obtain ⟨hfe1, hfe2, hfe3, hfe4, hfe5, hfe6⟩ := hfe
 refine oS rfl (Yk.callA1 rd4_pl56 (vr (.agg (rdkC (refP D, V1)).toArray) rfl) ((armed_is _ D V1 (RdO.at_ hO1 (P := fun _ => True) (fun _ _ => trivial)) hL hD1).mono ?_))
 rintro e w89 ⟨rfl, hx88⟩
 refine ⟨_, rfl, ?_⟩
 have hE := hE.trans hx88
 have hb20 := eb hx88 hb20
 have h1files := h1files.keep hx88
 have h1synced := h1synced.keep hx88
 have h1now := h1now.keep hx88
 have h1kept := h1kept.keep hx88
 have h1acts := h1acts.keep hx88
 have hFs : RowsO w.heap.size w89 us (D.files.map Prod.fst) := (hFs.keep hx88)
 have hb8 := eb hx88 hb8
 have hO0 : RdO w.heap.size w89 D V1 := (hO0.keep hx88)
 have hO3 : RdO w.heap.size w89 D1 V1 := RdO.same (D := D) ⟨⟨us, hFs, h1files⟩, h1synced, h1now, h1kept, h1acts⟩ hfe1 hfe2 hfe3 hfe4
 clear hFs h1files h1synced h1now h1kept h1acts
 have hus := hO3
 obtain ⟨us, hFs, h1files⟩ := hO3.files
 have h1synced := hO3.synced
 have h1now := hO3.now
 have h1kept := hO3.kept
 have h1acts := hO3.acts
 refine oM rfl (oS rfl (Yk.extract (vs := [.agg (rdkC (refP D1, V1)).toArray, .bool (dn)]) (vr (.tuple #[.agg (rdkC (refP D1, V1)).toArray, .bool (dn)]) rfl) (show _ = some (.agg (rdkC (refP D1, V1)).toArray : Value) from rfl) (oS rfl (Yk.extract (vs := [.agg (rdkC (refP D1, V1)).toArray, .bool (dn)]) (vr (.tuple #[.agg (rdkC (refP D1, V1)).toArray, .bool (dn)]) rfl) (show _ = some (.bool (dn) : Value) from rfl) (oS rfl (Yk.storeAll T3 (vr (.agg (rdkC (refP D1, V1)).toArray) rfl) hb8 (by simp only [List.size_toArray, rdk_len]) (st_isz (rdk_len _) rd4_isz50) (rdk_one (x := (refP D1, V1)) (RG.one (RG.ofOwn h1files)).2 (RG.one (RG.ofOwn h1synced)).2 (RG.one (RG.ofOwn h1now)).2 (RG.one (RG.ofOwn h1kept)).2 (RG.one (RG.ofOwn h1acts)).2) fun w90 hb91 hg92 hs93 => ?_))))))
 have hE := row_fresh hE hg92 (Nat.le_trans (Nat.le_refl _) (by omega))
 have hb20 := kb hg92 hb20 (by omega)
 have h1files := OG.kept h1files hg92 hap37
 have h1synced := OG.kept h1synced hg92 hap38
 have h1now := OG.kept h1now hg92 hap39
 have h1kept := OG.kept h1kept hg92 hap40
 have h1acts := OG.kept h1acts hg92 hap41
 have hFs : RowsO w.heap.size w90 us (D1.files.map Prod.fst) := RowsO.set hFs hg92 hb8 (by decide)
 clear hO0
 clear hb8
 have hb8 : w90.heap[n2]? = some (.cells (rdkC (refP D1, V1)).toArray 50 (0, 0)) := hb91; clear hb91
 have hl94 := bl hb8
 refine oA rfl (oZ (tN (hK87 _ _ (sk fun K95 hK95 => (sk fun K96 hK96 => (wt (oM rfl (oZ (tN (hK96 _ _ ?_))))))))))
 refine wpF_condB (dn) (vr (.bool (dn)) rfl) (fun hc2 => ?_) (fun hc2 => ?_)
 ·rw [show dn = true from hc2] at hD1
  refine sk fun K97 hK97 => (wt (oS rfl (Yk.loadAll T3 hb8 (rd4_ty50).choose_spec rfl (st_isz (rdk_len (refP D1, V1)) rd4_isz50) (oS rfl (Yk.storeAll T6 (vr (.agg (rdkC (refP D1, V1)).toArray) rfl) hb20 (by simp only [List.size_toArray, rdk_len]) (st_isz (rdk_len _) rd4_isz50) (rdk_one (x := (refP D1, V1)) (RG.one (RG.ofOwn h1files)).2 (RG.one (RG.ofOwn h1synced)).2 (RG.one (RG.ofOwn h1now)).2 (RG.one (RG.ofOwn h1kept)).2 (RG.one (RG.ofOwn h1acts)).2) fun w98 hb99 hg100 hs101 => ?_)))))
  have hE := row_fresh hE hg100 (Nat.le_trans hz18 (by omega))
  have h1files := OG.kept h1files hg100 hap42
  have h1synced := OG.kept h1synced hg100 hap43
  have h1now := OG.kept h1now hg100 hap44
  have h1kept := OG.kept h1kept hg100 hap45
  have h1acts := OG.kept h1acts hg100 hap46
  have hFs : RowsO w.heap.size w98 us (D1.files.map Prod.fst) := RowsO.set hFs hg100 hb20 (by decide)
  have hb8 := kb hg100 hb8 (by omega)
  clear hb20
  have hb20 : w98.heap[n10]? = some (.cells (rdkC (refP D1, V1)).toArray 50 (0, 0)) := hb99; clear hb99
  have hl102 := bl hb20
  refine oA rfl (oZ (tN (hK97 _ _ (wpF_ret (thenF_ret (postF_ret (fn := Try.f40) _ rfl [.agg (rdkC (refP D1, V1)).toArray, NI 9] (.tuple #[.agg (rdkC (refP D1, V1)).toArray, NI 9]) rfl ⟨ResF.row T6 hb20 (rd4_ty50).choose_spec rfl (st_isz (rdk_len _) rd4_isz50), rfl, trivial⟩ ?_))))))
  have hOe : RdO w.heap.size w98 (D1) V1 := ⟨⟨us, hFs, h1files⟩, h1synced, h1now, h1kept, h1acts⟩
  rw [appendD_down hc0 hq hD1]
  exact ⟨V1, rfl, hOe.at_ hP, hE⟩
 rw [show dn = false from hc2] at hD1
 have hul : us.length = D1.files.length := by rw [hFs.len, List.length_map]
 have hf1 : D1.files.length + 1 < 1099511627776 := by rw [hfe1]; exact hf1
 have hn1 : D1.now.length + 1 < 1099511627776 := by rw [hfe2]; exact hn1
 have ha1 : D1.acts.length + 1 < 1099511627776 := by rw [hfe4]; exact ha1
 have hrs : mayD s = true := by have h0 : readyD D s s = 0 := Classical.not_not.1 hc0; exact ready_may h0
 cases hk : lookD D1.now s
 ·have hlz := lookZ_none hk
  refine wpF_skip (tN (hK95 _ _ (sk fun K103 hK103 => (sk fun K104 hK104 => (wt (oS rfl (Yk.fieldAt rd4_fo50_4 T3 (oS rfl (Yk.cell1 rd4_ty47 rfl (vr (PQ n2 4) rfl) (cellAt hb8 (show (rdkC (refP D1, V1))[4]? = some (V1.now : Value) from rdk_g4 (refP D1, V1))) (oM rfl (oS rfl (Yk.callA2 rd4_pl57 (vr V1.now rfl) T1 ((rlook_is _ V1.now D1.now s (-1) (RG.ofOwn h1now) (hL1.now) (hlz)).mono ?_)))))))))))))
  rintro e w106 ⟨rfl, hx105⟩
  refine ⟨_, rfl, ?_⟩
  have hE := hE.trans hx105
  have hb20 := eb hx105 hb20
  have h1files := h1files.keep hx105
  have h1synced := h1synced.keep hx105
  have h1now := h1now.keep hx105
  have h1kept := h1kept.keep hx105
  have h1acts := h1acts.keep hx105
  have hFs : RowsO w.heap.size w106 us (D1.files.map Prod.fst) := (hFs.keep hx105)
  have hb8 := eb hx105 hb8
  refine oS rfl (Yk.eqI (vr (.int .i64 (-1 : Int)) rfl) (vr (NI 0) rfl) (z_lss _ .i64 (-1 : Int) ((0 : Nat) : Int)) (oZ (tN (hK104 _ _ (wpF_true (vr (.bool (true)) (congrArg Value.bool (decide_eq_true (by decide)))) (sk fun K107 hK107 => (wt (oM rfl (oS rfl (Yk.fieldAt rd4_fo50_2 T3 (oS rfl (Yk.cell1 rd4_ty23 rfl (vr (PQ n2 2) rfl) (cellAt hb8 (show (rdkC (refP D1, V1))[2]? = some (V1.files : Value) from rdk_g2 (refP D1, V1))) (oS rfl (Yk.lenRGe rd4_ty23 (RG.of (RG.ofOwn h1files) (vr V1.files rfl)) hul (oS rfl (Yk.build2 T1 (vr (NI D1.files.length) rfl) (fun w => rd4_bs98_1_2 s D1.files.length w) (oS rfl (Yk.alloc (cs := (racC (⟨[], [], 0⟩ : ActD)).toArray) rd4_al98 fun n108 w109 hn110 hb111 hx112 hs113 => ?_))))))))))))))))))
  have hA114 := Ext.refl w106
  have hea115 := hE
  have hz116 := hE.size
  have hlt117 := lte (bl hb20) hn110
  have hlt118 := lte (bl hb8) hn110
  have hap119 : OB V1.files n108 := own_newer h1files.2 (by omega)
  have hap120 : OB V1.synced n108 := own_newer h1synced.2 (by omega)
  have hap121 : OB V1.now n108 := own_newer h1now.2 (by omega)
  have hap122 : OB V1.kept n108 := own_newer h1kept.2 (by omega)
  have hap123 : OB V1.acts n108 := own_newer h1acts.2 (by omega)
  have hE := hE.trans hx112
  have hb20 := eb hx112 hb20
  have h1files := h1files.keep hx112
  have h1synced := h1synced.keep hx112
  have h1now := h1now.keep hx112
  have h1kept := h1kept.keep hx112
  have h1acts := h1acts.keep hx112
  have hFs : RowsO w.heap.size w109 us (D1.files.map Prod.fst) := (hFs.keep hx112)
  have hb8 := eb hx112 hb8
  have hA114 := hA114.trans hx112
  have hb124 := hb111; clear hb111
  have hl125 : n108 < w109.heap.size := by omega
  refine oS rfl (Yk.storeAll (vr (PQ n108 0) rfl) (vr (.agg (racC (⟨[], s, D1.files.length⟩ : ActD)).toArray) rfl) hb124 (by simp only [List.size_toArray, rac_len]) (st_isz (rac_len _) rd4_isz98) (rac_one (x := (⟨[], s, D1.files.length⟩ : ActD))) fun w126 hb127 hg128 hs129 => ?_)
  have hE := row_fresh hE hg128 (Nat.le_trans hz116 (by omega))
  have hb20 := kb hg128 hb20 (by omega)
  have h1files := OG.kept h1files hg128 hap119
  have h1synced := OG.kept h1synced hg128 hap120
  have h1now := OG.kept h1now hg128 hap121
  have h1kept := OG.kept h1kept hg128 hap122
  have h1acts := OG.kept h1acts hg128 hap123
  have hFs : RowsO w.heap.size w126 us (D1.files.map Prod.fst) := RowsO.set hFs hg128 hb124 (by decide)
  have hb8 := kb hg128 hb8 (by omega)
  have hA114 := row_fresh hA114 hg128 (Nat.le_trans (Nat.le_refl _) (by omega))
  clear hb124
  have hb124 : w126.heap[n108]? = some (.cells (racC (⟨[], s, D1.files.length⟩ : ActD)).toArray 98 (0, 0)) := hb127; clear hb127
  have hl130 := bl hb124
  refine oZ ?_
  have hve : ∃ ao n c, Value.slice none 0 0 = .slice ao n c := ⟨_, _, _, rfl⟩
  have hve1 : (Value.slice none 0 0).oneCell' = true := rfl
  refine tN (hK107 _ _ (sk fun K131 hK131 => (wt (oS rfl (Yk.fieldAt rd4_fo50_2 T3 (oS rfl (Yk.cell1 rd4_ty23 rfl (vr (PQ n2 2) rfl) (cellAt hb8 (show (rdkC (refP D1, V1))[2]? = some (V1.files : Value) from rdk_g2 (refP D1, V1))) (oS rfl (Yk.lit1S (a := ((Value.slice none 0 0))) (enc := enV) (vr (Value.slice none 0 0) rfl) rfl (fun w => rd4_lk23 _ _ _ w) fun v132 w133 hr134 hx135 => ?_)))))))))
  have hE := hE.trans hx135
  have hb20 := eb hx135 hb20
  have h1files := h1files.keep hx135
  have h1synced := h1synced.keep hx135
  have h1now := h1now.keep hx135
  have h1kept := h1kept.keep hx135
  have h1acts := h1acts.keep hx135
  have hFs : RowsO w.heap.size w133 us (D1.files.map Prod.fst) := (hFs.keep hx135)
  have hb8 := eb hx135 hb8
  have hA114 := hA114.trans hx135
  have hb124 := eb hx135 hb124
  refine oS rfl (Yk.appendRG _ _ w.heap.size _ 24 rd4_ty23 rd4_ig24.choose_spec.1 rd4_ig24.choose_spec.2 rd4_ty23 (us) ([((Value.slice none 0 0))]) (OG.of h1files (vr V1.files rfl)) (RG.of hr134 (vr v132 rfl)) (fun y hy u hu => by rw [List.mem_singleton.1 hu, List.mem_singleton.1 hy]; exact hve1) (by first | omega | (simp only [List.length_append, List.length_singleton, List.length_map]; omega)) (by first | omega | (simp only [List.length_append, List.length_singleton, List.length_map]; omega)) hE.size fun v136 w137 ho138 hg139 => ?_)
  have hg139 : Grew w133 w137 V1.files v136 := hg139
  have hap140 : OB v136 n2 := apart_grew hg139 hap37 (bl hb8)
  have hap141 : OB v136 n10 := apart_grew hg139 hap42 (bl hb20)
  have hap142 : ApartV v136 V1.synced := apartv_grew hg139 hap47 h1synced.2
  have hap143 : ApartV V1.synced v136 := fun k h1 h2 => hap142 k h2 h1
  have hap144 : ApartV v136 V1.now := apartv_grew hg139 hap48 h1now.2
  have hap145 : ApartV V1.now v136 := fun k h1 h2 => hap144 k h2 h1
  have hap146 : ApartV v136 V1.kept := apartv_grew hg139 hap49 h1kept.2
  have hap147 : ApartV V1.kept v136 := fun k h1 h2 => hap146 k h2 h1
  have hap148 : ApartV v136 V1.acts := apartv_grew hg139 hap50 h1acts.2
  have hap149 : ApartV V1.acts v136 := fun k h1 h2 => hap148 k h2 h1
  have hap150 : OB v136 n108 := apart_grew hg139 hap119 (bl hb124)
  have hE := ext_grew hE hg139 h1files.2 (Nat.le_refl _)
  have hb20 := blk_grew hb20 hg139 hap42
  have h1synced := og_grew h1synced hg139 hap47
  have h1now := og_grew h1now hg139 hap48
  have h1kept := og_grew h1kept hg139 hap49
  have h1acts := og_grew h1acts hg139 hap50
  have hFs : RowsO w.heap.size w137 us (D1.files.map Prod.fst) := RowsO.grew hFs hg139 h1files.2 (by decide)
  have hb8 := blk_grew hb8 hg139 hap37
  clear hA114
  have hb124 := blk_grew hb124 hg139 hap119
  clear hr134
  clear h1files
  refine oS rfl (Yk.fieldAt rd4_fo50_2 T3 (oS rfl (Yk.storeC (i := 2) (v := v136) (vr (PQ n2 2) rfl) (vr v136 rfl) hb8 (by rw [rdk_len]; decide) rd4_isz23 (RG.one (RG.ofOwn ho138)).1 (RG.one (RG.ofOwn ho138)).2 fun w151 hb152 hg153 hs154 => ?_)))
  have hE := row_fresh hE hg153 (Nat.le_trans (Nat.le_refl _) (by omega))
  have hb20 := kb hg153 hb20 (by omega)
  have h1synced := OG.kept h1synced hg153 hap38
  have h1now := OG.kept h1now hg153 hap39
  have h1kept := OG.kept h1kept hg153 hap40
  have h1acts := OG.kept h1acts hg153 hap41
  have hFs : RowsO w.heap.size w151 us (D1.files.map Prod.fst) := RowsO.set hFs hg153 hb8 (by decide)
  have hb124 := kb hg153 hb124 (by omega)
  have ho138 := OG.kept ho138 hg153 hap140
  clear hb8
  have hb8 : w151.heap[n2]? = some (.cells (rdkC ((⟨true, ((D1.quota : Nat) : Int), (D1.files.map Prod.fst ++ [[]]), (D1.files.map fun x => ((x.2 : Nat) : Int)), D1.now, D1.kept, D1.acts, D1.refused, D1.arm, D1.down⟩, ⟨v136, V1.synced, V1.now, V1.kept, V1.acts⟩) : RdkV)).toArray 50 (0, 0)) := blk_eq hb152 (rdk_s2 (refP D1, V1) v136 ((D1.files.map Prod.fst ++ [[]]))); clear hb152
  have hl155 := bl hb8
  refine oZ ?_
  have hFs := RowsO.snoc hFs (v := Value.slice none 0 0) (l := []) (World.ownsRow_nil _ _ _ 1) (fun i hi x hx e => by cases e)
  refine tN (hK131 _ _ (sk fun K156 hK156 => (wt (oS rfl (Yk.fieldAt rd4_fo50_3 T3 (oS rfl (Yk.cell1 rd4_ty25 rfl (vr (PQ n2 3) rfl) (cellAt hb8 (show (rdkC ((⟨true, ((D1.quota : Nat) : Int), (D1.files.map Prod.fst ++ [[]]), (D1.files.map fun x => ((x.2 : Nat) : Int)), D1.now, D1.kept, D1.acts, D1.refused, D1.arm, D1.down⟩, ⟨v136, V1.synced, V1.now, V1.kept, V1.acts⟩) : RdkV))[3]? = some (V1.synced : Value) from rdk_g3 ((⟨true, ((D1.quota : Nat) : Int), (D1.files.map Prod.fst ++ [[]]), (D1.files.map fun x => ((x.2 : Nat) : Int)), D1.now, D1.kept, D1.acts, D1.refused, D1.arm, D1.down⟩, ⟨v136, V1.synced, V1.now, V1.kept, V1.acts⟩) : RdkV))) (oS rfl (Yk.lit1S (a := 0) (enc := enI) (vr (NI 0) rfl) rfl (fun w => rd4_lk25 _ w) fun v157 w158 hr159 hx160 => ?_)))))))))
  have hE := hE.trans hx160
  have hb20 := eb hx160 hb20
  have h1synced := h1synced.keep hx160
  have h1now := h1now.keep hx160
  have h1kept := h1kept.keep hx160
  have h1acts := h1acts.keep hx160
  have hFs : RowsO w.heap.size w158 (us ++ [Value.slice none 0 0]) ((D1.files.map Prod.fst) ++ [[]]) := (hFs.keep hx160)
  have hb124 := eb hx160 hb124
  have ho138 := ho138.keep hx160
  have hb8 := eb hx160 hb8
  refine oS rfl (Yk.appendRG _ _ w.heap.size _ 8 rd4_ty25 rd4_ig3.choose_spec.1 rd4_ig3.choose_spec.2 rd4_ty25 ((D1.files.map fun x => ((x.2 : Nat) : Int))) ([0]) (OG.of h1synced (vr V1.synced rfl)) (RG.of hr159 (vr v157 rfl)) (fun y hy u hu => by rw [List.mem_singleton.1 hu]; rfl) (by first | omega | (simp only [List.length_append, List.length_singleton, List.length_map]; omega)) (by first | omega | (simp only [List.length_append, List.length_singleton, List.length_map]; omega)) hE.size fun v161 w162 ho163 hg164 => ?_)
  have hg164 : Grew w158 w162 V1.synced v161 := hg164
  have hap165 : OB v161 n2 := apart_grew hg164 hap38 (bl hb8)
  have hap166 : OB v161 n10 := apart_grew hg164 hap43 (bl hb20)
  have hap167 : ApartV v161 V1.now := apartv_grew hg164 hap52 h1now.2
  have hap168 : ApartV V1.now v161 := fun k h1 h2 => hap167 k h2 h1
  have hap169 : ApartV v161 V1.kept := apartv_grew hg164 hap53 h1kept.2
  have hap170 : ApartV V1.kept v161 := fun k h1 h2 => hap169 k h2 h1
  have hap171 : ApartV v161 V1.acts := apartv_grew hg164 hap54 h1acts.2
  have hap172 : ApartV V1.acts v161 := fun k h1 h2 => hap171 k h2 h1
  have hap173 : OB v161 n108 := apart_grew hg164 hap120 (bl hb124)
  have hap174 : ApartV v161 v136 := apartv_grew hg164 hap143 ho138.2
  have hap175 : ApartV v136 v161 := fun k h1 h2 => hap174 k h2 h1
  have hE := ext_grew hE hg164 h1synced.2 (Nat.le_refl _)
  have hb20 := blk_grew hb20 hg164 hap43
  have h1now := og_grew h1now hg164 hap52
  have h1kept := og_grew h1kept hg164 hap53
  have h1acts := og_grew h1acts hg164 hap54
  have hFs : RowsO w.heap.size w162 (us ++ [Value.slice none 0 0]) ((D1.files.map Prod.fst) ++ [[]]) := RowsO.grew hFs hg164 h1synced.2 (by decide)
  have hb124 := blk_grew hb124 hg164 hap120
  have ho138 := og_grew ho138 hg164 hap143
  have hb8 := blk_grew hb8 hg164 hap38
  clear hr159
  clear h1synced
  refine oS rfl (Yk.fieldAt rd4_fo50_3 T3 (oS rfl (Yk.storeC (i := 3) (v := v161) (vr (PQ n2 3) rfl) (vr v161 rfl) hb8 (by rw [rdk_len]; decide) rd4_isz25 (RG.one (RG.ofOwn ho163)).1 (RG.one (RG.ofOwn ho163)).2 fun w176 hb177 hg178 hs179 => ?_)))
  have hE := row_fresh hE hg178 (Nat.le_trans (Nat.le_refl _) (by omega))
  have hb20 := kb hg178 hb20 (by omega)
  have h1now := OG.kept h1now hg178 hap39
  have h1kept := OG.kept h1kept hg178 hap40
  have h1acts := OG.kept h1acts hg178 hap41
  have hFs : RowsO w.heap.size w176 (us ++ [Value.slice none 0 0]) ((D1.files.map Prod.fst) ++ [[]]) := RowsO.set hFs hg178 hb8 (by decide)
  have hb124 := kb hg178 hb124 (by omega)
  have ho138 := OG.kept ho138 hg178 hap140
  have ho163 := OG.kept ho163 hg178 hap165
  clear hb8
  have hb8 : w176.heap[n2]? = some (.cells (rdkC ((⟨true, ((D1.quota : Nat) : Int), (D1.files.map Prod.fst ++ [[]]), ((D1.files.map fun x => ((x.2 : Nat) : Int))) ++ [0], D1.now, D1.kept, D1.acts, D1.refused, D1.arm, D1.down⟩, ⟨v136, v161, V1.now, V1.kept, V1.acts⟩) : RdkV)).toArray 50 (0, 0)) := blk_eq hb177 (rdk_s3 ((⟨true, ((D1.quota : Nat) : Int), (D1.files.map Prod.fst ++ [[]]), (D1.files.map fun x => ((x.2 : Nat) : Int)), D1.now, D1.kept, D1.acts, D1.refused, D1.arm, D1.down⟩, ⟨v136, V1.synced, V1.now, V1.kept, V1.acts⟩) : RdkV) v161 (((D1.files.map fun x => ((x.2 : Nat) : Int))) ++ [0])); clear hb177
  have hl180 := bl hb8
  refine oZ (tN (hK156 _ _ (sk fun K181 hK181 => (wt (oS rfl (Yk.fieldAt rd4_fo50_4 T3 (oS rfl (Yk.cell1 rd4_ty47 rfl (vr (PQ n2 4) rfl) (cellAt hb8 (show (rdkC ((⟨true, ((D1.quota : Nat) : Int), (D1.files.map Prod.fst ++ [[]]), ((D1.files.map fun x => ((x.2 : Nat) : Int))) ++ [0], D1.now, D1.kept, D1.acts, D1.refused, D1.arm, D1.down⟩, ⟨v136, v161, V1.now, V1.kept, V1.acts⟩) : RdkV))[4]? = some (V1.now : Value) from rdk_g4 ((⟨true, ((D1.quota : Nat) : Int), (D1.files.map Prod.fst ++ [[]]), ((D1.files.map fun x => ((x.2 : Nat) : Int))) ++ [0], D1.now, D1.kept, D1.acts, D1.refused, D1.arm, D1.down⟩, ⟨v136, v161, V1.now, V1.kept, V1.acts⟩) : RdkV))) (oS rfl (Yk.loadAll (vr (PQ n108 0) rfl) hb124 (rd4_ty98).choose_spec rfl (st_isz (rac_len (⟨[], s, D1.files.length⟩ : ActD)) rd4_isz98) ?_))))))))))
  have hnl2 : (turnD D1.now ⟨[], s, D1.files.length⟩).length < 1099511627776 := Nat.lt_of_le_of_lt (turn_len _ _) hn1
  have hA185 := Ext.refl w176
  have hea186 := hE
  have hz187 := hE.size
  refine oS rfl (Yk.callA2 rd4_pl58 (vr V1.now rfl) (vr (.agg (racC (⟨[], s, D1.files.length⟩ : ActD)).toArray) rfl) ((turned_any _ V1.now (D1.now) (⟨[], s, D1.files.length⟩ : ActD) (RG.ofOwn h1now) hL1.now).mono ?_))
  rintro e w188 ⟨v182, rfl, ho183, hx184⟩
  refine ⟨_, rfl, ?_⟩
  have hap189 : OB v182 n10 := own_older ho183.2 (bl hb20)
  have hap190 : OB v182 n108 := own_older ho183.2 (bl hb124)
  have hap191 : OB v182 n2 := own_older ho183.2 (bl hb8)
  have hap192 : ApartV V1.now v182 := apartv_new h1now.2 ho183.2
  have hap193 : ApartV v182 V1.now := apartv_new' h1now.2 ho183.2
  have hap194 : ApartV V1.kept v182 := apartv_new h1kept.2 ho183.2
  have hap195 : ApartV v182 V1.kept := apartv_new' h1kept.2 ho183.2
  have hap196 : ApartV V1.acts v182 := apartv_new h1acts.2 ho183.2
  have hap197 : ApartV v182 V1.acts := apartv_new' h1acts.2 ho183.2
  have hap198 : ApartV v136 v182 := apartv_new ho138.2 ho183.2
  have hap199 : ApartV v182 v136 := apartv_new' ho138.2 ho183.2
  have hap200 : ApartV v161 v182 := apartv_new ho163.2 ho183.2
  have hap201 : ApartV v182 v161 := apartv_new' ho163.2 ho183.2
  have hE := hE.trans hx184
  have hb20 := eb hx184 hb20
  have h1now := h1now.keep hx184
  have h1kept := h1kept.keep hx184
  have h1acts := h1acts.keep hx184
  have hFs : RowsO w.heap.size w188 (us ++ [Value.slice none 0 0]) ((D1.files.map Prod.fst) ++ [[]]) := (hFs.keep hx184)
  have hb124 := eb hx184 hb124
  have ho138 := ho138.keep hx184
  have ho163 := ho163.keep hx184
  have hb8 := eb hx184 hb8
  have hA185 := hA185.trans hx184
  refine oS rfl (Yk.fieldAt rd4_fo50_4 T3 (oS rfl (Yk.storeC (i := 4) (v := v182) (vr (PQ n2 4) rfl) (vr v182 rfl) hb8 (by rw [rdk_len]; decide) rd4_isz47 (RG.one (RG.ofOwn ho183)).1 (RG.one (RG.ofOwn ho183)).2 fun w202 hb203 hg204 hs205 => ?_)))
  have hE := row_fresh hE hg204 (Nat.le_trans (Nat.le_refl _) (by omega))
  have hb20 := kb hg204 hb20 (by omega)
  have h1now := OG.kept h1now hg204 hap39
  have h1kept := OG.kept h1kept hg204 hap40
  have h1acts := OG.kept h1acts hg204 hap41
  have hFs : RowsO w.heap.size w202 (us ++ [Value.slice none 0 0]) ((D1.files.map Prod.fst) ++ [[]]) := RowsO.set hFs hg204 hb8 (by decide)
  have hb124 := kb hg204 hb124 (by omega)
  have ho138 := OG.kept ho138 hg204 hap140
  have ho163 := OG.kept ho163 hg204 hap165
  clear hA185
  have ho183 := OG.kept ho183 hg204 hap191
  clear hb8
  have hb8 : w202.heap[n2]? = some (.cells (rdkC ((⟨true, ((D1.quota : Nat) : Int), (D1.files.map Prod.fst ++ [[]]), ((D1.files.map fun x => ((x.2 : Nat) : Int))) ++ [0], turnD (D1.now) (⟨[], s, D1.files.length⟩ : ActD), D1.kept, D1.acts, D1.refused, D1.arm, D1.down⟩, ⟨v136, v161, v182, V1.kept, V1.acts⟩) : RdkV)).toArray 50 (0, 0)) := blk_eq hb203 (rdk_s4 ((⟨true, ((D1.quota : Nat) : Int), (D1.files.map Prod.fst ++ [[]]), ((D1.files.map fun x => ((x.2 : Nat) : Int))) ++ [0], D1.now, D1.kept, D1.acts, D1.refused, D1.arm, D1.down⟩, ⟨v136, v161, V1.now, V1.kept, V1.acts⟩) : RdkV) v182 (turnD (D1.now) (⟨[], s, D1.files.length⟩ : ActD))); clear hb203
  have hl206 := bl hb8
  refine oZ (tN (hK181 _ _ (wt (oS rfl (Yk.fieldAt rd4_fo50_6 T3 (oS rfl (Yk.cell1 rd4_ty48 rfl (vr (PQ n2 6) rfl) (cellAt hb8 (show (rdkC ((⟨true, ((D1.quota : Nat) : Int), (D1.files.map Prod.fst ++ [[]]), ((D1.files.map fun x => ((x.2 : Nat) : Int))) ++ [0], turnD (D1.now) (⟨[], s, D1.files.length⟩ : ActD), D1.kept, D1.acts, D1.refused, D1.arm, D1.down⟩, ⟨v136, v161, v182, V1.kept, V1.acts⟩) : RdkV))[6]? = some (V1.acts : Value) from rdk_g6 ((⟨true, ((D1.quota : Nat) : Int), (D1.files.map Prod.fst ++ [[]]), ((D1.files.map fun x => ((x.2 : Nat) : Int))) ++ [0], turnD (D1.now) (⟨[], s, D1.files.length⟩ : ActD), D1.kept, D1.acts, D1.refused, D1.arm, D1.down⟩, ⟨v136, v161, v182, V1.kept, V1.acts⟩) : RdkV))) (oS rfl (Yk.loadAll (vr (PQ n108 0) rfl) hb124 (rd4_ty98).choose_spec rfl (st_isz (rac_len (⟨[], s, D1.files.length⟩ : ActD)) rd4_isz98) (oS rfl (Yk.lit1G (a := (⟨[], s, D1.files.length⟩ : ActD)) (enc := racC) (vr (.agg (racC (⟨[], s, D1.files.length⟩ : ActD)).toArray) rfl) (rac_len _) rd4_lg48 fun v207 w208 hr209 hx210 => ?_)))))))))))
  have hE := hE.trans hx210
  have hb20 := eb hx210 hb20
  have h1now := h1now.keep hx210
  have h1kept := h1kept.keep hx210
  have h1acts := h1acts.keep hx210
  have hFs : RowsO w.heap.size w208 (us ++ [Value.slice none 0 0]) ((D1.files.map Prod.fst) ++ [[]]) := (hFs.keep hx210)
  have hb124 := eb hx210 hb124
  have ho138 := ho138.keep hx210
  have ho163 := ho163.keep hx210
  have ho183 := ho183.keep hx210
  have hb8 := eb hx210 hb8
  refine oS rfl (Yk.appendRG _ _ w.heap.size _ 40 rd4_ty48 rd4_ig98.choose_spec.1 rd4_ig98.choose_spec.2 rd4_ty48 (D1.acts) ([(⟨[], s, D1.files.length⟩ : ActD)]) (OG.of h1acts (vr V1.acts rfl)) (RG.of hr209 (vr v207 rfl)) (fun _ _ => rac_one) (by first | omega | (simp only [List.length_append, List.length_singleton, List.length_map]; omega)) (by first | omega | (simp only [List.length_append, List.length_singleton, List.length_map]; omega)) hE.size fun v211 w212 ho213 hg214 => ?_)
  have hg214 : Grew w208 w212 V1.acts v211 := hg214
  have hap215 : OB v211 n2 := apart_grew hg214 hap41 (bl hb8)
  have hap216 : OB v211 n10 := apart_grew hg214 hap46 (bl hb20)
  have hap217 : ApartV v211 V1.now := apartv_grew hg214 hap63 h1now.2
  have hap218 : ApartV V1.now v211 := fun k h1 h2 => hap217 k h2 h1
  have hap219 : ApartV v211 V1.kept := apartv_grew hg214 hap64 h1kept.2
  have hap220 : ApartV V1.kept v211 := fun k h1 h2 => hap219 k h2 h1
  have hap221 : OB v211 n108 := apart_grew hg214 hap123 (bl hb124)
  have hap222 : ApartV v211 v136 := apartv_grew hg214 hap149 ho138.2
  have hap223 : ApartV v136 v211 := fun k h1 h2 => hap222 k h2 h1
  have hap224 : ApartV v211 v161 := apartv_grew hg214 hap172 ho163.2
  have hap225 : ApartV v161 v211 := fun k h1 h2 => hap224 k h2 h1
  have hap226 : ApartV v211 v182 := apartv_grew hg214 hap196 ho183.2
  have hap227 : ApartV v182 v211 := fun k h1 h2 => hap226 k h2 h1
  have hE := ext_grew hE hg214 h1acts.2 (Nat.le_refl _)
  have hb20 := blk_grew hb20 hg214 hap46
  have h1now := og_grew h1now hg214 hap63
  have h1kept := og_grew h1kept hg214 hap64
  have hFs : RowsO w.heap.size w212 (us ++ [Value.slice none 0 0]) ((D1.files.map Prod.fst) ++ [[]]) := RowsO.grew hFs hg214 h1acts.2 (by decide)
  have hb124 := blk_grew hb124 hg214 hap123
  have ho138 := og_grew ho138 hg214 hap149
  have ho163 := og_grew ho163 hg214 hap172
  have ho183 := og_grew ho183 hg214 hap196
  have hb8 := blk_grew hb8 hg214 hap41
  clear hr209
  clear h1acts
  refine oS rfl (Yk.fieldAt rd4_fo50_6 T3 (oS rfl (Yk.storeC (i := 6) (v := v211) (vr (PQ n2 6) rfl) (vr v211 rfl) hb8 (by rw [rdk_len]; decide) rd4_isz48 (RG.one (RG.ofOwn ho213)).1 (RG.one (RG.ofOwn ho213)).2 fun w228 hb229 hg230 hs231 => ?_)))
  have hE := row_fresh hE hg230 (Nat.le_trans (Nat.le_refl _) (by omega))
  have hb20 := kb hg230 hb20 (by omega)
  have h1now := OG.kept h1now hg230 hap39
  have h1kept := OG.kept h1kept hg230 hap40
  have hFs : RowsO w.heap.size w228 (us ++ [Value.slice none 0 0]) ((D1.files.map Prod.fst) ++ [[]]) := RowsO.set hFs hg230 hb8 (by decide)
  have hb124 := kb hg230 hb124 (by omega)
  have ho138 := OG.kept ho138 hg230 hap140
  have ho163 := OG.kept ho163 hg230 hap165
  have ho183 := OG.kept ho183 hg230 hap191
  have ho213 := OG.kept ho213 hg230 hap215
  clear hb8
  have hb8 : w228.heap[n2]? = some (.cells (rdkC ((⟨true, ((D1.quota : Nat) : Int), (D1.files.map Prod.fst ++ [[]]), ((D1.files.map fun x => ((x.2 : Nat) : Int))) ++ [0], turnD (D1.now) (⟨[], s, D1.files.length⟩ : ActD), D1.kept, (D1.acts) ++ [(⟨[], s, D1.files.length⟩ : ActD)], D1.refused, D1.arm, D1.down⟩, ⟨v136, v161, v182, V1.kept, v211⟩) : RdkV)).toArray 50 (0, 0)) := blk_eq hb229 (rdk_s6 ((⟨true, ((D1.quota : Nat) : Int), (D1.files.map Prod.fst ++ [[]]), ((D1.files.map fun x => ((x.2 : Nat) : Int))) ++ [0], turnD (D1.now) (⟨[], s, D1.files.length⟩ : ActD), D1.kept, D1.acts, D1.refused, D1.arm, D1.down⟩, ⟨v136, v161, v182, V1.kept, V1.acts⟩) : RdkV) v211 ((D1.acts) ++ [(⟨[], s, D1.files.length⟩ : ActD)])); clear hb229
  have hl232 := bl hb8
  refine oZ (tN (hK103 _ _ (sk fun K233 hK233 => (wt (oS rfl (Yk.fieldAt rd4_fo50_4 T3 (oS rfl (Yk.cell1 rd4_ty47 rfl (vr (PQ n2 4) rfl) (cellAt hb8 (show (rdkC ((⟨true, ((D1.quota : Nat) : Int), (D1.files.map Prod.fst ++ [[]]), ((D1.files.map fun x => ((x.2 : Nat) : Int))) ++ [0], turnD (D1.now) (⟨[], s, D1.files.length⟩ : ActD), D1.kept, (D1.acts) ++ [(⟨[], s, D1.files.length⟩ : ActD)], D1.refused, D1.arm, D1.down⟩, ⟨v136, v161, v182, V1.kept, v211⟩) : RdkV))[4]? = some (v182 : Value) from rdk_g4 ((⟨true, ((D1.quota : Nat) : Int), (D1.files.map Prod.fst ++ [[]]), ((D1.files.map fun x => ((x.2 : Nat) : Int))) ++ [0], turnD (D1.now) (⟨[], s, D1.files.length⟩ : ActD), D1.kept, (D1.acts) ++ [(⟨[], s, D1.files.length⟩ : ActD)], D1.refused, D1.arm, D1.down⟩, ⟨v136, v161, v182, V1.kept, v211⟩) : RdkV))) (oM rfl (oS rfl (Yk.callA2 rd4_pl57 (vr v182 rfl) T1 ((rlook_is _ v182 (turnD (D1.now) (⟨[], s, D1.files.length⟩ : ActD)) s ((D1.files.length : Nat) : Int) (RG.ofOwn ho183) (hnl2) (lookZ_some ((look_turn _ _ _).trans ((if_neg (show s.length ≠ 0 by have := (mayD_pos hrs).1; omega)).trans (if_pos rfl))))).mono ?_))))))))))))
  rintro e w235 ⟨rfl, hx234⟩
  refine ⟨_, rfl, ?_⟩
  have hE := hE.trans hx234
  have hb20 := eb hx234 hb20
  have h1now := h1now.keep hx234
  have h1kept := h1kept.keep hx234
  have hFs : RowsO w.heap.size w235 (us ++ [Value.slice none 0 0]) ((D1.files.map Prod.fst) ++ [[]]) := (hFs.keep hx234)
  have hb124 := eb hx234 hb124
  have ho138 := ho138.keep hx234
  have ho163 := ho163.keep hx234
  have ho183 := ho183.keep hx234
  have ho213 := ho213.keep hx234
  have hb8 := eb hx234 hb8
  refine oA rfl (oL_ [(0, .agg (rdkC (refP D, V)).toArray), (1, St (s)), (2, vb), (3, PQ n2 0), (6, PQ n10 0), (7, NI 0), (8, NI (readyD D s s)), (9, .bool (dn)), (10, PQ n108 0), (11, NI D1.files.length), (46, .bool (true))] ⟨T0, T1, T2, T3, T6, T7, T8, rfl, rfl, rfl, (congrArg Value.bool (decide_eq_true (by decide))), trivial⟩ fun ρ236 ⟨T0, T1, T2, T3, T6, T7, T8, T9, T10, T11, T46, _⟩ => ?_)
  have hkl : D1.files.length < (D1.files.map Prod.fst ++ [[]]).length := by rw [List.length_append, List.length_map]; simp
  have hrow := hFs.own D1.files.length hkl
  rw [getD_last' (l := D1.files.map Prod.fst) (n := D1.files.length) (by rw [List.length_map])] at hrow
  have hFs0 := hFs
  have hlL : ([] : List UInt8).length < 1099511627776 := by simp
  obtain ⟨gf, hgf⟩ := OG.block (i := D1.files.length) ho138 (by simp only [List.length_append, List.length_singleton]; omega)
  have hap237 : Value.ownBlock (((us ++ [Value.slice none 0 0]).getD (D1.files.length) undef)) ≠ some n10 := offv_tag hrow hb20 (by decide)
  have hap238 : ApartV (((us ++ [Value.slice none 0 0]).getD (D1.files.length) undef)) V1.now := apartv_tag hrow h1now.2 (by decide)
  have hap239 : ApartV V1.now (((us ++ [Value.slice none 0 0]).getD (D1.files.length) undef)) := apartv_tag h1now.2 hrow (by decide)
  have hap240 : ApartV (((us ++ [Value.slice none 0 0]).getD (D1.files.length) undef)) V1.kept := apartv_tag hrow h1kept.2 (by decide)
  have hap241 : ApartV V1.kept (((us ++ [Value.slice none 0 0]).getD (D1.files.length) undef)) := apartv_tag h1kept.2 hrow (by decide)
  have hap242 : Value.ownBlock (((us ++ [Value.slice none 0 0]).getD (D1.files.length) undef)) ≠ some n108 := offv_tag hrow hb124 (by decide)
  have hap243 : ApartV (((us ++ [Value.slice none 0 0]).getD (D1.files.length) undef)) v136 := apartv_tag hrow ho138.2 (by decide)
  have hap244 : ApartV v136 (((us ++ [Value.slice none 0 0]).getD (D1.files.length) undef)) := apartv_tag ho138.2 hrow (by decide)
  have hap245 : ApartV (((us ++ [Value.slice none 0 0]).getD (D1.files.length) undef)) v161 := apartv_tag hrow ho163.2 (by decide)
  have hap246 : ApartV v161 (((us ++ [Value.slice none 0 0]).getD (D1.files.length) undef)) := apartv_tag ho163.2 hrow (by decide)
  have hap247 : ApartV (((us ++ [Value.slice none 0 0]).getD (D1.files.length) undef)) v182 := apartv_tag hrow ho183.2 (by decide)
  have hap248 : ApartV v182 (((us ++ [Value.slice none 0 0]).getD (D1.files.length) undef)) := apartv_tag ho183.2 hrow (by decide)
  have hap249 : ApartV (((us ++ [Value.slice none 0 0]).getD (D1.files.length) undef)) v211 := apartv_tag hrow ho213.2 (by decide)
  have hap250 : ApartV v211 (((us ++ [Value.slice none 0 0]).getD (D1.files.length) undef)) := apartv_tag ho213.2 hrow (by decide)
  have hap251 : Value.ownBlock (((us ++ [Value.slice none 0 0]).getD (D1.files.length) undef)) ≠ some n2 := offv_tag hrow hb8 (by decide)
  have hC : Chg (fun i => (((us ++ [Value.slice none 0 0]).getD (D1.files.length) undef)).ownBlock = some i ∨ (v136).ownBlock = some i) w235 w235 := Chg.refl _ _
  have htf : ∀ i, (v136).ownBlock = some i → tagW w235 i ≠ some (5 + 1) := fun i e => by rw [tag_own ho138.2 e]; decide
  refine tN (hK233 _ _ (sk fun K252 hK252 => ?_))
  have hx253 : Ext w235 (World.drew w235) := (Below.refl _ _).drew
  have hE := hE.trans hx253
  have hb20 := eb hx253 hb20
  have h1now := h1now.keep hx253
  have h1kept := h1kept.keep hx253
  have hb124 := eb hx253 hb124
  have ho138 := ho138.keep hx253
  have ho163 := ho163.keep hx253
  have ho183 := ho183.keep hx253
  have ho213 := ho213.keep hx253
  have hb8 := eb hx253 hb8
  have hrow := Stab.own _ _ _ _ _ _ _ _ hrow hx253
  have hC : Chg (fun i => (((us ++ [Value.slice none 0 0]).getD (D1.files.length) undef)).ownBlock = some i ∨ (v136).ownBlock = some i) w235 (World.drew w235) := (hC.keep hx253)
  refine wpF_float [(0, 77, PQ n2 2), (1, 78, v136), (2, 79, NI D1.files.length), (3, 80, PQ n2 2), (4, 81, v136), (5, 82, NI D1.files.length), (6, 83, .pointer (some ⟨gf, (D1.files.length) * 1, none⟩)), (7, 84, (us ++ [Value.slice none 0 0]).getD (D1.files.length) undef), (8, 85, vb)] [9, 10, 11] (fun wz => Ext w wz ∧ wz.heap[n10]? = some (.cells (rdkC ((⟨false, 0, [], [], [], [], [], 0, 0, false⟩, ⟨.slice none 0 0, .slice none 0 0, .slice none 0 0, .slice none 0 0, .slice none 0 0⟩) : RdkV)).toArray 50 (0, 0)) ∧ wz.heap[n108]? = some (.cells (racC (⟨[], s, D1.files.length⟩ : ActD)).toArray 98 (0, 0)) ∧ OG w.heap.size 24 1 (enV) wz v136 ((us) ++ [((Value.slice none 0 0))]) ∧ wz.heap[n2]? = some (.cells (rdkC ((⟨true, ((D1.quota : Nat) : Int), (D1.files.map Prod.fst ++ [[]]), ((D1.files.map fun x => ((x.2 : Nat) : Int))) ++ [0], turnD (D1.now) (⟨[], s, D1.files.length⟩ : ActD), D1.kept, (D1.acts) ++ [(⟨[], s, D1.files.length⟩ : ActD)], D1.refused, D1.arm, D1.down⟩, ⟨v136, v161, v182, V1.kept, v211⟩) : RdkV)).toArray 50 (0, 0)) ∧ True) (by kernel_rfl) (by kernel_rfl) (by kernel_rfl) ⟨hE, hb20, hb124, ho138, hb8, trivial⟩ ⟨fun w254 ⟨hE, hb20, hb124, ho138, hb8, _⟩ => Yk.fieldAt rd4_fo50_2 T3 ⟨rfl, rfl⟩, fun w254 ⟨hE, hb20, hb124, ho138, hb8, _⟩ => Yk.cell1 rd4_ty23 rfl (vr (PQ n2 2) rfl) (cellAt hb8 (show (rdkC ((⟨true, ((D1.quota : Nat) : Int), (D1.files.map Prod.fst ++ [[]]), ((D1.files.map fun x => ((x.2 : Nat) : Int))) ++ [0], turnD (D1.now) (⟨[], s, D1.files.length⟩ : ActD), D1.kept, (D1.acts) ++ [(⟨[], s, D1.files.length⟩ : ActD)], D1.refused, D1.arm, D1.down⟩, ⟨v136, v161, v182, V1.kept, v211⟩) : RdkV))[2]? = some (v136 : Value) from rdk_g2 ((⟨true, ((D1.quota : Nat) : Int), (D1.files.map Prod.fst ++ [[]]), ((D1.files.map fun x => ((x.2 : Nat) : Int))) ++ [0], turnD (D1.now) (⟨[], s, D1.files.length⟩ : ActD), D1.kept, (D1.acts) ++ [(⟨[], s, D1.files.length⟩ : ActD)], D1.refused, D1.arm, D1.down⟩, ⟨v136, v161, v182, V1.kept, v211⟩) : RdkV))) ⟨rfl, rfl⟩, fun w254 ⟨hE, hb20, hb124, ho138, hb8, _⟩ => Yk.move T11 ⟨rfl, rfl⟩, fun w254 ⟨hE, hb20, hb124, ho138, hb8, _⟩ => Yk.fieldAt rd4_fo50_2 T3 ⟨rfl, rfl⟩, fun w254 ⟨hE, hb20, hb124, ho138, hb8, _⟩ => Yk.cell1 rd4_ty23 rfl (vr (PQ n2 2) rfl) (cellAt hb8 (show (rdkC ((⟨true, ((D1.quota : Nat) : Int), (D1.files.map Prod.fst ++ [[]]), ((D1.files.map fun x => ((x.2 : Nat) : Int))) ++ [0], turnD (D1.now) (⟨[], s, D1.files.length⟩ : ActD), D1.kept, (D1.acts) ++ [(⟨[], s, D1.files.length⟩ : ActD)], D1.refused, D1.arm, D1.down⟩, ⟨v136, v161, v182, V1.kept, v211⟩) : RdkV))[2]? = some (v136 : Value) from rdk_g2 ((⟨true, ((D1.quota : Nat) : Int), (D1.files.map Prod.fst ++ [[]]), ((D1.files.map fun x => ((x.2 : Nat) : Int))) ++ [0], turnD (D1.now) (⟨[], s, D1.files.length⟩ : ActD), D1.kept, (D1.acts) ++ [(⟨[], s, D1.files.length⟩ : ActD)], D1.refused, D1.arm, D1.down⟩, ⟨v136, v161, v182, V1.kept, v211⟩) : RdkV))) ⟨rfl, rfl⟩, fun w254 ⟨hE, hb20, hb124, ho138, hb8, _⟩ => Yk.move T11 ⟨rfl, rfl⟩, fun w254 ⟨hE, hb20, hb124, ho138, hb8, _⟩ => Yk.atOwnK (k := 1) (i := D1.files.length) rd4_ty23 rd4_szg24 (vr v136 rfl) ho138.2 hgf (vr (NI D1.files.length) rfl) (by first | omega | (simp only [List.length_append, List.length_singleton, List.length_map]; omega)) ⟨rfl, rfl⟩, fun w254 ⟨hE, hb20, hb124, ho138, hb8, _⟩ => Yk.loadC rd4_ty24 rfl (by rw [show _ = PQ gf ((D1.files.length) * 1) from (vr (.pointer (some ⟨gf, (D1.files.length) * 1, none⟩)) rfl)]; exact OG.cell1 undef ho138 hgf (by first | omega | (simp only [List.length_append, List.length_singleton, List.length_map]; omega)) rfl) ⟨rfl, rfl⟩, fun w254 ⟨hE, hb20, hb124, ho138, hb8, _⟩ => Yk.move T2 ⟨rfl, rfl⟩, trivial⟩ ?_
  refine chF_step rfl (Yk.appendRB _ _ w.heap.size (.int .u8 0) rd4_ty24 rd4_inf5 rfl rd4_ty24 (([] : List UInt8)) (b) (own_of hrow (vr ((us ++ [Value.slice none 0 0]).getD (D1.files.length) undef) rfl)) (RB.of (hb.keep hE) (vr vb rfl)) (by omega) hE.size fun v255 w256 ho257 hg258 => ?_)
  have hg258 : Grew (World.drew w235) w256 ((us ++ [Value.slice none 0 0]).getD (D1.files.length) undef) v255 := hg258
  have hap259 : OB v255 n10 := apart_grew hg258 hap237 (bl hb20)
  have hap260 : ApartV v255 V1.now := apartv_grew hg258 hap238 h1now.2
  have hap261 : ApartV V1.now v255 := fun k h1 h2 => hap260 k h2 h1
  have hap262 : ApartV v255 V1.kept := apartv_grew hg258 hap240 h1kept.2
  have hap263 : ApartV V1.kept v255 := fun k h1 h2 => hap262 k h2 h1
  have hap264 : OB v255 n108 := apart_grew hg258 hap242 (bl hb124)
  have hap265 : ApartV v255 v136 := apartv_grew hg258 hap243 ho138.2
  have hap266 : ApartV v136 v255 := fun k h1 h2 => hap265 k h2 h1
  have hap267 : ApartV v255 v161 := apartv_grew hg258 hap245 ho163.2
  have hap268 : ApartV v161 v255 := fun k h1 h2 => hap267 k h2 h1
  have hap269 : ApartV v255 v182 := apartv_grew hg258 hap247 ho183.2
  have hap270 : ApartV v182 v255 := fun k h1 h2 => hap269 k h2 h1
  have hap271 : ApartV v255 v211 := apartv_grew hg258 hap249 ho213.2
  have hap272 : ApartV v211 v255 := fun k h1 h2 => hap271 k h2 h1
  have hap273 : OB v255 n2 := apart_grew hg258 hap251 (bl hb8)
  have hE := ext_grew hE hg258 hrow (Nat.le_refl _)
  have hb20 := blk_grew hb20 hg258 hap237
  have h1now := og_grew h1now hg258 hap238
  have h1kept := og_grew h1kept hg258 hap240
  have hb124 := blk_grew hb124 hg258 hap242
  have ho138 := og_grew ho138 hg258 hap243
  have ho163 := og_grew ho163 hg258 hap245
  have ho183 := og_grew ho183 hg258 hap247
  have ho213 := og_grew ho213 hg258 hap249
  have hb8 := blk_grew hb8 hg258 hap251
  have hvf := hg258.fresh
  have hcz_ := hC.size
  have hC : Chg (fun i => (((us ++ [Value.slice none 0 0]).getD (D1.files.length) undef)).ownBlock = some i ∨ (v136).ownBlock = some i) w235 w256 := Chg.grew hC hg258 (fun i e => .inl (.inl e))
  clear hrow
  refine ⟨.inr ⟨hE, hb20, hb124, ho138, hb8, trivial⟩, ?_⟩
  refine chF_step rfl (Yk.atOwnK (k := 1) (i := D1.files.length) rd4_ty23 rd4_szg24 (vr v136 rfl) ho138.2 hgf (vr (NI D1.files.length) rfl) (by first | omega | (simp only [List.length_append, List.length_singleton, List.length_map]; omega)) ?_)
  refine ⟨.inr ⟨hE, hb20, hb124, ho138, hb8, trivial⟩, ?_⟩
  refine chF_step rfl (Yk.storeOG1 (i := (D1.files.length)) (a := v255) (c := v255) undef (vr (.pointer (some ⟨gf, (D1.files.length) * 1, none⟩)) rfl) (vr v255 rfl) rfl ho138 hgf (by first | omega | (simp only [List.length_append, List.length_singleton, List.length_map]; omega)) (own_one ho257) rd4_isz24 fun w274 ho275 hg276 => ?_)
  have hap277 : OB v136 n2 := apart_grew hg276 hap140 (bl hb8)
  have hap278 : OB v136 n10 := apart_grew hg276 hap141 (bl hb20)
  have hap279 : ApartV v136 V1.now := apartv_grew hg276 hap144 h1now.2
  have hap280 : ApartV V1.now v136 := fun k h1 h2 => hap279 k h2 h1
  have hap281 : ApartV v136 V1.kept := apartv_grew hg276 hap146 h1kept.2
  have hap282 : ApartV V1.kept v136 := fun k h1 h2 => hap281 k h2 h1
  have hap283 : OB v136 n108 := apart_grew hg276 hap150 (bl hb124)
  have hap284 : ApartV v136 v161 := apartv_grew hg276 hap175 ho163.2
  have hap285 : ApartV v161 v136 := fun k h1 h2 => hap284 k h2 h1
  have hap286 : ApartV v136 v182 := apartv_grew hg276 hap198 ho183.2
  have hap287 : ApartV v182 v136 := fun k h1 h2 => hap286 k h2 h1
  have hap288 : ApartV v136 v211 := apartv_grew hg276 hap223 ho213.2
  have hap289 : ApartV v211 v136 := fun k h1 h2 => hap288 k h2 h1
  have hap290 : ApartV v136 v255 := apartv_grew hg276 hap266 ho257
  have hap291 : ApartV v255 v136 := fun k h1 h2 => hap290 k h2 h1
  have hE := ext_grew hE hg276 ho138.2 (Nat.le_refl _)
  have hb20 := blk_grew hb20 hg276 hap278
  have h1now := og_grew h1now hg276 hap279
  have h1kept := og_grew h1kept hg276 hap281
  have hb124 := blk_grew hb124 hg276 hap283
  have ho163 := og_grew ho163 hg276 hap284
  have ho183 := og_grew ho183 hg276 hap286
  have ho213 := og_grew ho213 hg276 hap288
  have hb8 := blk_grew hb8 hg276 hap277
  have hC : Chg (fun i => (((us ++ [Value.slice none 0 0]).getD (D1.files.length) undef)).ownBlock = some i ∨ (v136).ownBlock = some i) w235 w274 := Chg.grew hC hg276 (fun i e => .inl (.inr e))
  have ho257 := own_grew ho257 hg276 hap290
  clear ho138
  refine ⟨.inl rfl, ?_⟩
  refine chF_nil ?_
  have hFs := RowsO.setRow hFs0 hkl hC (fun i hi e => e.imp id (htf i)) (l := ([] : List UInt8) ++ b) (own_eq (l' := ([] : List UInt8) ++ b) ho257 rfl) (fun i e => (hvf i e).imp id (fun q => Nat.le_trans hcz_ q))
  refine tN (hK252 _ _ (sk fun K292 hK292 => (wt (oS rfl (Yk.loadAll T3 hb8 (rd4_ty50).choose_spec rfl (st_isz (rdk_len ((⟨true, ((D1.quota : Nat) : Int), (D1.files.map Prod.fst ++ [[]]), ((D1.files.map fun x => ((x.2 : Nat) : Int))) ++ [0], turnD (D1.now) (⟨[], s, D1.files.length⟩ : ActD), D1.kept, (D1.acts) ++ [(⟨[], s, D1.files.length⟩ : ActD)], D1.refused, D1.arm, D1.down⟩, ⟨v136, v161, v182, V1.kept, v211⟩) : RdkV)) rd4_isz50) (oS rfl (Yk.storeAll T6 (vr (.agg (rdkC ((⟨true, ((D1.quota : Nat) : Int), (D1.files.map Prod.fst ++ [[]]), ((D1.files.map fun x => ((x.2 : Nat) : Int))) ++ [0], turnD (D1.now) (⟨[], s, D1.files.length⟩ : ActD), D1.kept, (D1.acts) ++ [(⟨[], s, D1.files.length⟩ : ActD)], D1.refused, D1.arm, D1.down⟩, ⟨v136, v161, v182, V1.kept, v211⟩) : RdkV)).toArray) rfl) hb20 (by simp only [List.size_toArray, rdk_len]) (st_isz (rdk_len _) rd4_isz50) (rdk_one (x := ((⟨true, ((D1.quota : Nat) : Int), (D1.files.map Prod.fst ++ [[]]), ((D1.files.map fun x => ((x.2 : Nat) : Int))) ++ [0], turnD (D1.now) (⟨[], s, D1.files.length⟩ : ActD), D1.kept, (D1.acts) ++ [(⟨[], s, D1.files.length⟩ : ActD)], D1.refused, D1.arm, D1.down⟩, ⟨v136, v161, v182, V1.kept, v211⟩) : RdkV)) (RG.one (RG.ofOwn ho275)).2 (RG.one (RG.ofOwn ho163)).2 (RG.one (RG.ofOwn ho183)).2 (RG.one (RG.ofOwn h1kept)).2 (RG.one (RG.ofOwn ho213)).2) fun w293 hb294 hg295 hs296 => ?_)))))))
  have hE := row_fresh hE hg295 (Nat.le_trans hz18 (by omega))
  have h1now := OG.kept h1now hg295 hap44
  have h1kept := OG.kept h1kept hg295 hap45
  have hb124 := kb hg295 hb124 (by omega)
  have ho163 := OG.kept ho163 hg295 hap166
  have ho183 := OG.kept ho183 hg295 hap189
  have ho213 := OG.kept ho213 hg295 hap216
  have hb8 := kb hg295 hb8 (by omega)
  have ho257 := own_kept ho257 hg295 hap259
  have ho275 := OG.kept ho275 hg295 hap278
  have hFs : RowsO w.heap.size w293 ((us ++ [Value.slice none 0 0]).set D1.files.length v255) (((D1.files.map Prod.fst ++ [[]]).set D1.files.length (([] : List UInt8) ++ b))) := RowsO.set hFs hg295 hb20 (by decide)
  clear hb20
  have hb20 : w293.heap[n10]? = some (.cells (rdkC ((⟨true, ((D1.quota : Nat) : Int), (D1.files.map Prod.fst ++ [[]]), ((D1.files.map fun x => ((x.2 : Nat) : Int))) ++ [0], turnD (D1.now) (⟨[], s, D1.files.length⟩ : ActD), D1.kept, (D1.acts) ++ [(⟨[], s, D1.files.length⟩ : ActD)], D1.refused, D1.arm, D1.down⟩, ⟨v136, v161, v182, V1.kept, v211⟩) : RdkV)).toArray 50 (0, 0)) := hb294; clear hb294
  have hl297 := bl hb20
  refine oA rfl (oZ (tN (hK292 _ _ (wpF_ret (postF_ret (fn := Try.f40) _ rfl [.agg (rdkC ((⟨true, ((D1.quota : Nat) : Int), (D1.files.map Prod.fst ++ [[]]), ((D1.files.map fun x => ((x.2 : Nat) : Int))) ++ [0], turnD (D1.now) (⟨[], s, D1.files.length⟩ : ActD), D1.kept, (D1.acts) ++ [(⟨[], s, D1.files.length⟩ : ActD)], D1.refused, D1.arm, D1.down⟩, ⟨v136, v161, v182, V1.kept, v211⟩) : RdkV)).toArray, NI 0] (.tuple #[.agg (rdkC ((⟨true, ((D1.quota : Nat) : Int), (D1.files.map Prod.fst ++ [[]]), ((D1.files.map fun x => ((x.2 : Nat) : Int))) ++ [0], turnD (D1.now) (⟨[], s, D1.files.length⟩ : ActD), D1.kept, (D1.acts) ++ [(⟨[], s, D1.files.length⟩ : ActD)], D1.refused, D1.arm, D1.down⟩, ⟨v136, v161, v182, V1.kept, v211⟩) : RdkV)).toArray, NI 0]) rfl ⟨ResF.row T6 hb20 (rd4_ty50).choose_spec rfl (st_isz (rdk_len _) rd4_isz50), rfl, trivial⟩ ?_)))))
  have hOe : RdO w.heap.size w293 ({ turnedD D1 ⟨[], s, D1.files.length⟩ with files := D1.files ++ [(b, 0)] }) ⟨v136, v161, v182, V1.kept, v211⟩ := ⟨⟨((us ++ [Value.slice none 0 0]).set D1.files.length v255), RowsO.eq hFs rfl (by rw [show D1.files.length = (D1.files.map Prod.fst).length from (List.length_map _).symm, set_last]; simp), ho275⟩, og_eq ho163 (by simp), OG.low ho183 hz187, h1kept, og_eq ho213 rfl⟩
  rw [appendD_yes hc0 hq hD1, addD_new hk]
  exact ⟨_, rfl, hOe.at_ hP, hE⟩
 rename_i k
 have hlz := lookZ_some hk
 have hkn := (hok1.now.look hk).1
 refine wpF_skip (tN (hK95 _ _ (sk fun K298 hK298 => (sk fun K299 hK299 => (wt (oS rfl (Yk.fieldAt rd4_fo50_4 T3 (oS rfl (Yk.cell1 rd4_ty47 rfl (vr (PQ n2 4) rfl) (cellAt hb8 (show (rdkC (refP D1, V1))[4]? = some (V1.now : Value) from rdk_g4 (refP D1, V1))) (oM rfl (oS rfl (Yk.callA2 rd4_pl57 (vr V1.now rfl) T1 ((rlook_is _ V1.now D1.now s ((k : Nat) : Int) (RG.ofOwn h1now) (hL1.now) (hlz)).mono ?_)))))))))))))
 rintro e w301 ⟨rfl, hx300⟩
 refine ⟨_, rfl, ?_⟩
 have hE := hE.trans hx300
 have hb20 := eb hx300 hb20
 have h1files := h1files.keep hx300
 have h1synced := h1synced.keep hx300
 have h1now := h1now.keep hx300
 have h1kept := h1kept.keep hx300
 have h1acts := h1acts.keep hx300
 have hFs : RowsO w.heap.size w301 us (D1.files.map Prod.fst) := (hFs.keep hx300)
 have hb8 := eb hx300 hb8
 refine oS rfl (Yk.eqI (a := (k : Nat)) (b := (0 : Nat)) rfl rfl (k_lss _ _ _ _) (oZ (tN (hK299 _ _ (wpF_false (vr (.bool (false)) (congrArg Value.bool (decide_eq_false (by omega)))) (wpF_skip (tN (hK298 _ _ (sk fun K302 hK302 => (wt (oS rfl (Yk.fieldAt rd4_fo50_4 T3 (oS rfl (Yk.cell1 rd4_ty47 rfl (vr (PQ n2 4) rfl) (cellAt hb8 (show (rdkC (refP D1, V1))[4]? = some (V1.now : Value) from rdk_g4 (refP D1, V1))) (oM rfl (oS rfl (Yk.callA2 rd4_pl57 (vr V1.now rfl) T1 ((rlook_is _ V1.now D1.now s ((k : Nat) : Int) (RG.ofOwn h1now) (hL1.now) (hlz)).mono ?_))))))))))))))))))
 rintro e w304 ⟨rfl, hx303⟩
 refine ⟨_, rfl, ?_⟩
 have hE := hE.trans hx303
 have hb20 := eb hx303 hb20
 have h1files := h1files.keep hx303
 have h1synced := h1synced.keep hx303
 have h1now := h1now.keep hx303
 have h1kept := h1kept.keep hx303
 have h1acts := h1acts.keep hx303
 have hFs : RowsO w.heap.size w304 us (D1.files.map Prod.fst) := (hFs.keep hx303)
 have hb8 := eb hx303 hb8
 refine oA rfl (oZ ?_)
 have hkl : k < (D1.files.map Prod.fst).length := by rw [List.length_map]; exact hkn
 have hrow := hFs.own k hkl
 rw [getD_mapR (d := (([], 0) : List UInt8 × Nat)) rfl] at hrow
 have hFs0 := hFs
 have hlL : ((D1.files.getD k ([], 0)).1).length < 1099511627776 := hL1.files _ (getD_mem_ (d := ([], 0)) hkn)
 obtain ⟨gf, hgf⟩ := OG.block (i := k) h1files (by rw [hul]; exact hkn)
 have hap305 : Value.ownBlock ((us.getD (k) undef)) ≠ some n10 := offv_tag hrow hb20 (by decide)
 have hap306 : ApartV ((us.getD (k) undef)) V1.files := apartv_tag hrow h1files.2 (by decide)
 have hap307 : ApartV V1.files ((us.getD (k) undef)) := apartv_tag h1files.2 hrow (by decide)
 have hap308 : ApartV ((us.getD (k) undef)) V1.synced := apartv_tag hrow h1synced.2 (by decide)
 have hap309 : ApartV V1.synced ((us.getD (k) undef)) := apartv_tag h1synced.2 hrow (by decide)
 have hap310 : ApartV ((us.getD (k) undef)) V1.now := apartv_tag hrow h1now.2 (by decide)
 have hap311 : ApartV V1.now ((us.getD (k) undef)) := apartv_tag h1now.2 hrow (by decide)
 have hap312 : ApartV ((us.getD (k) undef)) V1.kept := apartv_tag hrow h1kept.2 (by decide)
 have hap313 : ApartV V1.kept ((us.getD (k) undef)) := apartv_tag h1kept.2 hrow (by decide)
 have hap314 : ApartV ((us.getD (k) undef)) V1.acts := apartv_tag hrow h1acts.2 (by decide)
 have hap315 : ApartV V1.acts ((us.getD (k) undef)) := apartv_tag h1acts.2 hrow (by decide)
 have hap316 : Value.ownBlock ((us.getD (k) undef)) ≠ some n2 := offv_tag hrow hb8 (by decide)
 have hC : Chg (fun i => ((us.getD (k) undef)).ownBlock = some i ∨ (V1.files).ownBlock = some i) w304 w304 := Chg.refl _ _
 have htf : ∀ i, (V1.files).ownBlock = some i → tagW w304 i ≠ some (5 + 1) := fun i e => by rw [tag_own h1files.2 e]; decide
 refine tN (hK302 _ _ (sk fun K317 hK317 => ?_))
 have hx318 : Ext w304 (World.drew w304) := (Below.refl _ _).drew
 have hE := hE.trans hx318
 have hb20 := eb hx318 hb20
 have h1files := h1files.keep hx318
 have h1synced := h1synced.keep hx318
 have h1now := h1now.keep hx318
 have h1kept := h1kept.keep hx318
 have h1acts := h1acts.keep hx318
 have hb8 := eb hx318 hb8
 have hrow := Stab.own _ _ _ _ _ _ _ _ hrow hx318
 have hC : Chg (fun i => ((us.getD (k) undef)).ownBlock = some i ∨ (V1.files).ownBlock = some i) w304 (World.drew w304) := (hC.keep hx318)
 refine wpF_float [(0, 77, PQ n2 2), (1, 78, V1.files), (2, 79, NI k), (3, 80, PQ n2 2), (4, 81, V1.files), (5, 82, NI k), (6, 83, .pointer (some ⟨gf, k * 1, none⟩)), (7, 84, us.getD (k) undef), (8, 85, vb)] [9, 10, 11] (fun wz => Ext w wz ∧ wz.heap[n10]? = some (.cells (rdkC ((⟨false, 0, [], [], [], [], [], 0, 0, false⟩, ⟨.slice none 0 0, .slice none 0 0, .slice none 0 0, .slice none 0 0, .slice none 0 0⟩) : RdkV)).toArray 50 (0, 0)) ∧ OG w.heap.size 24 1 (enV) wz V1.files (us) ∧ wz.heap[n2]? = some (.cells (rdkC (refP D1, V1)).toArray 50 (0, 0)) ∧ True) (by kernel_rfl) (by kernel_rfl) (by kernel_rfl) ⟨hE, hb20, h1files, hb8, trivial⟩ ⟨fun w319 ⟨hE, hb20, h1files, hb8, _⟩ => Yk.fieldAt rd4_fo50_2 T3 ⟨rfl, rfl⟩, fun w319 ⟨hE, hb20, h1files, hb8, _⟩ => Yk.cell1 rd4_ty23 rfl (vr (PQ n2 2) rfl) (cellAt hb8 (show (rdkC (refP D1, V1))[2]? = some (V1.files : Value) from rdk_g2 (refP D1, V1))) ⟨rfl, rfl⟩, fun w319 ⟨hE, hb20, h1files, hb8, _⟩ => Yk.move (vr (NI k) rfl) ⟨rfl, rfl⟩, fun w319 ⟨hE, hb20, h1files, hb8, _⟩ => Yk.fieldAt rd4_fo50_2 T3 ⟨rfl, rfl⟩, fun w319 ⟨hE, hb20, h1files, hb8, _⟩ => Yk.cell1 rd4_ty23 rfl (vr (PQ n2 2) rfl) (cellAt hb8 (show (rdkC (refP D1, V1))[2]? = some (V1.files : Value) from rdk_g2 (refP D1, V1))) ⟨rfl, rfl⟩, fun w319 ⟨hE, hb20, h1files, hb8, _⟩ => Yk.move (vr (NI k) rfl) ⟨rfl, rfl⟩, fun w319 ⟨hE, hb20, h1files, hb8, _⟩ => Yk.atOwnK (k := 1) (i := k) rd4_ty23 rd4_szg24 (vr V1.files rfl) h1files.2 hgf (vr (NI k) rfl) (by first | omega | (simp only [List.length_append, List.length_singleton, List.length_map]; omega)) ⟨rfl, rfl⟩, fun w319 ⟨hE, hb20, h1files, hb8, _⟩ => Yk.loadC rd4_ty24 rfl (by rw [show _ = PQ gf (k * 1) from (vr (.pointer (some ⟨gf, k * 1, none⟩)) rfl)]; exact OG.cell1 undef h1files hgf (by first | omega | (simp only [List.length_append, List.length_singleton, List.length_map]; omega)) rfl) ⟨rfl, rfl⟩, fun w319 ⟨hE, hb20, h1files, hb8, _⟩ => Yk.move T2 ⟨rfl, rfl⟩, trivial⟩ (chF_step rfl (Yk.appendRB _ _ w.heap.size (.int .u8 0) rd4_ty24 rd4_inf5 rfl rd4_ty24 ((D1.files.getD k ([], 0)).1) (b) (own_of hrow (vr (us.getD (k) undef) rfl)) (RB.of (hb.keep hE) (vr vb rfl)) (by omega) hE.size fun v320 w321 ho322 hg323 => ?_))
 have hg323 : Grew (World.drew w304) w321 (us.getD (k) undef) v320 := hg323
 have hap324 : OB v320 n10 := apart_grew hg323 hap305 (bl hb20)
 have hap325 : ApartV v320 V1.files := apartv_grew hg323 hap306 h1files.2
 have hap326 : ApartV V1.files v320 := fun k h1 h2 => hap325 k h2 h1
 have hap327 : ApartV v320 V1.synced := apartv_grew hg323 hap308 h1synced.2
 have hap328 : ApartV V1.synced v320 := fun k h1 h2 => hap327 k h2 h1
 have hap329 : ApartV v320 V1.now := apartv_grew hg323 hap310 h1now.2
 have hap330 : ApartV V1.now v320 := fun k h1 h2 => hap329 k h2 h1
 have hap331 : ApartV v320 V1.kept := apartv_grew hg323 hap312 h1kept.2
 have hap332 : ApartV V1.kept v320 := fun k h1 h2 => hap331 k h2 h1
 have hap333 : ApartV v320 V1.acts := apartv_grew hg323 hap314 h1acts.2
 have hap334 : ApartV V1.acts v320 := fun k h1 h2 => hap333 k h2 h1
 have hap335 : OB v320 n2 := apart_grew hg323 hap316 (bl hb8)
 have hE := ext_grew hE hg323 hrow (Nat.le_refl _)
 have hb20 := blk_grew hb20 hg323 hap305
 have h1files := og_grew h1files hg323 hap306
 have h1synced := og_grew h1synced hg323 hap308
 have h1now := og_grew h1now hg323 hap310
 have h1kept := og_grew h1kept hg323 hap312
 have h1acts := og_grew h1acts hg323 hap314
 have hb8 := blk_grew hb8 hg323 hap316
 have hvf := hg323.fresh
 have hcz_ := hC.size
 have hC : Chg (fun i => ((us.getD (k) undef)).ownBlock = some i ∨ (V1.files).ownBlock = some i) w304 w321 := Chg.grew hC hg323 (fun i e => .inl (.inl e))
 clear hrow
 refine ⟨.inr ⟨hE, hb20, h1files, hb8, trivial⟩, ?_⟩
 refine chF_step rfl (Yk.atOwnK (k := 1) (i := k) rd4_ty23 rd4_szg24 (vr V1.files rfl) h1files.2 hgf (vr (NI k) rfl) (by first | omega | (simp only [List.length_append, List.length_singleton, List.length_map]; omega)) ?_)
 refine ⟨.inr ⟨hE, hb20, h1files, hb8, trivial⟩, ?_⟩
 refine chF_step rfl (Yk.storeOG1 (i := k) (a := v320) (c := v320) undef (vr (.pointer (some ⟨gf, k * 1, none⟩)) rfl) (vr v320 rfl) rfl h1files hgf (by first | omega | (simp only [List.length_append, List.length_singleton, List.length_map]; omega)) (own_one ho322) rd4_isz24 fun w336 ho337 hg338 => ?_)
 have hap339 : OB V1.files n2 := apart_grew hg338 hap37 (bl hb8)
 have hap340 : OB V1.files n10 := apart_grew hg338 hap42 (bl hb20)
 have hap341 : ApartV V1.files V1.synced := apartv_grew hg338 hap47 h1synced.2
 have hap342 : ApartV V1.synced V1.files := fun k h1 h2 => hap341 k h2 h1
 have hap343 : ApartV V1.files V1.now := apartv_grew hg338 hap48 h1now.2
 have hap344 : ApartV V1.now V1.files := fun k h1 h2 => hap343 k h2 h1
 have hap345 : ApartV V1.files V1.kept := apartv_grew hg338 hap49 h1kept.2
 have hap346 : ApartV V1.kept V1.files := fun k h1 h2 => hap345 k h2 h1
 have hap347 : ApartV V1.files V1.acts := apartv_grew hg338 hap50 h1acts.2
 have hap348 : ApartV V1.acts V1.files := fun k h1 h2 => hap347 k h2 h1
 have hap349 : ApartV V1.files v320 := apartv_grew hg338 hap326 ho322
 have hap350 : ApartV v320 V1.files := fun k h1 h2 => hap349 k h2 h1
 have hE := ext_grew hE hg338 h1files.2 (Nat.le_refl _)
 have hb20 := blk_grew hb20 hg338 hap340
 have h1synced := og_grew h1synced hg338 hap341
 have h1now := og_grew h1now hg338 hap343
 have h1kept := og_grew h1kept hg338 hap345
 have h1acts := og_grew h1acts hg338 hap347
 have hb8 := blk_grew hb8 hg338 hap339
 have hC : Chg (fun i => ((us.getD (k) undef)).ownBlock = some i ∨ (V1.files).ownBlock = some i) w304 w336 := Chg.grew hC hg338 (fun i e => .inl (.inr e))
 have ho322 := own_grew ho322 hg338 hap349
 clear h1files
 refine ⟨.inl rfl, ?_⟩
 refine chF_nil ?_
 have hFs := RowsO.setRow hFs0 hkl hC (fun i hi e => e.imp id (htf i)) (l := (D1.files.getD k ([], 0)).1 ++ b) (own_eq (l' := (D1.files.getD k ([], 0)).1 ++ b) ho322 rfl) (fun i e => (hvf i e).imp id (fun q => Nat.le_trans hcz_ q))
 refine tN (hK317 _ _ (sk fun K351 hK351 => (wt (oS rfl (Yk.loadAll T3 hb8 (rd4_ty50).choose_spec rfl (st_isz (rdk_len (refP D1, V1)) rd4_isz50) (oS rfl (Yk.storeAll T6 (vr (.agg (rdkC (refP D1, V1)).toArray) rfl) hb20 (by simp only [List.size_toArray, rdk_len]) (st_isz (rdk_len _) rd4_isz50) (rdk_one (x := (refP D1, V1)) (RG.one (RG.ofOwn ho337)).2 (RG.one (RG.ofOwn h1synced)).2 (RG.one (RG.ofOwn h1now)).2 (RG.one (RG.ofOwn h1kept)).2 (RG.one (RG.ofOwn h1acts)).2) fun w352 hb353 hg354 hs355 => ?_)))))))
 have hE := row_fresh hE hg354 (Nat.le_trans hz18 (by omega))
 have h1synced := OG.kept h1synced hg354 hap43
 have h1now := OG.kept h1now hg354 hap44
 have h1kept := OG.kept h1kept hg354 hap45
 have h1acts := OG.kept h1acts hg354 hap46
 have hb8 := kb hg354 hb8 (by omega)
 have ho322 := own_kept ho322 hg354 hap324
 have ho337 := OG.kept ho337 hg354 hap340
 have hFs : RowsO w.heap.size w352 (us.set k v320) (((D1.files.map Prod.fst).set k ((D1.files.getD k ([], 0)).1 ++ b))) := RowsO.set hFs hg354 hb20 (by decide)
 clear hb20
 have hb20 : w352.heap[n10]? = some (.cells (rdkC (refP D1, V1)).toArray 50 (0, 0)) := hb353; clear hb353
 have hl356 := bl hb20
 refine oA rfl (oZ (tN (hK351 _ _ (wpF_ret (postF_ret (fn := Try.f40) _ rfl [.agg (rdkC (refP D1, V1)).toArray, NI 0] (.tuple #[.agg (rdkC (refP D1, V1)).toArray, NI 0]) rfl ⟨ResF.row T6 hb20 (rd4_ty50).choose_spec rfl (st_isz (rdk_len _) rd4_isz50), rfl, trivial⟩ ?_)))))
 have hOe : RdO w.heap.size w352 ({ D1 with files := D1.files.set k ((D1.files.getD k ([], 0)).1 ++ b, (D1.files.getD k ([], 0)).2) }) ⟨V1.files, V1.synced, V1.now, V1.kept, V1.acts⟩ := ⟨⟨(us.set k v320), RowsO.eq hFs rfl (map_set_fst (x := (_, _))).symm, ho337⟩, og_eq h1synced (map_set_snd hkn).symm, h1now, h1kept, h1acts⟩
 rw [appendD_yes hc0 hq hD1, add_old hk]
 exact ⟨_, rfl, hOe.at_ hP, hE⟩

theorem rsync_any {P : Nat → Prop} (w : World) (D : Dsk) (V : RdkW) (hR : RdAt P w D V) (hP : ∀ b, w.heap.size ≤ b → P b) (hok : DOk D) (hL : DLt D) (hfn : D.files.length < 1099511627776) (s : List UInt8) (hn1 : D.now.length + 1 < 1099511627776) (ha1 : D.acts.length + 1 < 1099511627776) :
  Calls Try.prog 41 #[.agg (rdkC (refP D, V)).toArray, St s] w fun e w' => ∃ V', e = .returned (.tuple #[.agg (rdkC (refP (syncD D s).1, V')).toArray, NI (syncD D s).2]) ∧ RdAt P w' (syncD D s).1 V' ∧ Ext w w' := by
 obtain ⟨vs, hvs, hfiles0⟩ := hR.files
 have hfiles := hfiles0.1
 have hsynced := hR.synced.1
 have hnow := hR.now.1
 have hkept := hR.kept.1
 have hacts := hR.acts.1
 refine calls_of_wpF (args := [.agg (rdkC (refP D, V)).toArray, St (s)]) Try.func41 rfl 49 rfl (Nat.le_of_ble_eq_true rfl) ?_
 intro ρ0 hb
 have T0 : ρ0 0 = (.agg (rdkC (refP D, V)).toArray : Value) := hb.get 0
 have T1 : ρ0 1 = (St (s) : Value) := hb.get 1
 clear hb
 have hE := Ext.refl w
 refine sk fun K1 hK1 => (wt (oS rfl (Yk.box (cs := (rdkC (refP D, V) : List Value).toArray) T0 fun n2 w3 hn4 hb5 hx6 hs7 => ?_)))
 have hE := hE.trans hx6
 have hb8 := hb5; clear hb5
 have hl9 : n2 < w3.heap.size := by omega
 refine oS rfl (Yk.alloc (cs := (rdkC ((⟨false, 0, [], [], [], [], [], 0, 0, false⟩, ⟨.slice none 0 0, .slice none 0 0, .slice none 0 0, .slice none 0 0, .slice none 0 0⟩) : RdkV)).toArray) rd4_al50 fun n10 w11 hn12 hb13 hx14 hs15 => ?_)
 have hA16 := Ext.refl w3
 have hea17 := hE
 have hz18 := hE.size
 have hlt19 := lte (bl hb8) hn12
 have hE := hE.trans hx14
 have hb8 := eb hx14 hb8
 have hA16 := hA16.trans hx14
 have hb20 := hb13; clear hb13
 have hl21 : n10 < w11.heap.size := by omega
 refine oA rfl (oZ (tN (hK1 _ _ (sk fun K22 hK22 => (sk fun K23 hK23 => (wt (oS rfl (Yk.loadAll (vr (PQ n2 0) rfl) hb8 (rd4_ty50).choose_spec rfl (st_isz (rdk_len (refP D, V)) rd4_isz50) (oM rfl (oM rfl (oS rfl (Yk.callA3 rd4_pl54 (vr (.agg (rdkC (refP D, V)).toArray) rfl) T1 T1 ((ready_any _ D V (hR.keep hE) s s).mono ?_)))))))))))))
 rintro e w25 ⟨rfl, hx24⟩
 refine ⟨_, rfl, ?_⟩
 have hE := hE.trans hx24
 have hb8 := eb hx24 hb8
 have hA16 := hA16.trans hx24
 have hb20 := eb hx24 hb20
 refine oA rfl (oZ (tN (hK23 _ _ (sk fun K26 hK26 => (wt (oM rfl (oS rfl (Yk.eqI (a := ((readyD D s s) : Nat)) (b := (0 : Nat)) rfl rfl (k_neq _ _ _ _) (oZ (tN (hK26 _ _ ?_)))))))))))
 refine wpF_cond (((readyD D s s) : Nat) ≠ (0)) (vr (.bool (decide (((readyD D s s) : Nat) ≠ (0)))) rfl) (fun hc0 => ?_) (fun hc0 => ?_)
 ·refine sk fun K27 hK27 => (wt (oS rfl (Yk.loadAll (vr (PQ n2 0) rfl) hb8 (rd4_ty50).choose_spec rfl (st_isz (rdk_len (refP D, V)) rd4_isz50) (oM rfl (oS rfl (Yk.storeAll (vr (PQ n10 0) rfl) (vr (.agg (rdkC (refP D, V)).toArray) rfl) hb20 (by simp only [List.size_toArray, rdk_len]) (st_isz (rdk_len _) rd4_isz50) (rdk_one (x := (refP D, V)) (RG.one (hfiles.keep hE)).2 (RG.one (hsynced.keep hE)).2 (RG.one (hnow.keep hE)).2 (RG.one (hkept.keep hE)).2 (RG.one (hacts.keep hE)).2) fun w28 hb29 hg30 hs31 => ?_))))))
  have hE := row_fresh hE hg30 (Nat.le_trans hz18 (by omega))
  have hb8 := kb hg30 hb8 (by omega)
  have hA16 := row_fresh hA16 hg30 (Nat.le_trans (Nat.le_refl _) (by omega))
  clear hb20
  have hb20 : w28.heap[n10]? = some (.cells (rdkC (refP D, V)).toArray 50 (0, 0)) := hb29; clear hb29
  have hl32 := bl hb20
  refine oA rfl (oZ (tN (hK27 _ _ (wpF_ret (thenF_ret (postF_ret (fn := Try.f41) _ rfl [.agg (rdkC (refP D, V)).toArray, NI (readyD D s s)] (.tuple #[.agg (rdkC (refP D, V)).toArray, NI (readyD D s s)]) rfl ⟨ResF.row rfl hb20 (rd4_ty50).choose_spec rfl (st_isz (rdk_len _) rd4_isz50), rfl, trivial⟩ ?_))))))
  rw [show syncD D s = (D, readyD D s s) from by unfold syncD; rw [hasD_no hc0]]
  exact ⟨V, rfl, (hR.keep hE), hE⟩
 cases hk : lookD D.now s
 ·have hlz := lookZ_none hk
  refine wpF_skip (tN (hK22 _ _ (sk fun K33 hK33 => (wt (oS rfl (Yk.fieldAt rd4_fo50_4 (vr (PQ n2 0) rfl) (oS rfl (Yk.cell1 rd4_ty47 rfl (vr (PQ n2 4) rfl) (cellAt hb8 (show (rdkC (refP D, V))[4]? = some (V.now : Value) from rdk_g4 (refP D, V))) (oM rfl (oS rfl (Yk.callA2 rd4_pl57 (vr V.now rfl) T1 ((rlook_is _ V.now D.now s (-1) (hnow.keep hE) (hL.now) (hlz)).mono ?_))))))))))))
  rintro e w35 ⟨rfl, hx34⟩
  refine ⟨_, rfl, ?_⟩
  have hE := hE.trans hx34
  have hb8 := eb hx34 hb8
  have hA16 := hA16.trans hx34
  have hb20 := eb hx34 hb20
  refine oA rfl (oZ (tN (hK33 _ _ (sk fun K36 hK36 => (sk fun K37 hK37 => (wt (oM rfl (oS rfl (Yk.eqI (vr (.int .i64 (-1 : Int)) rfl) (vr (NI 0) rfl) (z_lss _ .i64 (-1 : Int) ((0 : Nat) : Int)) (oZ (tN (hK37 _ _ (wpF_true (vr (.bool (true)) (congrArg Value.bool (decide_eq_true (by decide)))) (sk fun K38 hK38 => (wt (oS rfl (Yk.loadAll (vr (PQ n2 0) rfl) hb8 (rd4_ty50).choose_spec rfl (st_isz (rdk_len (refP D, V)) rd4_isz50) (oS rfl (Yk.storeAll (vr (PQ n10 0) rfl) (vr (.agg (rdkC (refP D, V)).toArray) rfl) hb20 (by simp only [List.size_toArray, rdk_len]) (st_isz (rdk_len _) rd4_isz50) (rdk_one (x := (refP D, V)) (RG.one (hfiles.keep hE)).2 (RG.one (hsynced.keep hE)).2 (RG.one (hnow.keep hE)).2 (RG.one (hkept.keep hE)).2 (RG.one (hacts.keep hE)).2) fun w39 hb40 hg41 hs42 => ?_)))))))))))))))))))
  have hE := row_fresh hE hg41 (Nat.le_trans hz18 (by omega))
  have hb8 := kb hg41 hb8 (by omega)
  have hA16 := row_fresh hA16 hg41 (Nat.le_trans (Nat.le_refl _) (by omega))
  clear hb20
  have hb20 : w39.heap[n10]? = some (.cells (rdkC (refP D, V)).toArray 50 (0, 0)) := hb40; clear hb40
  have hl43 := bl hb20
  refine oA rfl (oZ (tN (hK38 _ _ (wpF_ret (thenF_ret (postF_ret (fn := Try.f41) _ rfl [.agg (rdkC (refP D, V)).toArray, NI 4] (.tuple #[.agg (rdkC (refP D, V)).toArray, NI 4]) rfl ⟨ResF.row rfl hb20 (rd4_ty50).choose_spec rfl (st_isz (rdk_len _) rd4_isz50), rfl, trivial⟩ ?_))))))
  rw [show syncD D s = (D, 4) from by unfold syncD; rw [hasD_none hc0 hk]]
  exact ⟨V, rfl, (hR.keep hE), hE⟩
 rename_i k
 have hlz := lookZ_some hk
 have hkn := (hok.now.look hk).1
 refine wpF_skip (tN (hK22 _ _ (sk fun K44 hK44 => (wt (oS rfl (Yk.fieldAt rd4_fo50_4 (vr (PQ n2 0) rfl) (oS rfl (Yk.cell1 rd4_ty47 rfl (vr (PQ n2 4) rfl) (cellAt hb8 (show (rdkC (refP D, V))[4]? = some (V.now : Value) from rdk_g4 (refP D, V))) (oM rfl (oS rfl (Yk.callA2 rd4_pl57 (vr V.now rfl) T1 ((rlook_is _ V.now D.now s ((k : Nat) : Int) (hnow.keep hE) (hL.now) (hlz)).mono ?_))))))))))))
 rintro e w46 ⟨rfl, hx45⟩
 refine ⟨_, rfl, ?_⟩
 have hE := hE.trans hx45
 have hb8 := eb hx45 hb8
 have hA16 := hA16.trans hx45
 have hb20 := eb hx45 hb20
 refine oA rfl (oZ (tN (hK44 _ _ (sk fun K47 hK47 => (sk fun K48 hK48 => (wt (oM rfl (oS rfl (Yk.eqI (a := (k : Nat)) (b := (0 : Nat)) rfl rfl (k_lss _ _ _ _) (oZ (tN (hK48 _ _ (wpF_false (vr (.bool (false)) (congrArg Value.bool (decide_eq_false (by omega)))) (wpF_skip (tN (hK47 _ _ (sk fun K49 hK49 => (wt (oS rfl (Yk.loadAll (vr (PQ n2 0) rfl) hb8 (rd4_ty50).choose_spec rfl (st_isz (rdk_len (refP D, V)) rd4_isz50) ?_))))))))))))))))))))
 have hsz_ : w.heap.size ≤ w46.heap.size := (hE).size
 have hl_n2 : n2 < w46.heap.size := (bl hb8)
 have hl_n10 : n10 < w46.heap.size := (bl hb20)
 refine oS rfl (Yk.callA1 rd4_pl55 (vr (.agg (rdkC (refP D, V)).toArray) rfl) ((copy_any _ D V (hR.keep hE) hL hfn).mono ?_))
 rintro e w52 ⟨V1, rfl, hO50, hx51⟩
 refine ⟨_, rfl, ?_⟩
 have hE := hE.trans hx51
 have hb8 := eb hx51 hb8
 have hA16 := hA16.trans hx51
 have hb20 := eb hx51 hb20
 obtain ⟨us, hFs, h1files⟩ := hO50.files
 have h1synced := hO50.synced
 have h1now := hO50.now
 have h1kept := hO50.kept
 have h1acts := hO50.acts
 have hap53 : OB V1.files n2 := own_older h1files.2 hl_n2
 have hap54 : OB V1.synced n2 := own_older h1synced.2 hl_n2
 have hap55 : OB V1.now n2 := own_older h1now.2 hl_n2
 have hap56 : OB V1.kept n2 := own_older h1kept.2 hl_n2
 have hap57 : OB V1.acts n2 := own_older h1acts.2 hl_n2
 have hap58 : OB V1.files n10 := own_older h1files.2 hl_n10
 have hap59 : OB V1.synced n10 := own_older h1synced.2 hl_n10
 have hap60 : OB V1.now n10 := own_older h1now.2 hl_n10
 have hap61 : OB V1.kept n10 := own_older h1kept.2 hl_n10
 have hap62 : OB V1.acts n10 := own_older h1acts.2 hl_n10
 have hFs := RowsO.low hFs hsz_
 have h1files := OG.low h1files hsz_
 have h1synced := OG.low h1synced hsz_
 have h1now := OG.low h1now hsz_
 have h1kept := OG.low h1kept hsz_
 have h1acts := OG.low h1acts hsz_
 have hap63 : ApartV V1.files V1.synced := apartv_tag h1files.2 h1synced.2 (by decide)
 have hap64 : ApartV V1.files V1.now := apartv_tag h1files.2 h1now.2 (by decide)
 have hap65 : ApartV V1.files V1.kept := apartv_tag h1files.2 h1kept.2 (by decide)
 have hap66 : ApartV V1.files V1.acts := apartv_tag h1files.2 h1acts.2 (by decide)
 have hap67 : ApartV V1.synced V1.files := apartv_tag h1synced.2 h1files.2 (by decide)
 have hap68 : ApartV V1.synced V1.now := apartv_tag h1synced.2 h1now.2 (by decide)
 have hap69 : ApartV V1.synced V1.kept := apartv_tag h1synced.2 h1kept.2 (by decide)
 have hap70 : ApartV V1.synced V1.acts := apartv_tag h1synced.2 h1acts.2 (by decide)
 have hap71 : ApartV V1.now V1.files := apartv_tag h1now.2 h1files.2 (by decide)
 have hap72 : ApartV V1.now V1.synced := apartv_tag h1now.2 h1synced.2 (by decide)
 have hap73 : ApartV V1.now V1.acts := apartv_tag h1now.2 h1acts.2 (by decide)
 have hap74 : ApartV V1.kept V1.files := apartv_tag h1kept.2 h1files.2 (by decide)
 have hap75 : ApartV V1.kept V1.synced := apartv_tag h1kept.2 h1synced.2 (by decide)
 have hap76 : ApartV V1.kept V1.acts := apartv_tag h1kept.2 h1acts.2 (by decide)
 have hap77 : ApartV V1.acts V1.files := apartv_tag h1acts.2 h1files.2 (by decide)
 have hap78 : ApartV V1.acts V1.synced := apartv_tag h1acts.2 h1synced.2 (by decide)
 have hap79 : ApartV V1.acts V1.now := apartv_tag h1acts.2 h1now.2 (by decide)
 have hap80 : ApartV V1.acts V1.kept := apartv_tag h1acts.2 h1kept.2 (by decide)
 have hO1 := (⟨⟨us, hFs, h1files⟩, h1synced, h1now, h1kept, h1acts⟩ : RdO w.heap.size _ D V1)
 obtain ⟨D1, dn, hD1⟩ : ∃ x y, armD D = (x, y) := ⟨_, _, rfl⟩
 have hD1f : (armD D).1 = D1 := congrArg Prod.fst hD1
 have hO2 := hO1.armed
 rw [hD1f] at hO2
 have hok1 := arm_ok hok
 rw [hD1f] at hok1
 have hL1 := arm_lt hL
 rw [hD1f] at hL1
 have hfe := arm_same D
 rw [hD1f] at hfe
 obtain ⟨hfe1, hfe2, hfe3, hfe4, hfe5, hfe6⟩ := hfe
 refine oS rfl (Yk.callA1 rd4_pl56 (vr (.agg (rdkC (refP D, V1)).toArray) rfl) ((armed_is _ D V1 (RdO.at_ hO1 (P := fun _ => True) (fun _ _ => trivial)) hL hD1).mono ?_))
 rintro e w82 ⟨rfl, hx81⟩
 refine ⟨_, rfl, ?_⟩
 have hE := hE.trans hx81
 have hb8 := eb hx81 hb8
 have hA16 := hA16.trans hx81
 have hb20 := eb hx81 hb20
 have h1files := h1files.keep hx81
 have h1synced := h1synced.keep hx81
 have h1now := h1now.keep hx81
 have h1kept := h1kept.keep hx81
 have h1acts := h1acts.keep hx81
 have hFs : RowsO w.heap.size w82 us (D.files.map Prod.fst) := (hFs.keep hx81)
 have hO3 : RdO w.heap.size w82 D1 V1 := RdO.same (D := D) ⟨⟨us, hFs, h1files⟩, h1synced, h1now, h1kept, h1acts⟩ hfe1 hfe2 hfe3 hfe4
 clear hFs h1files h1synced h1now h1kept h1acts
 have hus := hO3
 obtain ⟨us, hFs, h1files⟩ := hO3.files
 have h1synced := hO3.synced
 have h1now := hO3.now
 have h1kept := hO3.kept
 have h1acts := hO3.acts
 refine oM rfl (oS rfl (Yk.extract (vs := [.agg (rdkC (refP D1, V1)).toArray, .bool (dn)]) (vr (.tuple #[.agg (rdkC (refP D1, V1)).toArray, .bool (dn)]) rfl) (show _ = some (.agg (rdkC (refP D1, V1)).toArray : Value) from rfl) (oS rfl (Yk.extract (vs := [.agg (rdkC (refP D1, V1)).toArray, .bool (dn)]) (vr (.tuple #[.agg (rdkC (refP D1, V1)).toArray, .bool (dn)]) rfl) (show _ = some (.bool (dn) : Value) from rfl) (oS rfl (Yk.storeAll (vr (PQ n2 0) rfl) (vr (.agg (rdkC (refP D1, V1)).toArray) rfl) hb8 (by simp only [List.size_toArray, rdk_len]) (st_isz (rdk_len _) rd4_isz50) (rdk_one (x := (refP D1, V1)) (RG.one (RG.ofOwn h1files)).2 (RG.one (RG.ofOwn h1synced)).2 (RG.one (RG.ofOwn h1now)).2 (RG.one (RG.ofOwn h1kept)).2 (RG.one (RG.ofOwn h1acts)).2) fun w83 hb84 hg85 hs86 => ?_))))))
 have hE := row_fresh hE hg85 (Nat.le_trans (Nat.le_refl _) (by omega))
 clear hA16
 have hb20 := kb hg85 hb20 (by omega)
 have h1files := OG.kept h1files hg85 hap53
 have h1synced := OG.kept h1synced hg85 hap54
 have h1now := OG.kept h1now hg85 hap55
 have h1kept := OG.kept h1kept hg85 hap56
 have h1acts := OG.kept h1acts hg85 hap57
 have hFs : RowsO w.heap.size w83 us (D1.files.map Prod.fst) := RowsO.set hFs hg85 hb8 (by decide)
 clear hb8
 have hb8 : w83.heap[n2]? = some (.cells (rdkC (refP D1, V1)).toArray 50 (0, 0)) := hb84; clear hb84
 have hl87 := bl hb8
 refine oA rfl (oZ (tN (hK49 _ _ (sk fun K88 hK88 => (sk fun K89 hK89 => (wt (oM rfl (oZ (tN (hK89 _ _ ?_))))))))))
 refine wpF_condB (dn) (vr (.bool (dn)) rfl) (fun hc2 => ?_) (fun hc2 => ?_)
 ·rw [show dn = true from hc2] at hD1
  refine sk fun K90 hK90 => (wt (oS rfl (Yk.loadAll (vr (PQ n2 0) rfl) hb8 (rd4_ty50).choose_spec rfl (st_isz (rdk_len (refP D1, V1)) rd4_isz50) (oS rfl (Yk.storeAll (vr (PQ n10 0) rfl) (vr (.agg (rdkC (refP D1, V1)).toArray) rfl) hb20 (by simp only [List.size_toArray, rdk_len]) (st_isz (rdk_len _) rd4_isz50) (rdk_one (x := (refP D1, V1)) (RG.one (RG.ofOwn h1files)).2 (RG.one (RG.ofOwn h1synced)).2 (RG.one (RG.ofOwn h1now)).2 (RG.one (RG.ofOwn h1kept)).2 (RG.one (RG.ofOwn h1acts)).2) fun w91 hb92 hg93 hs94 => ?_)))))
  have hE := row_fresh hE hg93 (Nat.le_trans hz18 (by omega))
  have h1files := OG.kept h1files hg93 hap58
  have h1synced := OG.kept h1synced hg93 hap59
  have h1now := OG.kept h1now hg93 hap60
  have h1kept := OG.kept h1kept hg93 hap61
  have h1acts := OG.kept h1acts hg93 hap62
  have hFs : RowsO w.heap.size w91 us (D1.files.map Prod.fst) := RowsO.set hFs hg93 hb20 (by decide)
  have hb8 := kb hg93 hb8 (by omega)
  clear hb20
  have hb20 : w91.heap[n10]? = some (.cells (rdkC (refP D1, V1)).toArray 50 (0, 0)) := hb92; clear hb92
  have hl95 := bl hb20
  refine oA rfl (oZ (tN (hK90 _ _ (wpF_ret (thenF_ret (postF_ret (fn := Try.f41) _ rfl [.agg (rdkC (refP D1, V1)).toArray, NI 9] (.tuple #[.agg (rdkC (refP D1, V1)).toArray, NI 9]) rfl ⟨ResF.row rfl hb20 (rd4_ty50).choose_spec rfl (st_isz (rdk_len _) rd4_isz50), rfl, trivial⟩ ?_))))))
  have hOe : RdO w.heap.size w91 (D1) V1 := ⟨⟨us, hFs, h1files⟩, h1synced, h1now, h1kept, h1acts⟩
  rw [show syncD D s = (D1, 9) from by unfold syncD; rw [hasD_some hc0 hk]; exact doD_down hD1]
  exact ⟨V1, rfl, hOe.at_ hP, hE⟩
 rw [show dn = false from hc2] at hD1
 have hul : us.length = D1.files.length := by rw [hFs.len, List.length_map]
 have hkn1 : k < D1.files.length := by rw [hfe1]; exact hkn
 have hn1 : D1.now.length + 1 < 1099511627776 := by rw [hfe2]; exact hn1
 have ha1 : D1.acts.length + 1 < 1099511627776 := by rw [hfe4]; exact ha1
 have hfk := RB.ofOwn (hFs.own k (by rw [List.length_map]; exact hkn1))
 rw [getD_mapR (d := (([], 0) : List UInt8 × Nat)) rfl] at hfk
 have hlL := hL1.files _ (getD_mem_ (d := ([], 0)) hkn1)
 obtain ⟨gf, hgf⟩ := OG.block (i := k) h1files (by rw [hul]; exact hkn1)
 obtain ⟨gs, hgs⟩ := OG.block (i := k) h1synced (by rw [List.length_map]; exact hkn1)
 have hks : k < (D1.files.map fun x => ((x.2 : Nat) : Int)).length := by rw [List.length_map]; exact hkn1
 have hgsn : ApartV (us.getD (k) undef) V1.synced := apartv_tag (hFs.own k (by rw [List.length_map]; exact hkn1)) h1synced.2 (by decide)
 refine wpF_skip (tN (hK88 _ _ (sk fun K96 hK96 => ?_)))
 have hx97 : Ext w83 (World.drew w83) := (Below.refl _ _).drew
 have hE := hE.trans hx97
 have hb20 := eb hx97 hb20
 have h1files := h1files.keep hx97
 have h1synced := h1synced.keep hx97
 have h1now := h1now.keep hx97
 have h1kept := h1kept.keep hx97
 have h1acts := h1acts.keep hx97
 have hFs : RowsO w.heap.size (World.drew w83) us (D1.files.map Prod.fst) := (hFs.keep hx97)
 have hb8 := eb hx97 hb8
 have hfk := hfk.keep hx97
 refine wpF_float [(0, 32, PQ n2 3), (1, 33, V1.synced), (2, 34, NI k), (3, 35, PQ n2 2), (4, 36, V1.files), (5, 37, NI k), (6, 38, .pointer (some ⟨gf, k * 1, none⟩)), (7, 39, (us.getD (k) undef)), (8, 40, NI (((D1.files.getD k ([], 0)).1 : List UInt8).length)), (9, 41, .pointer (some ⟨gs, k * 1, none⟩))] [10] (fun wz => Ext w wz ∧ wz.heap[n10]? = some (.cells (rdkC ((⟨false, 0, [], [], [], [], [], 0, 0, false⟩, ⟨.slice none 0 0, .slice none 0 0, .slice none 0 0, .slice none 0 0, .slice none 0 0⟩) : RdkV)).toArray 50 (0, 0)) ∧ OG w.heap.size 24 1 (enV) wz V1.files (us) ∧ OG w.heap.size 3 1 (enI) wz V1.synced ((D1.files.map fun x => ((x.2 : Nat) : Int))) ∧ wz.heap[n2]? = some (.cells (rdkC (refP D1, V1)).toArray 50 (0, 0)) ∧ RB wz (us.getD (k) undef) (D1.files.getD k ([], 0)).1 ∧ True) (by kernel_rfl) (by kernel_rfl) (by kernel_rfl) ⟨hE, hb20, h1files, h1synced, hb8, hfk, trivial⟩ ⟨fun w98 ⟨hE, hb20, h1files, h1synced, hb8, hfk, _⟩ => Yk.fieldAt rd4_fo50_3 (vr (PQ n2 0) rfl) ⟨rfl, rfl⟩, fun w98 ⟨hE, hb20, h1files, h1synced, hb8, hfk, _⟩ => Yk.cell1 rd4_ty25 rfl (vr (PQ n2 3) rfl) (cellAt hb8 (show (rdkC (refP D1, V1))[3]? = some (V1.synced : Value) from rdk_g3 (refP D1, V1))) ⟨rfl, rfl⟩, fun w98 ⟨hE, hb20, h1files, h1synced, hb8, hfk, _⟩ => Yk.move (vr (NI k) rfl) ⟨rfl, rfl⟩, fun w98 ⟨hE, hb20, h1files, h1synced, hb8, hfk, _⟩ => Yk.fieldAt rd4_fo50_2 (vr (PQ n2 0) rfl) ⟨rfl, rfl⟩, fun w98 ⟨hE, hb20, h1files, h1synced, hb8, hfk, _⟩ => Yk.cell1 rd4_ty23 rfl (vr (PQ n2 2) rfl) (cellAt hb8 (show (rdkC (refP D1, V1))[2]? = some (V1.files : Value) from rdk_g2 (refP D1, V1))) ⟨rfl, rfl⟩, fun w98 ⟨hE, hb20, h1files, h1synced, hb8, hfk, _⟩ => Yk.move (vr (NI k) rfl) ⟨rfl, rfl⟩, fun w98 ⟨hE, hb20, h1files, h1synced, hb8, hfk, _⟩ => Yk.atOwnK (k := 1) (i := k) rd4_ty23 rd4_szg24 (vr V1.files rfl) h1files.2 hgf (vr (NI k) rfl) (by first | omega | (simp only [List.length_append, List.length_singleton, List.length_map, List.length_nil]; omega)) ⟨rfl, rfl⟩, fun w98 ⟨hE, hb20, h1files, h1synced, hb8, hfk, _⟩ => Yk.loadC rd4_ty24 rfl (by rw [show _ = PQ gf (k * 1) from (vr (.pointer (some ⟨gf, k * 1, none⟩)) rfl)]; exact OG.cell1 undef h1files hgf (by first | omega | (simp only [List.length_append, List.length_singleton, List.length_map, List.length_nil]; omega)) rfl) ⟨rfl, rfl⟩, fun w98 ⟨hE, hb20, h1files, h1synced, hb8, hfk, _⟩ => Yk.lenRB rd4_ty24 (RB.of hfk (vr (us.getD (k) undef) rfl)) ⟨rfl, rfl⟩, fun w98 ⟨hE, hb20, h1files, h1synced, hb8, hfk, _⟩ => Yk.atOwnK (k := 1) (i := k) rd4_ty25 rd4_szg3 (vr V1.synced rfl) h1synced.2 hgs (vr (NI k) rfl) (by first | omega | (simp only [List.length_append, List.length_singleton, List.length_map, List.length_nil]; omega)) ⟨rfl, rfl⟩, trivial⟩ (chF_step rfl (Yk.storeOG1 (i := k) (a := ((((D1.files.getD k ([], 0)).1 : List UInt8).length : Nat) : Int)) (c := NI (((D1.files.getD k ([], 0)).1 : List UInt8).length)) (0 : Int) (vr (.pointer (some ⟨gs, k * 1, none⟩)) rfl) (vr (NI (((D1.files.getD k ([], 0)).1 : List UInt8).length)) rfl) rfl h1synced hgs (by first | omega | (simp only [List.length_append, List.length_singleton, List.length_map, List.length_nil]; omega)) ⟨rfl, rfl⟩ rd4_isz3 fun w99 ho100 hg101 => ?_))
 have hap102 : OB V1.synced n2 := apart_grew hg101 hap54 (bl hb8)
 have hap103 : OB V1.synced n10 := apart_grew hg101 hap59 (bl hb20)
 have hap104 : ApartV V1.synced V1.files := apartv_grew hg101 hap67 h1files.2
 have hap105 : ApartV V1.files V1.synced := fun k h1 h2 => hap104 k h2 h1
 have hap106 : ApartV V1.synced V1.now := apartv_grew hg101 hap68 h1now.2
 have hap107 : ApartV V1.now V1.synced := fun k h1 h2 => hap106 k h2 h1
 have hap108 : ApartV V1.synced V1.kept := apartv_grew hg101 hap69 h1kept.2
 have hap109 : ApartV V1.kept V1.synced := fun k h1 h2 => hap108 k h2 h1
 have hap110 : ApartV V1.synced V1.acts := apartv_grew hg101 hap70 h1acts.2
 have hap111 : ApartV V1.acts V1.synced := fun k h1 h2 => hap110 k h2 h1
 have hE := ext_grew hE hg101 h1synced.2 (Nat.le_refl _)
 have hb20 := blk_grew hb20 hg101 hap103
 have h1files := og_grew h1files hg101 hap104
 have h1now := og_grew h1now hg101 hap106
 have h1kept := og_grew h1kept hg101 hap108
 have h1acts := og_grew h1acts hg101 hap110
 have hFs : RowsO w.heap.size w99 us (D1.files.map Prod.fst) := RowsO.grew hFs hg101 h1synced.2 (by decide)
 have hb8 := blk_grew hb8 hg101 hap102
 clear h1synced
 refine ⟨.inl rfl, ?_⟩
 refine chF_nil (tN (hK96 _ _ (sk fun K112 hK112 => (wt ?_))))
 have hA117 := Ext.refl w99
 have hea118 := hE
 have hz119 := hE.size
 refine oS rfl (Yk.lit0G (k := 2) (enc := renC) rd4_l0_47 fun v113 w114 ho115 hx116 => ?_)
 have hap120 : OB v113 n10 := own_older ho115.2 (bl hb20)
 have hap121 : OB v113 n2 := own_older ho115.2 (bl hb8)
 have hap122 : ApartV V1.files v113 := apartv_new h1files.2 ho115.2
 have hap123 : ApartV v113 V1.files := apartv_new' h1files.2 ho115.2
 have hap124 : ApartV V1.now v113 := apartv_new h1now.2 ho115.2
 have hap125 : ApartV v113 V1.now := apartv_new' h1now.2 ho115.2
 have hap126 : ApartV V1.kept v113 := apartv_new h1kept.2 ho115.2
 have hap127 : ApartV v113 V1.kept := apartv_new' h1kept.2 ho115.2
 have hap128 : ApartV V1.acts v113 := apartv_new h1acts.2 ho115.2
 have hap129 : ApartV v113 V1.acts := apartv_new' h1acts.2 ho115.2
 have hap130 : ApartV V1.synced v113 := apartv_new ho100.2 ho115.2
 have hap131 : ApartV v113 V1.synced := apartv_new' ho100.2 ho115.2
 have hE := hE.trans hx116
 have hb20 := eb hx116 hb20
 have h1files := h1files.keep hx116
 have h1now := h1now.keep hx116
 have h1kept := h1kept.keep hx116
 have h1acts := h1acts.keep hx116
 have hFs : RowsO w.heap.size w114 us (D1.files.map Prod.fst) := (hFs.keep hx116)
 have hb8 := eb hx116 hb8
 have ho100 := ho100.keep hx116
 have hA117 := hA117.trans hx116
 refine oS rfl (Yk.fieldAt rd4_fo50_4 (vr (PQ n2 0) rfl) (oS rfl (Yk.cell1 rd4_ty47 rfl (vr (PQ n2 4) rfl) (cellAt hb8 (show (rdkC (refP D1, V1))[4]? = some (V1.now : Value) from rdk_g4 (refP D1, V1))) (oS rfl (Yk.appendRG _ _ w99.heap.size _ 24 rd4_ty47 rd4_ig89.choose_spec.1 rd4_ig89.choose_spec.2 rd4_ty47 ([]) (D1.now) (OG.of ho115 (vr v113 rfl)) (RG.of (RG.ofOwn h1now) (vr V1.now rfl)) (fun _ _ => ren_one) (by first | omega | (simp only [List.length_append, List.length_singleton, List.length_map, List.length_nil]; omega)) (by first | omega | (simp only [List.length_append, List.length_singleton, List.length_map, List.length_nil]; omega)) hA117.size fun v132 w133 ho134 hg135 => ?_)))))
 have hg135 : Grew w114 w133 v113 v132 := hg135
 have hap136 : OB v132 n10 := apart_grew hg135 hap120 (bl hb20)
 have hap137 : OB v132 n2 := apart_grew hg135 hap121 (bl hb8)
 have hap138 : ApartV v132 V1.files := apartv_grew hg135 hap123 h1files.2
 have hap139 : ApartV V1.files v132 := fun k h1 h2 => hap138 k h2 h1
 have hap140 : ApartV v132 V1.now := apartv_grew hg135 hap125 h1now.2
 have hap141 : ApartV V1.now v132 := fun k h1 h2 => hap140 k h2 h1
 have hap142 : ApartV v132 V1.kept := apartv_grew hg135 hap127 h1kept.2
 have hap143 : ApartV V1.kept v132 := fun k h1 h2 => hap142 k h2 h1
 have hap144 : ApartV v132 V1.acts := apartv_grew hg135 hap129 h1acts.2
 have hap145 : ApartV V1.acts v132 := fun k h1 h2 => hap144 k h2 h1
 have hap146 : ApartV v132 V1.synced := apartv_grew hg135 hap131 ho100.2
 have hap147 : ApartV V1.synced v132 := fun k h1 h2 => hap146 k h2 h1
 have hE := ext_grew hE hg135 ho115.2 hz119
 have hb20 := blk_grew hb20 hg135 hap120
 have h1files := og_grew h1files hg135 hap123
 have h1now := og_grew h1now hg135 hap125
 have h1kept := og_grew h1kept hg135 hap127
 have h1acts := og_grew h1acts hg135 hap129
 have hFs : RowsO w.heap.size w133 us (D1.files.map Prod.fst) := RowsO.grew hFs hg135 ho115.2 (by decide)
 have hb8 := blk_grew hb8 hg135 hap121
 have ho100 := og_grew ho100 hg135 hap131
 have hA117 := ext_grew hA117 hg135 ho115.2 (Nat.le_refl _)
 clear ho115
 refine oS rfl (Yk.fieldAt rd4_fo50_5 (vr (PQ n2 0) rfl) (oS rfl (Yk.storeC (i := 5) (v := v132) (vr (PQ n2 5) rfl) (vr v132 rfl) hb8 (by rw [rdk_len]; decide) rd4_isz47 (RG.one (RG.ofOwn ho134)).1 (RG.one (RG.ofOwn ho134)).2 fun w148 hb149 hg150 hs151 => ?_)))
 have hE := row_fresh hE hg150 (Nat.le_trans (Nat.le_refl _) (by omega))
 have hb20 := kb hg150 hb20 (by omega)
 have h1files := OG.kept h1files hg150 hap53
 have h1now := OG.kept h1now hg150 hap55
 have h1kept := OG.kept h1kept hg150 hap56
 have h1acts := OG.kept h1acts hg150 hap57
 have hFs : RowsO w.heap.size w148 us (D1.files.map Prod.fst) := RowsO.set hFs hg150 hb8 (by decide)
 have ho100 := OG.kept ho100 hg150 hap102
 clear hA117
 have ho134 := OG.kept ho134 hg150 hap137
 clear hb8
 have hb8 : w148.heap[n2]? = some (.cells (rdkC ((⟨true, ((D1.quota : Nat) : Int), (D1.files.map Prod.fst), (D1.files.map fun x => ((x.2 : Nat) : Int)), D1.now, ([]) ++ D1.now, D1.acts, D1.refused, D1.arm, D1.down⟩, ⟨V1.files, V1.synced, V1.now, v132, V1.acts⟩) : RdkV)).toArray 50 (0, 0)) := blk_eq hb149 (rdk_s5 (refP D1, V1) v132 (([]) ++ D1.now)); clear hb149
 have hl152 := bl hb8
 refine oL_ [(0, .agg (rdkC (refP D, V)).toArray), (1, St (s)), (2, PQ n2 0), (4, PQ n10 0), (5, NI 0), (6, NI (readyD D s s)), (7, NI k), (8, .bool (dn)), (22, .bool (false))] ⟨T0, T1, rfl, rfl, rfl, rfl, rfl, rfl, (congrArg Value.bool (decide_eq_false (by omega))), trivial⟩ fun ρ153 ⟨T0, T1, T2, T4, T5, T6, T7, T8, T22, _⟩ => (tN (hK112 _ _ (sk fun K154 hK154 => (wt (oS rfl (Yk.fieldAt rd4_fo50_6 T2 (oS rfl (Yk.storeC (i := 6) (v := (Value.slice none 0 0)) (vr (PQ n2 6) rfl) (vr (Value.slice none 0 0) rfl) hb8 (by rw [rdk_len]; decide) rd4_isz48 rfl rfl fun w155 hb156 hg157 hs158 => ?_))))))))
 have hE := row_fresh hE hg157 (Nat.le_trans (Nat.le_refl _) (by omega))
 have hb20 := kb hg157 hb20 (by omega)
 have h1files := OG.kept h1files hg157 hap53
 have h1now := OG.kept h1now hg157 hap55
 have h1kept := OG.kept h1kept hg157 hap56
 have h1acts := OG.kept h1acts hg157 hap57
 have hFs : RowsO w.heap.size w155 us (D1.files.map Prod.fst) := RowsO.set hFs hg157 hb8 (by decide)
 have ho100 := OG.kept ho100 hg157 hap102
 have ho134 := OG.kept ho134 hg157 hap137
 clear hb8
 have hb8 : w155.heap[n2]? = some (.cells (rdkC ((⟨true, ((D1.quota : Nat) : Int), (D1.files.map Prod.fst), (D1.files.map fun x => ((x.2 : Nat) : Int)), D1.now, ([]) ++ D1.now, [], D1.refused, D1.arm, D1.down⟩, ⟨V1.files, V1.synced, V1.now, v132, ((Value.slice none 0 0))⟩) : RdkV)).toArray 50 (0, 0)) := blk_eq hb156 (rdk_s6 ((⟨true, ((D1.quota : Nat) : Int), (D1.files.map Prod.fst), (D1.files.map fun x => ((x.2 : Nat) : Int)), D1.now, ([]) ++ D1.now, D1.acts, D1.refused, D1.arm, D1.down⟩, ⟨V1.files, V1.synced, V1.now, v132, V1.acts⟩) : RdkV) (Value.slice none 0 0) ([])); clear hb156
 have hl159 := bl hb8
 refine oZ (tN (hK154 _ _ (sk fun K160 hK160 => (wt (oS rfl (Yk.loadAll T2 hb8 (rd4_ty50).choose_spec rfl (st_isz (rdk_len ((⟨true, ((D1.quota : Nat) : Int), (D1.files.map Prod.fst), (D1.files.map fun x => ((x.2 : Nat) : Int)), D1.now, ([]) ++ D1.now, [], D1.refused, D1.arm, D1.down⟩, ⟨V1.files, V1.synced, V1.now, v132, ((Value.slice none 0 0))⟩) : RdkV)) rd4_isz50) (oS rfl (Yk.storeAll T4 (vr (.agg (rdkC ((⟨true, ((D1.quota : Nat) : Int), (D1.files.map Prod.fst), (D1.files.map fun x => ((x.2 : Nat) : Int)), D1.now, ([]) ++ D1.now, [], D1.refused, D1.arm, D1.down⟩, ⟨V1.files, V1.synced, V1.now, v132, ((Value.slice none 0 0))⟩) : RdkV)).toArray) rfl) hb20 (by simp only [List.size_toArray, rdk_len]) (st_isz (rdk_len _) rd4_isz50) (rdk_one (x := ((⟨true, ((D1.quota : Nat) : Int), (D1.files.map Prod.fst), (D1.files.map fun x => ((x.2 : Nat) : Int)), D1.now, ([]) ++ D1.now, [], D1.refused, D1.arm, D1.down⟩, ⟨V1.files, V1.synced, V1.now, v132, ((Value.slice none 0 0))⟩) : RdkV)) (RG.one (RG.ofOwn h1files)).2 (RG.one (RG.ofOwn ho100)).2 (RG.one (RG.ofOwn h1now)).2 (RG.one (RG.ofOwn ho134)).2 rfl) fun w161 hb162 hg163 hs164 => ?_))))))))
 have hE := row_fresh hE hg163 (Nat.le_trans hz18 (by omega))
 have h1files := OG.kept h1files hg163 hap58
 have h1now := OG.kept h1now hg163 hap60
 have h1kept := OG.kept h1kept hg163 hap61
 have h1acts := OG.kept h1acts hg163 hap62
 have hFs : RowsO w.heap.size w161 us (D1.files.map Prod.fst) := RowsO.set hFs hg163 hb20 (by decide)
 have ho100 := OG.kept ho100 hg163 hap103
 have ho134 := OG.kept ho134 hg163 hap136
 have hb8 := kb hg163 hb8 (by omega)
 clear hb20
 have hb20 : w161.heap[n10]? = some (.cells (rdkC ((⟨true, ((D1.quota : Nat) : Int), (D1.files.map Prod.fst), (D1.files.map fun x => ((x.2 : Nat) : Int)), D1.now, ([]) ++ D1.now, [], D1.refused, D1.arm, D1.down⟩, ⟨V1.files, V1.synced, V1.now, v132, ((Value.slice none 0 0))⟩) : RdkV)).toArray 50 (0, 0)) := hb162; clear hb162
 have hl165 := bl hb20
 refine oA rfl (oZ (tN (hK160 _ _ (wpF_ret (postF_ret (fn := Try.f41) _ rfl [.agg (rdkC ((⟨true, ((D1.quota : Nat) : Int), (D1.files.map Prod.fst), (D1.files.map fun x => ((x.2 : Nat) : Int)), D1.now, ([]) ++ D1.now, [], D1.refused, D1.arm, D1.down⟩, ⟨V1.files, V1.synced, V1.now, v132, ((Value.slice none 0 0))⟩) : RdkV)).toArray, NI 0] (.tuple #[.agg (rdkC ((⟨true, ((D1.quota : Nat) : Int), (D1.files.map Prod.fst), (D1.files.map fun x => ((x.2 : Nat) : Int)), D1.now, ([]) ++ D1.now, [], D1.refused, D1.arm, D1.down⟩, ⟨V1.files, V1.synced, V1.now, v132, ((Value.slice none 0 0))⟩) : RdkV)).toArray, NI 0]) rfl ⟨ResF.row T4 hb20 (rd4_ty50).choose_spec rfl (st_isz (rdk_len _) rd4_isz50), rfl, trivial⟩ ?_)))))
 have hOe : RdO w.heap.size w161 ({ D1 with files := D1.files.set k ((fileD D1 k).1, (fileD D1 k).1.length), kept := D1.now, acts := [] }) ⟨V1.files, V1.synced, V1.now, v132, ((Value.slice none 0 0))⟩ := ⟨⟨us, RowsO.eq hFs rfl (set_fst_self hkn1).symm, h1files⟩, og_eq ho100 (map_set_snd2 (x := ((fileD D1 k).1, (fileD D1 k).1.length))).symm, h1now, OG.low ho134 hz119, OG.nil _ _ _ _ _⟩
 rw [show syncD D s = (_, 0) from by unfold syncD; rw [hasD_some hc0 hk]; exact doD_yes hD1]
 exact ⟨_, rfl, hOe.at_ hP, hE⟩

theorem rmove_any {P : Nat → Prop} (w : World) (D : Dsk) (V : RdkW) (hR : RdAt P w D V) (hP : ∀ b, w.heap.size ≤ b → P b) (hok : DOk D) (hL : DLt D) (hfn : D.files.length < 1099511627776) (s t : List UInt8) (hn1 : D.now.length + 1 < 1099511627776) (ha1 : D.acts.length + 1 < 1099511627776) :
  Calls Try.prog 42 #[.agg (rdkC (refP D, V)).toArray, St s, St t, .bool false] w fun e w' => ∃ V', e = .returned (.tuple #[.agg (rdkC (refP (moveD D s t).1, V')).toArray, NI (moveD D s t).2]) ∧ RdAt P w' (moveD D s t).1 V' ∧ Ext w w' := by
 obtain ⟨vs, hvs, hfiles0⟩ := hR.files
 have hfiles := hfiles0.1
 have hsynced := hR.synced.1
 have hnow := hR.now.1
 have hkept := hR.kept.1
 have hacts := hR.acts.1
 refine calls_of_wpF (args := [.agg (rdkC (refP D, V)).toArray, St (s), St (t), .bool (false)]) Try.func42 rfl 59 rfl (Nat.le_of_ble_eq_true rfl) ?_
 intro ρ0 hb
 have T0 : ρ0 0 = (.agg (rdkC (refP D, V)).toArray : Value) := hb.get 0
 have T1 : ρ0 1 = (St (s) : Value) := hb.get 1
 have T2 : ρ0 2 = (St (t) : Value) := hb.get 2
 have T3 : ρ0 3 = (.bool (false) : Value) := hb.get 3
 clear hb
 have hE := Ext.refl w
 refine sk fun K1 hK1 => (wt (oS rfl (Yk.box (cs := (rdkC (refP D, V) : List Value).toArray) T0 fun n2 w3 hn4 hb5 hx6 hs7 => ?_)))
 have hE := hE.trans hx6
 have hb8 := hb5; clear hb5
 have hl9 : n2 < w3.heap.size := by omega
 refine oS rfl (Yk.alloc (cs := (rdkC ((⟨false, 0, [], [], [], [], [], 0, 0, false⟩, ⟨.slice none 0 0, .slice none 0 0, .slice none 0 0, .slice none 0 0, .slice none 0 0⟩) : RdkV)).toArray) rd4_al50 fun n10 w11 hn12 hb13 hx14 hs15 => ?_)
 have hA16 := Ext.refl w3
 have hea17 := hE
 have hz18 := hE.size
 have hlt19 := lte (bl hb8) hn12
 have hE := hE.trans hx14
 have hb8 := eb hx14 hb8
 have hA16 := hA16.trans hx14
 have hb20 := hb13; clear hb13
 have hl21 : n10 < w11.heap.size := by omega
 refine oA rfl (oZ (tN (hK1 _ _ (sk fun K22 hK22 => (wt (oM rfl (oA rfl (oZ (tN (hK22 _ _ (sk fun K23 hK23 => (sk fun K24 hK24 => (wt (oM rfl (oZ (tN (hK24 _ _ (wpF_false T3 ?_))))))))))))))))))
 refine wpF_skip (tN (hK23 _ _ (sk fun K25 hK25 => (sk fun K26 hK26 => (wt (oS rfl (Yk.loadAll (vr (PQ n2 0) rfl) hb8 (rd4_ty50).choose_spec rfl (st_isz (rdk_len (refP D, V)) rd4_isz50) (oM rfl (oM rfl (oS rfl (Yk.callA3 rd4_pl54 (vr (.agg (rdkC (refP D, V)).toArray) rfl) T1 T2 ((ready_any _ D V (hR.keep hE) s t).mono ?_))))))))))))
 rintro e w28 ⟨rfl, hx27⟩
 refine ⟨_, rfl, ?_⟩
 have hE := hE.trans hx27
 have hb8 := eb hx27 hb8
 have hA16 := hA16.trans hx27
 have hb20 := eb hx27 hb20
 refine oA rfl (oZ (tN (hK26 _ _ (sk fun K29 hK29 => (wt (oM rfl (oS rfl (Yk.eqI (a := ((readyD D s t) : Nat)) (b := (0 : Nat)) rfl rfl (k_neq _ _ _ _) (oZ (tN (hK29 _ _ ?_)))))))))))
 refine wpF_cond (((readyD D s t) : Nat) ≠ (0)) (vr (.bool (decide (((readyD D s t) : Nat) ≠ (0)))) rfl) (fun hc1 => ?_) (fun hc1 => ?_)
 ·refine sk fun K30 hK30 => (wt (oS rfl (Yk.loadAll (vr (PQ n2 0) rfl) hb8 (rd4_ty50).choose_spec rfl (st_isz (rdk_len (refP D, V)) rd4_isz50) (oM rfl (oS rfl (Yk.storeAll (vr (PQ n10 0) rfl) (vr (.agg (rdkC (refP D, V)).toArray) rfl) hb20 (by simp only [List.size_toArray, rdk_len]) (st_isz (rdk_len _) rd4_isz50) (rdk_one (x := (refP D, V)) (RG.one (hfiles.keep hE)).2 (RG.one (hsynced.keep hE)).2 (RG.one (hnow.keep hE)).2 (RG.one (hkept.keep hE)).2 (RG.one (hacts.keep hE)).2) fun w31 hb32 hg33 hs34 => ?_))))))
  have hE := row_fresh hE hg33 (Nat.le_trans hz18 (by omega))
  have hb8 := kb hg33 hb8 (by omega)
  have hA16 := row_fresh hA16 hg33 (Nat.le_trans (Nat.le_refl _) (by omega))
  clear hb20
  have hb20 : w31.heap[n10]? = some (.cells (rdkC (refP D, V)).toArray 50 (0, 0)) := hb32; clear hb32
  have hl35 := bl hb20
  refine oA rfl (oZ (tN (hK30 _ _ (wpF_ret (thenF_ret (postF_ret (fn := Try.f42) _ rfl [.agg (rdkC (refP D, V)).toArray, NI (readyD D s t)] (.tuple #[.agg (rdkC (refP D, V)).toArray, NI (readyD D s t)]) rfl ⟨ResF.row rfl hb20 (rd4_ty50).choose_spec rfl (st_isz (rdk_len _) rd4_isz50), rfl, trivial⟩ ?_))))))
  rw [show moveD D s t = (D, readyD D s t) from by unfold moveD; rw [hasD_no hc1]]
  exact ⟨V, rfl, (hR.keep hE), hE⟩
 cases hk : lookD D.now s
 ·have hlz := lookZ_none hk
  refine wpF_skip (tN (hK25 _ _ (sk fun K36 hK36 => (wt (oS rfl (Yk.fieldAt rd4_fo50_4 (vr (PQ n2 0) rfl) (oS rfl (Yk.cell1 rd4_ty47 rfl (vr (PQ n2 4) rfl) (cellAt hb8 (show (rdkC (refP D, V))[4]? = some (V.now : Value) from rdk_g4 (refP D, V))) (oM rfl (oS rfl (Yk.callA2 rd4_pl57 (vr V.now rfl) T1 ((rlook_is _ V.now D.now s (-1) (hnow.keep hE) (hL.now) (hlz)).mono ?_))))))))))))
  rintro e w38 ⟨rfl, hx37⟩
  refine ⟨_, rfl, ?_⟩
  have hE := hE.trans hx37
  have hb8 := eb hx37 hb8
  have hA16 := hA16.trans hx37
  have hb20 := eb hx37 hb20
  refine oA rfl (oZ (tN (hK36 _ _ (sk fun K39 hK39 => (sk fun K40 hK40 => (wt (oM rfl (oS rfl (Yk.eqI (vr (.int .i64 (-1 : Int)) rfl) (vr (NI 0) rfl) (z_lss _ .i64 (-1 : Int) ((0 : Nat) : Int)) (oZ (tN (hK40 _ _ (wpF_true (vr (.bool (true)) (congrArg Value.bool (decide_eq_true (by decide)))) (sk fun K41 hK41 => (wt (oS rfl (Yk.loadAll (vr (PQ n2 0) rfl) hb8 (rd4_ty50).choose_spec rfl (st_isz (rdk_len (refP D, V)) rd4_isz50) (oS rfl (Yk.storeAll (vr (PQ n10 0) rfl) (vr (.agg (rdkC (refP D, V)).toArray) rfl) hb20 (by simp only [List.size_toArray, rdk_len]) (st_isz (rdk_len _) rd4_isz50) (rdk_one (x := (refP D, V)) (RG.one (hfiles.keep hE)).2 (RG.one (hsynced.keep hE)).2 (RG.one (hnow.keep hE)).2 (RG.one (hkept.keep hE)).2 (RG.one (hacts.keep hE)).2) fun w42 hb43 hg44 hs45 => ?_)))))))))))))))))))
  have hE := row_fresh hE hg44 (Nat.le_trans hz18 (by omega))
  have hb8 := kb hg44 hb8 (by omega)
  have hA16 := row_fresh hA16 hg44 (Nat.le_trans (Nat.le_refl _) (by omega))
  clear hb20
  have hb20 : w42.heap[n10]? = some (.cells (rdkC (refP D, V)).toArray 50 (0, 0)) := hb43; clear hb43
  have hl46 := bl hb20
  refine oA rfl (oZ (tN (hK41 _ _ (wpF_ret (thenF_ret (postF_ret (fn := Try.f42) _ rfl [.agg (rdkC (refP D, V)).toArray, NI 4] (.tuple #[.agg (rdkC (refP D, V)).toArray, NI 4]) rfl ⟨ResF.row rfl hb20 (rd4_ty50).choose_spec rfl (st_isz (rdk_len _) rd4_isz50), rfl, trivial⟩ ?_))))))
  rw [show moveD D s t = (D, 4) from by unfold moveD; rw [hasD_none hc1 hk]]
  exact ⟨V, rfl, (hR.keep hE), hE⟩
 rename_i k
 have hlz := lookZ_some hk
 have hkn := (hok.now.look hk).1
 refine wpF_skip (tN (hK25 _ _ (sk fun K47 hK47 => (wt (oS rfl (Yk.fieldAt rd4_fo50_4 (vr (PQ n2 0) rfl) (oS rfl (Yk.cell1 rd4_ty47 rfl (vr (PQ n2 4) rfl) (cellAt hb8 (show (rdkC (refP D, V))[4]? = some (V.now : Value) from rdk_g4 (refP D, V))) (oM rfl (oS rfl (Yk.callA2 rd4_pl57 (vr V.now rfl) T1 ((rlook_is _ V.now D.now s ((k : Nat) : Int) (hnow.keep hE) (hL.now) (hlz)).mono ?_))))))))))))
 rintro e w49 ⟨rfl, hx48⟩
 refine ⟨_, rfl, ?_⟩
 have hE := hE.trans hx48
 have hb8 := eb hx48 hb8
 have hA16 := hA16.trans hx48
 have hb20 := eb hx48 hb20
 refine oA rfl (oZ (tN (hK47 _ _ (sk fun K50 hK50 => (sk fun K51 hK51 => (wt (oM rfl (oS rfl (Yk.eqI (a := (k : Nat)) (b := (0 : Nat)) rfl rfl (k_lss _ _ _ _) (oZ (tN (hK51 _ _ (wpF_false (vr (.bool (false)) (congrArg Value.bool (decide_eq_false (by omega)))) (wpF_skip (tN (hK50 _ _ (sk fun K52 hK52 => (wt (oS rfl (Yk.loadAll (vr (PQ n2 0) rfl) hb8 (rd4_ty50).choose_spec rfl (st_isz (rdk_len (refP D, V)) rd4_isz50) ?_))))))))))))))))))))
 have hsz_ : w.heap.size ≤ w49.heap.size := (hE).size
 have hl_n2 : n2 < w49.heap.size := (bl hb8)
 have hl_n10 : n10 < w49.heap.size := (bl hb20)
 refine oS rfl (Yk.callA1 rd4_pl55 (vr (.agg (rdkC (refP D, V)).toArray) rfl) ((copy_any _ D V (hR.keep hE) hL hfn).mono ?_))
 rintro e w55 ⟨V1, rfl, hO53, hx54⟩
 refine ⟨_, rfl, ?_⟩
 have hE := hE.trans hx54
 have hb8 := eb hx54 hb8
 have hA16 := hA16.trans hx54
 have hb20 := eb hx54 hb20
 obtain ⟨us, hFs, h1files⟩ := hO53.files
 have h1synced := hO53.synced
 have h1now := hO53.now
 have h1kept := hO53.kept
 have h1acts := hO53.acts
 have hap56 : OB V1.files n2 := own_older h1files.2 hl_n2
 have hap57 : OB V1.synced n2 := own_older h1synced.2 hl_n2
 have hap58 : OB V1.now n2 := own_older h1now.2 hl_n2
 have hap59 : OB V1.kept n2 := own_older h1kept.2 hl_n2
 have hap60 : OB V1.acts n2 := own_older h1acts.2 hl_n2
 have hap61 : OB V1.files n10 := own_older h1files.2 hl_n10
 have hap62 : OB V1.synced n10 := own_older h1synced.2 hl_n10
 have hap63 : OB V1.now n10 := own_older h1now.2 hl_n10
 have hap64 : OB V1.kept n10 := own_older h1kept.2 hl_n10
 have hap65 : OB V1.acts n10 := own_older h1acts.2 hl_n10
 have hFs := RowsO.low hFs hsz_
 have h1files := OG.low h1files hsz_
 have h1synced := OG.low h1synced hsz_
 have h1now := OG.low h1now hsz_
 have h1kept := OG.low h1kept hsz_
 have h1acts := OG.low h1acts hsz_
 have hap66 : ApartV V1.files V1.synced := apartv_tag h1files.2 h1synced.2 (by decide)
 have hap67 : ApartV V1.files V1.now := apartv_tag h1files.2 h1now.2 (by decide)
 have hap68 : ApartV V1.files V1.kept := apartv_tag h1files.2 h1kept.2 (by decide)
 have hap69 : ApartV V1.files V1.acts := apartv_tag h1files.2 h1acts.2 (by decide)
 have hap70 : ApartV V1.synced V1.files := apartv_tag h1synced.2 h1files.2 (by decide)
 have hap71 : ApartV V1.synced V1.now := apartv_tag h1synced.2 h1now.2 (by decide)
 have hap72 : ApartV V1.synced V1.kept := apartv_tag h1synced.2 h1kept.2 (by decide)
 have hap73 : ApartV V1.synced V1.acts := apartv_tag h1synced.2 h1acts.2 (by decide)
 have hap74 : ApartV V1.now V1.files := apartv_tag h1now.2 h1files.2 (by decide)
 have hap75 : ApartV V1.now V1.synced := apartv_tag h1now.2 h1synced.2 (by decide)
 have hap76 : ApartV V1.now V1.acts := apartv_tag h1now.2 h1acts.2 (by decide)
 have hap77 : ApartV V1.kept V1.files := apartv_tag h1kept.2 h1files.2 (by decide)
 have hap78 : ApartV V1.kept V1.synced := apartv_tag h1kept.2 h1synced.2 (by decide)
 have hap79 : ApartV V1.kept V1.acts := apartv_tag h1kept.2 h1acts.2 (by decide)
 have hap80 : ApartV V1.acts V1.files := apartv_tag h1acts.2 h1files.2 (by decide)
 have hap81 : ApartV V1.acts V1.synced := apartv_tag h1acts.2 h1synced.2 (by decide)
 have hap82 : ApartV V1.acts V1.now := apartv_tag h1acts.2 h1now.2 (by decide)
 have hap83 : ApartV V1.acts V1.kept := apartv_tag h1acts.2 h1kept.2 (by decide)
 have hO1 := (⟨⟨us, hFs, h1files⟩, h1synced, h1now, h1kept, h1acts⟩ : RdO w.heap.size _ D V1)
 obtain ⟨D1, dn, hD1⟩ : ∃ x y, armD D = (x, y) := ⟨_, _, rfl⟩
 have hD1f : (armD D).1 = D1 := congrArg Prod.fst hD1
 have hO2 := hO1.armed
 rw [hD1f] at hO2
 have hok1 := arm_ok hok
 rw [hD1f] at hok1
 have hL1 := arm_lt hL
 rw [hD1f] at hL1
 have hfe := arm_same D
 rw [hD1f] at hfe
 obtain ⟨hfe1, hfe2, hfe3, hfe4, hfe5, hfe6⟩ := hfe
 refine oS rfl (Yk.callA1 rd4_pl56 (vr (.agg (rdkC (refP D, V1)).toArray) rfl) ((armed_is _ D V1 (RdO.at_ hO1 (P := fun _ => True) (fun _ _ => trivial)) hL hD1).mono ?_))
 rintro e w85 ⟨rfl, hx84⟩
 refine ⟨_, rfl, ?_⟩
 have hE := hE.trans hx84
 have hb8 := eb hx84 hb8
 have hA16 := hA16.trans hx84
 have hb20 := eb hx84 hb20
 have h1files := h1files.keep hx84
 have h1synced := h1synced.keep hx84
 have h1now := h1now.keep hx84
 have h1kept := h1kept.keep hx84
 have h1acts := h1acts.keep hx84
 have hFs : RowsO w.heap.size w85 us (D.files.map Prod.fst) := (hFs.keep hx84)
 have hO3 : RdO w.heap.size w85 D1 V1 := RdO.same (D := D) ⟨⟨us, hFs, h1files⟩, h1synced, h1now, h1kept, h1acts⟩ hfe1 hfe2 hfe3 hfe4
 clear hFs h1files h1synced h1now h1kept h1acts
 have hus := hO3
 obtain ⟨us, hFs, h1files⟩ := hO3.files
 have h1synced := hO3.synced
 have h1now := hO3.now
 have h1kept := hO3.kept
 have h1acts := hO3.acts
 refine oM rfl (oS rfl (Yk.extract (vs := [.agg (rdkC (refP D1, V1)).toArray, .bool (dn)]) (vr (.tuple #[.agg (rdkC (refP D1, V1)).toArray, .bool (dn)]) rfl) (show _ = some (.agg (rdkC (refP D1, V1)).toArray : Value) from rfl) (oS rfl (Yk.extract (vs := [.agg (rdkC (refP D1, V1)).toArray, .bool (dn)]) (vr (.tuple #[.agg (rdkC (refP D1, V1)).toArray, .bool (dn)]) rfl) (show _ = some (.bool (dn) : Value) from rfl) (oS rfl (Yk.storeAll (vr (PQ n2 0) rfl) (vr (.agg (rdkC (refP D1, V1)).toArray) rfl) hb8 (by simp only [List.size_toArray, rdk_len]) (st_isz (rdk_len _) rd4_isz50) (rdk_one (x := (refP D1, V1)) (RG.one (RG.ofOwn h1files)).2 (RG.one (RG.ofOwn h1synced)).2 (RG.one (RG.ofOwn h1now)).2 (RG.one (RG.ofOwn h1kept)).2 (RG.one (RG.ofOwn h1acts)).2) fun w86 hb87 hg88 hs89 => ?_))))))
 have hE := row_fresh hE hg88 (Nat.le_trans (Nat.le_refl _) (by omega))
 clear hA16
 have hb20 := kb hg88 hb20 (by omega)
 have h1files := OG.kept h1files hg88 hap56
 have h1synced := OG.kept h1synced hg88 hap57
 have h1now := OG.kept h1now hg88 hap58
 have h1kept := OG.kept h1kept hg88 hap59
 have h1acts := OG.kept h1acts hg88 hap60
 have hFs : RowsO w.heap.size w86 us (D1.files.map Prod.fst) := RowsO.set hFs hg88 hb8 (by decide)
 clear hb8
 have hb8 : w86.heap[n2]? = some (.cells (rdkC (refP D1, V1)).toArray 50 (0, 0)) := hb87; clear hb87
 have hl90 := bl hb8
 refine oA rfl (oZ (tN (hK52 _ _ (sk fun K91 hK91 => (sk fun K92 hK92 => (wt (oM rfl (oZ (tN (hK92 _ _ ?_))))))))))
 refine wpF_condB (dn) (vr (.bool (dn)) rfl) (fun hc3 => ?_) (fun hc3 => ?_)
 ·rw [show dn = true from hc3] at hD1
  refine sk fun K93 hK93 => (wt (oS rfl (Yk.loadAll (vr (PQ n2 0) rfl) hb8 (rd4_ty50).choose_spec rfl (st_isz (rdk_len (refP D1, V1)) rd4_isz50) (oS rfl (Yk.storeAll (vr (PQ n10 0) rfl) (vr (.agg (rdkC (refP D1, V1)).toArray) rfl) hb20 (by simp only [List.size_toArray, rdk_len]) (st_isz (rdk_len _) rd4_isz50) (rdk_one (x := (refP D1, V1)) (RG.one (RG.ofOwn h1files)).2 (RG.one (RG.ofOwn h1synced)).2 (RG.one (RG.ofOwn h1now)).2 (RG.one (RG.ofOwn h1kept)).2 (RG.one (RG.ofOwn h1acts)).2) fun w94 hb95 hg96 hs97 => ?_)))))
  have hE := row_fresh hE hg96 (Nat.le_trans hz18 (by omega))
  have h1files := OG.kept h1files hg96 hap61
  have h1synced := OG.kept h1synced hg96 hap62
  have h1now := OG.kept h1now hg96 hap63
  have h1kept := OG.kept h1kept hg96 hap64
  have h1acts := OG.kept h1acts hg96 hap65
  have hFs : RowsO w.heap.size w94 us (D1.files.map Prod.fst) := RowsO.set hFs hg96 hb20 (by decide)
  have hb8 := kb hg96 hb8 (by omega)
  clear hb20
  have hb20 : w94.heap[n10]? = some (.cells (rdkC (refP D1, V1)).toArray 50 (0, 0)) := hb95; clear hb95
  have hl98 := bl hb20
  refine oA rfl (oZ (tN (hK93 _ _ (wpF_ret (thenF_ret (postF_ret (fn := Try.f42) _ rfl [.agg (rdkC (refP D1, V1)).toArray, NI 9] (.tuple #[.agg (rdkC (refP D1, V1)).toArray, NI 9]) rfl ⟨ResF.row rfl hb20 (rd4_ty50).choose_spec rfl (st_isz (rdk_len _) rd4_isz50), rfl, trivial⟩ ?_))))))
  have hOe : RdO w.heap.size w94 (D1) V1 := ⟨⟨us, hFs, h1files⟩, h1synced, h1now, h1kept, h1acts⟩
  rw [show moveD D s t = (D1, 9) from by unfold moveD; rw [hasD_some hc1 hk]; exact doD_down hD1]
  exact ⟨V1, rfl, hOe.at_ hP, hE⟩
 have hc2 := hc3
 rw [show dn = false from hc2] at hD1
 have hul : us.length = D1.files.length := by rw [hFs.len, List.length_map]
 have hkn1 : k < D1.files.length := by rw [hfe1]; exact hkn
 have hn1 : D1.now.length + 1 < 1099511627776 := by rw [hfe2]; exact hn1
 have ha1 : D1.acts.length + 1 < 1099511627776 := by rw [hfe4]; exact ha1
 refine wpF_skip (tN (hK91 _ _ (sk fun K99 hK99 => (wt (oM rfl (oM rfl (oM rfl (oS rfl (Yk.build3 T1 T2 (vr (NI k) rfl) (fun w => rd4_bs98_0_1_2 s t k w) (oS rfl (Yk.alloc (cs := (racC (⟨[], [], 0⟩ : ActD)).toArray) rd4_al98 fun n100 w101 hn102 hb103 hx104 hs105 => ?_)))))))))))
 have hA106 := Ext.refl w86
 have hea107 := hE
 have hz108 := hE.size
 have hlt109 := lte (bl hb20) hn102
 have hlt110 := lte (bl hb8) hn102
 have hap111 : OB V1.files n100 := own_newer h1files.2 (by omega)
 have hap112 : OB V1.synced n100 := own_newer h1synced.2 (by omega)
 have hap113 : OB V1.now n100 := own_newer h1now.2 (by omega)
 have hap114 : OB V1.kept n100 := own_newer h1kept.2 (by omega)
 have hap115 : OB V1.acts n100 := own_newer h1acts.2 (by omega)
 have hE := hE.trans hx104
 have hb20 := eb hx104 hb20
 have h1files := h1files.keep hx104
 have h1synced := h1synced.keep hx104
 have h1now := h1now.keep hx104
 have h1kept := h1kept.keep hx104
 have h1acts := h1acts.keep hx104
 have hFs : RowsO w.heap.size w101 us (D1.files.map Prod.fst) := (hFs.keep hx104)
 have hb8 := eb hx104 hb8
 have hA106 := hA106.trans hx104
 have hb116 := hb103; clear hb103
 have hl117 : n100 < w101.heap.size := by omega
 refine oS rfl (Yk.storeAll (vr (PQ n100 0) rfl) (vr (.agg (racC (⟨s, t, k⟩ : ActD)).toArray) rfl) hb116 (by simp only [List.size_toArray, rac_len]) (st_isz (rac_len _) rd4_isz98) (rac_one (x := (⟨s, t, k⟩ : ActD))) fun w118 hb119 hg120 hs121 => ?_)
 have hE := row_fresh hE hg120 (Nat.le_trans hz108 (by omega))
 have hb20 := kb hg120 hb20 (by omega)
 have h1files := OG.kept h1files hg120 hap111
 have h1synced := OG.kept h1synced hg120 hap112
 have h1now := OG.kept h1now hg120 hap113
 have h1kept := OG.kept h1kept hg120 hap114
 have h1acts := OG.kept h1acts hg120 hap115
 have hFs : RowsO w.heap.size w118 us (D1.files.map Prod.fst) := RowsO.set hFs hg120 hb116 (by decide)
 have hb8 := kb hg120 hb8 (by omega)
 have hA106 := row_fresh hA106 hg120 (Nat.le_trans (Nat.le_refl _) (by omega))
 clear hb116
 have hb116 : w118.heap[n100]? = some (.cells (racC (⟨s, t, k⟩ : ActD)).toArray 98 (0, 0)) := hb119; clear hb119
 have hl122 := bl hb116
 refine oZ (tN (hK99 _ _ (sk fun K123 hK123 => (sk fun K124 hK124 => (wt (oM rfl (oZ (tN (hK124 _ _ (wpF_false T3 (wpF_skip (tN (hK123 _ _ (sk fun K125 hK125 => (wt (oS rfl (Yk.fieldAt rd4_fo50_4 (vr (PQ n2 0) rfl) (oS rfl (Yk.cell1 rd4_ty47 rfl (vr (PQ n2 4) rfl) (cellAt hb8 (show (rdkC (refP D1, V1))[4]? = some (V1.now : Value) from rdk_g4 (refP D1, V1))) (oS rfl (Yk.loadAll (vr (PQ n100 0) rfl) hb116 (rd4_ty98).choose_spec rfl (st_isz (rac_len (⟨s, t, k⟩ : ActD)) rd4_isz98) ?_)))))))))))))))))))))
 have hnl2 : (turnD D1.now ⟨s, t, k⟩).length < 1099511627776 := Nat.lt_of_le_of_lt (turn_len _ _) hn1
 have hA129 := Ext.refl w118
 have hea130 := hE
 have hea131 := hA106
 have hz132 := hE.size
 have hz133 := hA106.size
 refine oS rfl (Yk.callA2 rd4_pl58 (vr V1.now rfl) (vr (.agg (racC (⟨s, t, k⟩ : ActD)).toArray) rfl) ((turned_any _ V1.now (D1.now) (⟨s, t, k⟩ : ActD) (RG.ofOwn h1now) hL1.now).mono ?_))
 rintro e w134 ⟨v126, rfl, ho127, hx128⟩
 refine ⟨_, rfl, ?_⟩
 have hap135 : OB v126 n10 := own_older ho127.2 (bl hb20)
 have hap136 : OB v126 n2 := own_older ho127.2 (bl hb8)
 have hap137 : OB v126 n100 := own_older ho127.2 (bl hb116)
 have hap138 : ApartV V1.files v126 := apartv_new h1files.2 ho127.2
 have hap139 : ApartV v126 V1.files := apartv_new' h1files.2 ho127.2
 have hap140 : ApartV V1.synced v126 := apartv_new h1synced.2 ho127.2
 have hap141 : ApartV v126 V1.synced := apartv_new' h1synced.2 ho127.2
 have hap142 : ApartV V1.now v126 := apartv_new h1now.2 ho127.2
 have hap143 : ApartV v126 V1.now := apartv_new' h1now.2 ho127.2
 have hap144 : ApartV V1.kept v126 := apartv_new h1kept.2 ho127.2
 have hap145 : ApartV v126 V1.kept := apartv_new' h1kept.2 ho127.2
 have hap146 : ApartV V1.acts v126 := apartv_new h1acts.2 ho127.2
 have hap147 : ApartV v126 V1.acts := apartv_new' h1acts.2 ho127.2
 have hE := hE.trans hx128
 have hb20 := eb hx128 hb20
 have h1files := h1files.keep hx128
 have h1synced := h1synced.keep hx128
 have h1now := h1now.keep hx128
 have h1kept := h1kept.keep hx128
 have h1acts := h1acts.keep hx128
 have hFs : RowsO w.heap.size w134 us (D1.files.map Prod.fst) := (hFs.keep hx128)
 have hb8 := eb hx128 hb8
 have hA106 := hA106.trans hx128
 have hb116 := eb hx128 hb116
 have hA129 := hA129.trans hx128
 refine oS rfl (Yk.fieldAt rd4_fo50_4 (vr (PQ n2 0) rfl) (oS rfl (Yk.storeC (i := 4) (v := v126) (vr (PQ n2 4) rfl) (vr v126 rfl) hb8 (by rw [rdk_len]; decide) rd4_isz47 (RG.one (RG.ofOwn ho127)).1 (RG.one (RG.ofOwn ho127)).2 fun w148 hb149 hg150 hs151 => ?_)))
 have hE := row_fresh hE hg150 (Nat.le_trans (Nat.le_refl _) (by omega))
 have hb20 := kb hg150 hb20 (by omega)
 have h1files := OG.kept h1files hg150 hap56
 have h1synced := OG.kept h1synced hg150 hap57
 have h1now := OG.kept h1now hg150 hap58
 have h1kept := OG.kept h1kept hg150 hap59
 have h1acts := OG.kept h1acts hg150 hap60
 have hFs : RowsO w.heap.size w148 us (D1.files.map Prod.fst) := RowsO.set hFs hg150 hb8 (by decide)
 clear hA106
 have hb116 := kb hg150 hb116 (by omega)
 clear hA129
 have ho127 := OG.kept ho127 hg150 hap136
 clear hb8
 have hb8 : w148.heap[n2]? = some (.cells (rdkC ((⟨true, ((D1.quota : Nat) : Int), (D1.files.map Prod.fst), (D1.files.map fun x => ((x.2 : Nat) : Int)), turnD (D1.now) (⟨s, t, k⟩ : ActD), D1.kept, D1.acts, D1.refused, D1.arm, D1.down⟩, ⟨V1.files, V1.synced, v126, V1.kept, V1.acts⟩) : RdkV)).toArray 50 (0, 0)) := blk_eq hb149 (rdk_s4 (refP D1, V1) v126 (turnD (D1.now) (⟨s, t, k⟩ : ActD))); clear hb149
 have hl152 := bl hb8
 refine oZ (tN (hK125 _ _ (sk fun K153 hK153 => (wt (oS rfl (Yk.fieldAt rd4_fo50_6 (vr (PQ n2 0) rfl) (oS rfl (Yk.cell1 rd4_ty48 rfl (vr (PQ n2 6) rfl) (cellAt hb8 (show (rdkC ((⟨true, ((D1.quota : Nat) : Int), (D1.files.map Prod.fst), (D1.files.map fun x => ((x.2 : Nat) : Int)), turnD (D1.now) (⟨s, t, k⟩ : ActD), D1.kept, D1.acts, D1.refused, D1.arm, D1.down⟩, ⟨V1.files, V1.synced, v126, V1.kept, V1.acts⟩) : RdkV))[6]? = some (V1.acts : Value) from rdk_g6 ((⟨true, ((D1.quota : Nat) : Int), (D1.files.map Prod.fst), (D1.files.map fun x => ((x.2 : Nat) : Int)), turnD (D1.now) (⟨s, t, k⟩ : ActD), D1.kept, D1.acts, D1.refused, D1.arm, D1.down⟩, ⟨V1.files, V1.synced, v126, V1.kept, V1.acts⟩) : RdkV))) (oS rfl (Yk.loadAll (vr (PQ n100 0) rfl) hb116 (rd4_ty98).choose_spec rfl (st_isz (rac_len (⟨s, t, k⟩ : ActD)) rd4_isz98) (oS rfl (Yk.lit1G (a := (⟨s, t, k⟩ : ActD)) (enc := racC) (vr (.agg (racC (⟨s, t, k⟩ : ActD)).toArray) rfl) (rac_len _) rd4_lg48 fun v154 w155 hr156 hx157 => ?_))))))))))))
 have hE := hE.trans hx157
 have hb20 := eb hx157 hb20
 have h1files := h1files.keep hx157
 have h1synced := h1synced.keep hx157
 have h1now := h1now.keep hx157
 have h1kept := h1kept.keep hx157
 have h1acts := h1acts.keep hx157
 have hFs : RowsO w.heap.size w155 us (D1.files.map Prod.fst) := (hFs.keep hx157)
 have hb116 := eb hx157 hb116
 have ho127 := ho127.keep hx157
 have hb8 := eb hx157 hb8
 refine oS rfl (Yk.appendRG _ _ w.heap.size _ 40 rd4_ty48 rd4_ig98.choose_spec.1 rd4_ig98.choose_spec.2 rd4_ty48 (D1.acts) ([(⟨s, t, k⟩ : ActD)]) (OG.of h1acts (vr V1.acts rfl)) (RG.of hr156 (vr v154 rfl)) (fun _ _ => rac_one) (by first | omega | (simp only [List.length_append, List.length_singleton, List.length_map, List.length_nil]; omega)) (by first | omega | (simp only [List.length_append, List.length_singleton, List.length_map, List.length_nil]; omega)) hE.size fun v158 w159 ho160 hg161 => ?_)
 have hg161 : Grew w155 w159 V1.acts v158 := hg161
 have hap162 : OB v158 n2 := apart_grew hg161 hap60 (bl hb8)
 have hap163 : OB v158 n10 := apart_grew hg161 hap65 (bl hb20)
 have hap164 : ApartV v158 V1.files := apartv_grew hg161 hap80 h1files.2
 have hap165 : ApartV V1.files v158 := fun k h1 h2 => hap164 k h2 h1
 have hap166 : ApartV v158 V1.synced := apartv_grew hg161 hap81 h1synced.2
 have hap167 : ApartV V1.synced v158 := fun k h1 h2 => hap166 k h2 h1
 have hap168 : ApartV v158 V1.now := apartv_grew hg161 hap82 h1now.2
 have hap169 : ApartV V1.now v158 := fun k h1 h2 => hap168 k h2 h1
 have hap170 : ApartV v158 V1.kept := apartv_grew hg161 hap83 h1kept.2
 have hap171 : ApartV V1.kept v158 := fun k h1 h2 => hap170 k h2 h1
 have hap172 : OB v158 n100 := apart_grew hg161 hap115 (bl hb116)
 have hap173 : ApartV v158 v126 := apartv_grew hg161 hap146 ho127.2
 have hap174 : ApartV v126 v158 := fun k h1 h2 => hap173 k h2 h1
 have hE := ext_grew hE hg161 h1acts.2 (Nat.le_refl _)
 have hb20 := blk_grew hb20 hg161 hap65
 have h1files := og_grew h1files hg161 hap80
 have h1synced := og_grew h1synced hg161 hap81
 have h1now := og_grew h1now hg161 hap82
 have h1kept := og_grew h1kept hg161 hap83
 have hFs : RowsO w.heap.size w159 us (D1.files.map Prod.fst) := RowsO.grew hFs hg161 h1acts.2 (by decide)
 have hb116 := blk_grew hb116 hg161 hap115
 have ho127 := og_grew ho127 hg161 hap146
 have hb8 := blk_grew hb8 hg161 hap60
 clear hr156
 clear h1acts
 refine oS rfl (Yk.fieldAt rd4_fo50_6 (vr (PQ n2 0) rfl) (oS rfl (Yk.storeC (i := 6) (v := v158) (vr (PQ n2 6) rfl) (vr v158 rfl) hb8 (by rw [rdk_len]; decide) rd4_isz48 (RG.one (RG.ofOwn ho160)).1 (RG.one (RG.ofOwn ho160)).2 fun w175 hb176 hg177 hs178 => ?_)))
 have hE := row_fresh hE hg177 (Nat.le_trans (Nat.le_refl _) (by omega))
 have hb20 := kb hg177 hb20 (by omega)
 have h1files := OG.kept h1files hg177 hap56
 have h1synced := OG.kept h1synced hg177 hap57
 have h1now := OG.kept h1now hg177 hap58
 have h1kept := OG.kept h1kept hg177 hap59
 have hFs : RowsO w.heap.size w175 us (D1.files.map Prod.fst) := RowsO.set hFs hg177 hb8 (by decide)
 have hb116 := kb hg177 hb116 (by omega)
 have ho127 := OG.kept ho127 hg177 hap136
 have ho160 := OG.kept ho160 hg177 hap162
 clear hb8
 have hb8 : w175.heap[n2]? = some (.cells (rdkC ((⟨true, ((D1.quota : Nat) : Int), (D1.files.map Prod.fst), (D1.files.map fun x => ((x.2 : Nat) : Int)), turnD (D1.now) (⟨s, t, k⟩ : ActD), D1.kept, (D1.acts) ++ [(⟨s, t, k⟩ : ActD)], D1.refused, D1.arm, D1.down⟩, ⟨V1.files, V1.synced, v126, V1.kept, v158⟩) : RdkV)).toArray 50 (0, 0)) := blk_eq hb176 (rdk_s6 ((⟨true, ((D1.quota : Nat) : Int), (D1.files.map Prod.fst), (D1.files.map fun x => ((x.2 : Nat) : Int)), turnD (D1.now) (⟨s, t, k⟩ : ActD), D1.kept, D1.acts, D1.refused, D1.arm, D1.down⟩, ⟨V1.files, V1.synced, v126, V1.kept, V1.acts⟩) : RdkV) v158 ((D1.acts) ++ [(⟨s, t, k⟩ : ActD)])); clear hb176
 have hl179 := bl hb8
 refine oL_ [(0, .agg (rdkC (refP D, V)).toArray), (1, St (s)), (2, St (t)), (3, .bool (false)), (4, PQ n2 0), (8, PQ n10 0), (9, NI 0), (10, St (t)), (11, NI (readyD D s t)), (12, NI k), (13, .bool (dn)), (14, PQ n100 0), (16, .bool (false)), (31, .bool (false)), (45, .bool (false))] ⟨T0, T1, T2, T3, rfl, rfl, rfl, T2, rfl, rfl, rfl, rfl, T3, (congrArg Value.bool (decide_eq_false (by omega))), T3, trivial⟩ fun ρ180 ⟨T0, T1, T2, T3, T4, T8, T9, T10, T11, T12, T13, T14, T16, T31, T45, _⟩ => (tN (hK153 _ _ (sk fun K181 hK181 => (wt (oS rfl (Yk.loadAll T4 hb8 (rd4_ty50).choose_spec rfl (st_isz (rdk_len ((⟨true, ((D1.quota : Nat) : Int), (D1.files.map Prod.fst), (D1.files.map fun x => ((x.2 : Nat) : Int)), turnD (D1.now) (⟨s, t, k⟩ : ActD), D1.kept, (D1.acts) ++ [(⟨s, t, k⟩ : ActD)], D1.refused, D1.arm, D1.down⟩, ⟨V1.files, V1.synced, v126, V1.kept, v158⟩) : RdkV)) rd4_isz50) (oS rfl (Yk.storeAll T8 (vr (.agg (rdkC ((⟨true, ((D1.quota : Nat) : Int), (D1.files.map Prod.fst), (D1.files.map fun x => ((x.2 : Nat) : Int)), turnD (D1.now) (⟨s, t, k⟩ : ActD), D1.kept, (D1.acts) ++ [(⟨s, t, k⟩ : ActD)], D1.refused, D1.arm, D1.down⟩, ⟨V1.files, V1.synced, v126, V1.kept, v158⟩) : RdkV)).toArray) rfl) hb20 (by simp only [List.size_toArray, rdk_len]) (st_isz (rdk_len _) rd4_isz50) (rdk_one (x := ((⟨true, ((D1.quota : Nat) : Int), (D1.files.map Prod.fst), (D1.files.map fun x => ((x.2 : Nat) : Int)), turnD (D1.now) (⟨s, t, k⟩ : ActD), D1.kept, (D1.acts) ++ [(⟨s, t, k⟩ : ActD)], D1.refused, D1.arm, D1.down⟩, ⟨V1.files, V1.synced, v126, V1.kept, v158⟩) : RdkV)) (RG.one (RG.ofOwn h1files)).2 (RG.one (RG.ofOwn h1synced)).2 (RG.one (RG.ofOwn ho127)).2 (RG.one (RG.ofOwn h1kept)).2 (RG.one (RG.ofOwn ho160)).2) fun w182 hb183 hg184 hs185 => ?_))))))))
 have hE := row_fresh hE hg184 (Nat.le_trans hz18 (by omega))
 have h1files := OG.kept h1files hg184 hap61
 have h1synced := OG.kept h1synced hg184 hap62
 have h1now := OG.kept h1now hg184 hap63
 have h1kept := OG.kept h1kept hg184 hap64
 have hFs : RowsO w.heap.size w182 us (D1.files.map Prod.fst) := RowsO.set hFs hg184 hb20 (by decide)
 have hb116 := kb hg184 hb116 (by omega)
 have ho127 := OG.kept ho127 hg184 hap135
 have ho160 := OG.kept ho160 hg184 hap163
 have hb8 := kb hg184 hb8 (by omega)
 clear hb20
 have hb20 : w182.heap[n10]? = some (.cells (rdkC ((⟨true, ((D1.quota : Nat) : Int), (D1.files.map Prod.fst), (D1.files.map fun x => ((x.2 : Nat) : Int)), turnD (D1.now) (⟨s, t, k⟩ : ActD), D1.kept, (D1.acts) ++ [(⟨s, t, k⟩ : ActD)], D1.refused, D1.arm, D1.down⟩, ⟨V1.files, V1.synced, v126, V1.kept, v158⟩) : RdkV)).toArray 50 (0, 0)) := hb183; clear hb183
 have hl186 := bl hb20
 refine oA rfl (oZ (tN (hK181 _ _ (wpF_ret (postF_ret (fn := Try.f42) _ rfl [.agg (rdkC ((⟨true, ((D1.quota : Nat) : Int), (D1.files.map Prod.fst), (D1.files.map fun x => ((x.2 : Nat) : Int)), turnD (D1.now) (⟨s, t, k⟩ : ActD), D1.kept, (D1.acts) ++ [(⟨s, t, k⟩ : ActD)], D1.refused, D1.arm, D1.down⟩, ⟨V1.files, V1.synced, v126, V1.kept, v158⟩) : RdkV)).toArray, NI 0] (.tuple #[.agg (rdkC ((⟨true, ((D1.quota : Nat) : Int), (D1.files.map Prod.fst), (D1.files.map fun x => ((x.2 : Nat) : Int)), turnD (D1.now) (⟨s, t, k⟩ : ActD), D1.kept, (D1.acts) ++ [(⟨s, t, k⟩ : ActD)], D1.refused, D1.arm, D1.down⟩, ⟨V1.files, V1.synced, v126, V1.kept, v158⟩) : RdkV)).toArray, NI 0]) rfl ⟨ResF.row T8 hb20 (rd4_ty50).choose_spec rfl (st_isz (rdk_len _) rd4_isz50), rfl, trivial⟩ ?_)))))
 have hOe : RdO w.heap.size w182 (turnedD D1 ⟨s, t, k⟩) ⟨V1.files, V1.synced, v126, V1.kept, v158⟩ := ⟨⟨us, hFs, h1files⟩, h1synced, OG.low ho127 hz132, h1kept, ho160⟩
 rw [show moveD D s t = (_, 0) from by unfold moveD; rw [hasD_some hc1 hk]; exact doD_yes hD1]
 exact ⟨_, rfl, hOe.at_ hP, hE⟩

theorem rdrop_any {P : Nat → Prop} (w : World) (D : Dsk) (V : RdkW) (hR : RdAt P w D V) (hP : ∀ b, w.heap.size ≤ b → P b) (hok : DOk D) (hL : DLt D) (hfn : D.files.length < 1099511627776) (s : List UInt8) (hn1 : D.now.length + 1 < 1099511627776) (ha1 : D.acts.length + 1 < 1099511627776) :
  Calls Try.prog 42 #[.agg (rdkC (refP D, V)).toArray, St s, St ([] : List UInt8), .bool true] w fun e w' => ∃ V', e = .returned (.tuple #[.agg (rdkC (refP (dropD D s).1, V')).toArray, NI (dropD D s).2]) ∧ RdAt P w' (dropD D s).1 V' ∧ Ext w w' := by
 obtain ⟨vs, hvs, hfiles0⟩ := hR.files
 have hfiles := hfiles0.1
 have hsynced := hR.synced.1
 have hnow := hR.now.1
 have hkept := hR.kept.1
 have hacts := hR.acts.1
 refine calls_of_wpF (args := [.agg (rdkC (refP D, V)).toArray, St (s), St (([] : List UInt8)), .bool (true)]) Try.func42 rfl 59 rfl (Nat.le_of_ble_eq_true rfl) ?_
 intro ρ0 hb
 have T0 : ρ0 0 = (.agg (rdkC (refP D, V)).toArray : Value) := hb.get 0
 have T1 : ρ0 1 = (St (s) : Value) := hb.get 1
 have T2 : ρ0 2 = (St (([] : List UInt8)) : Value) := hb.get 2
 have T3 : ρ0 3 = (.bool (true) : Value) := hb.get 3
 clear hb
 have hE := Ext.refl w
 refine sk fun K1 hK1 => (wt (oS rfl (Yk.box (cs := (rdkC (refP D, V) : List Value).toArray) T0 fun n2 w3 hn4 hb5 hx6 hs7 => ?_)))
 have hE := hE.trans hx6
 have hb8 := hb5; clear hb5
 have hl9 : n2 < w3.heap.size := by omega
 refine oS rfl (Yk.alloc (cs := (rdkC ((⟨false, 0, [], [], [], [], [], 0, 0, false⟩, ⟨.slice none 0 0, .slice none 0 0, .slice none 0 0, .slice none 0 0, .slice none 0 0⟩) : RdkV)).toArray) rd4_al50 fun n10 w11 hn12 hb13 hx14 hs15 => ?_)
 have hA16 := Ext.refl w3
 have hea17 := hE
 have hz18 := hE.size
 have hlt19 := lte (bl hb8) hn12
 have hE := hE.trans hx14
 have hb8 := eb hx14 hb8
 have hA16 := hA16.trans hx14
 have hb20 := hb13; clear hb13
 have hl21 : n10 < w11.heap.size := by omega
 refine oA rfl (oZ (tN (hK1 _ _ (sk fun K22 hK22 => (wt (oM rfl (oA rfl (oZ (tN (hK22 _ _ (sk fun K23 hK23 => (sk fun K24 hK24 => (wt (oM rfl (oZ (tN (hK24 _ _ (wpF_true T3 ?_))))))))))))))))))
 refine wt (oM rfl (oA rfl (oZ (tN (hK23 _ _ (sk fun K25 hK25 => (sk fun K26 hK26 => (wt (oS rfl (Yk.loadAll (vr (PQ n2 0) rfl) hb8 (rd4_ty50).choose_spec rfl (st_isz (rdk_len (refP D, V)) rd4_isz50) (oM rfl (oM rfl (oS rfl (Yk.callA3 rd4_pl54 (vr (.agg (rdkC (refP D, V)).toArray) rfl) T1 T1 ((ready_any _ D V (hR.keep hE) s s).mono ?_)))))))))))))))
 rintro e w28 ⟨rfl, hx27⟩
 refine ⟨_, rfl, ?_⟩
 have hE := hE.trans hx27
 have hb8 := eb hx27 hb8
 have hA16 := hA16.trans hx27
 have hb20 := eb hx27 hb20
 refine oA rfl (oZ (tN (hK26 _ _ (sk fun K29 hK29 => (wt (oM rfl (oS rfl (Yk.eqI (a := ((readyD D s s) : Nat)) (b := (0 : Nat)) rfl rfl (k_neq _ _ _ _) (oZ (tN (hK29 _ _ ?_)))))))))))
 refine wpF_cond (((readyD D s s) : Nat) ≠ (0)) (vr (.bool (decide (((readyD D s s) : Nat) ≠ (0)))) rfl) (fun hc1 => ?_) (fun hc1 => ?_)
 ·refine sk fun K30 hK30 => (wt (oS rfl (Yk.loadAll (vr (PQ n2 0) rfl) hb8 (rd4_ty50).choose_spec rfl (st_isz (rdk_len (refP D, V)) rd4_isz50) (oM rfl (oS rfl (Yk.storeAll (vr (PQ n10 0) rfl) (vr (.agg (rdkC (refP D, V)).toArray) rfl) hb20 (by simp only [List.size_toArray, rdk_len]) (st_isz (rdk_len _) rd4_isz50) (rdk_one (x := (refP D, V)) (RG.one (hfiles.keep hE)).2 (RG.one (hsynced.keep hE)).2 (RG.one (hnow.keep hE)).2 (RG.one (hkept.keep hE)).2 (RG.one (hacts.keep hE)).2) fun w31 hb32 hg33 hs34 => ?_))))))
  have hE := row_fresh hE hg33 (Nat.le_trans hz18 (by omega))
  have hb8 := kb hg33 hb8 (by omega)
  have hA16 := row_fresh hA16 hg33 (Nat.le_trans (Nat.le_refl _) (by omega))
  clear hb20
  have hb20 : w31.heap[n10]? = some (.cells (rdkC (refP D, V)).toArray 50 (0, 0)) := hb32; clear hb32
  have hl35 := bl hb20
  refine oA rfl (oZ (tN (hK30 _ _ (wpF_ret (thenF_ret (postF_ret (fn := Try.f42) _ rfl [.agg (rdkC (refP D, V)).toArray, NI (readyD D s s)] (.tuple #[.agg (rdkC (refP D, V)).toArray, NI (readyD D s s)]) rfl ⟨ResF.row rfl hb20 (rd4_ty50).choose_spec rfl (st_isz (rdk_len _) rd4_isz50), rfl, trivial⟩ ?_))))))
  rw [show dropD D s = (D, readyD D s s) from by unfold dropD; rw [hasD_no hc1]]
  exact ⟨V, rfl, (hR.keep hE), hE⟩
 cases hk : lookD D.now s
 ·have hlz := lookZ_none hk
  refine wpF_skip (tN (hK25 _ _ (sk fun K36 hK36 => (wt (oS rfl (Yk.fieldAt rd4_fo50_4 (vr (PQ n2 0) rfl) (oS rfl (Yk.cell1 rd4_ty47 rfl (vr (PQ n2 4) rfl) (cellAt hb8 (show (rdkC (refP D, V))[4]? = some (V.now : Value) from rdk_g4 (refP D, V))) (oM rfl (oS rfl (Yk.callA2 rd4_pl57 (vr V.now rfl) T1 ((rlook_is _ V.now D.now s (-1) (hnow.keep hE) (hL.now) (hlz)).mono ?_))))))))))))
  rintro e w38 ⟨rfl, hx37⟩
  refine ⟨_, rfl, ?_⟩
  have hE := hE.trans hx37
  have hb8 := eb hx37 hb8
  have hA16 := hA16.trans hx37
  have hb20 := eb hx37 hb20
  refine oA rfl (oZ (tN (hK36 _ _ (sk fun K39 hK39 => (sk fun K40 hK40 => (wt (oM rfl (oS rfl (Yk.eqI (vr (.int .i64 (-1 : Int)) rfl) (vr (NI 0) rfl) (z_lss _ .i64 (-1 : Int) ((0 : Nat) : Int)) (oZ (tN (hK40 _ _ (wpF_true (vr (.bool (true)) (congrArg Value.bool (decide_eq_true (by decide)))) (sk fun K41 hK41 => (wt (oS rfl (Yk.loadAll (vr (PQ n2 0) rfl) hb8 (rd4_ty50).choose_spec rfl (st_isz (rdk_len (refP D, V)) rd4_isz50) (oS rfl (Yk.storeAll (vr (PQ n10 0) rfl) (vr (.agg (rdkC (refP D, V)).toArray) rfl) hb20 (by simp only [List.size_toArray, rdk_len]) (st_isz (rdk_len _) rd4_isz50) (rdk_one (x := (refP D, V)) (RG.one (hfiles.keep hE)).2 (RG.one (hsynced.keep hE)).2 (RG.one (hnow.keep hE)).2 (RG.one (hkept.keep hE)).2 (RG.one (hacts.keep hE)).2) fun w42 hb43 hg44 hs45 => ?_)))))))))))))))))))
  have hE := row_fresh hE hg44 (Nat.le_trans hz18 (by omega))
  have hb8 := kb hg44 hb8 (by omega)
  have hA16 := row_fresh hA16 hg44 (Nat.le_trans (Nat.le_refl _) (by omega))
  clear hb20
  have hb20 : w42.heap[n10]? = some (.cells (rdkC (refP D, V)).toArray 50 (0, 0)) := hb43; clear hb43
  have hl46 := bl hb20
  refine oA rfl (oZ (tN (hK41 _ _ (wpF_ret (thenF_ret (postF_ret (fn := Try.f42) _ rfl [.agg (rdkC (refP D, V)).toArray, NI 4] (.tuple #[.agg (rdkC (refP D, V)).toArray, NI 4]) rfl ⟨ResF.row rfl hb20 (rd4_ty50).choose_spec rfl (st_isz (rdk_len _) rd4_isz50), rfl, trivial⟩ ?_))))))
  rw [show dropD D s = (D, 4) from by unfold dropD; rw [hasD_none hc1 hk]]
  exact ⟨V, rfl, (hR.keep hE), hE⟩
 rename_i k
 have hlz := lookZ_some hk
 have hkn := (hok.now.look hk).1
 refine wpF_skip (tN (hK25 _ _ (sk fun K47 hK47 => (wt (oS rfl (Yk.fieldAt rd4_fo50_4 (vr (PQ n2 0) rfl) (oS rfl (Yk.cell1 rd4_ty47 rfl (vr (PQ n2 4) rfl) (cellAt hb8 (show (rdkC (refP D, V))[4]? = some (V.now : Value) from rdk_g4 (refP D, V))) (oM rfl (oS rfl (Yk.callA2 rd4_pl57 (vr V.now rfl) T1 ((rlook_is _ V.now D.now s ((k : Nat) : Int) (hnow.keep hE) (hL.now) (hlz)).mono ?_))))))))))))
 rintro e w49 ⟨rfl, hx48⟩
 refine ⟨_, rfl, ?_⟩
 have hE := hE.trans hx48
 have hb8 := eb hx48 hb8
 have hA16 := hA16.trans hx48
 have hb20 := eb hx48 hb20
 refine oA rfl (oZ (tN (hK47 _ _ (sk fun K50 hK50 => (sk fun K51 hK51 => (wt (oM rfl (oS rfl (Yk.eqI (a := (k : Nat)) (b := (0 : Nat)) rfl rfl (k_lss _ _ _ _) (oZ (tN (hK51 _ _ (wpF_false (vr (.bool (false)) (congrArg Value.bool (decide_eq_false (by omega)))) (wpF_skip (tN (hK50 _ _ (sk fun K52 hK52 => (wt (oS rfl (Yk.loadAll (vr (PQ n2 0) rfl) hb8 (rd4_ty50).choose_spec rfl (st_isz (rdk_len (refP D, V)) rd4_isz50) ?_))))))))))))))))))))
 have hsz_ : w.heap.size ≤ w49.heap.size := (hE).size
 have hl_n2 : n2 < w49.heap.size := (bl hb8)
 have hl_n10 : n10 < w49.heap.size := (bl hb20)
 refine oS rfl (Yk.callA1 rd4_pl55 (vr (.agg (rdkC (refP D, V)).toArray) rfl) ((copy_any _ D V (hR.keep hE) hL hfn).mono ?_))
 rintro e w55 ⟨V1, rfl, hO53, hx54⟩
 refine ⟨_, rfl, ?_⟩
 have hE := hE.trans hx54
 have hb8 := eb hx54 hb8
 have hA16 := hA16.trans hx54
 have hb20 := eb hx54 hb20
 obtain ⟨us, hFs, h1files⟩ := hO53.files
 have h1synced := hO53.synced
 have h1now := hO53.now
 have h1kept := hO53.kept
 have h1acts := hO53.acts
 have hap56 : OB V1.files n2 := own_older h1files.2 hl_n2
 have hap57 : OB V1.synced n2 := own_older h1synced.2 hl_n2
 have hap58 : OB V1.now n2 := own_older h1now.2 hl_n2
 have hap59 : OB V1.kept n2 := own_older h1kept.2 hl_n2
 have hap60 : OB V1.acts n2 := own_older h1acts.2 hl_n2
 have hap61 : OB V1.files n10 := own_older h1files.2 hl_n10
 have hap62 : OB V1.synced n10 := own_older h1synced.2 hl_n10
 have hap63 : OB V1.now n10 := own_older h1now.2 hl_n10
 have hap64 : OB V1.kept n10 := own_older h1kept.2 hl_n10
 have hap65 : OB V1.acts n10 := own_older h1acts.2 hl_n10
 have hFs := RowsO.low hFs hsz_
 have h1files := OG.low h1files hsz_
 have h1synced := OG.low h1synced hsz_
 have h1now := OG.low h1now hsz_
 have h1kept := OG.low h1kept hsz_
 have h1acts := OG.low h1acts hsz_
 have hap66 : ApartV V1.files V1.synced := apartv_tag h1files.2 h1synced.2 (by decide)
 have hap67 : ApartV V1.files V1.now := apartv_tag h1files.2 h1now.2 (by decide)
 have hap68 : ApartV V1.files V1.kept := apartv_tag h1files.2 h1kept.2 (by decide)
 have hap69 : ApartV V1.files V1.acts := apartv_tag h1files.2 h1acts.2 (by decide)
 have hap70 : ApartV V1.synced V1.files := apartv_tag h1synced.2 h1files.2 (by decide)
 have hap71 : ApartV V1.synced V1.now := apartv_tag h1synced.2 h1now.2 (by decide)
 have hap72 : ApartV V1.synced V1.kept := apartv_tag h1synced.2 h1kept.2 (by decide)
 have hap73 : ApartV V1.synced V1.acts := apartv_tag h1synced.2 h1acts.2 (by decide)
 have hap74 : ApartV V1.now V1.files := apartv_tag h1now.2 h1files.2 (by decide)
 have hap75 : ApartV V1.now V1.synced := apartv_tag h1now.2 h1synced.2 (by decide)
 have hap76 : ApartV V1.now V1.acts := apartv_tag h1now.2 h1acts.2 (by decide)
 have hap77 : ApartV V1.kept V1.files := apartv_tag h1kept.2 h1files.2 (by decide)
 have hap78 : ApartV V1.kept V1.synced := apartv_tag h1kept.2 h1synced.2 (by decide)
 have hap79 : ApartV V1.kept V1.acts := apartv_tag h1kept.2 h1acts.2 (by decide)
 have hap80 : ApartV V1.acts V1.files := apartv_tag h1acts.2 h1files.2 (by decide)
 have hap81 : ApartV V1.acts V1.synced := apartv_tag h1acts.2 h1synced.2 (by decide)
 have hap82 : ApartV V1.acts V1.now := apartv_tag h1acts.2 h1now.2 (by decide)
 have hap83 : ApartV V1.acts V1.kept := apartv_tag h1acts.2 h1kept.2 (by decide)
 have hO1 := (⟨⟨us, hFs, h1files⟩, h1synced, h1now, h1kept, h1acts⟩ : RdO w.heap.size _ D V1)
 obtain ⟨D1, dn, hD1⟩ : ∃ x y, armD D = (x, y) := ⟨_, _, rfl⟩
 have hD1f : (armD D).1 = D1 := congrArg Prod.fst hD1
 have hO2 := hO1.armed
 rw [hD1f] at hO2
 have hok1 := arm_ok hok
 rw [hD1f] at hok1
 have hL1 := arm_lt hL
 rw [hD1f] at hL1
 have hfe := arm_same D
 rw [hD1f] at hfe
 obtain ⟨hfe1, hfe2, hfe3, hfe4, hfe5, hfe6⟩ := hfe
 refine oS rfl (Yk.callA1 rd4_pl56 (vr (.agg (rdkC (refP D, V1)).toArray) rfl) ((armed_is _ D V1 (RdO.at_ hO1 (P := fun _ => True) (fun _ _ => trivial)) hL hD1).mono ?_))
 rintro e w85 ⟨rfl, hx84⟩
 refine ⟨_, rfl, ?_⟩
 have hE := hE.trans hx84
 have hb8 := eb hx84 hb8
 have hA16 := hA16.trans hx84
 have hb20 := eb hx84 hb20
 have h1files := h1files.keep hx84
 have h1synced := h1synced.keep hx84
 have h1now := h1now.keep hx84
 have h1kept := h1kept.keep hx84
 have h1acts := h1acts.keep hx84
 have hFs : RowsO w.heap.size w85 us (D.files.map Prod.fst) := (hFs.keep hx84)
 have hO3 : RdO w.heap.size w85 D1 V1 := RdO.same (D := D) ⟨⟨us, hFs, h1files⟩, h1synced, h1now, h1kept, h1acts⟩ hfe1 hfe2 hfe3 hfe4
 clear hFs h1files h1synced h1now h1kept h1acts
 have hus := hO3
 obtain ⟨us, hFs, h1files⟩ := hO3.files
 have h1synced := hO3.synced
 have h1now := hO3.now
 have h1kept := hO3.kept
 have h1acts := hO3.acts
 refine oM rfl (oS rfl (Yk.extract (vs := [.agg (rdkC (refP D1, V1)).toArray, .bool (dn)]) (vr (.tuple #[.agg (rdkC (refP D1, V1)).toArray, .bool (dn)]) rfl) (show _ = some (.agg (rdkC (refP D1, V1)).toArray : Value) from rfl) (oS rfl (Yk.extract (vs := [.agg (rdkC (refP D1, V1)).toArray, .bool (dn)]) (vr (.tuple #[.agg (rdkC (refP D1, V1)).toArray, .bool (dn)]) rfl) (show _ = some (.bool (dn) : Value) from rfl) (oS rfl (Yk.storeAll (vr (PQ n2 0) rfl) (vr (.agg (rdkC (refP D1, V1)).toArray) rfl) hb8 (by simp only [List.size_toArray, rdk_len]) (st_isz (rdk_len _) rd4_isz50) (rdk_one (x := (refP D1, V1)) (RG.one (RG.ofOwn h1files)).2 (RG.one (RG.ofOwn h1synced)).2 (RG.one (RG.ofOwn h1now)).2 (RG.one (RG.ofOwn h1kept)).2 (RG.one (RG.ofOwn h1acts)).2) fun w86 hb87 hg88 hs89 => ?_))))))
 have hE := row_fresh hE hg88 (Nat.le_trans (Nat.le_refl _) (by omega))
 clear hA16
 have hb20 := kb hg88 hb20 (by omega)
 have h1files := OG.kept h1files hg88 hap56
 have h1synced := OG.kept h1synced hg88 hap57
 have h1now := OG.kept h1now hg88 hap58
 have h1kept := OG.kept h1kept hg88 hap59
 have h1acts := OG.kept h1acts hg88 hap60
 have hFs : RowsO w.heap.size w86 us (D1.files.map Prod.fst) := RowsO.set hFs hg88 hb8 (by decide)
 clear hb8
 have hb8 : w86.heap[n2]? = some (.cells (rdkC (refP D1, V1)).toArray 50 (0, 0)) := hb87; clear hb87
 have hl90 := bl hb8
 refine oA rfl (oZ (tN (hK52 _ _ (sk fun K91 hK91 => (sk fun K92 hK92 => (wt (oM rfl (oZ (tN (hK92 _ _ ?_))))))))))
 refine wpF_condB (dn) (vr (.bool (dn)) rfl) (fun hc3 => ?_) (fun hc3 => ?_)
 ·rw [show dn = true from hc3] at hD1
  refine sk fun K93 hK93 => (wt (oS rfl (Yk.loadAll (vr (PQ n2 0) rfl) hb8 (rd4_ty50).choose_spec rfl (st_isz (rdk_len (refP D1, V1)) rd4_isz50) (oS rfl (Yk.storeAll (vr (PQ n10 0) rfl) (vr (.agg (rdkC (refP D1, V1)).toArray) rfl) hb20 (by simp only [List.size_toArray, rdk_len]) (st_isz (rdk_len _) rd4_isz50) (rdk_one (x := (refP D1, V1)) (RG.one (RG.ofOwn h1files)).2 (RG.one (RG.ofOwn h1synced)).2 (RG.one (RG.ofOwn h1now)).2 (RG.one (RG.ofOwn h1kept)).2 (RG.one (RG.ofOwn h1acts)).2) fun w94 hb95 hg96 hs97 => ?_)))))
  have hE := row_fresh hE hg96 (Nat.le_trans hz18 (by omega))
  have h1files := OG.kept h1files hg96 hap61
  have h1synced := OG.kept h1synced hg96 hap62
  have h1now := OG.kept h1now hg96 hap63
  have h1kept := OG.kept h1kept hg96 hap64
  have h1acts := OG.kept h1acts hg96 hap65
  have hFs : RowsO w.heap.size w94 us (D1.files.map Prod.fst) := RowsO.set hFs hg96 hb20 (by decide)
  have hb8 := kb hg96 hb8 (by omega)
  clear hb20
  have hb20 : w94.heap[n10]? = some (.cells (rdkC (refP D1, V1)).toArray 50 (0, 0)) := hb95; clear hb95
  have hl98 := bl hb20
  refine oA rfl (oZ (tN (hK93 _ _ (wpF_ret (thenF_ret (postF_ret (fn := Try.f42) _ rfl [.agg (rdkC (refP D1, V1)).toArray, NI 9] (.tuple #[.agg (rdkC (refP D1, V1)).toArray, NI 9]) rfl ⟨ResF.row rfl hb20 (rd4_ty50).choose_spec rfl (st_isz (rdk_len _) rd4_isz50), rfl, trivial⟩ ?_))))))
  have hOe : RdO w.heap.size w94 (D1) V1 := ⟨⟨us, hFs, h1files⟩, h1synced, h1now, h1kept, h1acts⟩
  rw [show dropD D s = (D1, 9) from by unfold dropD; rw [hasD_some hc1 hk]; exact doD_down hD1]
  exact ⟨V1, rfl, hOe.at_ hP, hE⟩
 have hc2 := hc3
 rw [show dn = false from hc2] at hD1
 have hul : us.length = D1.files.length := by rw [hFs.len, List.length_map]
 have hkn1 : k < D1.files.length := by rw [hfe1]; exact hkn
 have hn1 : D1.now.length + 1 < 1099511627776 := by rw [hfe2]; exact hn1
 have ha1 : D1.acts.length + 1 < 1099511627776 := by rw [hfe4]; exact ha1
 refine wpF_skip (tN (hK91 _ _ (sk fun K99 hK99 => (wt (oM rfl (oM rfl (oM rfl (oS rfl (Yk.build3 T1 T2 (vr (NI k) rfl) (fun w => rd4_bs98_0_1_2 s ([] : List UInt8) k w) (oS rfl (Yk.alloc (cs := (racC (⟨[], [], 0⟩ : ActD)).toArray) rd4_al98 fun n100 w101 hn102 hb103 hx104 hs105 => ?_)))))))))))
 have hA106 := Ext.refl w86
 have hea107 := hE
 have hz108 := hE.size
 have hlt109 := lte (bl hb20) hn102
 have hlt110 := lte (bl hb8) hn102
 have hap111 : OB V1.files n100 := own_newer h1files.2 (by omega)
 have hap112 : OB V1.synced n100 := own_newer h1synced.2 (by omega)
 have hap113 : OB V1.now n100 := own_newer h1now.2 (by omega)
 have hap114 : OB V1.kept n100 := own_newer h1kept.2 (by omega)
 have hap115 : OB V1.acts n100 := own_newer h1acts.2 (by omega)
 have hE := hE.trans hx104
 have hb20 := eb hx104 hb20
 have h1files := h1files.keep hx104
 have h1synced := h1synced.keep hx104
 have h1now := h1now.keep hx104
 have h1kept := h1kept.keep hx104
 have h1acts := h1acts.keep hx104
 have hFs : RowsO w.heap.size w101 us (D1.files.map Prod.fst) := (hFs.keep hx104)
 have hb8 := eb hx104 hb8
 have hA106 := hA106.trans hx104
 have hb116 := hb103; clear hb103
 have hl117 : n100 < w101.heap.size := by omega
 refine oS rfl (Yk.storeAll (vr (PQ n100 0) rfl) (vr (.agg (racC (⟨s, ([] : List UInt8), k⟩ : ActD)).toArray) rfl) hb116 (by simp only [List.size_toArray, rac_len]) (st_isz (rac_len _) rd4_isz98) (rac_one (x := (⟨s, ([] : List UInt8), k⟩ : ActD))) fun w118 hb119 hg120 hs121 => ?_)
 have hE := row_fresh hE hg120 (Nat.le_trans hz108 (by omega))
 have hb20 := kb hg120 hb20 (by omega)
 have h1files := OG.kept h1files hg120 hap111
 have h1synced := OG.kept h1synced hg120 hap112
 have h1now := OG.kept h1now hg120 hap113
 have h1kept := OG.kept h1kept hg120 hap114
 have h1acts := OG.kept h1acts hg120 hap115
 have hFs : RowsO w.heap.size w118 us (D1.files.map Prod.fst) := RowsO.set hFs hg120 hb116 (by decide)
 have hb8 := kb hg120 hb8 (by omega)
 have hA106 := row_fresh hA106 hg120 (Nat.le_trans (Nat.le_refl _) (by omega))
 clear hb116
 have hb116 : w118.heap[n100]? = some (.cells (racC (⟨s, ([] : List UInt8), k⟩ : ActD)).toArray 98 (0, 0)) := hb119; clear hb119
 have hl122 := bl hb116
 refine oZ (tN (hK99 _ _ (sk fun K123 hK123 => (sk fun K124 hK124 => (wt (oM rfl (oZ (tN (hK124 _ _ (wpF_true T3 (wt (oS rfl (Yk.fieldAt rd4_fo98_1 (vr (PQ n100 0) rfl) (oS rfl (Yk.storeC (i := 1) (v := St (([] : List UInt8))) (vr (PQ n100 1) rfl) (vr (St (([] : List UInt8))) rfl) hb116 (by rw [rac_len]; decide) rd4_isz9 rfl rfl fun w125 hb126 hg127 hs128 => ?_)))))))))))))))
 have hE := row_fresh hE hg127 (Nat.le_trans hz108 (by omega))
 have hb20 := kb hg127 hb20 (by omega)
 have h1files := OG.kept h1files hg127 hap111
 have h1synced := OG.kept h1synced hg127 hap112
 have h1now := OG.kept h1now hg127 hap113
 have h1kept := OG.kept h1kept hg127 hap114
 have h1acts := OG.kept h1acts hg127 hap115
 have hFs : RowsO w.heap.size w125 us (D1.files.map Prod.fst) := RowsO.set hFs hg127 hb116 (by decide)
 have hb8 := kb hg127 hb8 (by omega)
 have hA106 := row_fresh hA106 hg127 (Nat.le_trans (Nat.le_refl _) (by omega))
 clear hb116
 have hb116 : w125.heap[n100]? = some (.cells (racC (⟨s, ([] : List UInt8), k⟩ : ActD)).toArray 98 (0, 0)) := blk_eq hb126 (rac_s1 (⟨s, ([] : List UInt8), k⟩ : ActD) ([] : List UInt8)); clear hb126
 have hl129 := bl hb116
 refine oZ (tN (hK123 _ _ (sk fun K130 hK130 => (wt (oS rfl (Yk.fieldAt rd4_fo50_4 (vr (PQ n2 0) rfl) (oS rfl (Yk.cell1 rd4_ty47 rfl (vr (PQ n2 4) rfl) (cellAt hb8 (show (rdkC (refP D1, V1))[4]? = some (V1.now : Value) from rdk_g4 (refP D1, V1))) (oS rfl (Yk.loadAll (vr (PQ n100 0) rfl) hb116 (rd4_ty98).choose_spec rfl (st_isz (rac_len (⟨s, ([] : List UInt8), k⟩ : ActD)) rd4_isz98) ?_))))))))))
 have hnl2 : (turnD D1.now ⟨s, [], k⟩).length < 1099511627776 := Nat.lt_of_le_of_lt (turn_len _ _) hn1
 have hA134 := Ext.refl w125
 have hea135 := hE
 have hea136 := hA106
 have hz137 := hE.size
 have hz138 := hA106.size
 refine oS rfl (Yk.callA2 rd4_pl58 (vr V1.now rfl) (vr (.agg (racC (⟨s, ([] : List UInt8), k⟩ : ActD)).toArray) rfl) ((turned_any _ V1.now (D1.now) (⟨s, ([] : List UInt8), k⟩ : ActD) (RG.ofOwn h1now) hL1.now).mono ?_))
 rintro e w139 ⟨v131, rfl, ho132, hx133⟩
 refine ⟨_, rfl, ?_⟩
 have hap140 : OB v131 n10 := own_older ho132.2 (bl hb20)
 have hap141 : OB v131 n2 := own_older ho132.2 (bl hb8)
 have hap142 : OB v131 n100 := own_older ho132.2 (bl hb116)
 have hap143 : ApartV V1.files v131 := apartv_new h1files.2 ho132.2
 have hap144 : ApartV v131 V1.files := apartv_new' h1files.2 ho132.2
 have hap145 : ApartV V1.synced v131 := apartv_new h1synced.2 ho132.2
 have hap146 : ApartV v131 V1.synced := apartv_new' h1synced.2 ho132.2
 have hap147 : ApartV V1.now v131 := apartv_new h1now.2 ho132.2
 have hap148 : ApartV v131 V1.now := apartv_new' h1now.2 ho132.2
 have hap149 : ApartV V1.kept v131 := apartv_new h1kept.2 ho132.2
 have hap150 : ApartV v131 V1.kept := apartv_new' h1kept.2 ho132.2
 have hap151 : ApartV V1.acts v131 := apartv_new h1acts.2 ho132.2
 have hap152 : ApartV v131 V1.acts := apartv_new' h1acts.2 ho132.2
 have hE := hE.trans hx133
 have hb20 := eb hx133 hb20
 have h1files := h1files.keep hx133
 have h1synced := h1synced.keep hx133
 have h1now := h1now.keep hx133
 have h1kept := h1kept.keep hx133
 have h1acts := h1acts.keep hx133
 have hFs : RowsO w.heap.size w139 us (D1.files.map Prod.fst) := (hFs.keep hx133)
 have hb8 := eb hx133 hb8
 have hA106 := hA106.trans hx133
 have hb116 := eb hx133 hb116
 have hA134 := hA134.trans hx133
 refine oS rfl (Yk.fieldAt rd4_fo50_4 (vr (PQ n2 0) rfl) (oS rfl (Yk.storeC (i := 4) (v := v131) (vr (PQ n2 4) rfl) (vr v131 rfl) hb8 (by rw [rdk_len]; decide) rd4_isz47 (RG.one (RG.ofOwn ho132)).1 (RG.one (RG.ofOwn ho132)).2 fun w153 hb154 hg155 hs156 => ?_)))
 have hE := row_fresh hE hg155 (Nat.le_trans (Nat.le_refl _) (by omega))
 have hb20 := kb hg155 hb20 (by omega)
 have h1files := OG.kept h1files hg155 hap56
 have h1synced := OG.kept h1synced hg155 hap57
 have h1now := OG.kept h1now hg155 hap58
 have h1kept := OG.kept h1kept hg155 hap59
 have h1acts := OG.kept h1acts hg155 hap60
 have hFs : RowsO w.heap.size w153 us (D1.files.map Prod.fst) := RowsO.set hFs hg155 hb8 (by decide)
 clear hA106
 have hb116 := kb hg155 hb116 (by omega)
 clear hA134
 have ho132 := OG.kept ho132 hg155 hap141
 clear hb8
 have hb8 : w153.heap[n2]? = some (.cells (rdkC ((⟨true, ((D1.quota : Nat) : Int), (D1.files.map Prod.fst), (D1.files.map fun x => ((x.2 : Nat) : Int)), turnD (D1.now) (⟨s, ([] : List UInt8), k⟩ : ActD), D1.kept, D1.acts, D1.refused, D1.arm, D1.down⟩, ⟨V1.files, V1.synced, v131, V1.kept, V1.acts⟩) : RdkV)).toArray 50 (0, 0)) := blk_eq hb154 (rdk_s4 (refP D1, V1) v131 (turnD (D1.now) (⟨s, ([] : List UInt8), k⟩ : ActD))); clear hb154
 have hl157 := bl hb8
 refine oL_ [(0, .agg (rdkC (refP D, V)).toArray), (1, St (s)), (2, St (([] : List UInt8))), (3, .bool (true)), (4, PQ n2 0), (8, PQ n10 0), (9, NI 0), (10, St (s)), (11, NI (readyD D s s)), (12, NI k), (13, .bool (dn)), (14, PQ n100 0), (16, .bool (true)), (31, .bool (false)), (45, .bool (true))] ⟨T0, T1, T2, T3, rfl, rfl, rfl, T1, rfl, rfl, rfl, rfl, T3, (congrArg Value.bool (decide_eq_false (by omega))), T3, trivial⟩ fun ρ158 ⟨T0, T1, T2, T3, T4, T8, T9, T10, T11, T12, T13, T14, T16, T31, T45, _⟩ => (tN (hK130 _ _ (sk fun K159 hK159 => (wt (oS rfl (Yk.fieldAt rd4_fo50_6 T4 (oS rfl (Yk.cell1 rd4_ty48 rfl (vr (PQ n2 6) rfl) (cellAt hb8 (show (rdkC ((⟨true, ((D1.quota : Nat) : Int), (D1.files.map Prod.fst), (D1.files.map fun x => ((x.2 : Nat) : Int)), turnD (D1.now) (⟨s, ([] : List UInt8), k⟩ : ActD), D1.kept, D1.acts, D1.refused, D1.arm, D1.down⟩, ⟨V1.files, V1.synced, v131, V1.kept, V1.acts⟩) : RdkV))[6]? = some (V1.acts : Value) from rdk_g6 ((⟨true, ((D1.quota : Nat) : Int), (D1.files.map Prod.fst), (D1.files.map fun x => ((x.2 : Nat) : Int)), turnD (D1.now) (⟨s, ([] : List UInt8), k⟩ : ActD), D1.kept, D1.acts, D1.refused, D1.arm, D1.down⟩, ⟨V1.files, V1.synced, v131, V1.kept, V1.acts⟩) : RdkV))) (oS rfl (Yk.loadAll T14 hb116 (rd4_ty98).choose_spec rfl (st_isz (rac_len (⟨s, ([] : List UInt8), k⟩ : ActD)) rd4_isz98) (oS rfl (Yk.lit1G (a := (⟨s, ([] : List UInt8), k⟩ : ActD)) (enc := racC) (vr (.agg (racC (⟨s, ([] : List UInt8), k⟩ : ActD)).toArray) rfl) (rac_len _) rd4_lg48 fun v160 w161 hr162 hx163 => ?_))))))))))))
 have hE := hE.trans hx163
 have hb20 := eb hx163 hb20
 have h1files := h1files.keep hx163
 have h1synced := h1synced.keep hx163
 have h1now := h1now.keep hx163
 have h1kept := h1kept.keep hx163
 have h1acts := h1acts.keep hx163
 have hFs : RowsO w.heap.size w161 us (D1.files.map Prod.fst) := (hFs.keep hx163)
 have hb116 := eb hx163 hb116
 have ho132 := ho132.keep hx163
 have hb8 := eb hx163 hb8
 refine oS rfl (Yk.appendRG _ _ w.heap.size _ 40 rd4_ty48 rd4_ig98.choose_spec.1 rd4_ig98.choose_spec.2 rd4_ty48 (D1.acts) ([(⟨s, ([] : List UInt8), k⟩ : ActD)]) (OG.of h1acts (vr V1.acts rfl)) (RG.of hr162 (vr v160 rfl)) (fun _ _ => rac_one) (by first | omega | (simp only [List.length_append, List.length_singleton, List.length_map, List.length_nil]; omega)) (by first | omega | (simp only [List.length_append, List.length_singleton, List.length_map, List.length_nil]; omega)) hE.size fun v164 w165 ho166 hg167 => ?_)
 have hg167 : Grew w161 w165 V1.acts v164 := hg167
 have hap168 : OB v164 n2 := apart_grew hg167 hap60 (bl hb8)
 have hap169 : OB v164 n10 := apart_grew hg167 hap65 (bl hb20)
 have hap170 : ApartV v164 V1.files := apartv_grew hg167 hap80 h1files.2
 have hap171 : ApartV V1.files v164 := fun k h1 h2 => hap170 k h2 h1
 have hap172 : ApartV v164 V1.synced := apartv_grew hg167 hap81 h1synced.2
 have hap173 : ApartV V1.synced v164 := fun k h1 h2 => hap172 k h2 h1
 have hap174 : ApartV v164 V1.now := apartv_grew hg167 hap82 h1now.2
 have hap175 : ApartV V1.now v164 := fun k h1 h2 => hap174 k h2 h1
 have hap176 : ApartV v164 V1.kept := apartv_grew hg167 hap83 h1kept.2
 have hap177 : ApartV V1.kept v164 := fun k h1 h2 => hap176 k h2 h1
 have hap178 : OB v164 n100 := apart_grew hg167 hap115 (bl hb116)
 have hap179 : ApartV v164 v131 := apartv_grew hg167 hap151 ho132.2
 have hap180 : ApartV v131 v164 := fun k h1 h2 => hap179 k h2 h1
 have hE := ext_grew hE hg167 h1acts.2 (Nat.le_refl _)
 have hb20 := blk_grew hb20 hg167 hap65
 have h1files := og_grew h1files hg167 hap80
 have h1synced := og_grew h1synced hg167 hap81
 have h1now := og_grew h1now hg167 hap82
 have h1kept := og_grew h1kept hg167 hap83
 have hFs : RowsO w.heap.size w165 us (D1.files.map Prod.fst) := RowsO.grew hFs hg167 h1acts.2 (by decide)
 have hb116 := blk_grew hb116 hg167 hap115
 have ho132 := og_grew ho132 hg167 hap151
 have hb8 := blk_grew hb8 hg167 hap60
 clear hr162
 clear h1acts
 refine oS rfl (Yk.fieldAt rd4_fo50_6 T4 (oS rfl (Yk.storeC (i := 6) (v := v164) (vr (PQ n2 6) rfl) (vr v164 rfl) hb8 (by rw [rdk_len]; decide) rd4_isz48 (RG.one (RG.ofOwn ho166)).1 (RG.one (RG.ofOwn ho166)).2 fun w181 hb182 hg183 hs184 => ?_)))
 have hE := row_fresh hE hg183 (Nat.le_trans (Nat.le_refl _) (by omega))
 have hb20 := kb hg183 hb20 (by omega)
 have h1files := OG.kept h1files hg183 hap56
 have h1synced := OG.kept h1synced hg183 hap57
 have h1now := OG.kept h1now hg183 hap58
 have h1kept := OG.kept h1kept hg183 hap59
 have hFs : RowsO w.heap.size w181 us (D1.files.map Prod.fst) := RowsO.set hFs hg183 hb8 (by decide)
 have hb116 := kb hg183 hb116 (by omega)
 have ho132 := OG.kept ho132 hg183 hap141
 have ho166 := OG.kept ho166 hg183 hap168
 clear hb8
 have hb8 : w181.heap[n2]? = some (.cells (rdkC ((⟨true, ((D1.quota : Nat) : Int), (D1.files.map Prod.fst), (D1.files.map fun x => ((x.2 : Nat) : Int)), turnD (D1.now) (⟨s, ([] : List UInt8), k⟩ : ActD), D1.kept, (D1.acts) ++ [(⟨s, ([] : List UInt8), k⟩ : ActD)], D1.refused, D1.arm, D1.down⟩, ⟨V1.files, V1.synced, v131, V1.kept, v164⟩) : RdkV)).toArray 50 (0, 0)) := blk_eq hb182 (rdk_s6 ((⟨true, ((D1.quota : Nat) : Int), (D1.files.map Prod.fst), (D1.files.map fun x => ((x.2 : Nat) : Int)), turnD (D1.now) (⟨s, ([] : List UInt8), k⟩ : ActD), D1.kept, D1.acts, D1.refused, D1.arm, D1.down⟩, ⟨V1.files, V1.synced, v131, V1.kept, V1.acts⟩) : RdkV) v164 ((D1.acts) ++ [(⟨s, ([] : List UInt8), k⟩ : ActD)])); clear hb182
 have hl185 := bl hb8
 refine oZ (tN (hK159 _ _ (sk fun K186 hK186 => (wt (oS rfl (Yk.loadAll T4 hb8 (rd4_ty50).choose_spec rfl (st_isz (rdk_len ((⟨true, ((D1.quota : Nat) : Int), (D1.files.map Prod.fst), (D1.files.map fun x => ((x.2 : Nat) : Int)), turnD (D1.now) (⟨s, ([] : List UInt8), k⟩ : ActD), D1.kept, (D1.acts) ++ [(⟨s, ([] : List UInt8), k⟩ : ActD)], D1.refused, D1.arm, D1.down⟩, ⟨V1.files, V1.synced, v131, V1.kept, v164⟩) : RdkV)) rd4_isz50) (oS rfl (Yk.storeAll T8 (vr (.agg (rdkC ((⟨true, ((D1.quota : Nat) : Int), (D1.files.map Prod.fst), (D1.files.map fun x => ((x.2 : Nat) : Int)), turnD (D1.now) (⟨s, ([] : List UInt8), k⟩ : ActD), D1.kept, (D1.acts) ++ [(⟨s, ([] : List UInt8), k⟩ : ActD)], D1.refused, D1.arm, D1.down⟩, ⟨V1.files, V1.synced, v131, V1.kept, v164⟩) : RdkV)).toArray) rfl) hb20 (by simp only [List.size_toArray, rdk_len]) (st_isz (rdk_len _) rd4_isz50) (rdk_one (x := ((⟨true, ((D1.quota : Nat) : Int), (D1.files.map Prod.fst), (D1.files.map fun x => ((x.2 : Nat) : Int)), turnD (D1.now) (⟨s, ([] : List UInt8), k⟩ : ActD), D1.kept, (D1.acts) ++ [(⟨s, ([] : List UInt8), k⟩ : ActD)], D1.refused, D1.arm, D1.down⟩, ⟨V1.files, V1.synced, v131, V1.kept, v164⟩) : RdkV)) (RG.one (RG.ofOwn h1files)).2 (RG.one (RG.ofOwn h1synced)).2 (RG.one (RG.ofOwn ho132)).2 (RG.one (RG.ofOwn h1kept)).2 (RG.one (RG.ofOwn ho166)).2) fun w187 hb188 hg189 hs190 => ?_))))))))
 have hE := row_fresh hE hg189 (Nat.le_trans hz18 (by omega))
 have h1files := OG.kept h1files hg189 hap61
 have h1synced := OG.kept h1synced hg189 hap62
 have h1now := OG.kept h1now hg189 hap63
 have h1kept := OG.kept h1kept hg189 hap64
 have hFs : RowsO w.heap.size w187 us (D1.files.map Prod.fst) := RowsO.set hFs hg189 hb20 (by decide)
 have hb116 := kb hg189 hb116 (by omega)
 have ho132 := OG.kept ho132 hg189 hap140
 have ho166 := OG.kept ho166 hg189 hap169
 have hb8 := kb hg189 hb8 (by omega)
 clear hb20
 have hb20 : w187.heap[n10]? = some (.cells (rdkC ((⟨true, ((D1.quota : Nat) : Int), (D1.files.map Prod.fst), (D1.files.map fun x => ((x.2 : Nat) : Int)), turnD (D1.now) (⟨s, ([] : List UInt8), k⟩ : ActD), D1.kept, (D1.acts) ++ [(⟨s, ([] : List UInt8), k⟩ : ActD)], D1.refused, D1.arm, D1.down⟩, ⟨V1.files, V1.synced, v131, V1.kept, v164⟩) : RdkV)).toArray 50 (0, 0)) := hb188; clear hb188
 have hl191 := bl hb20
 refine oA rfl (oZ (tN (hK186 _ _ (wpF_ret (postF_ret (fn := Try.f42) _ rfl [.agg (rdkC ((⟨true, ((D1.quota : Nat) : Int), (D1.files.map Prod.fst), (D1.files.map fun x => ((x.2 : Nat) : Int)), turnD (D1.now) (⟨s, ([] : List UInt8), k⟩ : ActD), D1.kept, (D1.acts) ++ [(⟨s, ([] : List UInt8), k⟩ : ActD)], D1.refused, D1.arm, D1.down⟩, ⟨V1.files, V1.synced, v131, V1.kept, v164⟩) : RdkV)).toArray, NI 0] (.tuple #[.agg (rdkC ((⟨true, ((D1.quota : Nat) : Int), (D1.files.map Prod.fst), (D1.files.map fun x => ((x.2 : Nat) : Int)), turnD (D1.now) (⟨s, ([] : List UInt8), k⟩ : ActD), D1.kept, (D1.acts) ++ [(⟨s, ([] : List UInt8), k⟩ : ActD)], D1.refused, D1.arm, D1.down⟩, ⟨V1.files, V1.synced, v131, V1.kept, v164⟩) : RdkV)).toArray, NI 0]) rfl ⟨ResF.row T8 hb20 (rd4_ty50).choose_spec rfl (st_isz (rdk_len _) rd4_isz50), rfl, trivial⟩ ?_)))))
 have hOe : RdO w.heap.size w187 (turnedD D1 ⟨s, [], k⟩) ⟨V1.files, V1.synced, v131, V1.kept, v164⟩ := ⟨⟨us, hFs, h1files⟩, h1synced, OG.low ho132 hz137, h1kept, ho166⟩
 rw [show dropD D s = (_, 0) from by unfold dropD; rw [hasD_some hc1 hk]; exact doD_yes hD1]
 exact ⟨_, rfl, hOe.at_ hP, hE⟩

theorem rappend_no (w : World) (q : Int) (s : List UInt8) (vb : Value) :
  Calls Try.prog 40 #[.agg (rdkC (noR q)).toArray, St s, vb] w fun e w' => e = .returned (.tuple #[.agg (rdkC (noR q)).toArray, NI 1]) ∧ Ext w w' := by
 refine calls_of_wpF (args := [.agg (rdkC (noR q)).toArray, St (s), vb]) Try.func40 rfl 89 rfl (Nat.le_of_ble_eq_true rfl) ?_
 intro ρ0 hb
 have T0 : ρ0 0 = (.agg (rdkC (noR q)).toArray : Value) := hb.get 0
 have T1 : ρ0 1 = (St (s) : Value) := hb.get 1
 have T2 : ρ0 2 = (vb : Value) := hb.get 2
 clear hb
 have hE := Ext.refl w
 refine sk fun K1 hK1 => (wt (oS rfl (Yk.box (cs := (rdkC (noR q) : List Value).toArray) T0 fun n2 w3 hn4 hb5 hx6 hs7 => ?_)))
 have hE := hE.trans hx6
 have hb8 := hb5; clear hb5
 have hl9 : n2 < w3.heap.size := by omega
 refine oS rfl (Yk.alloc (cs := (rdkC ((⟨false, 0, [], [], [], [], [], 0, 0, false⟩, ⟨.slice none 0 0, .slice none 0 0, .slice none 0 0, .slice none 0 0, .slice none 0 0⟩) : RdkV)).toArray) rd4_al50 fun n10 w11 hn12 hb13 hx14 hs15 => ?_)
 have hA16 := Ext.refl w3
 have hea17 := hE
 have hz18 := hE.size
 have hlt19 := lte (bl hb8) hn12
 have hE := hE.trans hx14
 have hb8 := eb hx14 hb8
 have hA16 := hA16.trans hx14
 have hb20 := hb13; clear hb13
 have hl21 : n10 < w11.heap.size := by omega
 refine oA rfl (oZ (tN (hK1 _ _ (sk fun K22 hK22 => (sk fun K23 hK23 => (wt (oS rfl (Yk.loadAll (vr (PQ n2 0) rfl) hb8 (rd4_ty50).choose_spec rfl (st_isz (rdk_len (noR q)) rd4_isz50) (oM rfl (oM rfl (oS rfl (Yk.callA3 rd4_pl54 (vr (.agg (rdkC (noR q)).toArray) rfl) T1 T1 ((ready_no _ q s s).mono ?_)))))))))))))
 rintro e w25 ⟨rfl, hx24⟩
 refine ⟨_, rfl, ?_⟩
 have hE := hE.trans hx24
 have hb8 := eb hx24 hb8
 have hA16 := hA16.trans hx24
 have hb20 := eb hx24 hb20
 refine oA rfl (oZ (tN (hK23 _ _ (sk fun K26 hK26 => (wt (oM rfl (oS rfl (Yk.eqI (a := (1 : Nat)) (b := (0 : Nat)) rfl rfl (k_neq _ _ _ _) (oZ (tN (hK26 _ _ (wpF_true (vr (.bool (true)) (congrArg Value.bool (decide_eq_true (by decide)))) (sk fun K27 hK27 => (wt (oS rfl (Yk.loadAll (vr (PQ n2 0) rfl) hb8 (rd4_ty50).choose_spec rfl (st_isz (rdk_len (noR q)) rd4_isz50) (oM rfl (oS rfl (Yk.storeAll (vr (PQ n10 0) rfl) (vr (.agg (rdkC (noR q)).toArray) rfl) hb20 (by simp only [List.size_toArray, rdk_len]) (st_isz (rdk_len _) rd4_isz50) (rdk_one (x := (noR q)) rfl rfl rfl rfl rfl) fun w28 hb29 hg30 hs31 => ?_)))))))))))))))))))
 have hE := row_fresh hE hg30 (Nat.le_trans hz18 (by omega))
 have hb8 := kb hg30 hb8 (by omega)
 have hA16 := row_fresh hA16 hg30 (Nat.le_trans (Nat.le_refl _) (by omega))
 clear hb20
 have hb20 : w28.heap[n10]? = some (.cells (rdkC (noR q)).toArray 50 (0, 0)) := hb29; clear hb29
 have hl32 := bl hb20
 refine oA rfl (oZ (tN (hK27 _ _ (wpF_ret (thenF_ret (postF_ret (fn := Try.f40) _ rfl [.agg (rdkC (noR q)).toArray, NI 1] (.tuple #[.agg (rdkC (noR q)).toArray, NI 1]) rfl ⟨ResF.row rfl hb20 (rd4_ty50).choose_spec rfl (st_isz (rdk_len _) rd4_isz50), rfl, trivial⟩ ?_))))))
 exact ⟨rfl, hE⟩

theorem rsync_no (w : World) (q : Int) (s : List UInt8) :
  Calls Try.prog 41 #[.agg (rdkC (noR q)).toArray, St s] w fun e w' => e = .returned (.tuple #[.agg (rdkC (noR q)).toArray, NI 1]) ∧ Ext w w' := by
 refine calls_of_wpF (args := [.agg (rdkC (noR q)).toArray, St (s)]) Try.func41 rfl 49 rfl (Nat.le_of_ble_eq_true rfl) ?_
 intro ρ0 hb
 have T0 : ρ0 0 = (.agg (rdkC (noR q)).toArray : Value) := hb.get 0
 have T1 : ρ0 1 = (St (s) : Value) := hb.get 1
 clear hb
 have hE := Ext.refl w
 refine sk fun K1 hK1 => (wt (oS rfl (Yk.box (cs := (rdkC (noR q) : List Value).toArray) T0 fun n2 w3 hn4 hb5 hx6 hs7 => ?_)))
 have hE := hE.trans hx6
 have hb8 := hb5; clear hb5
 have hl9 : n2 < w3.heap.size := by omega
 refine oS rfl (Yk.alloc (cs := (rdkC ((⟨false, 0, [], [], [], [], [], 0, 0, false⟩, ⟨.slice none 0 0, .slice none 0 0, .slice none 0 0, .slice none 0 0, .slice none 0 0⟩) : RdkV)).toArray) rd4_al50 fun n10 w11 hn12 hb13 hx14 hs15 => ?_)
 have hA16 := Ext.refl w3
 have hea17 := hE
 have hz18 := hE.size
 have hlt19 := lte (bl hb8) hn12
 have hE := hE.trans hx14
 have hb8 := eb hx14 hb8
 have hA16 := hA16.trans hx14
 have hb20 := hb13; clear hb13
 have hl21 : n10 < w11.heap.size := by omega
 refine oA rfl (oZ (tN (hK1 _ _ (sk fun K22 hK22 => (sk fun K23 hK23 => (wt (oS rfl (Yk.loadAll (vr (PQ n2 0) rfl) hb8 (rd4_ty50).choose_spec rfl (st_isz (rdk_len (noR q)) rd4_isz50) (oM rfl (oM rfl (oS rfl (Yk.callA3 rd4_pl54 (vr (.agg (rdkC (noR q)).toArray) rfl) T1 T1 ((ready_no _ q s s).mono ?_)))))))))))))
 rintro e w25 ⟨rfl, hx24⟩
 refine ⟨_, rfl, ?_⟩
 have hE := hE.trans hx24
 have hb8 := eb hx24 hb8
 have hA16 := hA16.trans hx24
 have hb20 := eb hx24 hb20
 refine oA rfl (oZ (tN (hK23 _ _ (sk fun K26 hK26 => (wt (oM rfl (oS rfl (Yk.eqI (a := (1 : Nat)) (b := (0 : Nat)) rfl rfl (k_neq _ _ _ _) (oZ (tN (hK26 _ _ (wpF_true (vr (.bool (true)) (congrArg Value.bool (decide_eq_true (by decide)))) (sk fun K27 hK27 => (wt (oS rfl (Yk.loadAll (vr (PQ n2 0) rfl) hb8 (rd4_ty50).choose_spec rfl (st_isz (rdk_len (noR q)) rd4_isz50) (oM rfl (oS rfl (Yk.storeAll (vr (PQ n10 0) rfl) (vr (.agg (rdkC (noR q)).toArray) rfl) hb20 (by simp only [List.size_toArray, rdk_len]) (st_isz (rdk_len _) rd4_isz50) (rdk_one (x := (noR q)) rfl rfl rfl rfl rfl) fun w28 hb29 hg30 hs31 => ?_)))))))))))))))))))
 have hE := row_fresh hE hg30 (Nat.le_trans hz18 (by omega))
 have hb8 := kb hg30 hb8 (by omega)
 have hA16 := row_fresh hA16 hg30 (Nat.le_trans (Nat.le_refl _) (by omega))
 clear hb20
 have hb20 : w28.heap[n10]? = some (.cells (rdkC (noR q)).toArray 50 (0, 0)) := hb29; clear hb29
 have hl32 := bl hb20
 refine oA rfl (oZ (tN (hK27 _ _ (wpF_ret (thenF_ret (postF_ret (fn := Try.f41) _ rfl [.agg (rdkC (noR q)).toArray, NI 1] (.tuple #[.agg (rdkC (noR q)).toArray, NI 1]) rfl ⟨ResF.row rfl hb20 (rd4_ty50).choose_spec rfl (st_isz (rdk_len _) rd4_isz50), rfl, trivial⟩ ?_))))))
 exact ⟨rfl, hE⟩

theorem rturn_no (w : World) (q : Int) (s t : List UInt8) (b : Bool) :
  Calls Try.prog 42 #[.agg (rdkC (noR q)).toArray, St s, St t, .bool b] w fun e w' => e = .returned (.tuple #[.agg (rdkC (noR q)).toArray, NI 1]) ∧ Ext w w' := by
 refine calls_of_wpF (args := [.agg (rdkC (noR q)).toArray, St (s), St (t), .bool (b)]) Try.func42 rfl 59 rfl (Nat.le_of_ble_eq_true rfl) ?_
 intro ρ0 hb
 have T0 : ρ0 0 = (.agg (rdkC (noR q)).toArray : Value) := hb.get 0
 have T1 : ρ0 1 = (St (s) : Value) := hb.get 1
 have T2 : ρ0 2 = (St (t) : Value) := hb.get 2
 have T3 : ρ0 3 = (.bool (b) : Value) := hb.get 3
 clear hb
 have hE := Ext.refl w
 refine sk fun K1 hK1 => (wt (oS rfl (Yk.box (cs := (rdkC (noR q) : List Value).toArray) T0 fun n2 w3 hn4 hb5 hx6 hs7 => ?_)))
 have hE := hE.trans hx6
 have hb8 := hb5; clear hb5
 have hl9 : n2 < w3.heap.size := by omega
 refine oS rfl (Yk.alloc (cs := (rdkC ((⟨false, 0, [], [], [], [], [], 0, 0, false⟩, ⟨.slice none 0 0, .slice none 0 0, .slice none 0 0, .slice none 0 0, .slice none 0 0⟩) : RdkV)).toArray) rd4_al50 fun n10 w11 hn12 hb13 hx14 hs15 => ?_)
 have hA16 := Ext.refl w3
 have hea17 := hE
 have hz18 := hE.size
 have hlt19 := lte (bl hb8) hn12
 have hE := hE.trans hx14
 have hb8 := eb hx14 hb8
 have hA16 := hA16.trans hx14
 have hb20 := hb13; clear hb13
 have hl21 : n10 < w11.heap.size := by omega
 refine oA rfl (oZ (tN (hK1 _ _ (sk fun K22 hK22 => (wt (oM rfl (oA rfl (oZ (tN (hK22 _ _ (sk fun K23 hK23 => (sk fun K24 hK24 => (wt (oM rfl (oZ (tN (hK24 _ _ ?_)))))))))))))))))
 refine wpF_condB (b) T3 (fun hc0 => ?_) (fun hc0 => ?_)
 ·refine wt (oM rfl (oA rfl (oZ (tN (hK23 _ _ (sk fun K25 hK25 => (sk fun K26 hK26 => (wt (oS rfl (Yk.loadAll (vr (PQ n2 0) rfl) hb8 (rd4_ty50).choose_spec rfl (st_isz (rdk_len (noR q)) rd4_isz50) (oM rfl (oM rfl (oS rfl (Yk.callA3 rd4_pl54 (vr (.agg (rdkC (noR q)).toArray) rfl) T1 T1 ((ready_no _ q s s).mono ?_)))))))))))))))
  rintro e w28 ⟨rfl, hx27⟩
  refine ⟨_, rfl, ?_⟩
  have hE := hE.trans hx27
  have hb8 := eb hx27 hb8
  have hA16 := hA16.trans hx27
  have hb20 := eb hx27 hb20
  refine oA rfl (oZ (tN (hK26 _ _ (sk fun K29 hK29 => (wt (oM rfl (oS rfl (Yk.eqI (a := (1 : Nat)) (b := (0 : Nat)) rfl rfl (k_neq _ _ _ _) (oZ (tN (hK29 _ _ (wpF_true (vr (.bool (true)) (congrArg Value.bool (decide_eq_true (by decide)))) (sk fun K30 hK30 => (wt (oS rfl (Yk.loadAll (vr (PQ n2 0) rfl) hb8 (rd4_ty50).choose_spec rfl (st_isz (rdk_len (noR q)) rd4_isz50) (oM rfl (oS rfl (Yk.storeAll (vr (PQ n10 0) rfl) (vr (.agg (rdkC (noR q)).toArray) rfl) hb20 (by simp only [List.size_toArray, rdk_len]) (st_isz (rdk_len _) rd4_isz50) (rdk_one (x := (noR q)) rfl rfl rfl rfl rfl) fun w31 hb32 hg33 hs34 => ?_)))))))))))))))))))
  have hE := row_fresh hE hg33 (Nat.le_trans hz18 (by omega))
  have hb8 := kb hg33 hb8 (by omega)
  have hA16 := row_fresh hA16 hg33 (Nat.le_trans (Nat.le_refl _) (by omega))
  clear hb20
  have hb20 : w31.heap[n10]? = some (.cells (rdkC (noR q)).toArray 50 (0, 0)) := hb32; clear hb32
  have hl35 := bl hb20
  refine oA rfl (oZ (tN (hK30 _ _ (wpF_ret (thenF_ret (postF_ret (fn := Try.f42) _ rfl [.agg (rdkC (noR q)).toArray, NI 1] (.tuple #[.agg (rdkC (noR q)).toArray, NI 1]) rfl ⟨ResF.row rfl hb20 (rd4_ty50).choose_spec rfl (st_isz (rdk_len _) rd4_isz50), rfl, trivial⟩ ?_))))))
  exact ⟨rfl, hE⟩
 refine wpF_skip (tN (hK23 _ _ (sk fun K36 hK36 => (sk fun K37 hK37 => (wt (oS rfl (Yk.loadAll (vr (PQ n2 0) rfl) hb8 (rd4_ty50).choose_spec rfl (st_isz (rdk_len (noR q)) rd4_isz50) (oM rfl (oM rfl (oS rfl (Yk.callA3 rd4_pl54 (vr (.agg (rdkC (noR q)).toArray) rfl) T1 T2 ((ready_no _ q s t).mono ?_))))))))))))
 rintro e w39 ⟨rfl, hx38⟩
 refine ⟨_, rfl, ?_⟩
 have hE := hE.trans hx38
 have hb8 := eb hx38 hb8
 have hA16 := hA16.trans hx38
 have hb20 := eb hx38 hb20
 refine oA rfl (oZ (tN (hK37 _ _ (sk fun K40 hK40 => (wt (oM rfl (oS rfl (Yk.eqI (a := (1 : Nat)) (b := (0 : Nat)) rfl rfl (k_neq _ _ _ _) (oZ (tN (hK40 _ _ (wpF_true (vr (.bool (true)) (congrArg Value.bool (decide_eq_true (by decide)))) (sk fun K41 hK41 => (wt (oS rfl (Yk.loadAll (vr (PQ n2 0) rfl) hb8 (rd4_ty50).choose_spec rfl (st_isz (rdk_len (noR q)) rd4_isz50) (oM rfl (oS rfl (Yk.storeAll (vr (PQ n10 0) rfl) (vr (.agg (rdkC (noR q)).toArray) rfl) hb20 (by simp only [List.size_toArray, rdk_len]) (st_isz (rdk_len _) rd4_isz50) (rdk_one (x := (noR q)) rfl rfl rfl rfl rfl) fun w42 hb43 hg44 hs45 => ?_)))))))))))))))))))
 have hE := row_fresh hE hg44 (Nat.le_trans hz18 (by omega))
 have hb8 := kb hg44 hb8 (by omega)
 have hA16 := row_fresh hA16 hg44 (Nat.le_trans (Nat.le_refl _) (by omega))
 clear hb20
 have hb20 : w42.heap[n10]? = some (.cells (rdkC (noR q)).toArray 50 (0, 0)) := hb43; clear hb43
 have hl46 := bl hb20
 refine oA rfl (oZ (tN (hK41 _ _ (wpF_ret (thenF_ret (postF_ret (fn := Try.f42) _ rfl [.agg (rdkC (noR q)).toArray, NI 1] (.tuple #[.agg (rdkC (noR q)).toArray, NI 1]) rfl ⟨ResF.row rfl hb20 (rd4_ty50).choose_spec rfl (st_isz (rdk_len _) rd4_isz50), rfl, trivial⟩ ?_))))))
 exact ⟨rfl, hE⟩
open Go.RowKit
set_option maxRecDepth 100000
set_option linter.unusedVariables false
set_option linter.unusedSimpArgs false
theorem numN_len (L : Dir) {n : Nat} (h : n ≤ L.length) : (numN L n).length = n := by
 unfold numN numD
 rw [List.length_mapIdx, List.length_take]
 omega
theorem cutN_fst {D : Dsk} {l : List Int} {L : Dir} {n : Nat} (h : n < L.length) : (cutN D l L (n + 1)).map Prod.fst = (cutN D l L n).map Prod.fst ++ [(cutD D l n (L.getD n ([], 0)).2).1] := by
 rw [cutN_succ h, List.map_append]; rfl
theorem cutN_snd {D : Dsk} {l : List Int} {L : Dir} {n : Nat} (h : n < L.length) : (cutN D l L (n + 1)).map (fun x => ((x.2 : Nat) : Int)) = (cutN D l L n).map (fun x => ((x.2 : Nat) : Int)) ++ [(((cutD D l n (L.getD n ([], 0)).2).2 : Nat) : Int)] := by
 rw [cutN_succ h, List.map_append]; rfl
theorem rd5_al50 {d : Option Tmp} {ty : TypeId} {pos : String} {af : Array Edge} {gd : Option (Nat × Bool)} (σ : Operand → Value) (w : World) : (execOp σ ⟨d, .alloc 50, ty, pos, af, gd⟩).run Try.prog w = .ok (.value (PQ w.heap.size 0)) (w.alloc (.cells (rdkC ((⟨false, 0, [], [], [], [], [], 0, 0, false⟩, ⟨.slice none 0 0, .slice none 0 0, .slice none 0 0, .slice none 0 0, .slice none 0 0⟩) : RdkV)).toArray 50)) := by kernel_rfl
theorem rd5_fo50_0 : FieldOff Try.prog 50 0 0 := fun b o w => by simp [go_sem]
theorem rd5_ty4 : Try.prog.underlying 4 = some (.bool) := by kernel_rfl
theorem rd5_l0_47 (w : World) : (Instr.buildSlice 47 0 #[]).run Try.prog w = .ok (.slice (some ⟨w.heap.size, 0, none⟩) 0 0) (w.alloc (.cells #[] 89)) := by kernel_rfl
theorem rd5_fo50_5 : FieldOff Try.prog 50 5 5 := fun b o w => by simp [go_sem]
theorem rd5_ty47 : Try.prog.underlying 47 = some (.slice 89) := by kernel_rfl
theorem rd5_ig89 : ∃ z, (Try.prog.info? 89).map (fun i => (i.zero, i.size, i.bytes)) = some (some z, 2, 24) ∧ z.cells.size = 2 := info_ex (by kernel_rfl)
theorem rd5_fo50_6 : FieldOff Try.prog 50 6 6 := fun b o w => by simp [go_sem]
theorem rd5_ty48 : Try.prog.underlying 48 = some (.slice 98) := by kernel_rfl
theorem rd5_pl59 : Plain Try.prog 59 := fun _ _ => by kernel_rfl
theorem rd5_szg98 : ∀ w' : World, (sizeOf 98).run Try.prog w' = .ok 3 w' := fun _ => by kernel_rfl
theorem rd5_ty98 : ∃ fs, Try.prog.underlying 98 = some (.struct fs) := struct_of (by kernel_rfl)
theorem rd5_isz98 : (Try.prog.info? 98).map (·.size) = some 3 := by kernel_rfl
theorem rd5_pl58 : Plain Try.prog 58 := fun _ _ => by kernel_rfl
theorem rd5_fo50_1 : FieldOff Try.prog 50 1 1 := fun b o w => by simp [go_sem]
theorem rd5_ty3 : Try.prog.underlying 3 = some (.int .i64) := by kernel_rfl
theorem rd5_fo50_7 : FieldOff Try.prog 50 7 7 := fun b o w => by simp [go_sem]
theorem rd5_bs50_0_1_7h (z0 : Bool) (z1 : Int) (z7 : Int) (w : World) : (Instr.build 50 #[(0, .bool z0), (1, .int .i64 z1), (7, .int .i64 z7)]).run Try.prog w = .ok (.agg #[.bool z0, .int .i64 z1, .slice none 0 0, .slice none 0 0, .slice none 0 0, .slice none 0 0, .slice none 0 0, .int .i64 z7, .int .i64 0, .bool false]) w := by kernel_rfl
theorem rd5_bs50_0_1_7 (z0 : Bool) (z1 : Int) (z7 : Nat) (w : World) : (Instr.build 50 #[(0, .bool z0), (1, .int .i64 z1), (7, NI z7)]).run Try.prog w = .ok (.agg (.bool (z0) :: (.int .i64 (z1) :: ((Value.slice none 0 0) :: ((Value.slice none 0 0) :: ((Value.slice none 0 0) :: ((Value.slice none 0 0) :: ((Value.slice none 0 0) :: (NI (z7) :: (NI (0) :: (.bool (false) :: ([]))))))))))).toArray) w := by
 exact rd5_bs50_0_1_7h _ _ _ w
theorem rd5_isz50 : (Try.prog.info? 50).map (·.size) = some 10 := by kernel_rfl
theorem rd5_fo50_2 : FieldOff Try.prog 50 2 2 := fun b o w => by simp [go_sem]
theorem rd5_ty23 : Try.prog.underlying 23 = some (.slice 24) := by kernel_rfl
theorem rd5_szg89 : ∀ w' : World, (sizeOf 89).run Try.prog w' = .ok 2 w' := fun _ => by kernel_rfl
theorem rd5_fo89_1 : FieldOff Try.prog 89 1 1 := fun b o w => by simp [go_sem]
theorem rd5_szg24 : ∀ w' : World, (sizeOf 24).run Try.prog w' = .ok 1 w' := fun _ => by kernel_rfl
theorem rd5_ty24 : Try.prog.underlying 24 = some (.slice 5) := by kernel_rfl
theorem rd5_fo50_3 : FieldOff Try.prog 50 3 3 := fun b o w => by simp [go_sem]
theorem rd5_ty25 : Try.prog.underlying 25 = some (.slice 3) := by kernel_rfl
theorem rd5_szg3 : ∀ w' : World, (sizeOf 3).run Try.prog w' = .ok 1 w' := fun _ => by kernel_rfl
theorem rd5_sz5 : ∀ w' : World, (sizeOf 5).run Try.prog w' = .ok 1 w' := fun _ => by kernel_rfl
theorem rd5_l0_24 (w : World) : (Instr.buildSlice 24 0 #[]).run Try.prog w = .ok (.slice (some ⟨w.heap.size, 0, none⟩) 0 0) (w.alloc (.cells #[] 5)) := by kernel_rfl
theorem rd5_inf5 : (Try.prog.info? 5).map (fun i => (i.zero, i.size, i.bytes)) = some (some (.int .u8 0), 1, 1) := by kernel_rfl
theorem rd5_lk23 (ao : Option Addr) (n : Nat) (c : Nat) (w : World) : (Instr.buildSlice 23 1 #[(0, .slice ao n c)]).run Try.prog w = .ok (.slice (some ⟨w.heap.size, 0, none⟩) 1 1) (w.alloc (.cells #[.slice ao n c] 24)) := by kernel_rfl
theorem rd5_ig24 : ∃ z, (Try.prog.info? 24).map (fun i => (i.zero, i.size, i.bytes)) = some (some z, 1, 24) ∧ z.cells.size = 1 := info_ex (by kernel_rfl)
theorem rd5_isz23 : (Try.prog.info? 23).map (·.size) = some 1 := by kernel_rfl
theorem rd5_lk25 (z : Int) (w : World) : (Instr.buildSlice 25 1 #[(0, .int .i64 z)]).run Try.prog w = .ok (.slice (some ⟨w.heap.size, 0, none⟩) 1 1) (w.alloc (.cells #[.int .i64 z] 3)) := by kernel_rfl
theorem rd5_ig3 : ∃ z, (Try.prog.info? 3).map (fun i => (i.zero, i.size, i.bytes)) = some (some z, 1, 8) ∧ z.cells.size = 1 := info_ex (by kernel_rfl)
theorem rd5_isz25 : (Try.prog.info? 25).map (·.size) = some 1 := by kernel_rfl
theorem rd5_fo50_4 : FieldOff Try.prog 50 4 4 := fun b o w => by simp [go_sem]
theorem rd5_fo89_0 : FieldOff Try.prog 89 0 0 := fun b o w => by simp [go_sem]
theorem rd5_ty9 : Try.prog.underlying 9 = some (.string) := by kernel_rfl
theorem rd5_bs89_0_1h (z0 : ByteArray) (z1 : Int) (w : World) : (Instr.build 89 #[(0, .string z0), (1, .int .i64 z1)]).run Try.prog w = .ok (.agg #[.string z0, .int .i64 z1]) w := by kernel_rfl
theorem rd5_bs89_0_1 (z0 : List UInt8) (z1 : Nat) (w : World) : (Instr.build 89 #[(0, St z0), (1, NI z1)]).run Try.prog w = .ok (.agg (St (z0) :: (NI (z1) :: ([]))).toArray) w := by
 exact rd5_bs89_0_1h _ _ w
theorem rd5_lh47 (c0 c1 : Value) (w : World) : (Instr.buildSlice 47 1 #[(0, .agg #[c0, c1])]).run Try.prog w = .ok (.slice (some ⟨w.heap.size, 0, none⟩) 1 1) (w.alloc (.cells #[c0, c1] 89)) := by kernel_rfl
theorem rd5_lg47 : ∀ (cs : Array Value), cs.size = 2 → ∀ w : World, (Instr.buildSlice 47 1 #[(0, .agg cs)]).run Try.prog w = .ok (.slice (some ⟨w.heap.size, 0, none⟩) 1 1) (w.alloc (.cells cs 89))
 | ⟨[c0, c1]⟩, _, w => rd5_lh47 c0 c1 w
theorem rd5_isz47 : (Try.prog.info? 47).map (·.size) = some 1 := by kernel_rfl
theorem rd5_ty50 : ∃ fs, Try.prog.underlying 50 = some (.struct fs) := struct_of (by kernel_rfl)
set_option maxHeartbeats 1600000
theorem rcrash_any {P : Nat → Prop} (w : World) (D : Dsk) (V : RdkW) (hR : RdAt P w D V) (hP : ∀ b, w.heap.size ≤ b → P b) (hok : DOk D) (hL : DLt D) (hfn : D.files.length < 1099511627776) (vf : Value) (fs : List Int) (hf : RG 1 (enI) w vf fs) (hfl : fs.length < 1099511627776) :
  Calls Try.prog 44 #[.agg (rdkC (refP D, V)).toArray, vf] w fun e w' => ∃ V', e = .returned (.agg (rdkC (refP (crashD D fs), V')).toArray) ∧ RdAt P w' (crashD D fs) V' ∧ Ext w w' := by
 obtain ⟨vs, hvs, hfiles0⟩ := hR.files
 have hfiles := hfiles0.1
 have hsynced := hR.synced.1
 have hnow := hR.now.1
 have hkept := hR.kept.1
 have hacts := hR.acts.1
 refine calls_of_wpF (args := [.agg (rdkC (refP D, V)).toArray, vf]) Try.func44 rfl 113 rfl (Nat.le_of_ble_eq_true rfl) ?_
 intro ρ0 hb
 have T0 : ρ0 0 = (.agg (rdkC (refP D, V)).toArray : Value) := hb.get 0
 have T1 : ρ0 1 = (vf : Value) := hb.get 1
 clear hb
 have hE := Ext.refl w
 refine sk fun K1 hK1 => (wt (oS rfl (Yk.box (cs := (rdkC (refP D, V) : List Value).toArray) T0 fun n2 w3 hn4 hb5 hx6 hs7 => ?_)))
 have hE := hE.trans hx6
 have hb8 := hb5; clear hb5
 have hl9 : n2 < w3.heap.size := by omega
 refine oS rfl (Yk.alloc (cs := (rdkC ((⟨false, 0, [], [], [], [], [], 0, 0, false⟩, ⟨.slice none 0 0, .slice none 0 0, .slice none 0 0, .slice none 0 0, .slice none 0 0⟩) : RdkV)).toArray) rd5_al50 fun n10 w11 hn12 hb13 hx14 hs15 => ?_)
 have hA16 := Ext.refl w3
 have hea17 := hE
 have hz18 := hE.size
 have hlt19 := lte (bl hb8) hn12
 have hE := hE.trans hx14
 have hb8 := eb hx14 hb8
 have hA16 := hA16.trans hx14
 have hb20 := hb13; clear hb13
 have hl21 : n10 < w11.heap.size := by omega
 refine oZ (tN (hK1 _ _ (sk fun K22 hK22 => (sk fun K23 hK23 => (wt (oS rfl (Yk.fieldAt rd5_fo50_0 (vr (PQ n2 0) rfl) (oS rfl (Yk.cell1 rd5_ty4 rfl (vr (PQ n2 0) rfl) (cellAt hb8 (show (rdkC (refP D, V))[0]? = some (.bool (true) : Value) from rdk_g0 (refP D, V))) (oS rfl (Yk.notB (vr (.bool (true)) rfl) (oZ ?_))))))))))))
 have hnl := hL.now
 have hkl := hL.kept
 have hal := hL.acts
 refine tN (hK23 _ _ (wpF_false (vr (.bool (false)) rfl) (wpF_skip (tN (hK22 _ _ (sk fun K24 hK24 => (wt ?_)))))))
 have hA29 := Ext.refl w11
 have hea30 := hE
 have hea31 := hA16
 have hz32 := hE.size
 have hz33 := hA16.size
 refine oS rfl (Yk.lit0G (k := 2) (enc := renC) rd5_l0_47 fun v25 w26 ho27 hx28 => ?_)
 have hap34 : OB v25 n2 := own_older ho27.2 (bl hb8)
 have hap35 : OB v25 n10 := own_older ho27.2 (bl hb20)
 have hE := hE.trans hx28
 have hb8 := eb hx28 hb8
 have hA16 := hA16.trans hx28
 have hb20 := eb hx28 hb20
 have hA29 := hA29.trans hx28
 refine oS rfl (Yk.fieldAt rd5_fo50_5 (vr (PQ n2 0) rfl) (oS rfl (Yk.cell1 rd5_ty47 rfl (vr (PQ n2 5) rfl) (cellAt hb8 (show (rdkC (refP D, V))[5]? = some (V.kept : Value) from rdk_g5 (refP D, V))) (oS rfl (Yk.appendRG _ _ w11.heap.size _ 24 rd5_ty47 rd5_ig89.choose_spec.1 rd5_ig89.choose_spec.2 rd5_ty47 ([]) (D.kept) (OG.of ho27 (vr v25 rfl)) (RG.of (hkept.keep hE) (vr V.kept rfl)) (fun _ _ => ren_one) (by first | omega | (simp only [List.length_append, List.length_singleton, List.length_map, List.length_nil]; omega)) (by first | omega | (simp only [List.length_append, List.length_singleton, List.length_map, List.length_nil]; omega)) hA29.size fun v36 w37 ho38 hg39 => ?_)))))
 have hg39 : Grew w26 w37 v25 v36 := hg39
 have hap40 : OB v36 n2 := apart_grew hg39 hap34 (bl hb8)
 have hap41 : OB v36 n10 := apart_grew hg39 hap35 (bl hb20)
 have hE := ext_grew hE hg39 ho27.2 hz32
 have hb8 := blk_grew hb8 hg39 hap34
 have hA16 := ext_grew hA16 hg39 ho27.2 hz33
 have hb20 := blk_grew hb20 hg39 hap35
 have hA29 := ext_grew hA29 hg39 ho27.2 (Nat.le_refl _)
 clear ho27
 refine oA rfl (oZ (tN (hK24 _ _ (sk fun K42 hK42 => (wt (oM rfl (oS rfl (Yk.fieldAt rd5_fo50_6 (vr (PQ n2 0) rfl) (oS rfl (Yk.cell1 rd5_ty48 rfl (vr (PQ n2 6) rfl) (cellAt hb8 (show (rdkC (refP D, V))[6]? = some (V.acts : Value) from rdk_g6 (refP D, V))) (oS rfl (Yk.lenRG rd5_ty48 (RG.of (hacts.keep hE) (vr V.acts rfl)) (oS rfl (Yk.bin (xv := NI ((D.acts).length)) (yv := NI 1) rfl rfl rfl (i64_add _ _ _ (by omega)) ?_))))))))))))))
 have hft4 := fateD_lt fs 0 (n := ((D.acts).length) + 1) (by omega)
 refine oS rfl (Yk.callA3 rd5_pl59 T1 (vr (NI 0) rfl) (vr (NI (((D.acts).length) + (1))) rfl) ((fate_any _ vf fs (hf.keep hE) 0 ((D.acts).length) (by omega) hfl).mono ?_))
 rintro e w44 ⟨rfl, hx43⟩
 refine ⟨_, rfl, ?_⟩
 have hE := hE.trans hx43
 have hb8 := eb hx43 hb8
 have hA16 := hA16.trans hx43
 have hb20 := eb hx43 hb20
 have hA29 := hA29.trans hx43
 have ho38 := ho38.keep hx43
 refine oA rfl (oZ (tN (hK42 _ _ (sk fun K45 hK45 => (sk fun K46 hK46 => (wt (oA rfl (oL_ [(0, .agg (rdkC (refP D, V)).toArray), (1, vf), (2, PQ n2 0), (4, PQ n10 0), (5, v36), (6, NI (fateD fs 0 (((D.acts).length) + 1))), (7, NI 0), (15, .bool (false))] ⟨T0, T1, rfl, rfl, rfl, rfl, rfl, rfl, trivial⟩ fun ρ47 ⟨T0, T1, T2, T4, T5, T6, T7, T15, _⟩ => ?_))))))))
 have ho38 := OG.low ho38 hz32
 refine tN (hK46 _ _ (wpF_block (wpF_loop (fun (ρ : Slots) (wz : World) => ∃ i : Nat, ∃ r : Value, ρ 0 = (.agg (rdkC (refP D, V)).toArray : Value) ∧ ρ 1 = (vf : Value) ∧ ρ 2 = (PQ n2 0 : Value) ∧ ρ 4 = (PQ n10 0 : Value) ∧ ρ 6 = (NI (fateD fs 0 (((D.acts).length) + 1)) : Value) ∧ ρ 15 = (.bool (false) : Value) ∧ ρ 7 = (NI i : Value) ∧ ρ 5 = (r : Value) ∧ Ext w wz ∧ wz.heap[n2]? = some (.cells (rdkC (refP D, V)).toArray 50 (0, 0)) ∧ Ext w3 wz ∧ wz.heap[n10]? = some (.cells (rdkC ((⟨false, 0, [], [], [], [], [], 0, 0, false⟩, ⟨.slice none 0 0, .slice none 0 0, .slice none 0 0, .slice none 0 0, .slice none 0 0⟩) : RdkV)).toArray 50 (0, 0)) ∧ OG w.heap.size 89 2 (renC) wz r (leftN D i) ∧ (i ≤ fateD fs 0 (D.acts.length + 1)) ∧ (OB r n2) ∧ (OB r n10) ∧ True) (fun ρ _ => fateD fs 0 (D.acts.length + 1) - (intOf (ρ 7)).toNat) ⟨0, v36, T0, T1, T2, T4, T6, T15, T7, T5, hE, hb8, hA16, hb20, og_eq ho38 (rfl), Nat.zero_le _, hap40, hap41, trivial⟩ ?_)))
 clear hA29
 clear ho38
 clear hE hb8 hA16 hb20
 rintro ρ48 w49 ⟨i, r, T0, T1, T2, T4, T6, T15, T7, T5, hE, hb8, hA16, hb20, hr_r, hi, hap_r_n2, hap_r_n10, -⟩
 have q7 := T7
 refine sk fun K50 hK50 => (sk fun K51 hK51 => (wt (oM rfl (oM rfl (oS rfl (Yk.eqI (a := (i : Nat)) (b := (fateD fs 0 (((D.acts).length) + 1) : Nat)) T7 T6 (k_lss _ _ _ _) (oZ (tN (hK51 _ _ ?_)))))))))
 refine wpF_cond ((i) < (fateD fs 0 (((D.acts).length) + 1))) (vr (.bool (decide ((i) < (fateD fs 0 (((D.acts).length) + 1))))) rfl) (fun hc1 => ?_) (fun hc1 => ?_)
 ·have hlt : i < D.acts.length := by have h := hc1; omega
  have hfl0 : (leftN D i).length < 1099511627776 := by have h := fold_len (D.acts.take i) D.kept; rw [List.length_take] at h; have h2 : (leftN D i).length ≤ D.kept.length + min i D.acts.length := h; omega
  refine wpF_skip (tN (hK50 _ _ (sk fun K52 hK52 => (wpF_block (wt (oM rfl (oS rfl (Yk.fieldAt rd5_fo50_6 T2 (oS rfl (Yk.cell1 rd5_ty48 rfl (vr (PQ n2 6) rfl) (cellAt hb8 (show (rdkC (refP D, V))[6]? = some (V.acts : Value) from rdk_g6 (refP D, V))) (oM rfl ?_)))))))))))
  have hl55 : (racC ((D.acts).getD (i) (⟨[], [], 0⟩ : ActD))).length = 3 := (RG.elem (hacts.keep hE) (⟨[], [], 0⟩ : ActD) (by omega))
  refine oS rfl (Yk.atRG rd5_ty48 rd5_szg98 (by decide) (⟨[], [], 0⟩ : ActD) (RG.of (hacts.keep hE) (vr V.acts rfl)) T7 (by omega) fun v53 hp54 => (oS rfl (Yk.loadPR (PR.of hp54 (vr v53 rfl)) (rd5_ty98).choose_spec rfl (by rw [rac_len]; exact rd5_isz98) ?_)))
  have hA59 := Ext.refl w49
  have hea60 := hE
  have hea61 := hA16
  have hz62 := hE.size
  have hz63 := hA16.size
  refine oS rfl (Yk.callA2 rd5_pl58 T5 (vr (.agg (racC ((D.acts).getD (i) (⟨[], [], 0⟩ : ActD))).toArray) rfl) ((turned_any _ r (leftN D i) ((D.acts).getD (i) (⟨[], [], 0⟩ : ActD)) (RG.ofOwn hr_r) hfl0).mono ?_))
  rintro e w64 ⟨v56, rfl, ho57, hx58⟩
  refine ⟨_, rfl, ?_⟩
  have hap65 : OB v56 n2 := own_older ho57.2 (bl hb8)
  have hap66 : OB v56 n10 := own_older ho57.2 (bl hb20)
  have hap67 : ApartV r v56 := apartv_new hr_r.2 ho57.2
  have hap68 : ApartV v56 r := apartv_new' hr_r.2 ho57.2
  have hE := hE.trans hx58
  have hb8 := eb hx58 hb8
  have hA16 := hA16.trans hx58
  have hb20 := eb hx58 hb20
  have hr_r := hr_r.keep hx58
  have hA59 := hA59.trans hx58
  refine oA rfl (oZ ?_)
  clear hp54
  have ho57 := OG.low ho57 hz62
  refine bN (tN (hK52 _ _ (wt (oM rfl (oS rfl (Yk.bin (xv := NI i) (yv := NI 1) T7 rfl rfl (i64_add _ _ _ (by omega)) (oA rfl (oL_ [(0, .agg (rdkC (refP D, V)).toArray), (1, vf), (2, PQ n2 0), (4, PQ n10 0), (5, v56), (6, NI (fateD fs 0 (((D.acts).length) + 1))), (7, NI ((i) + (1))), (15, .bool (false))] ⟨T0, T1, T2, T4, rfl, T6, rfl, T15, trivial⟩ fun ρ69 ⟨T0, T1, T2, T4, T5, T6, T7, T15, _⟩ => (tN (And.intro ⟨i + 1, v56, T0, T1, T2, T4, T6, T15, T7, T5, hE, hb8, hA16, hb20, og_eq ho57 ((leftN_succ hlt).symm), by omega, hap65, hap66, trivial⟩ ?_))))))))))
  show fateD fs 0 (D.acts.length + 1) - (intOf (ρ69 7)).toNat < fateD fs 0 (D.acts.length + 1) - (intOf (ρ48 7)).toNat
  rw [T7, q7]
  simp only [intOf, Int.toNat_natCast]; omega
 have hie : i = fateD fs 0 (D.acts.length + 1) := by have h := hc1; omega
 rw [hie, leftN_left] at hr_r
 have hleft := RG.ofOwn hr_r
 have hll : (leftD D fs).length < 1099511627776 := by have h := left_len D fs; omega
 have hlok := leftN_ok hok (fateD fs 0 (D.acts.length + 1))
 rw [leftN_left] at hlok
 have hvl : vs.length = D.files.length := by rw [hvs.len, List.length_map]
 have hA70 := Ext.refl w49
 have hea71 := hE
 have hea72 := hA16
 have hz73 := hE.size
 have hz74 := hA16.size
 refine wpF_exit (thenF_exit (thenF_exit (inBlockF_hit (tN (hK45 _ _ (sk fun K75 hK75 => (wt (oS rfl (Yk.fieldAt rd5_fo50_1 T2 (oS rfl (Yk.cell1 rd5_ty3 rfl (vr (PQ n2 1) rfl) (cellAt hb8 (show (rdkC (refP D, V))[1]? = some (NI D.quota : Value) from rdk_g1 (refP D, V))) (oS rfl (Yk.fieldAt rd5_fo50_7 T2 (oS rfl (Yk.cell1 rd5_ty3 rfl (vr (PQ n2 7) rfl) (cellAt hb8 (show (rdkC (refP D, V))[7]? = some (NI D.refused : Value) from rdk_g7 (refP D, V))) (oS rfl (Yk.build3 (vr (.bool (true)) rfl) (vr (NI D.quota) rfl) (vr (NI D.refused) rfl) (fun w => rd5_bs50_0_1_7 true ((D.quota : Nat) : Int) D.refused w) (oS rfl (Yk.alloc (cs := (rdkC ((⟨false, 0, [], [], [], [], [], 0, 0, false⟩, ⟨.slice none 0 0, .slice none 0 0, .slice none 0 0, .slice none 0 0, .slice none 0 0⟩) : RdkV)).toArray) rd5_al50 fun n76 w77 hn78 hb79 hx80 hs81 => ?_)))))))))))))))))))
 have hlt82 := lte (bl hb8) hn78
 have hlt83 := lte (bl hb20) hn78
 have hE := hE.trans hx80
 have hb8 := eb hx80 hb8
 have hA16 := hA16.trans hx80
 have hb20 := eb hx80 hb20
 have hA70 := hA70.trans hx80
 have hb84 := hb79; clear hb79
 have hl85 : n76 < w77.heap.size := by omega
 refine oS rfl (Yk.storeAll (vr (PQ n76 0) rfl) (vr (.agg (rdkC ((⟨true, ((D.quota : Nat) : Int), [], [], [], [], [], D.refused, 0, false⟩, ⟨(Value.slice none 0 0), (Value.slice none 0 0), (Value.slice none 0 0), (Value.slice none 0 0), (Value.slice none 0 0)⟩) : RdkV)).toArray) rfl) hb84 (by simp only [List.size_toArray, rdk_len]) (st_isz (rdk_len _) rd5_isz50) (rdk_one (x := ((⟨true, ((D.quota : Nat) : Int), [], [], [], [], [], D.refused, 0, false⟩, ⟨(Value.slice none 0 0), (Value.slice none 0 0), (Value.slice none 0 0), (Value.slice none 0 0), (Value.slice none 0 0)⟩) : RdkV)) rfl rfl rfl rfl rfl) fun w86 hb87 hg88 hs89 => ?_)
 have hE := row_fresh hE hg88 (Nat.le_trans hz73 (by omega))
 have hb8 := kb hg88 hb8 (by omega)
 have hA16 := row_fresh hA16 hg88 (Nat.le_trans hz74 (by omega))
 have hb20 := kb hg88 hb20 (by omega)
 have hA70 := row_fresh hA70 hg88 (Nat.le_trans (Nat.le_refl _) (by omega))
 clear hb84
 have hb84 : w86.heap[n76]? = some (.cells (rdkC ((⟨true, ((D.quota : Nat) : Int), [], [], [], [], [], D.refused, 0, false⟩, ⟨(Value.slice none 0 0), (Value.slice none 0 0), (Value.slice none 0 0), (Value.slice none 0 0), (Value.slice none 0 0)⟩) : RdkV)).toArray 50 (0, 0)) := hb87; clear hb87
 have hl90 := bl hb84
 refine oZ (tN (hK75 _ _ (sk fun K91 hK91 => (sk fun K92 hK92 => (wt (oA rfl (oL_ [(0, .agg (rdkC (refP D, V)).toArray), (1, vf), (2, PQ n2 0), (4, PQ n10 0), (5, r), (6, NI (fateD fs 0 (((D.acts).length) + 1))), (7, NI i), (8, PQ n76 0), (9, NI 0), (15, .bool (false))] ⟨T0, T1, T2, T4, T5, T6, T7, rfl, rfl, T15, trivial⟩ fun ρ93 ⟨T0, T1, T2, T4, T5, T6, T7, T8, T9, T15, _⟩ => (tN (hK92 _ _ (wpF_block (wpF_loop (fun (ρ : Slots) (wz : World) => ∃ j : Nat, ∃ rf : Value, ∃ rs : Value, ∃ rn : Value, ∃ us : List Value, ρ 0 = (.agg (rdkC (refP D, V)).toArray : Value) ∧ ρ 1 = (vf : Value) ∧ ρ 2 = (PQ n2 0 : Value) ∧ ρ 4 = (PQ n10 0 : Value) ∧ ρ 5 = (r : Value) ∧ ρ 6 = (NI (fateD fs 0 (((D.acts).length) + 1)) : Value) ∧ ρ 7 = (NI i : Value) ∧ ρ 8 = (PQ n76 0 : Value) ∧ ρ 15 = (.bool (false) : Value) ∧ ρ 9 = (NI j : Value) ∧ Ext w wz ∧ wz.heap[n2]? = some (.cells (rdkC (refP D, V)).toArray 50 (0, 0)) ∧ Ext w3 wz ∧ wz.heap[n10]? = some (.cells (rdkC ((⟨false, 0, [], [], [], [], [], 0, 0, false⟩, ⟨.slice none 0 0, .slice none 0 0, .slice none 0 0, .slice none 0 0, .slice none 0 0⟩) : RdkV)).toArray 50 (0, 0)) ∧ Ext w49 wz ∧ wz.heap[n76]? = some (.cells (rdkC ((⟨true, ((D.quota : Nat) : Int), [], [], [], [], [], D.refused, 0, false⟩, ⟨rf, rs, rn, (Value.slice none 0 0), (Value.slice none 0 0)⟩) : RdkV)).toArray 50 (0, 0)) ∧ OG w49.heap.size 24 1 (enV) wz rf us ∧ OG w49.heap.size 3 1 (enI) wz rs ((cutN D fs (leftD D fs) j).map fun x => ((x.2 : Nat) : Int)) ∧ OG w49.heap.size 89 2 (renC) wz rn (numN (leftD D fs) j) ∧ RowsO w49.heap.size wz us ((cutN D fs (leftD D fs) j).map Prod.fst) ∧ (j ≤ (leftD D fs).length) ∧ True) (fun ρ _ => (leftD D fs).length - (intOf (ρ 9)).toNat) ⟨0, (Value.slice none 0 0), (Value.slice none 0 0), (Value.slice none 0 0), [], T0, T1, T2, T4, T5, T6, T7, T8, T15, T9, hE, hb8, hA16, hb20, hA70, hb84, OG.nil _ _ _ _ _, OG.nil _ _ _ _ _, OG.nil _ _ _ _ _, RowsO.nil _ _, Nat.zero_le _, trivial⟩ ?_)))))))))))
 clear hb84
 clear hE hb8 hA16 hb20 hA70
 rintro ρ94 w95 ⟨j, rf, rs, rn, us, T0, T1, T2, T4, T5, T6, T7, T8, T15, T9, hE, hb8, hA16, hb20, hA70, hbk, hrf, hrs, hrn, hFs, hj, -⟩
 have q9 := T9
 have hlen1 := cutN_len D fs (leftD D fs) hj
 have hul : us.length = j := by rw [hFs.len, List.length_map]; exact hlen1
 have hnum : (numN (leftD D fs) j).length = j := numN_len _ hj
 have hap96 : ApartV rf rs := apartv_tag hrf.2 hrs.2 (by decide)
 have hap97 : ApartV rf rn := apartv_tag hrf.2 hrn.2 (by decide)
 have hap98 : OB rf n2 := offv_tag hrf.2 hb8 (by decide)
 have hap99 : OB rf n10 := offv_tag hrf.2 hb20 (by decide)
 have hap100 : OB rf n76 := offv_tag hrf.2 hbk (by decide)
 have hap101 : ApartV rs rf := apartv_tag hrs.2 hrf.2 (by decide)
 have hap102 : ApartV rs rn := apartv_tag hrs.2 hrn.2 (by decide)
 have hap103 : OB rs n2 := offv_tag hrs.2 hb8 (by decide)
 have hap104 : OB rs n10 := offv_tag hrs.2 hb20 (by decide)
 have hap105 : OB rs n76 := offv_tag hrs.2 hbk (by decide)
 have hap106 : ApartV rn rf := apartv_tag hrn.2 hrf.2 (by decide)
 have hap107 : ApartV rn rs := apartv_tag hrn.2 hrs.2 (by decide)
 have hap108 : OB rn n2 := offv_tag hrn.2 hb8 (by decide)
 have hap109 : OB rn n10 := offv_tag hrn.2 hb20 (by decide)
 have hap110 : OB rn n76 := offv_tag hrn.2 hbk (by decide)
 refine sk fun K111 hK111 => (sk fun K112 hK112 => (wt (oM rfl (oM rfl (oS rfl (Yk.lenRG rd5_ty47 (RG.of (hleft.keep hA70) T5) (oS rfl (Yk.eqI (a := (j : Nat)) (b := (((leftD D fs)).length : Nat)) T9 rfl (k_lss _ _ _ _) (oZ (tN (hK112 _ _ ?_)))))))))))
 refine wpF_cond ((j) < (((leftD D fs)).length)) (vr (.bool (decide ((j) < (((leftD D fs)).length)))) rfl) (fun hc2 => ?_) (fun hc2 => ?_)
 ·have hlt : j < (leftD D fs).length := hc2
  have hkn := hlok.num _ (getD_mem_ (d := ([], 0)) hlt)
  have hfk := (hvs.at_ ((leftD D fs).getD (j) (([], 0) : List UInt8 × Nat)).2 (by rw [List.length_map]; exact hkn)).1
  rw [getD_mapR (d := (([], 0) : List UInt8 × Nat)) rfl] at hfk
  have hfb := hL.files _ (getD_mem_ (d := ([], 0)) hkn)
  have hsy := hok.sync_le ((leftD D fs).getD (j) (([], 0) : List UInt8 × Nat)).2
  have hlf : (D.files.getD ((leftD D fs).getD (j) (([], 0) : List UInt8 × Nat)).2 ([], 0)).1.length = (fileD D ((leftD D fs).getD (j) (([], 0) : List UInt8 × Nat)).2).1.length := rfl
  have hsl : (D.files.map fun x => ((x.2 : Nat) : Int)).length = D.files.length := List.length_map _
  refine wpF_skip (tN (hK111 _ _ (sk fun K113 hK113 => (wpF_block (sk fun K114 hK114 => ?_)))))
  refine wpF_draw [Is (PQ n2 2), Is (V.files), Is (r), Is (NI j), fun x w' => PR (renC (((leftD D fs)).getD (j) (([], 0) : List UInt8 × Nat))) x w', PCell (NI ((((leftD D fs)).getD (j) (([], 0) : List UInt8 × Nat)).2)), Is (NI ((((leftD D fs)).getD (j) (([], 0) : List UInt8 × Nat)).2)), fun x w' => PR (enV (vs.getD ((((leftD D fs)).getD (j) (([], 0) : List UInt8 × Nat)).2) undef)) x w', Is (vs.getD ((((leftD D fs)).getD (j) (([], 0) : List UInt8 × Nat)).2) undef), Is (PQ n2 3), Is (V.synced), Is (r), Is (NI j), fun x w' => PR (renC (((leftD D fs)).getD (j) (([], 0) : List UInt8 × Nat))) x w', PCell (NI ((((leftD D fs)).getD (j) (([], 0) : List UInt8 × Nat)).2)), Is (NI ((((leftD D fs)).getD (j) (([], 0) : List UInt8 × Nat)).2)), fun x w' => PR (enI (((D.files.map fun x => ((x.2 : Nat) : Int))).getD ((((leftD D fs)).getD (j) (([], 0) : List UInt8 × Nat)).2) (0 : Int))) x w', Is (.int .i64 (((D.files.map fun x => ((x.2 : Nat) : Int))).getD ((((leftD D fs)).getD (j) (([], 0) : List UInt8 × Nat)).2) (0 : Int) : Int)), Is (vs.getD ((((leftD D fs)).getD (j) (([], 0) : List UInt8 × Nat)).2) undef), Is (.int .i64 (((D.files.map fun x => ((x.2 : Nat) : Int))).getD ((((leftD D fs)).getD (j) (([], 0) : List UInt8 × Nat)).2) (0 : Int) : Int))] (by kernel_rfl) [50, 51, 52, 53, 54, 55, 56, 57, 58, 59, 60, 61, 62, 63, 64, 65, 66, 67, 10, 11] (by kernel_rfl) (by kernel_rfl) (si4 ⟨(fun _ _ _ h k => PR.keep h k), Stab.pcell _, Stab.is _, (fun _ _ _ h k => PR.keep h k), (si5 ⟨(fun _ _ _ h k => PR.keep h k), Stab.pcell _, Stab.is _, (fun _ _ _ h k => PR.keep h k), (si3 trivial)⟩)⟩) ?hs1013 ?hQ1013
  case hs1013 =>
   refine ⟨?_, ?_, ?_, ?_, ?_, ?_, ?_, ?_, ?_, ?_, ?_, ?_, ?_, ?_, ?_, ?_, ?_, ?_, ?_, ?_, trivial⟩
   ·refine stepN rfl fun σ w1 hC h => ?_
    have e2 := (eqo (h 2 (by decide))).trans T2
    exact Yk.fieldAt rd5_fo50_2 e2 ⟨Ext.refl _, rfl⟩
   ·refine stepN rfl fun σ w1 hC h => ?_
    have e50 := eqo (h 50 (by decide))
    exact Yk.cell1 rd5_ty23 rfl e50 (cellAt (eb hC hb8) (show (rdkC (refP D, V))[2]? = some (V.files : Value) from rdk_g2 (refP D, V))) ⟨Ext.refl _, rfl⟩
   ·refine stepN rfl fun σ w1 hC h => ?_
    have e5 := (eqo (h 5 (by decide))).trans T5
    exact Yk.move e5 ⟨Ext.refl _, rfl⟩
   ·refine stepN rfl fun σ w1 hC h => ?_
    have e9 := (eqo (h 9 (by decide))).trans T9
    exact Yk.move e9 ⟨Ext.refl _, rfl⟩
   ·refine stepN rfl fun σ w1 hC h => ?_
    have e52 := eqo (h 52 (by decide))
    have e53 := eqo (h 53 (by decide))
    exact Yk.atRG rd5_ty47 rd5_szg89 (by decide) (([], 0) : List UInt8 × Nat) (RG.of (hleft.keep (hA70.trans hC)) e52) e53 (by omega) fun v h => ⟨Ext.refl _, h⟩
   ·refine stepN rfl fun σ w1 hC h => ?_
    have e54 : (fun x w' => PR (renC (((leftD D fs)).getD (j) (([], 0) : List UInt8 × Nat))) x w') (σ 54) w1 := h 54 (by decide)
    exact Yk.fieldPR (n := 1) rd5_fo89_1 e54 fun v h => ⟨Ext.refl _, PR.pcell (by rw [ren_f1] at h; exact h)⟩
   ·refine stepN rfl fun σ w1 hC h => ?_
    have e55 : (PCell (NI ((((leftD D fs)).getD (j) (([], 0) : List UInt8 × Nat)).2))) (σ 55) w1 := h 55 (by decide)
    exact Yk.loadC rd5_ty3 rfl e55 ⟨Ext.refl _, rfl⟩
   ·refine stepN rfl fun σ w1 hC h => ?_
    have e51 := eqo (h 51 (by decide))
    have e56 := eqo (h 56 (by decide))
    exact Yk.atRG rd5_ty23 rd5_szg24 (by decide) undef (RG.of (hfiles.keep (hE.trans hC)) e51) e56 (by omega) fun v h => ⟨Ext.refl _, h⟩
   ·refine stepN rfl fun σ w1 hC h => ?_
    have e57 : (fun x w' => PR (enV (vs.getD ((((leftD D fs)).getD (j) (([], 0) : List UInt8 × Nat)).2) undef)) x w') (σ 57) w1 := h 57 (by decide)
    exact Yk.loadC rd5_ty24 rfl (PR.cell e57 (show _ = some (vs.getD ((((leftD D fs)).getD (j) (([], 0) : List UInt8 × Nat)).2) undef : Value) from rfl)) ⟨Ext.refl _, rfl⟩
   ·refine stepN rfl fun σ w1 hC h => ?_
    have e2 := (eqo (h 2 (by decide))).trans T2
    exact Yk.fieldAt rd5_fo50_3 e2 ⟨Ext.refl _, rfl⟩
   ·refine stepN rfl fun σ w1 hC h => ?_
    have e59 := eqo (h 59 (by decide))
    exact Yk.cell1 rd5_ty25 rfl e59 (cellAt (eb hC hb8) (show (rdkC (refP D, V))[3]? = some (V.synced : Value) from rdk_g3 (refP D, V))) ⟨Ext.refl _, rfl⟩
   ·refine stepN rfl fun σ w1 hC h => ?_
    have e5 := (eqo (h 5 (by decide))).trans T5
    exact Yk.move e5 ⟨Ext.refl _, rfl⟩
   ·refine stepN rfl fun σ w1 hC h => ?_
    have e9 := (eqo (h 9 (by decide))).trans T9
    exact Yk.move e9 ⟨Ext.refl _, rfl⟩
   ·refine stepN rfl fun σ w1 hC h => ?_
    have e61 := eqo (h 61 (by decide))
    have e62 := eqo (h 62 (by decide))
    exact Yk.atRG rd5_ty47 rd5_szg89 (by decide) (([], 0) : List UInt8 × Nat) (RG.of (hleft.keep (hA70.trans hC)) e61) e62 (by omega) fun v h => ⟨Ext.refl _, h⟩
   ·refine stepN rfl fun σ w1 hC h => ?_
    have e63 : (fun x w' => PR (renC (((leftD D fs)).getD (j) (([], 0) : List UInt8 × Nat))) x w') (σ 63) w1 := h 63 (by decide)
    exact Yk.fieldPR (n := 1) rd5_fo89_1 e63 fun v h => ⟨Ext.refl _, PR.pcell (by rw [ren_f1] at h; exact h)⟩
   ·refine stepN rfl fun σ w1 hC h => ?_
    have e64 : (PCell (NI ((((leftD D fs)).getD (j) (([], 0) : List UInt8 × Nat)).2))) (σ 64) w1 := h 64 (by decide)
    exact Yk.loadC rd5_ty3 rfl e64 ⟨Ext.refl _, rfl⟩
   ·refine stepN rfl fun σ w1 hC h => ?_
    have e60 := eqo (h 60 (by decide))
    have e65 := eqo (h 65 (by decide))
    exact Yk.atRG rd5_ty25 rd5_szg3 (by decide) (0 : Int) (RG.of (hsynced.keep (hE.trans hC)) e60) e65 (by rw [hsl]; exact hkn) fun v h => ⟨Ext.refl _, h⟩
   ·refine stepN rfl fun σ w1 hC h => ?_
    have e66 : (fun x w' => PR (enI (((D.files.map fun x => ((x.2 : Nat) : Int))).getD ((((leftD D fs)).getD (j) (([], 0) : List UInt8 × Nat)).2) (0 : Int))) x w') (σ 66) w1 := h 66 (by decide)
    exact Yk.loadC rd5_ty3 rfl (PR.cell e66 (show _ = some (.int .i64 (((D.files.map fun x => ((x.2 : Nat) : Int))).getD ((((leftD D fs)).getD (j) (([], 0) : List UInt8 × Nat)).2) (0 : Int) : Int) : Value) from rfl)) ⟨Ext.refl _, rfl⟩
   ·refine stepN rfl fun σ w1 hC h => ?_
    have e58 := eqo (h 58 (by decide))
    exact Yk.assign e58 ⟨Ext.refl _, rfl⟩
   ·refine stepN rfl fun σ w1 hC h => ?_
    have e67 := eqo (h 67 (by decide))
    exact Yk.assign e67 ⟨Ext.refl _, rfl⟩
  intro ρ115 w116 hx117 he hf
  obtain ⟨-, -, -, -, -, -, -, -, -, -, -, -, -, -, -, -, -, -, k10, k11, -⟩ := hf
  obtain ⟨T0, T1, T2, T4, T5, T6, T7, T8, T9, T15, -⟩ := he.hold [(0, _), (1, _), (2, _), (4, _), (5, _), (6, _), (7, _), (8, _), (9, _), (15, _)] ⟨T0, T1, T2, T4, T5, T6, T7, T8, T9, T15, trivial⟩ rfl
  clear he
  have hE := hE.trans hx117
  have hb8 := eb hx117 hb8
  have hA16 := hA16.trans hx117
  have hb20 := eb hx117 hb20
  have hA70 := hA70.trans hx117
  have hbk := eb hx117 hbk
  have hrf := hrf.keep hx117
  have hrs := hrs.keep hx117
  have hrn := hrn.keep hx117
  have hFs : RowsO w49.heap.size w116 us ((cutN D fs (leftD D fs) j).map Prod.fst) := (hFs.keep hx117)
  have T10 : ρ115 10 = vs.getD ((((leftD D fs)).getD (j) (([], 0) : List UInt8 × Nat)).2) undef := k10
  have T11 : ρ115 11 = .int .i64 (((D.files.map fun x => ((x.2 : Nat) : Int))).getD ((((leftD D fs)).getD (j) (([], 0) : List UInt8 × Nat)).2) (0 : Int) : Int) := k11
  clear k10 k11
  refine tN (hK114 _ _ (sk fun K118 hK118 => (wt (oM rfl (oM rfl (oM rfl (oS rfl (Yk.bin (xv := NI j) (yv := NI 1) T9 rfl rfl (i64_add _ _ _ (by omega)) (oM rfl (oS rfl (Yk.lenRB rd5_ty24 (RB.of (hfk.keep hE) T10) (oM rfl (oS rfl (Yk.bin (xv := NI (((D.files.getD ((leftD D fs).getD (j) (([], 0) : List UInt8 × Nat)).2 ([], 0)).1 : List UInt8).length)) (yv := NI ((fileD D ((leftD D fs).getD (j) (([], 0) : List UInt8 × Nat)).2).2)) rfl (vr (NI ((fileD D ((leftD D fs).getD (j) (([], 0) : List UInt8 × Nat)).2).2)) (T11.trans (congrArg (Value.int .i64) (getD_mapR (f := fun x : List UInt8 × Nat => ((x.2 : Nat) : Int)) (d := ([], 0)) rfl)))) rfl (i64_sub _ _ _ (by omega) (by rw [hlf]; omega)) (oS rfl (Yk.bin (xv := NI ((((D.files.getD ((leftD D fs).getD (j) (([], 0) : List UInt8 × Nat)).2 ([], 0)).1 : List UInt8).length) - ((fileD D ((leftD D fs).getD (j) (([], 0) : List UInt8 × Nat)).2).2))) (yv := NI 1) rfl rfl rfl (i64_add _ _ _ (by omega)) ?_))))))))))))))))
  have hft14 := fateD_lt fs ((j) + (1)) (n := ((((D.files.getD ((leftD D fs).getD (j) (([], 0) : List UInt8 × Nat)).2 ([], 0)).1 : List UInt8).length) - ((fileD D ((leftD D fs).getD (j) (([], 0) : List UInt8 × Nat)).2).2)) + 1) (by omega)
  refine oS rfl (Yk.callA3 rd5_pl59 T1 (vr (NI ((j) + (1))) rfl) (vr (NI (((((D.files.getD ((leftD D fs).getD (j) (([], 0) : List UInt8 × Nat)).2 ([], 0)).1 : List UInt8).length) - ((fileD D ((leftD D fs).getD (j) (([], 0) : List UInt8 × Nat)).2).2)) + (1))) rfl) ((fate_any _ vf fs (hf.keep hE) ((j) + (1)) ((((D.files.getD ((leftD D fs).getD (j) (([], 0) : List UInt8 × Nat)).2 ([], 0)).1 : List UInt8).length) - ((fileD D ((leftD D fs).getD (j) (([], 0) : List UInt8 × Nat)).2).2)) (by omega) hfl).mono ?_))
  rintro e w120 ⟨rfl, hx119⟩
  refine ⟨_, rfl, ?_⟩
  have hE := hE.trans hx119
  have hb8 := eb hx119 hb8
  have hA16 := hA16.trans hx119
  have hb20 := eb hx119 hb20
  have hA70 := hA70.trans hx119
  have hbk := eb hx119 hbk
  have hrf := hrf.keep hx119
  have hrs := hrs.keep hx119
  have hrn := hrn.keep hx119
  have hFs : RowsO w49.heap.size w120 us ((cutN D fs (leftD D fs) j).map Prod.fst) := (hFs.keep hx119)
  refine oS rfl (Yk.bin (xv := NI ((fileD D ((leftD D fs).getD (j) (([], 0) : List UInt8 × Nat)).2).2)) (yv := NI (fateD fs ((j) + (1)) (((((D.files.getD ((leftD D fs).getD (j) (([], 0) : List UInt8 × Nat)).2 ([], 0)).1 : List UInt8).length) - ((fileD D ((leftD D fs).getD (j) (([], 0) : List UInt8 × Nat)).2).2)) + 1))) (vr (NI ((fileD D ((leftD D fs).getD (j) (([], 0) : List UInt8 × Nat)).2).2)) (T11.trans (congrArg (Value.int .i64) (getD_mapR (f := fun x : List UInt8 × Nat => ((x.2 : Nat) : Int)) (d := ([], 0)) rfl)))) rfl rfl (i64_add _ _ _ (by omega)) (oA rfl (oL_ [(0, .agg (rdkC (refP D, V)).toArray), (1, vf), (2, PQ n2 0), (4, PQ n10 0), (5, r), (6, NI (fateD fs 0 (((D.acts).length) + 1))), (7, NI i), (8, PQ n76 0), (9, NI j), (10, vs.getD ((((leftD D fs)).getD (j) (([], 0) : List UInt8 × Nat)).2) undef), (11, NI ((fileD D ((leftD D fs).getD (j) (([], 0) : List UInt8 × Nat)).2).2)), (12, NI (((fileD D ((leftD D fs).getD (j) (([], 0) : List UInt8 × Nat)).2).2) + (fateD fs ((j) + (1)) (((((D.files.getD ((leftD D fs).getD (j) (([], 0) : List UInt8 × Nat)).2 ([], 0)).1 : List UInt8).length) - ((fileD D ((leftD D fs).getD (j) (([], 0) : List UInt8 × Nat)).2).2)) + 1)))), (15, .bool (false))] ⟨T0, T1, T2, T4, T5, T6, T7, T8, T9, T10, (T11.trans (congrArg (Value.int .i64) (getD_mapR (f := fun x : List UInt8 × Nat => ((x.2 : Nat) : Int)) (d := ([], 0)) rfl))), rfl, T15, trivial⟩ fun ρ121 ⟨T0, T1, T2, T4, T5, T6, T7, T8, T9, T10, T11, T12, T15, _⟩ => ?_)))
  have hcut : cutD D fs j ((leftD D fs).getD (j) (([], 0) : List UInt8 × Nat)).2 = ((fileD D ((leftD D fs).getD (j) (([], 0) : List UInt8 × Nat)).2).1.take ((fileD D ((leftD D fs).getD (j) (([], 0) : List UInt8 × Nat)).2).2 + (fateD fs (j + 1) (((((D.files.getD ((leftD D fs).getD (j) (([], 0) : List UInt8 × Nat)).2 ([], 0)).1 : List UInt8).length) - ((fileD D ((leftD D fs).getD (j) (([], 0) : List UInt8 × Nat)).2).2)) + 1))), (fileD D ((leftD D fs).getD (j) (([], 0) : List UInt8 × Nat)).2).2 + (fateD fs (j + 1) (((((D.files.getD ((leftD D fs).getD (j) (([], 0) : List UInt8 × Nat)).2 ([], 0)).1 : List UInt8).length) - ((fileD D ((leftD D fs).getD (j) (([], 0) : List UInt8 × Nat)).2).2)) + 1))) := rfl
  obtain ⟨nn, hnn⟩ : ∃ n, n = (fileD D ((leftD D fs).getD (j) (([], 0) : List UInt8 × Nat)).2).2 + (fateD fs (j + 1) (((((D.files.getD ((leftD D fs).getD (j) (([], 0) : List UInt8 × Nat)).2 ([], 0)).1 : List UInt8).length) - ((fileD D ((leftD D fs).getD (j) (([], 0) : List UInt8 × Nat)).2).2)) + 1)) := ⟨_, rfl⟩
  have hnl2 : nn ≤ (D.files.getD ((leftD D fs).getD (j) (([], 0) : List UInt8 × Nat)).2 ([], 0)).1.length := by rw [hnn]; have h9 := hft14; omega
  obtain ⟨ao, cc, hrun, hRd⟩ := reslice_hi rd5_ty24 rd5_sz5 hfk .i64 hnl2
  rw [← hnn] at hcut
  have hA122 := Ext.refl w120
  have hea123 := hE
  have hea124 := hA16
  have hea125 := hA70
  have hz126 := hE.size
  have hz127 := hA16.size
  have hz128 := hA70.size
  have hFs0 := hFs
  have hz15 := hA70.size
  refine tN (hK118 _ _ (sk fun K129 hK129 => ?_))
  have hx130 : Ext w120 (World.drew w120) := (Below.refl _ _).drew
  have hE := hE.trans hx130
  have hb8 := eb hx130 hb8
  have hA16 := hA16.trans hx130
  have hb20 := eb hx130 hb20
  have hA70 := hA70.trans hx130
  have hbk := eb hx130 hbk
  have hrf := hrf.keep hx130
  have hrs := hrs.keep hx130
  have hrn := hrn.keep hx130
  have hA122 := hA122.trans hx130
  refine wpF_float [(0, 79, PQ n76 2), (1, 80, rf), (3, 82, vs.getD ((((leftD D fs)).getD (j) (([], 0) : List UInt8 × Nat)).2) undef), (4, 83, NI nn), (5, 84, .slice ao nn cc)] [2, 6, 7, 8, 9, 10] (fun wz => Ext w wz ∧ wz.heap[n2]? = some (.cells (rdkC (refP D, V)).toArray 50 (0, 0)) ∧ wz.heap[n10]? = some (.cells (rdkC ((⟨false, 0, [], [], [], [], [], 0, 0, false⟩, ⟨.slice none 0 0, .slice none 0 0, .slice none 0 0, .slice none 0 0, .slice none 0 0⟩) : RdkV)).toArray 50 (0, 0)) ∧ wz.heap[n76]? = some (.cells (rdkC ((⟨true, ((D.quota : Nat) : Int), [], [], [], [], [], D.refused, 0, false⟩, ⟨rf, rs, rn, (Value.slice none 0 0), (Value.slice none 0 0)⟩) : RdkV)).toArray 50 (0, 0)) ∧ True) (by kernel_rfl) (by kernel_rfl) (by kernel_rfl) ⟨hE, hb8, hb20, hbk, trivial⟩ ⟨fun w131 ⟨hE, hb8, hb20, hbk, _⟩ => Yk.fieldAt rd5_fo50_2 T8 ⟨rfl, rfl⟩, fun w131 ⟨hE, hb8, hb20, hbk, _⟩ => Yk.cell1 rd5_ty23 rfl (vr (PQ n76 2) rfl) (cellAt hbk (show (rdkC ((⟨true, ((D.quota : Nat) : Int), [], [], [], [], [], D.refused, 0, false⟩, ⟨rf, rs, rn, (Value.slice none 0 0), (Value.slice none 0 0)⟩) : RdkV))[2]? = some (rf : Value) from rdk_g2 ((⟨true, ((D.quota : Nat) : Int), [], [], [], [], [], D.refused, 0, false⟩, ⟨rf, rs, rn, (Value.slice none 0 0), (Value.slice none 0 0)⟩) : RdkV))) ⟨rfl, rfl⟩, fun w131 ⟨hE, hb8, hb20, hbk, _⟩ => Yk.move T10 ⟨rfl, rfl⟩, fun w131 ⟨hE, hb8, hb20, hbk, _⟩ => Yk.move (vr (NI nn) (T12.trans (congrArg NI hnn.symm))) ⟨rfl, rfl⟩, fun w131 ⟨hE, hb8, hb20, hbk, _⟩ => Yk.sliceHiR (vr (vs.getD ((((leftD D fs)).getD (j) (([], 0) : List UInt8 × Nat)).2) undef) rfl) (vr (NI nn) rfl) hrun ⟨rfl, rfl⟩, trivial⟩ (chF_step rfl (Yk.lit0 rd5_l0_24 fun v132 w133 hN134 => ?_))
  have hA135 := Ext.refl (World.drew w120)
  have hea136 := hE
  have hea137 := hA16
  have hea138 := hA70
  have hea139 := hA122
  have hz140 : w.heap.size ≤ (World.drew w120).heap.size := hE.size
  have hz141 : w3.heap.size ≤ (World.drew w120).heap.size := hA16.size
  have hz142 : w49.heap.size ≤ (World.drew w120).heap.size := hA70.size
  have hz143 : w120.heap.size ≤ (World.drew w120).heap.size := hA122.size
  have hap144 : OB v132 n2 := own_older hN134.own (bl hb8)
  have hap145 : OB v132 n10 := own_older hN134.own (bl hb20)
  have hap146 : OB v132 n76 := own_older hN134.own (bl hbk)
  have hap147 : ApartV rf v132 := apartv_new hrf.2 hN134.own
  have hap148 : ApartV v132 rf := apartv_new' hrf.2 hN134.own
  have hap149 : ApartV rs v132 := apartv_new hrs.2 hN134.own
  have hap150 : ApartV v132 rs := apartv_new' hrs.2 hN134.own
  have hap151 : ApartV rn v132 := apartv_new hrn.2 hN134.own
  have hap152 : ApartV v132 rn := apartv_new' hrn.2 hN134.own
  have hE := hE.trans hN134.ext
  have hb8 := eb hN134.ext hb8
  have hA16 := hA16.trans hN134.ext
  have hb20 := eb hN134.ext hb20
  have hA70 := hA70.trans hN134.ext
  have hbk := eb hN134.ext hbk
  have hrf := hrf.keep hN134.ext
  have hrs := hrs.keep hN134.ext
  have hrn := hrn.keep hN134.ext
  have hA122 := hA122.trans hN134.ext
  have hA135 := hA135.trans hN134.ext
  have ho153 := hN134.own; clear hN134
  have hsz15 : w120.heap.size ≤ (World.drew w120).heap.size := (show Ext w120 (World.drew w120) from (Below.refl _ _).drew).size
  refine ⟨.inr ⟨hE, hb8, hb20, hbk, trivial⟩, ?_⟩
  refine chF_step rfl (Yk.appendRB _ _ (World.drew w120).heap.size (.int .u8 0) rd5_ty24 rd5_inf5 rfl rd5_ty24 (([] : List UInt8)) ((List.take nn (D.files.getD ((leftD D fs).getD (j) (([], 0) : List UInt8 × Nat)).2 ([], 0)).1)) (own_of ho153 (vr v132 rfl)) (RB.of (hRd.keep hE) (vr (.slice ao nn cc) rfl)) (by simp only [List.length_nil, List.length_take]; omega) hA135.size fun v154 w155 ho156 hg157 => ?_)
  have hg157 : Grew w133 w155 v132 v154 := hg157
  have hap158 : OB v154 n2 := apart_grew hg157 hap144 (bl hb8)
  have hap159 : OB v154 n10 := apart_grew hg157 hap145 (bl hb20)
  have hap160 : OB v154 n76 := apart_grew hg157 hap146 (bl hbk)
  have hap161 : ApartV v154 rf := apartv_grew hg157 hap148 hrf.2
  have hap162 : ApartV rf v154 := fun k h1 h2 => hap161 k h2 h1
  have hap163 : ApartV v154 rs := apartv_grew hg157 hap150 hrs.2
  have hap164 : ApartV rs v154 := fun k h1 h2 => hap163 k h2 h1
  have hap165 : ApartV v154 rn := apartv_grew hg157 hap152 hrn.2
  have hap166 : ApartV rn v154 := fun k h1 h2 => hap165 k h2 h1
  have hE := ext_grew hE hg157 ho153 hz140
  have hb8 := blk_grew hb8 hg157 hap144
  have hA16 := ext_grew hA16 hg157 ho153 hz141
  have hb20 := blk_grew hb20 hg157 hap145
  have hA70 := ext_grew hA70 hg157 ho153 hz142
  have hbk := blk_grew hbk hg157 hap146
  have hrf := og_grew hrf hg157 hap148
  have hrs := og_grew hrs hg157 hap150
  have hrn := og_grew hrn hg157 hap152
  have hA122 := ext_grew hA122 hg157 ho153 hz143
  have hA135 := ext_grew hA135 hg157 ho153 (Nat.le_refl _)
  clear ho153
  have hve := RB.slice (RB.ofOwn ho156)
  have hve1 := (own_one ho156).2
  have hpart : ∀ i, i < ((cutN D fs (leftD D fs) j).map Prod.fst).length → ∀ x, (us.getD i undef).ownBlock = some x → OB v154 x := fun i hi x hx e => by have h1 := ((hFs0.own i hi).lt x hx).2; have h2 := (ho156.lt x e).1; have h3 : w120.heap.size ≤ (World.drew w120).heap.size := hsz15; omega
  refine ⟨.inr ⟨hE, hb8, hb20, hbk, trivial⟩, ?_⟩
  refine chF_step rfl (Yk.lit1S (a := (v154)) (enc := enV) (vr v154 rfl) rfl (fun w => by obtain ⟨_, _, _, rfl⟩ := hve; exact rd5_lk23 _ _ _ w) fun v167 w168 hr169 hx170 => ?_)
  have hE := hE.trans hx170
  have hb8 := eb hx170 hb8
  have hA16 := hA16.trans hx170
  have hb20 := eb hx170 hb20
  have hA70 := hA70.trans hx170
  have hbk := eb hx170 hbk
  have hrf := hrf.keep hx170
  have hrs := hrs.keep hx170
  have hrn := hrn.keep hx170
  have hA122 := hA122.trans hx170
  have hA135 := hA135.trans hx170
  have ho156 := Stab.own _ _ _ _ _ _ _ _ ho156 hx170
  have hFs := (hFs.keep hA122)
  refine ⟨.inr ⟨hE, hb8, hb20, hbk, trivial⟩, ?_⟩
  refine chF_step rfl (Yk.appendRG _ _ w49.heap.size _ 24 rd5_ty23 rd5_ig24.choose_spec.1 rd5_ig24.choose_spec.2 rd5_ty23 (us) ([(v154)]) (OG.of hrf (vr rf rfl)) (RG.of hr169 (vr v167 rfl)) (fun y hy u hu => by rw [List.mem_singleton.1 hu, List.mem_singleton.1 hy]; exact hve1) (by first | omega | (simp only [List.length_append, List.length_singleton, List.length_map, List.length_nil]; omega)) (by first | omega | (simp only [List.length_append, List.length_singleton, List.length_map, List.length_nil]; omega)) hA70.size fun v171 w172 ho173 hg174 => ?_)
  have hg174 : Grew w168 w172 rf v171 := hg174
  have hap175 : ApartV v171 rs := apartv_grew hg174 hap96 hrs.2
  have hap176 : ApartV rs v171 := fun k h1 h2 => hap175 k h2 h1
  have hap177 : ApartV v171 rn := apartv_grew hg174 hap97 hrn.2
  have hap178 : ApartV rn v171 := fun k h1 h2 => hap177 k h2 h1
  have hap179 : OB v171 n2 := apart_grew hg174 hap98 (bl hb8)
  have hap180 : OB v171 n10 := apart_grew hg174 hap99 (bl hb20)
  have hap181 : OB v171 n76 := apart_grew hg174 hap100 (bl hbk)
  have hap182 : ApartV v171 v154 := apartv_grew hg174 hap162 ho156
  have hap183 : ApartV v154 v171 := fun k h1 h2 => hap182 k h2 h1
  have hE := ext_grew hE hg174 hrf.2 hz73
  have hb8 := blk_grew hb8 hg174 hap98
  have hA16 := ext_grew hA16 hg174 hrf.2 hz74
  have hb20 := blk_grew hb20 hg174 hap99
  have hA70 := ext_grew hA70 hg174 hrf.2 (Nat.le_refl _)
  have hbk := blk_grew hbk hg174 hap100
  have hrs := og_grew hrs hg174 hap96
  have hrn := og_grew hrn hg174 hap97
  have hFs : RowsO w49.heap.size w172 us ((cutN D fs (leftD D fs) j).map Prod.fst) := RowsO.grew hFs hg174 hrf.2 (by decide)
  clear hA135
  have ho156 := own_grew ho156 hg174 hap162
  clear hr169
  clear hrf
  refine ⟨.inr ⟨hE, hb8, hb20, hbk, trivial⟩, ?_⟩
  refine chF_step rfl (Yk.fieldAt rd5_fo50_2 T8 ?_)
  refine ⟨.inr ⟨hE, hb8, hb20, hbk, trivial⟩, ?_⟩
  refine chF_step rfl (Yk.storeC (i := 2) (v := v171) (vr (PQ n76 2) rfl) (vr v171 rfl) hbk (by rw [rdk_len]; decide) rd5_isz23 (RG.one (RG.ofOwn ho173)).1 (RG.one (RG.ofOwn ho173)).2 fun w184 hb185 hg186 hs187 => ?_)
  have hE := row_fresh hE hg186 (Nat.le_trans hz73 (by omega))
  have hb8 := kb hg186 hb8 (by omega)
  have hA16 := row_fresh hA16 hg186 (Nat.le_trans hz74 (by omega))
  have hb20 := kb hg186 hb20 (by omega)
  have hA70 := row_fresh hA70 hg186 (Nat.le_trans (Nat.le_refl _) (by omega))
  have hrs := OG.kept hrs hg186 hap105
  have hrn := OG.kept hrn hg186 hap110
  have hFs : RowsO w49.heap.size w184 us ((cutN D fs (leftD D fs) j).map Prod.fst) := RowsO.set hFs hg186 hbk (by decide)
  have ho156 := own_kept ho156 hg186 hap160
  have ho173 := OG.kept ho173 hg186 hap181
  clear hbk
  have hbk : w184.heap[n76]? = some (.cells (rdkC ((⟨true, ((D.quota : Nat) : Int), [], [], [], [], [], D.refused, 0, false⟩, ⟨v171, rs, rn, (Value.slice none 0 0), (Value.slice none 0 0)⟩) : RdkV)).toArray 50 (0, 0)) := blk_eq hb185 (rdk_s2 ((⟨true, ((D.quota : Nat) : Int), [], [], [], [], [], D.refused, 0, false⟩, ⟨rf, rs, rn, (Value.slice none 0 0), (Value.slice none 0 0)⟩) : RdkV) v171 ([])); clear hb185
  have hl188 := bl hbk
  refine ⟨.inl rfl, ?_⟩
  refine chF_nil ?_
  have hFs := RowsO.snoc hFs (own_eq (l' := (cutD D fs j ((leftD D fs).getD (j) (([], 0) : List UInt8 × Nat)).2).1) (ownsRow_base ho156 hz142) (by rw [hcut]; exact List.nil_append _)) hpart
  refine tN (hK129 _ _ (sk fun K189 hK189 => (wt (oS rfl (Yk.fieldAt rd5_fo50_3 T8 (oS rfl (Yk.cell1 rd5_ty25 rfl (vr (PQ n76 3) rfl) (cellAt hbk (show (rdkC ((⟨true, ((D.quota : Nat) : Int), [], [], [], [], [], D.refused, 0, false⟩, ⟨v171, rs, rn, (Value.slice none 0 0), (Value.slice none 0 0)⟩) : RdkV))[3]? = some (rs : Value) from rdk_g3 ((⟨true, ((D.quota : Nat) : Int), [], [], [], [], [], D.refused, 0, false⟩, ⟨v171, rs, rn, (Value.slice none 0 0), (Value.slice none 0 0)⟩) : RdkV))) (oM rfl (oS rfl (Yk.lit1S (a := ((nn : Nat) : Int)) (enc := enI) (vr (NI nn) (T12.trans (congrArg NI hnn.symm))) rfl (fun w => rd5_lk25 _ w) fun v190 w191 hr192 hx193 => ?_))))))))))
  have hE := hE.trans hx193
  have hb8 := eb hx193 hb8
  have hA16 := hA16.trans hx193
  have hb20 := eb hx193 hb20
  have hA70 := hA70.trans hx193
  have hrs := hrs.keep hx193
  have hrn := hrn.keep hx193
  have hFs : RowsO w49.heap.size w191 (us ++ [v154]) (((cutN D fs (leftD D fs) j).map Prod.fst) ++ [(cutD D fs j ((leftD D fs).getD (j) (([], 0) : List UInt8 × Nat)).2).1]) := (hFs.keep hx193)
  have ho156 := Stab.own _ _ _ _ _ _ _ _ ho156 hx193
  have ho173 := ho173.keep hx193
  have hbk := eb hx193 hbk
  refine oS rfl (Yk.appendRG _ _ w49.heap.size _ 8 rd5_ty25 rd5_ig3.choose_spec.1 rd5_ig3.choose_spec.2 rd5_ty25 (((cutN D fs (leftD D fs) j).map fun x => ((x.2 : Nat) : Int))) ([((nn : Nat) : Int)]) (OG.of hrs (vr rs rfl)) (RG.of hr192 (vr v190 rfl)) (fun y hy u hu => by rw [List.mem_singleton.1 hu]; rfl) (by first | omega | (simp only [List.length_append, List.length_singleton, List.length_map, List.length_nil]; omega)) (by first | omega | (simp only [List.length_append, List.length_singleton, List.length_map, List.length_nil]; omega)) hA70.size fun v194 w195 ho196 hg197 => ?_)
  have hg197 : Grew w191 w195 rs v194 := hg197
  have hap198 : ApartV v194 rn := apartv_grew hg197 hap102 hrn.2
  have hap199 : ApartV rn v194 := fun k h1 h2 => hap198 k h2 h1
  have hap200 : OB v194 n2 := apart_grew hg197 hap103 (bl hb8)
  have hap201 : OB v194 n10 := apart_grew hg197 hap104 (bl hb20)
  have hap202 : OB v194 n76 := apart_grew hg197 hap105 (bl hbk)
  have hap203 : ApartV v194 v154 := apartv_grew hg197 hap164 ho156
  have hap204 : ApartV v154 v194 := fun k h1 h2 => hap203 k h2 h1
  have hap205 : ApartV v194 v171 := apartv_grew hg197 hap176 ho173.2
  have hap206 : ApartV v171 v194 := fun k h1 h2 => hap205 k h2 h1
  have hE := ext_grew hE hg197 hrs.2 hz73
  have hb8 := blk_grew hb8 hg197 hap103
  have hA16 := ext_grew hA16 hg197 hrs.2 hz74
  have hb20 := blk_grew hb20 hg197 hap104
  have hA70 := ext_grew hA70 hg197 hrs.2 (Nat.le_refl _)
  have hrn := og_grew hrn hg197 hap102
  have hFs : RowsO w49.heap.size w195 (us ++ [v154]) (((cutN D fs (leftD D fs) j).map Prod.fst) ++ [(cutD D fs j ((leftD D fs).getD (j) (([], 0) : List UInt8 × Nat)).2).1]) := RowsO.grew hFs hg197 hrs.2 (by decide)
  have ho156 := own_grew ho156 hg197 hap164
  have ho173 := og_grew ho173 hg197 hap176
  have hbk := blk_grew hbk hg197 hap105
  clear hr192
  clear hrs
  refine oS rfl (Yk.fieldAt rd5_fo50_3 T8 (oS rfl (Yk.storeC (i := 3) (v := v194) (vr (PQ n76 3) rfl) (vr v194 rfl) hbk (by rw [rdk_len]; decide) rd5_isz25 (RG.one (RG.ofOwn ho196)).1 (RG.one (RG.ofOwn ho196)).2 fun w207 hb208 hg209 hs210 => ?_)))
  have hE := row_fresh hE hg209 (Nat.le_trans hz73 (by omega))
  have hb8 := kb hg209 hb8 (by omega)
  have hA16 := row_fresh hA16 hg209 (Nat.le_trans hz74 (by omega))
  have hb20 := kb hg209 hb20 (by omega)
  have hA70 := row_fresh hA70 hg209 (Nat.le_trans (Nat.le_refl _) (by omega))
  have hrn := OG.kept hrn hg209 hap110
  have hFs : RowsO w49.heap.size w207 (us ++ [v154]) (((cutN D fs (leftD D fs) j).map Prod.fst) ++ [(cutD D fs j ((leftD D fs).getD (j) (([], 0) : List UInt8 × Nat)).2).1]) := RowsO.set hFs hg209 hbk (by decide)
  have ho156 := own_kept ho156 hg209 hap160
  have ho173 := OG.kept ho173 hg209 hap181
  have ho196 := OG.kept ho196 hg209 hap202
  clear hbk
  have hbk : w207.heap[n76]? = some (.cells (rdkC ((⟨true, ((D.quota : Nat) : Int), [], [], [], [], [], D.refused, 0, false⟩, ⟨v171, v194, rn, (Value.slice none 0 0), (Value.slice none 0 0)⟩) : RdkV)).toArray 50 (0, 0)) := blk_eq hb208 (rdk_s3 ((⟨true, ((D.quota : Nat) : Int), [], [], [], [], [], D.refused, 0, false⟩, ⟨v171, rs, rn, (Value.slice none 0 0), (Value.slice none 0 0)⟩) : RdkV) v194 ([])); clear hb208
  have hl211 := bl hbk
  refine oZ (tN (hK189 _ _ ?_))
  refine wpF_draw_cut 10 [Is (PQ n76 4), Is (rn), Is (r), Is (NI j), fun x w' => PR (renC (((leftD D fs)).getD (j) (([], 0) : List UInt8 × Nat))) x w', PCell (St ((((leftD D fs)).getD (j) (([], 0) : List UInt8 × Nat)).1)), Is (St ((((leftD D fs)).getD (j) (([], 0) : List UInt8 × Nat)).1)), Is (NI j), Is (.agg (renC (⟨((((leftD D fs)).getD (j) (([], 0) : List UInt8 × Nat)).1), j⟩ : List UInt8 × Nat)).toArray), fun x w' => RG 2 (renC) w' x ([(⟨((((leftD D fs)).getD (j) (([], 0) : List UInt8 × Nat)).1), j⟩ : List UInt8 × Nat)])] (by kernel_rfl) [95, 96, 97, 98, 99, 100, 101, 102, 103, 104, 105, 106] (by kernel_rfl) (by kernel_rfl) (by kernel_rfl) (by kernel_rfl) rfl rfl (si4 ⟨(fun _ _ _ h k => PR.keep h k), Stab.pcell _, (si3 ⟨(fun _ _ _ h k => RG.keep h k), trivial⟩)⟩) ?hs2017 ?hQ2017
  case hs2017 =>
   refine ⟨?_, ?_, ?_, ?_, ?_, ?_, ?_, ?_, ?_, ?_, ?_, ?_, ?_, trivial⟩
   ·refine stepFC (stepN rfl fun σ w1 hC h => ?_)
    have e8 := (eqo (h 8 (by decide))).trans T8
    exact Yk.fieldAt rd5_fo50_4 e8 ⟨Ext.refl _, rfl⟩
   ·refine stepFC (stepN rfl fun σ w1 hC h => ?_)
    have e95 := eqo (h 95 (by decide))
    exact Yk.cell1 rd5_ty47 rfl e95 (cellAt (eb hC hbk) (show (rdkC ((⟨true, ((D.quota : Nat) : Int), [], [], [], [], [], D.refused, 0, false⟩, ⟨v171, v194, rn, (Value.slice none 0 0), (Value.slice none 0 0)⟩) : RdkV))[4]? = some (rn : Value) from rdk_g4 ((⟨true, ((D.quota : Nat) : Int), [], [], [], [], [], D.refused, 0, false⟩, ⟨v171, v194, rn, (Value.slice none 0 0), (Value.slice none 0 0)⟩) : RdkV))) ⟨Ext.refl _, rfl⟩
   ·refine stepFC (stepN rfl fun σ w1 hC h => ?_)
    have e5 := (eqo (h 5 (by decide))).trans T5
    exact Yk.move e5 ⟨Ext.refl _, rfl⟩
   ·refine stepFC (stepN rfl fun σ w1 hC h => ?_)
    have e9 := (eqo (h 9 (by decide))).trans T9
    exact Yk.move e9 ⟨Ext.refl _, rfl⟩
   ·refine stepFC (stepN rfl fun σ w1 hC h => ?_)
    have e97 := eqo (h 97 (by decide))
    have e98 := eqo (h 98 (by decide))
    exact Yk.atRG rd5_ty47 rd5_szg89 (by decide) (([], 0) : List UInt8 × Nat) (RG.of (hleft.keep (hA70.trans hC)) e97) e98 (by omega) fun v h => ⟨Ext.refl _, h⟩
   ·refine stepFC (stepN rfl fun σ w1 hC h => ?_)
    have e99 : (fun x w' => PR (renC (((leftD D fs)).getD (j) (([], 0) : List UInt8 × Nat))) x w') (σ 99) w1 := h 99 (by decide)
    exact Yk.fieldPR (n := 1) rd5_fo89_0 e99 fun v h => ⟨Ext.refl _, PR.pcell (by rw [ren_f0] at h; exact h)⟩
   ·refine stepFC (stepN rfl fun σ w1 hC h => ?_)
    have e100 : (PCell (St ((((leftD D fs)).getD (j) (([], 0) : List UInt8 × Nat)).1))) (σ 100) w1 := h 100 (by decide)
    exact Yk.loadC rd5_ty9 rfl e100 ⟨Ext.refl _, rfl⟩
   ·refine stepFC (stepN rfl fun σ w1 hC h => ?_)
    have e9 := (eqo (h 9 (by decide))).trans T9
    exact Yk.move e9 ⟨Ext.refl _, rfl⟩
   ·refine stepFC (stepN rfl fun σ w1 hC h => ?_)
    have e101 := eqo (h 101 (by decide))
    have e102 := eqo (h 102 (by decide))
    exact Yk.build2 e101 e102 (fun w => rd5_bs89_0_1 ((((leftD D fs)).getD (j) (([], 0) : List UInt8 × Nat)).1) j w) ⟨Ext.refl _, rfl⟩
   ·refine stepFC (stepN rfl fun σ w1 hC h => ?_)
    have e103 := eqo (h 103 (by decide))
    exact Yk.lit1G (a := (⟨((((leftD D fs)).getD (j) (([], 0) : List UInt8 × Nat)).1), j⟩ : List UInt8 × Nat)) (enc := renC) e103 (ren_len _) rd5_lg47 fun v w2 h hx => ⟨hx, h⟩
   ·exact trivial
   ·exact trivial
   ·exact trivial
  intro ρ212 w213 hx214 he hf
  obtain ⟨-, k96, -, -, -, -, -, -, -, k104, -⟩ := hf
  obtain ⟨T0, T1, T2, T4, T5, T6, T7, T8, T9, T10, T11, T12, T15, -⟩ := he.hold [(0, _), (1, _), (2, _), (4, _), (5, _), (6, _), (7, _), (8, _), (9, _), (10, _), (11, _), (12, _), (15, _)] ⟨T0, T1, T2, T4, T5, T6, T7, T8, T9, T10, T11, (T12.trans (congrArg NI hnn.symm)), T15, trivial⟩ rfl
  clear he
  have hE := hE.trans hx214
  have hb8 := eb hx214 hb8
  have hA16 := hA16.trans hx214
  have hb20 := eb hx214 hb20
  have hA70 := hA70.trans hx214
  have hrn := hrn.keep hx214
  have hFs : RowsO w49.heap.size w213 (us ++ [v154]) (((cutN D fs (leftD D fs) j).map Prod.fst) ++ [(cutD D fs j ((leftD D fs).getD (j) (([], 0) : List UInt8 × Nat)).2).1]) := (hFs.keep hx214)
  have ho156 := Stab.own _ _ _ _ _ _ _ _ ho156 hx214
  have ho173 := ho173.keep hx214
  have ho196 := ho196.keep hx214
  have hbk := eb hx214 hbk
  have T96 : ρ212 96 = rn := k96
  have k104 : (fun x w' => RG 2 (renC) w' x ([(⟨((((leftD D fs)).getD (j) (([], 0) : List UInt8 × Nat)).1), j⟩ : List UInt8 × Nat)])) (ρ212 104) w213 := k104
  obtain ⟨v215, T104⟩ : ∃ v, ρ212 104 = v := ⟨_, rfl⟩
  rw [T104] at k104
  have hk216 := k104; clear k104
  clear k96
  refine oS rfl (Yk.appendRG _ _ w49.heap.size _ 24 rd5_ty47 rd5_ig89.choose_spec.1 rd5_ig89.choose_spec.2 rd5_ty47 ((numN (leftD D fs) j)) ([(⟨((((leftD D fs)).getD (j) (([], 0) : List UInt8 × Nat)).1), j⟩ : List UInt8 × Nat)]) (OG.of hrn T96) (RG.of hk216 T104) (fun _ _ => ren_one) (by first | omega | (simp only [List.length_append, List.length_singleton, List.length_map, List.length_nil]; omega)) (by first | omega | (simp only [List.length_append, List.length_singleton, List.length_map, List.length_nil]; omega)) hA70.size fun v217 w218 ho219 hg220 => ?_)
  have hg220 : Grew w213 w218 rn v217 := .eqv T96 hg220
  have hap221 : OB v217 n2 := apart_grew hg220 hap108 (bl hb8)
  have hap222 : OB v217 n10 := apart_grew hg220 hap109 (bl hb20)
  have hap223 : OB v217 n76 := apart_grew hg220 hap110 (bl hbk)
  have hap224 : ApartV v217 v154 := apartv_grew hg220 hap166 ho156
  have hap225 : ApartV v154 v217 := fun k h1 h2 => hap224 k h2 h1
  have hap226 : ApartV v217 v171 := apartv_grew hg220 hap178 ho173.2
  have hap227 : ApartV v171 v217 := fun k h1 h2 => hap226 k h2 h1
  have hap228 : ApartV v217 v194 := apartv_grew hg220 hap199 ho196.2
  have hap229 : ApartV v194 v217 := fun k h1 h2 => hap228 k h2 h1
  have hE := ext_grew hE hg220 hrn.2 hz73
  have hb8 := blk_grew hb8 hg220 hap108
  have hA16 := ext_grew hA16 hg220 hrn.2 hz74
  have hb20 := blk_grew hb20 hg220 hap109
  have hA70 := ext_grew hA70 hg220 hrn.2 (Nat.le_refl _)
  have hFs : RowsO w49.heap.size w218 (us ++ [v154]) (((cutN D fs (leftD D fs) j).map Prod.fst) ++ [(cutD D fs j ((leftD D fs).getD (j) (([], 0) : List UInt8 × Nat)).2).1]) := RowsO.grew hFs hg220 hrn.2 (by decide)
  have ho156 := own_grew ho156 hg220 hap166
  have ho173 := og_grew ho173 hg220 hap178
  have ho196 := og_grew ho196 hg220 hap199
  have hbk := blk_grew hbk hg220 hap110
  clear hk216
  clear hrn
  refine oS rfl (Yk.fieldAt rd5_fo50_4 T8 (oS rfl (Yk.storeC (i := 4) (v := v217) (vr (PQ n76 4) rfl) (vr v217 rfl) hbk (by rw [rdk_len]; decide) rd5_isz47 (RG.one (RG.ofOwn ho219)).1 (RG.one (RG.ofOwn ho219)).2 fun w230 hb231 hg232 hs233 => ?_)))
  have hE := row_fresh hE hg232 (Nat.le_trans hz73 (by omega))
  have hb8 := kb hg232 hb8 (by omega)
  have hA16 := row_fresh hA16 hg232 (Nat.le_trans hz74 (by omega))
  have hb20 := kb hg232 hb20 (by omega)
  have hA70 := row_fresh hA70 hg232 (Nat.le_trans (Nat.le_refl _) (by omega))
  have hFs : RowsO w49.heap.size w230 (us ++ [v154]) (((cutN D fs (leftD D fs) j).map Prod.fst) ++ [(cutD D fs j ((leftD D fs).getD (j) (([], 0) : List UInt8 × Nat)).2).1]) := RowsO.set hFs hg232 hbk (by decide)
  have ho156 := own_kept ho156 hg232 hap160
  have ho173 := OG.kept ho173 hg232 hap181
  have ho196 := OG.kept ho196 hg232 hap202
  have ho219 := OG.kept ho219 hg232 hap223
  clear hbk
  have hbk : w230.heap[n76]? = some (.cells (rdkC ((⟨true, ((D.quota : Nat) : Int), [], [], [], [], [], D.refused, 0, false⟩, ⟨v171, v194, v217, (Value.slice none 0 0), (Value.slice none 0 0)⟩) : RdkV)).toArray 50 (0, 0)) := blk_eq hb231 (rdk_s4 ((⟨true, ((D.quota : Nat) : Int), [], [], [], [], [], D.refused, 0, false⟩, ⟨v171, v194, rn, (Value.slice none 0 0), (Value.slice none 0 0)⟩) : RdkV) v217 ([])); clear hb231
  have hl234 := bl hbk
  refine oZ (bN (tN (hK113 _ _ (wt (oM rfl (oS rfl (Yk.bin (xv := NI j) (yv := NI 1) T9 rfl rfl (i64_add _ _ _ (by omega)) (oA rfl (oL_ [(0, .agg (rdkC (refP D, V)).toArray), (1, vf), (2, PQ n2 0), (4, PQ n10 0), (5, r), (6, NI (fateD fs 0 (((D.acts).length) + 1))), (7, NI i), (8, PQ n76 0), (9, NI ((j) + (1))), (10, vs.getD ((((leftD D fs)).getD (j) (([], 0) : List UInt8 × Nat)).2) undef), (11, NI ((fileD D ((leftD D fs).getD (j) (([], 0) : List UInt8 × Nat)).2).2)), (12, NI nn), (15, .bool (false))] ⟨T0, T1, T2, T4, T5, T6, T7, T8, rfl, T10, T11, T12, T15, trivial⟩ fun ρ235 ⟨T0, T1, T2, T4, T5, T6, T7, T8, T9, T10, T11, T12, T15, _⟩ => (tN (And.intro ⟨j + 1, v171, v194, v217, us ++ [v154], T0, T1, T2, T4, T5, T6, T7, T8, T15, T9, hE, hb8, hA16, hb20, hA70, hbk, og_eq ho173 rfl, og_eq ho196 (by rw [cutN_snd hlt, hcut]), og_eq ho219 (numN_succ hlt).symm, RowsO.eq hFs rfl (cutN_fst hlt).symm, by omega, trivial⟩ ?_)))))))))))
  show (leftD D fs).length - (intOf (ρ235 9)).toNat < (leftD D fs).length - (intOf (ρ94 9)).toNat
  rw [T9, q9]
  simp only [intOf, Int.toNat_natCast]; omega
 have hnum : (numN (leftD D fs) j).length = j := numN_len _ hj
 have hje : j = (leftD D fs).length := by have h := hc2; omega
 refine wpF_exit (thenF_exit (thenF_exit (inBlockF_hit (tN (hK91 _ _ (sk fun K236 hK236 => (wt ?_)))))))
 have hA241 := Ext.refl w95
 have hea242 := hE
 have hea243 := hA16
 have hea244 := hA70
 have hz245 := hE.size
 have hz246 := hA16.size
 have hz247 := hA70.size
 refine oS rfl (Yk.lit0G (k := 2) (enc := renC) rd5_l0_47 fun v237 w238 ho239 hx240 => ?_)
 have hap248 : OB v237 n2 := own_older ho239.2 (bl hb8)
 have hap249 : OB v237 n10 := own_older ho239.2 (bl hb20)
 have hap250 : OB v237 n76 := own_older ho239.2 (bl hbk)
 have hap251 : ApartV rf v237 := apartv_new hrf.2 ho239.2
 have hap252 : ApartV v237 rf := apartv_new' hrf.2 ho239.2
 have hap253 : ApartV rs v237 := apartv_new hrs.2 ho239.2
 have hap254 : ApartV v237 rs := apartv_new' hrs.2 ho239.2
 have hap255 : ApartV rn v237 := apartv_new hrn.2 ho239.2
 have hap256 : ApartV v237 rn := apartv_new' hrn.2 ho239.2
 have hE := hE.trans hx240
 have hb8 := eb hx240 hb8
 have hA16 := hA16.trans hx240
 have hb20 := eb hx240 hb20
 have hA70 := hA70.trans hx240
 have hbk := eb hx240 hbk
 have hrf := hrf.keep hx240
 have hrs := hrs.keep hx240
 have hrn := hrn.keep hx240
 have hFs : RowsO w49.heap.size w238 us ((cutN D fs (leftD D fs) j).map Prod.fst) := (hFs.keep hx240)
 have hA241 := hA241.trans hx240
 refine oS rfl (Yk.fieldAt rd5_fo50_4 T8 (oS rfl (Yk.cell1 rd5_ty47 rfl (vr (PQ n76 4) rfl) (cellAt hbk (show (rdkC ((⟨true, ((D.quota : Nat) : Int), [], [], [], [], [], D.refused, 0, false⟩, ⟨rf, rs, rn, (Value.slice none 0 0), (Value.slice none 0 0)⟩) : RdkV))[4]? = some (rn : Value) from rdk_g4 ((⟨true, ((D.quota : Nat) : Int), [], [], [], [], [], D.refused, 0, false⟩, ⟨rf, rs, rn, (Value.slice none 0 0), (Value.slice none 0 0)⟩) : RdkV))) (oS rfl (Yk.appendRG _ _ w95.heap.size _ 24 rd5_ty47 rd5_ig89.choose_spec.1 rd5_ig89.choose_spec.2 rd5_ty47 ([]) ((numN (leftD D fs) j)) (OG.of ho239 (vr v237 rfl)) (RG.of (RG.ofOwn hrn) (vr rn rfl)) (fun _ _ => ren_one) (by first | omega | (simp only [List.length_append, List.length_singleton, List.length_map, List.length_nil]; omega)) (by first | omega | (simp only [List.length_append, List.length_singleton, List.length_map, List.length_nil]; omega)) hA241.size fun v257 w258 ho259 hg260 => ?_)))))
 have hg260 : Grew w238 w258 v237 v257 := hg260
 have hap261 : OB v257 n2 := apart_grew hg260 hap248 (bl hb8)
 have hap262 : OB v257 n10 := apart_grew hg260 hap249 (bl hb20)
 have hap263 : OB v257 n76 := apart_grew hg260 hap250 (bl hbk)
 have hap264 : ApartV v257 rf := apartv_grew hg260 hap252 hrf.2
 have hap265 : ApartV rf v257 := fun k h1 h2 => hap264 k h2 h1
 have hap266 : ApartV v257 rs := apartv_grew hg260 hap254 hrs.2
 have hap267 : ApartV rs v257 := fun k h1 h2 => hap266 k h2 h1
 have hap268 : ApartV v257 rn := apartv_grew hg260 hap256 hrn.2
 have hap269 : ApartV rn v257 := fun k h1 h2 => hap268 k h2 h1
 have hE := ext_grew hE hg260 ho239.2 hz245
 have hb8 := blk_grew hb8 hg260 hap248
 have hA16 := ext_grew hA16 hg260 ho239.2 hz246
 have hb20 := blk_grew hb20 hg260 hap249
 have hA70 := ext_grew hA70 hg260 ho239.2 hz247
 have hbk := blk_grew hbk hg260 hap250
 have hrf := og_grew hrf hg260 hap252
 have hrs := og_grew hrs hg260 hap254
 have hrn := og_grew hrn hg260 hap256
 have hFs : RowsO w49.heap.size w258 us ((cutN D fs (leftD D fs) j).map Prod.fst) := RowsO.grew hFs hg260 ho239.2 (by decide)
 have hA241 := ext_grew hA241 hg260 ho239.2 (Nat.le_refl _)
 clear ho239
 refine oS rfl (Yk.fieldAt rd5_fo50_5 T8 (oS rfl (Yk.storeC (i := 5) (v := v257) (vr (PQ n76 5) rfl) (vr v257 rfl) hbk (by rw [rdk_len]; decide) rd5_isz47 (RG.one (RG.ofOwn ho259)).1 (RG.one (RG.ofOwn ho259)).2 fun w270 hb271 hg272 hs273 => ?_)))
 have hE := row_fresh hE hg272 (Nat.le_trans hz73 (by omega))
 have hb8 := kb hg272 hb8 (by omega)
 have hA16 := row_fresh hA16 hg272 (Nat.le_trans hz74 (by omega))
 have hb20 := kb hg272 hb20 (by omega)
 have hA70 := row_fresh hA70 hg272 (Nat.le_trans (Nat.le_refl _) (by omega))
 have hrf := OG.kept hrf hg272 hap100
 have hrs := OG.kept hrs hg272 hap105
 have hrn := OG.kept hrn hg272 hap110
 have hFs : RowsO w49.heap.size w270 us ((cutN D fs (leftD D fs) j).map Prod.fst) := RowsO.set hFs hg272 hbk (by decide)
 clear hA241
 have ho259 := OG.kept ho259 hg272 hap263
 clear hbk
 have hbk : w270.heap[n76]? = some (.cells (rdkC ((⟨true, ((D.quota : Nat) : Int), [], [], [], [], [], D.refused, 0, false⟩, ⟨rf, rs, rn, v257, (Value.slice none 0 0)⟩) : RdkV)).toArray 50 (0, 0)) := blk_eq hb271 (rdk_s5 ((⟨true, ((D.quota : Nat) : Int), [], [], [], [], [], D.refused, 0, false⟩, ⟨rf, rs, rn, (Value.slice none 0 0), (Value.slice none 0 0)⟩) : RdkV) v257 ([])); clear hb271
 have hl274 := bl hbk
 refine oZ (tN (hK236 _ _ (sk fun K275 hK275 => (wt (oS rfl (Yk.loadAll T8 hbk (rd5_ty50).choose_spec rfl (st_isz (rdk_len ((⟨true, ((D.quota : Nat) : Int), [], [], [], [], [], D.refused, 0, false⟩, ⟨rf, rs, rn, v257, (Value.slice none 0 0)⟩) : RdkV)) rd5_isz50) (oS rfl (Yk.storeAll T4 (vr (.agg (rdkC ((⟨true, ((D.quota : Nat) : Int), [], [], [], [], [], D.refused, 0, false⟩, ⟨rf, rs, rn, v257, (Value.slice none 0 0)⟩) : RdkV)).toArray) rfl) hb20 (by simp only [List.size_toArray, rdk_len]) (st_isz (rdk_len _) rd5_isz50) (rdk_one (x := ((⟨true, ((D.quota : Nat) : Int), [], [], [], [], [], D.refused, 0, false⟩, ⟨rf, rs, rn, v257, (Value.slice none 0 0)⟩) : RdkV)) (RG.one (RG.ofOwn hrf)).2 (RG.one (RG.ofOwn hrs)).2 (RG.one (RG.ofOwn hrn)).2 (RG.one (RG.ofOwn ho259)).2 rfl) fun w276 hb277 hg278 hs279 => ?_))))))))
 have hE := row_fresh hE hg278 (Nat.le_trans hz18 (by omega))
 have hb8 := kb hg278 hb8 (by omega)
 have hA16 := row_fresh hA16 hg278 (Nat.le_trans (Nat.le_refl _) (by omega))
 clear hA70
 have hrf := OG.kept hrf hg278 hap99
 have hrs := OG.kept hrs hg278 hap104
 have hrn := OG.kept hrn hg278 hap109
 have hFs : RowsO w49.heap.size w276 us ((cutN D fs (leftD D fs) j).map Prod.fst) := RowsO.set hFs hg278 hb20 (by decide)
 have ho259 := OG.kept ho259 hg278 hap262
 have hbk := kb hg278 hbk (by omega)
 clear hb20
 have hb20 : w276.heap[n10]? = some (.cells (rdkC ((⟨true, ((D.quota : Nat) : Int), [], [], [], [], [], D.refused, 0, false⟩, ⟨rf, rs, rn, v257, (Value.slice none 0 0)⟩) : RdkV)).toArray 50 (0, 0)) := hb277; clear hb277
 have hl280 := bl hb20
 refine oZ (tN (hK275 _ _ (wpF_ret (postF_ret (fn := Try.f44) _ rfl [.agg (rdkC ((⟨true, ((D.quota : Nat) : Int), [], [], [], [], [], D.refused, 0, false⟩, ⟨rf, rs, rn, v257, (Value.slice none 0 0)⟩) : RdkV)).toArray] (.agg (rdkC ((⟨true, ((D.quota : Nat) : Int), [], [], [], [], [], D.refused, 0, false⟩, ⟨rf, rs, rn, v257, (Value.slice none 0 0)⟩) : RdkV)).toArray) rfl ⟨ResF.row T4 hb20 (rd5_ty50).choose_spec rfl (st_isz (rdk_len _) rd5_isz50), trivial⟩ ?_))))
 have hOe : RdO w.heap.size w276 (crashD D fs) ⟨rf, rs, rn, v257, (Value.slice none 0 0)⟩ := by rw [crash_eq, ← hje]; exact ⟨⟨us, hFs.low (by omega), (OG.low hrf (by omega))⟩, (OG.low hrs (by omega)), (OG.low hrn (by omega)), (OG.low ho259 (by omega)), OG.nil _ _ _ _ _⟩
 exact ⟨⟨rf, rs, rn, v257, (Value.slice none 0 0)⟩, rfl, hOe.at_ hP, hE⟩

theorem rcrash_no (w : World) (q : Int) (vf : Value) :
  Calls Try.prog 44 #[.agg (rdkC (noR q)).toArray, vf] w fun e w' => e = .returned (.agg (rdkC (noR q)).toArray) ∧ Ext w w' := by
 refine calls_of_wpF (args := [.agg (rdkC (noR q)).toArray, vf]) Try.func44 rfl 113 rfl (Nat.le_of_ble_eq_true rfl) ?_
 intro ρ0 hb
 have T0 : ρ0 0 = (.agg (rdkC (noR q)).toArray : Value) := hb.get 0
 have T1 : ρ0 1 = (vf : Value) := hb.get 1
 clear hb
 have hE := Ext.refl w
 refine sk fun K1 hK1 => (wt (oS rfl (Yk.box (cs := (rdkC (noR q) : List Value).toArray) T0 fun n2 w3 hn4 hb5 hx6 hs7 => ?_)))
 have hE := hE.trans hx6
 have hb8 := hb5; clear hb5
 have hl9 : n2 < w3.heap.size := by omega
 refine oS rfl (Yk.alloc (cs := (rdkC ((⟨false, 0, [], [], [], [], [], 0, 0, false⟩, ⟨.slice none 0 0, .slice none 0 0, .slice none 0 0, .slice none 0 0, .slice none 0 0⟩) : RdkV)).toArray) rd5_al50 fun n10 w11 hn12 hb13 hx14 hs15 => ?_)
 have hA16 := Ext.refl w3
 have hea17 := hE
 have hz18 := hE.size
 have hlt19 := lte (bl hb8) hn12
 have hE := hE.trans hx14
 have hb8 := eb hx14 hb8
 have hA16 := hA16.trans hx14
 have hb20 := hb13; clear hb13
 have hl21 : n10 < w11.heap.size := by omega
 refine oZ (tN (hK1 _ _ (sk fun K22 hK22 => (sk fun K23 hK23 => (wt (oS rfl (Yk.fieldAt rd5_fo50_0 (vr (PQ n2 0) rfl) (oS rfl (Yk.cell1 rd5_ty4 rfl (vr (PQ n2 0) rfl) (cellAt hb8 (show (rdkC (noR q))[0]? = some (.bool (false) : Value) from rdk_g0 (noR q))) (oS rfl (Yk.notB (vr (.bool (false)) rfl) (oZ (tN (hK23 _ _ (wpF_true (vr (.bool (true)) rfl) (sk fun K24 hK24 => (wt (oS rfl (Yk.loadAll (vr (PQ n2 0) rfl) hb8 (rd5_ty50).choose_spec rfl (st_isz (rdk_len (noR q)) rd5_isz50) (oS rfl (Yk.storeAll (vr (PQ n10 0) rfl) (vr (.agg (rdkC (noR q)).toArray) rfl) hb20 (by simp only [List.size_toArray, rdk_len]) (st_isz (rdk_len _) rd5_isz50) (rdk_one (x := (noR q)) rfl rfl rfl rfl rfl) fun w25 hb26 hg27 hs28 => ?_)))))))))))))))))))))
 have hE := row_fresh hE hg27 (Nat.le_trans hz18 (by omega))
 have hb8 := kb hg27 hb8 (by omega)
 have hA16 := row_fresh hA16 hg27 (Nat.le_trans (Nat.le_refl _) (by omega))
 clear hb20
 have hb20 : w25.heap[n10]? = some (.cells (rdkC (noR q)).toArray 50 (0, 0)) := hb26; clear hb26
 have hl29 := bl hb20
 refine oZ (tN (hK24 _ _ (wpF_ret (thenF_ret (postF_ret (fn := Try.f44) _ rfl [.agg (rdkC (noR q)).toArray] (.agg (rdkC (noR q)).toArray) rfl ⟨ResF.row rfl hb20 (rd5_ty50).choose_spec rfl (st_isz (rdk_len _) rd5_isz50), trivial⟩ ?_)))))
 exact ⟨rfl, hE⟩
end Go.Proofs.Ytejpjjhkjdpeaaa
