/- Part 3 of what stands behind these statements: laws and walks of the functions that are reached. Conditions: those that each theorem names. -/
import Derived.Test.YtcegdjpdnlaleaaDoorSQ2
set_option linter.unusedVariables false
namespace Go.Proofs.YtcegdjpdnlaleaaDoor
open Go.RowKit
open Go.WideMaps (KeyLaw)
structure IX (w0 w : World) (b base : Nat) (I : TypeId) (G : List UInt8 → List Nat) : Prop where
  ext : Ext w0 w
  lo : w0.heap.size ≤ b
  hb : base ≤ w.heap.size
  idx : IdxAt w b base I G
structure IXO (w0 w : World) (b base : Nat) (I : TypeId) (G : List UInt8 → List Nat) (r : List UInt8) (v : Value) (zs : List Nat) (st : Nat) : Prop where
  ext : Ext w0 w
  lo : w0.heap.size ≤ b
  hb : base ≤ w.heap.size
  opn : IdxOpen w b base I G r v zs st
section
variable {P : Program} {K : Value → World → Prop} {ρ : Slots} {w w' : World} {d : Option Tmp} {ty : TypeId} {pos : String} {af : Array Edge} {gd : Option (Nat × Bool)}
variable {w0 : World} {b base : Nat} {I : TypeId} {G : List UInt8 → List Nat} {r : List UInt8} {v : Value} {zs : List Nat} {st : Nat}
theorem IX.keep (h : IX w0 w b base I G) (k : Ext w w') : IX w0 w' b base I G := ⟨h.ext.trans k, h.lo, Nat.le_trans h.hb k.size, h.idx.keep k⟩
theorem Yk.makeMap {t : TypeId} (hk : ∀ b w', w.heap.size = b → IX w w' b (b + 1) I (fun _ => []) → K (.map (some b)) w') : Yk P K ((execOp (evalR ρ) ⟨d, .makeMap t none, ty, pos, af, gd⟩).run P w) := by
  refine Yk.value (v := .map (some w.heap.size)) (w' := w.alloc (.map #[] 0)) ?_ (hk _ _ rfl ⟨(Below.refl _ _).alloc (Nat.le_refl _) _, Nat.le_refl _, by simp, IdxAt.made w⟩)
  unfold execOp
  simp only [Option.map_none, Sem.run_bind, run_makeMap, Result.andThen_ok, Sem.run_pure]
theorem Yk.entry {t Kt E : TypeId} (L : KeyLaw P Kt) (hkr : ∀ r : List UInt8, r.length = 8 → ∃ l, keyOf P Kt (rk r) = some l) (ht : P.underlying t = some (.map Kt E)) (hz : ∀ u : World, (zeroValue E).run P u = .ok (.slice none 0 0) u) {x y : Operand}
    (hm : evalR ρ x = .map (some b)) (hy : evalR ρ y = rk r) (h : IX w0 w b base I G) (hr : r.length = 8) (hk : ∀ v st w1, IXO w0 w1 b base I G r v (G r) st → w.grownBy w1 (some b) → K (.tuple #[v, NI st]) w1) :
    Yk P K ((execOp (evalR ρ) ⟨d, .mapEntry t x y, ty, pos, af, gd⟩).run P w) := by
  obtain ⟨v, st, w1, hrun, hg, hs, ho⟩ := h.idx.entry L hkr ht hz hr
  refine Yk.value (v := .tuple #[v, NI st]) (w' := w1) ?_ (hk v st w1 ⟨Below.grown h.ext hg h.ext.size (fun k hk => by cases hk; exact h.lo), h.lo, by rw [hs]; exact h.hb, ho⟩ hg)
  unfold execOp
  simp only [hm, hy, Sem.run_bind, hrun, Result.andThen_ok, Sem.run_pure]
  rfl
theorem Yk.entryStore {t : TypeId} {x s y : Operand} (hm : evalR ρ x = .map (some b)) (hs : evalR ρ s = NI st) (hy : evalR ρ y = v) (h : IXO w0 w b base I G r v zs st) (hne : zs ≠ []) (hk : ∀ w1, IX w0 w1 b base I (updG G r zs) → K undef w1) :
    Yk P K ((execOp (evalR ρ) ⟨d, .entryStore t x s y, ty, pos, af, gd⟩).run P w) := by
  obtain ⟨w1, hrun, hg, hsz, ho⟩ := h.opn.store (P := P) (t := t) hne
  have hrun' : (Instr.entryStore t (.map (some b)) (NI st) v).run P w = .ok () w1 := hrun
  have hK := hk w1 ⟨Below.grown h.ext hg h.ext.size (fun k hk => by cases hk; exact h.lo), h.lo, by rw [hsz]; exact h.hb, ho⟩
  unfold execOp
  simp only [hm, hs, hy, Sem.run_bind, hrun', Result.andThen_ok, Sem.run_pure]
  exact hK
theorem IXO.own (h : IXO w0 w b base I G r v zs st) : w.ownsRow base I 1 v zs.length (zs.map NI) := h.opn.2.2.1
theorem IXO.grew {v' : Value} {zs' : List Nat} (h : IXO w0 w b base I G r v zs st) (gr : Grew w w' v v') (ho : w'.ownsRow base I 1 v' zs'.length (zs'.map NI)) : IXO w0 w' b base I G r v' zs' st :=
  ⟨Below.grown h.ext gr.by_ h.ext.size (fun k hk => Nat.le_trans h.lo (Nat.le_trans (Nat.le_of_lt h.opn.1) (h.own.lt k hk).1)), h.lo, Nat.le_trans h.hb gr.by_.size, h.opn.grew gr ho⟩
theorem Yk.toArr {t e : TypeId} {n : Nat} (ht : P.underlying t = some (.array n e)) {x : Operand} {l : List UInt8} (h : RB w (evalR ρ x) l) (hl : l.length = n) (hn : 0 < n) (hk : ∀ g o, w.rangeAt g o (Lib.byteCells l) → K (.pointer (some ⟨g, o, none⟩)) w) :
    Yk P K ((execOp (evalR ρ) ⟨d, .sliceToArrayPointer t x, ty, pos, af, gd⟩).run P w) := by
  obtain ⟨g, o, cap, hv, h1, h2, h3, h4⟩ := h.open_ (by omega)
  refine Yk.value (v := .pointer (some ⟨g, o, none⟩)) (w' := w) ?_ (hk g o fun j v hj => ?_)
  · unfold execOp
    simp only [hv, Instr.arrayAt, Sem.run_bind, run_underlying ht, Result.andThen_ok]
    rw [if_neg (by omega)]
    rfl
  · have hj' : j < l.length := by simpa [Lib.byteCells] using (List.getElem?_eq_some_iff.1 hj).1
    rw [h4 j hj', ← hj]
    simp [Lib.byteCells, hj', List.getD]
theorem Yk.look {t Kt E : TypeId} (L : KeyLaw P Kt) (hkr : ∀ r : List UInt8, r.length = 8 → ∃ l, keyOf P Kt (rk r) = some l) (ht : P.underlying t = some (.map Kt E)) (hz : ∀ u : World, (zeroValue E).run P u = .ok (.slice none 0 0) u) {x y : Operand}
    (hm : evalR ρ x = .map (some b)) (hy : evalR ρ y = rk r) (h : IdxAt w b base I G) (hr : r.length = 8) (hk : ∀ v, w.ownsRow base I 1 v (G r).length ((G r).map NI) → K v w) :
    Yk P K ((execOp (evalR ρ) ⟨d, .lookup t x y false, ty, pos, af, gd⟩).run P w) := by
  obtain ⟨v, hrun, ho⟩ := h.look L hkr ht hz hr
  refine Yk.value (v := v) (w' := w) ?_ (hk v ho)
  unfold execOp
  simp only [hm, hy, Sem.run_bind, hrun, Result.andThen_ok, Sem.run_pure]
end
def posOf (l : List UInt8) (k : Nat) (r : List UInt8) : List Nat := (List.range k).filter fun j => (l.drop j).take 8 == r
theorem posOf_upd (l : List UInt8) (k : Nat) : updG (posOf l k) ((l.drop k).take 8) (posOf l k ((l.drop k).take 8) ++ [k]) = posOf l (k + 1) := by
  funext s
  unfold updG posOf
  rw [List.range_succ, List.filter_append]
  by_cases h : s = (l.drop k).take 8
  · subst h
    rw [if_pos rfl]
    simp
  · rw [if_neg h]
    have : ((l.drop k).take 8 == s) = false := by simpa using fun e => h e.symm
    simp [this]
theorem posOf_zero (l : List UInt8) : posOf l 0 = fun _ => [] := by
  funext s
  rfl
theorem posOf_length (l : List UInt8) (k : Nat) (r : List UInt8) : (posOf l k r).length ≤ k := by
  have := List.length_filter_le (fun j => (l.drop j).take 8 == r) (List.range k)
  rw [List.length_range] at this
  exact this
theorem rowLaw : KeyLaw Tryd.prog 100 := deep_law_laid (by kernel_rfl) (m := 3) (by decide) (of_decide_eq_true (by kernel_rfl)) (by kernel_rfl) (by kernel_rfl)
theorem rowKey : ∀ r : List UInt8, r.length = 8 → ∃ l, keyOf Tryd.prog 100 (rk r) = some l := fun _ h =>
  keyOf_row (n := 8) (e := 5) Tryd.underlying100 Tryd.underlying5 (by kernel_rfl) (by kernel_rfl) (by kernel_rfl) (of_decide_eq_true (by kernel_rfl)) h
theorem zeroInts : ∀ u : World, (zeroValue 54).run Tryd.prog u = .ok (.slice none 0 0) u := fun _ => by kernel_rfl
theorem infoI : (Tryd.prog.info? 3).map (fun i => (i.zero, i.size, i.bytes)) = some (some (.int .i64 0), 1, 8) := by kernel_rfl
open Go.RowKit
set_option maxRecDepth 100000
theorem del4_isz100 : (Tryd.prog.info? 100).map (·.size) = some 8 := by kernel_rfl
theorem del4_ty24 : Tryd.prog.underlying 24 = some (.slice 5) := by kernel_rfl
theorem del4_sz5 : ∀ w' : World, (sizeOf 5).run Tryd.prog w' = .ok 1 w' := fun _ => by kernel_rfl
theorem del4_ty100 : Tryd.prog.underlying 100 = some (.array 8 5) := by kernel_rfl
theorem del4_al100 {d : Option Tmp} {ty : TypeId} {pos : String} {af : Array Edge} {gd : Option (Nat × Bool)} (σ : Operand → Value) (w : World) : (execOp σ ⟨d, .alloc 100, ty, pos, af, gd⟩).run Tryd.prog w = .ok (.value (PQ w.heap.size 0)) (w.alloc (.cells (Lib.byteCells (List.replicate 8 0)).toArray 100)) := by kernel_rfl
theorem del4_one54 (z : Int) (w : World) : (Instr.buildSlice 54 1 #[(0, .int .i64 z)]).run Tryd.prog w = .ok (.slice (some ⟨w.heap.size, 0, none⟩) 1 1) (w.alloc (.cells #[.int .i64 z] 3)) := by kernel_rfl
theorem del4_ty96 : Tryd.prog.underlying 96 = some (.map 100 54) := by kernel_rfl
theorem del4_ty54 : Tryd.prog.underlying 54 = some (.slice 3) := by kernel_rfl
theorem index_any (w : World) (v : Value) (l : List UInt8) (hr : RB w v l) (hl : l.length ≤ 1048576) :
  Calls Tryd.prog 53 #[v] w fun e w' => ∃ b base, e = .returned (.map (some b)) ∧ IX w w' b base 3 (posOf l (l.length - 7)) := by
 refine calls_of_wpF (args := [v]) Tryd.func53 rfl 30 rfl (Nat.le_of_ble_eq_true rfl) ?_
 intro ρ0 hb
 have T0 : ρ0 0 = (v : Value) := hb.get 0
 clear hb
 have hE := Ext.refl w
 refine sk fun K1 hK1 => (wt (oS rfl (Yk.assign (vr (Value.map none) rfl) (oL_ [(0, v), (2, (Value.map none))] ⟨T0, rfl, trivial⟩ fun ρ2 ⟨T0, T2, _⟩ => (tN (hK1 _ _ (sk fun K3 hK3 => (wt (oS rfl (Yk.makeMap (I := 3) fun n4 w5 hb6 hX7 => ?_))))))))))
 have hX7 := (posOf_zero l) ▸ hX7
 have hE := hX7.ext
 refine oS rfl (Yk.assign (vr (.map (some n4)) rfl) (oL_ [(0, v), (2, (Value.map none)), (3, .map (some n4))] ⟨T0, T2, rfl, trivial⟩ fun ρ8 ⟨T0, T2, T3, _⟩ => (tN (hK3 _ _ (sk fun K9 hK9 => (sk fun K10 hK10 => (wt (oS rfl (Yk.assign (vr (NI 0) rfl) (oL_ [(0, v), (2, (Value.map none)), (3, .map (some n4)), (4, NI 0)] ⟨T0, T2, T3, rfl, trivial⟩ fun ρ11 ⟨T0, T2, T3, T4, _⟩ => (tN (hK10 _ _ (wpF_block (wpF_loop (fun (ρ : Slots) (wz : World) => ∃ i : Nat, ρ 0 = (v : Value) ∧ ρ 2 = ((Value.map none) : Value) ∧ ρ 3 = (.map (some n4) : Value) ∧ ρ 4 = (NI i : Value) ∧ Ext w wz ∧ IX w wz n4 (n4 + 1) 3 (posOf l i) ∧ (i ≤ l.length - 7) ∧ True) (fun ρ _ => l.length - (intOf (ρ 4)).toNat) ⟨0, T0, T2, T3, T4, hE, hX7, Nat.zero_le _, trivial⟩ ?_))))))))))))))
 clear hX7
 clear hE
 rintro ρ12 w13 ⟨i, T0, T2, T3, T4, hE, hXi, hil, -⟩
 have q4 := T4
 refine sk fun K14 hK14 => (sk fun K15 hK15 => (wt (oS rfl (Yk.move T4 (oS rfl (Yk.bin (xv := NI i) (yv := NI 8) rfl rfl rfl (i64_add _ _ _ (by omega)) (oS rfl (Yk.move T0 (oS rfl (Yk.lenRB del4_ty24 (RB.of (hr.keep hE) (vr v rfl)) (oS rfl (Yk.eqI (a := ((i) + (8) : Nat)) (b := (l.length : Nat)) rfl rfl (k_leq _ _ _ _) (oL_ [(0, v), (2, (Value.map none)), (3, .map (some n4)), (4, NI i), (11, .bool (decide (((i) + (8)) ≤ (l.length))))] ⟨T0, T2, T3, T4, rfl, trivial⟩ fun ρ16 ⟨T0, T2, T3, T4, T11, _⟩ => (tN (hK15 _ _ ?_)))))))))))))))
 refine wpF_cond (((i) + (8)) ≤ (l.length)) T11 (fun h8 => ?_) (fun h8 => ?_)
 ·have hrl : ((l.drop i).take (i + 8 - i)).length = 8 := by rw [List.length_take, List.length_drop]; omega
  have hrl8 : ((l.drop i).take 8).length = 8 := by rw [List.length_take, List.length_drop]; omega
  refine wpF_skip (tN (hK14 _ _ (sk fun K17 hK17 => (wpF_block (sk fun K18 hK18 => (wt (oS rfl (Yk.move T0 (oS rfl (Yk.move T4 (oS rfl (Yk.move T4 (oS rfl (Yk.bin (xv := NI i) (yv := NI 8) rfl rfl rfl (i64_add _ _ _ (by omega)) (oS rfl (Yk.sliceLH (xs := l) (l := i) (n := (i) + (8)) del4_ty24 del4_sz5 (vr v rfl) (hr.keep hE) (vr (NI i) rfl) (vr (NI ((i) + (8))) rfl) (by omega) (by omega) fun v19 hr20 ha21 => (oS rfl (Yk.toArr del4_ty100 (RB.of hr20 (vr v19 rfl)) (l := (l.drop (i)).take (((i) + (8)) - (i))) (n := 8) (by rw [List.length_take, List.length_drop]; omega) (by decide) fun n22 n23 hr24 => (oS rfl (Yk.loadPart (vr (PQ n22 n23) rfl) hr24 del4_ty100 rfl (by rw [Lib.byteCells_length, hrl]; exact del4_isz100) (oS rfl (Yk.alloc (cs := (Lib.byteCells (List.replicate 8 0)).toArray) del4_al100 fun n25 w26 hn27 hb28 hx29 hs30 => ?_))))))))))))))))))))))
  have hA31 := Ext.refl w13
  have hea32 := hE
  have hz33 := hE.size
  have hE := hE.trans hx29
  have hA31 := hA31.trans hx29
  have hb34 := hb28; clear hb28
  have hl35 : n25 < w26.heap.size := by omega
  refine oS rfl (Yk.storeAll (vr (PQ n25 0) rfl) (vr (AB ((l.drop (i)).take (((i) + (8)) - (i)))) rfl) hb34 (by simp only [List.size_toArray, Lib.byteCells_length, hrl]; rfl) (by simp only [List.size_toArray, Lib.byteCells_length, hrl]; exact del4_isz100) (byteCells_one _) fun w36 hb37 hg38 hs39 => ?_)
  have hE := row_fresh hE hg38 (Nat.le_trans hz33 (by omega))
  have hA31 := row_fresh hA31 hg38 (Nat.le_trans (Nat.le_refl _) (by omega))
  clear hb34
  have hb34 := hb37; clear hb37
  have hl40 := bl hb34
  refine oL_ [(0, v), (2, (Value.map none)), (3, .map (some n4)), (4, NI i), (5, PQ n25 0)] ⟨T0, T2, T3, T4, rfl, trivial⟩ fun ρ41 ⟨T0, T2, T3, T4, T5, _⟩ => ?_
  have hb34 : w36.heap[n25]? = some (.cells (Lib.byteCells ((l.drop i).take 8)).toArray 100 (0, 0)) := blk_eq hb34 (by rw [show i + 8 - i = 8 by omega])
  refine tN (hK18 _ _ (wt (oS rfl (Yk.move T3 (oS rfl (Yk.loadAll T5 hb34 del4_ty100 rfl (by simp only [List.size_toArray, Lib.byteCells_length, hrl8]; exact del4_isz100) (oS rfl (Yk.move T4 (oS rfl (Yk.lits (cs := #[NI i]) (fun w => by simp only [List.map_toArray, List.map_cons, List.map_nil]; rw [(vr (NI i) rfl)]; exact del4_one54 _ w) fun n42 w43 hn44 hb45 hx46 hs47 => ?_))))))))))
  have hE := hE.trans hx46
  have hA31 := hA31.trans hx46
  have hb34 := eb hx46 hb34
  have hb1i := hb45
  refine oS rfl (Yk.entry rowLaw rowKey del4_ty96 zeroInts (vr (.map (some n4)) rfl) (vr (AB ((l.drop i).take 8)) rfl) (hXi.keep hA31) hrl8 fun v48 n49 w50 hX51 hg52 => ?_)
  have hE := hX51.ext
  clear hA31
  clear hb34
  have hb1i := (Eq.trans (hg52.block n42 (bl hb1i) (by have h1 := hXi.idx.lt; simp; omega)) hb1i)
  refine oS rfl (Yk.extract (vs := [v48, NI n49]) (vr (.tuple #[v48, NI n49]) rfl) (show _ = some (v48 : Value) from rfl) (oS rfl (Yk.append _ _ (n4 + 1) 3 (.int .i64 0) 1 8 del4_ty54 infoI rfl (posOf l i ((l.drop i).take 8)).length ((posOf l i ((l.drop i).take 8)).map NI) (own_of hX51.own (vr v48 rfl)) 1 [NI i] (show Src _ _ _ _ _ _ _ from by rw [(vr (.slice (some ⟨n42, 0, none⟩) 1 1) rfl)]; exact (Src.ofSlice _ del4_ty54 ⟨n42, 0, none⟩ 1 1 [NI i] rfl (fun j u hu => by rw [Addr.add_lit, Nat.zero_add]; exact cellAt (l := [NI i]) hb1i hu) (fun u hu => by rw [List.mem_singleton.1 hu]; rfl))) (by have := posOf_length l i ((l.drop i).take 8); unfold maxLen; omega) (by have := posOf_length l i ((l.drop i).take 8); omega) hX51.hb fun v53 w54 ho55 hg56 => ?_)))
  have hX57 := IXO.grew (zs' := posOf l i ((l.drop i).take 8) ++ [i]) hX51 hg56 (by rw [List.length_append, List.map_append]; exact ho55)
  have hE := hX57.ext
  clear hX51
  refine oS rfl (Yk.extract (vs := [v48, NI n49]) (vr (.tuple #[v48, NI n49]) rfl) (show _ = some (NI n49 : Value) from rfl) (oS rfl (Yk.entryStore (vr (.map (some n4)) rfl) (vr (NI n49) rfl) (vr v53 rfl) hX57 (by simp) fun w58 hX59 => ?_)))
  have hX59 := (posOf_upd l i) ▸ hX59
  have hE := hX59.ext
  clear hX57
  refine oL_ [(0, v), (2, (Value.map none)), (3, .map (some n4)), (4, NI i), (5, PQ n25 0)] ⟨T0, T2, T3, T4, T5, trivial⟩ fun ρ60 ⟨T0, T2, T3, T4, T5, _⟩ => (bN (tN (hK17 _ _ (wt (oS rfl (Yk.move T4 (oS rfl (Yk.bin (xv := NI i) (yv := NI 1) rfl rfl rfl (i64_add _ _ _ (by omega)) (oS rfl (Yk.assign (vr (NI ((i) + (1))) rfl) (oL_ [(0, v), (2, (Value.map none)), (3, .map (some n4)), (4, NI ((i) + (1))), (5, PQ n25 0)] ⟨T0, T2, T3, rfl, T5, trivial⟩ fun ρ61 ⟨T0, T2, T3, T4, T5, _⟩ => (tN (And.intro ⟨i + 1, T0, T2, T3, T4, hE, hX59, by omega, trivial⟩ ?_)))))))))))))
  show l.length - (intOf (ρ61 4)).toNat < l.length - (intOf (ρ12 4)).toNat
  rw [T4, q4]
  simp only [intOf, Int.toNat_natCast]; omega
 have hik : i = l.length - 7 := by omega
 refine wpF_exit (thenF_exit (thenF_exit (inBlockF_hit (tN (hK9 _ _ (sk fun K62 hK62 => (wt (oS rfl (Yk.move T3 (oS rfl (Yk.assign (vr (.map (some n4)) rfl) (oL_ [(0, v), (2, .map (some n4)), (3, .map (some n4)), (4, NI i)] ⟨T0, rfl, T3, T4, trivial⟩ fun ρ63 ⟨T0, T2, T3, T4, _⟩ => (tN (hK62 _ _ (wpF_ret (postF_ret (fn := Tryd.f53) _ rfl [.map (some n4)] (.map (some n4)) rfl ⟨T2, trivial⟩ ?_))))))))))))))))
 rw [hik] at hXi
 exact ⟨_, _, rfl, hXi⟩
open Go.RowKit
structure MK (w0 wI w : World) (lo g3 g5 g7 : Nat) (vt vc v : Value) (o : List UInt8) (fr : Nat) : Prop where
  ext : Ext w0 w
  b3 : w.heap[g3]? = some (.cells #[vt] 24 (0, 0))
  b5 : w.heap[g5]? = some (.cells #[vc] 24 (0, 0))
  b7 : w.heap[g7]? = some (.cells #[NI fr] 3 (0, 0))
  own : w.ownsRow w0.heap.size 5 1 v o.length (Lib.byteCells o)
  fz : ∀ k, lo ≤ k → k < wI.heap.size → w.heap[k]? = wI.heap[k]?
  apz : ∀ k, v.ownBlock = some k → k < lo ∨ wI.heap.size ≤ k
  l3 : w0.heap.size ≤ g3
  l5 : w0.heap.size ≤ g5
  l7 : w0.heap.size ≤ g7
  o3 : g3 < lo
  o5 : g5 < lo
  o35 : g3 ≠ g5
  o7 : wI.heap.size ≤ g7
  oi : lo ≤ wI.heap.size
  os : wI.heap.size ≤ w.heap.size
theorem own_neT {w : World} {b : Nat} {e t : TypeId} {z n g : Nat} {v : Value} {xs : List Value} {cs : Array Value} {fr : Nat × Nat} (ho : w.ownsRow b e z v n xs) (hb : w.heap[g]? = some (.cells cs t fr)) (hne : e ≠ t) : v.ownBlock ≠ some g := fun h => by
  rcases ho.2 with ⟨rfl, _⟩ | ⟨g', cap, cur, rfl, _, hg, _⟩
  · cases h
  · have : g' = g := by simpa [Value.ownBlock] using h
    subst this
    rw [hg] at hb
    simp only [Option.some.injEq, Obj.cells.injEq] at hb
    exact hne hb.2.1
section
variable {w0 wI w w' : World} {lo g3 g5 g7 : Nat} {vt vc v : Value} {o : List UInt8} {fr : Nat}
theorem MK.keep (h : MK w0 wI w lo g3 g5 g7 vt vc v o fr) (k : Ext w w') : MK w0 wI w' lo g3 g5 g7 vt vc v o fr :=
  ⟨h.ext.trans k, Ext.blk' k h.b3, Ext.blk' k h.b5, Ext.blk' k h.b7, Stab.own _ _ _ _ _ _ _ _ h.own k, fun i h1 h2 => (k.block i (Nat.lt_of_lt_of_le h2 h.os)).trans (h.fz i h1 h2), h.apz, h.l3, h.l5, h.l7, h.o3, h.o5, h.o35, h.o7, h.oi, Nat.le_trans h.os k.size⟩
theorem MK.grew {v' : Value} {o' : List UInt8} (h : MK w0 wI w lo g3 g5 g7 vt vc v o fr) (gr : Grew w w' v v') (ho : w'.ownsRow w0.heap.size 5 1 v' o'.length (Lib.byteCells o')) : MK w0 wI w' lo g3 g5 g7 vt vc v' o' fr :=
  ⟨ext_grew h.ext gr h.own (Nat.le_refl _), blk_grew h.b3 gr (own_neT h.own h.b3 (by decide)), blk_grew h.b5 gr (own_neT h.own h.b5 (by decide)), blk_grew h.b7 gr (own_neT h.own h.b7 (by decide)), ho,
    fun i h1 h2 => (gr.by_.block i (Nat.lt_of_lt_of_le h2 h.os) (fun e => by rcases h.apz i e.symm with h3 | h3 <;> omega)).trans (h.fz i h1 h2),
    fun k hk => (gr.fresh k hk).elim (h.apz k) (fun h3 => .inr (Nat.le_trans h.os h3)), h.l3, h.l5, h.l7, h.o3, h.o5, h.o35, h.o7, h.oi, Nat.le_trans h.os gr.by_.size⟩
theorem MK.set5 (h : MK w0 wI w lo g3 g5 g7 vt vc v o fr) (hb : w'.heap[g5]? = some (.cells #[v] 24 (0, 0))) (hg : w.grownBy w' (some g5)) : MK w0 wI w' lo g3 g5 g7 vt v v o fr :=
  have lt := fun {k : Nat} {x : Obj} (hx : w.heap[k]? = some x) => (Array.getElem?_eq_some_iff.1 hx).1
  have h57 : g7 ≠ g5 := by have := h.o5; have := h.o7; have := h.oi; omega
  ⟨Below.grown h.ext hg h.ext.size (fun k hk => by cases hk; exact h.l5), (hg.block g3 (lt h.b3) (by simp [h.o35])).trans h.b3, hb, (hg.block g7 (lt h.b7) (by simp [h57])).trans h.b7,
    own_kept h.own hg (own_neT h.own h.b5 (by decide)), fun i h1 h2 => (hg.block i (Nat.lt_of_lt_of_le h2 h.os) (fun e => by cases e; have := h.o5; omega)).trans (h.fz i h1 h2), h.apz, h.l3, h.l5, h.l7, h.o3, h.o5, h.o35, h.o7, h.oi, Nat.le_trans h.os hg.size⟩
theorem MK.set7 {n : Nat} (h : MK w0 wI w lo g3 g5 g7 vt vc v o fr) (hb : w'.heap[g7]? = some (.cells #[NI n] 3 (0, 0))) (hg : w.grownBy w' (some g7)) : MK w0 wI w' lo g3 g5 g7 vt vc v o n :=
  have lt := fun {k : Nat} {x : Obj} (hx : w.heap[k]? = some x) => (Array.getElem?_eq_some_iff.1 hx).1
  have h57 : g5 ≠ g7 := by have := h.o5; have := h.o7; have := h.oi; omega
  have h37 : g3 ≠ g7 := by have := h.o3; have := h.o7; have := h.oi; omega
  ⟨Below.grown h.ext hg h.ext.size (fun k hk => by cases hk; exact h.l7), (hg.block g3 (lt h.b3) (by simp [h37])).trans h.b3, (hg.block g5 (lt h.b5) (by simp [h57])).trans h.b5, hb,
    own_kept h.own hg (own_neT h.own h.b7 (by decide)), fun i h1 h2 => (hg.block i (Nat.lt_of_lt_of_le h2 h.os) (fun e => by cases e; have := h.o7; omega)).trans (h.fz i h1 h2), h.apz, h.l3, h.l5, h.l7, h.o3, h.o5, h.o35, h.o7, h.oi, Nat.le_trans h.os hg.size⟩
theorem MK.idx {b base : Nat} {I : TypeId} {G : List UInt8 → List Nat} (h : MK w0 wI w lo g3 g5 g7 vt vc v o fr) (hI : IdxAt wI b base I G) (hb : lo ≤ b) : IdxAt w b base I G := by
  obtain ⟨h1, es, c, h2, h3⟩ := hI
  refine ⟨h1, es, c, (h.fz b hb (Array.getElem?_eq_some_iff.1 h2).1).trans h2, h3.born, h3.nodup, h3.keys, fun e he => ?_, h3.all, h3.apart⟩
  obtain ⟨q, k1, k2, k3, k4⟩ := h3.ent e he
  refine ⟨q, k1, k2, k3, k4.1, ?_⟩
  rcases k4.2 with h5 | ⟨g, cap, cur, e1, hbg, hg, r⟩
  · exact .inl h5
  · exact .inr ⟨g, cap, cur, e1, hbg, (h.fz g (by omega) (Array.getElem?_eq_some_iff.1 hg).1).trans hg, r⟩
end
def flushP (T : List UInt8) (fr to : Nat) (o : List UInt8) : List UInt8 := if fr < to then o ++ Lib.uvarint (2 * (to - fr)) ++ (T.drop fr).take (to - fr) else o
open Go.RowKit
set_option maxRecDepth 100000
theorem del6_isz24 : (Tryd.prog.info? 24).map (·.size) = some 1 := by kernel_rfl
theorem del6_ty3 : Tryd.prog.underlying 3 = some (.int .i64) := by kernel_rfl
theorem del6_ty24 : Tryd.prog.underlying 24 = some (.slice 5) := by kernel_rfl
theorem del6_pl52 : Plain Tryd.prog 52 := fun _ _ => by kernel_rfl
theorem del6_sz5 : ∀ w' : World, (sizeOf 5).run Tryd.prog w' = .ok 1 w' := fun _ => by kernel_rfl
theorem del6_inf5 : (Tryd.prog.info? 5).map (fun i => (i.zero, i.size, i.bytes)) = some (some (.int .u8 0), 1, 1) := by kernel_rfl
theorem flush_any (w0 wI w : World) (lo g3 g5 g7 : Nat) (vt v : Value) (o T : List UInt8) (fr to : Nat) (hM : MK w0 wI w lo g3 g5 g7 vt v v o fr) (hT : RB w0 vt T) (hto : to ≤ T.length) (hfr : fr ≤ T.length) (hTl : T.length ≤ 1048576) (hol : o.length ≤ 1073741824) :
  Calls Tryd.prog 54 #[NI to, PQ g7 0, PQ g5 0, PQ g3 0] w fun e w' => e = .returned (.tuple #[]) ∧ ∃ v', MK w0 wI w' lo g3 g5 g7 vt v' v' (flushP T fr to o) fr := by
 have hb1 : w.heap[g3]? = some (.cells ([vt] : List Value).toArray 24 (0, 0)) := hM.b3
 have hb2 : w.heap[g5]? = some (.cells ([v] : List Value).toArray 24 (0, 0)) := hM.b5
 have hb3 : w.heap[g7]? = some (.cells ([NI (fr)] : List Value).toArray 3 (0, 0)) := hM.b7
 have hr4 := hT.keep hM.ext
 refine calls_of_wpF (args := [NI to, PQ g7 0, PQ g5 0, PQ g3 0]) Tryd.func54 rfl 20 rfl (Nat.le_of_ble_eq_true rfl) ?_
 intro ρ0 hb
 have T0 : ρ0 0 = (NI to : Value) := hb.get 0
 have T1 : ρ0 1 = (PQ g7 0 : Value) := hb.get 1
 have T2 : ρ0 2 = (PQ g5 0 : Value) := hb.get 2
 have T3 : ρ0 3 = (PQ g3 0 : Value) := hb.get 3
 clear hb
 refine sk fun K5 hK5 => (wt (oM rfl (oS rfl (Yk.cell1 del6_ty3 rfl T1 (cellAt hb3 (show _ = some (NI fr : Value) from rfl)) (oS rfl (Yk.eqI (a := (to : Nat)) (b := (fr : Nat)) T0 rfl (k_gtr _ _ _ _) (oZ (tN (hK5 _ _ ?_)))))))))
 refine wpF_cond ((fr) < (to)) (vr (.bool (decide ((fr) < (to)))) rfl) (fun hc => ?_) (fun hc => ?_)
 ·have hu9 := uvarint_len63 (2 * (to - fr)) (by omega)
  refine sk fun K6 hK6 => (wt (oS rfl (Yk.cell1 del6_ty24 rfl T2 (cellAt hb2 (show _ = some (v : Value) from rfl)) (oM rfl (oS rfl (Yk.cell1 del6_ty3 rfl T1 (cellAt hb3 (show _ = some (NI fr : Value) from rfl)) (oS rfl (Yk.bin (xv := NI to) (yv := NI fr) T0 rfl rfl (i64_sub _ _ _ (by omega) (by omega)) (oS rfl (Yk.bin (xv := NI 2) (yv := NI ((to) - (fr))) rfl rfl rfl (i64_mul _ _ _ (by omega)) (oS rfl (Yk.callA2 del6_pl52 (vr v rfl) (vr (NI ((2) * ((to) - (fr)))) rfl) ((dnumber_any _ w0.heap.size v (o) hM.own hM.ext.size ((2) * ((to) - (fr))) (by omega) (by omega)).mono ?_)))))))))))))
  rintro e w11 ⟨v7, rfl, ho8, hg9⟩
  refine ⟨_, rfl, ?_⟩
  have hM10 := MK.grew hM hg9 ho8
  clear hM
  have hb12 : w11.heap[g3]? = some (.cells ([vt] : List Value).toArray 24 (0, 0)) := hM10.b3
  have hb13 : w11.heap[g5]? = some (.cells ([v] : List Value).toArray 24 (0, 0)) := hM10.b5
  have hb14 : w11.heap[g7]? = some (.cells ([NI (fr)] : List Value).toArray 3 (0, 0)) := hM10.b7
  have hr15 := hT.keep hM10.ext
  refine oS rfl (Yk.storeC (i := 0) (v := v7) T2 (vr v7 rfl) hM10.b5 (Nat.le_of_ble_eq_true rfl) del6_isz24 (own_one hM10.own).1 (own_one hM10.own).2 fun w16 hb17 hg18 hs19 => ?_)
  have hM20 := MK.set5 hM10 hb17 hg18
  clear hM10
  have hb21 : w16.heap[g3]? = some (.cells ([vt] : List Value).toArray 24 (0, 0)) := hM20.b3
  have hb22 : w16.heap[g5]? = some (.cells ([v7] : List Value).toArray 24 (0, 0)) := hM20.b5
  have hb23 : w16.heap[g7]? = some (.cells ([NI (fr)] : List Value).toArray 3 (0, 0)) := hM20.b7
  have hr24 := hT.keep hM20.ext
  refine oZ (tN (hK6 _ _ ?_))
  refine wpF_draw_seq2 5 _ [4] [Is (v7), Is (vt), Is (NI fr), Is (NI to), fun x w' => RB w' x ((T.drop (fr)).take ((to) - (fr))), fun x w' => MK w0 wI w' lo g3 g5 g7 vt v7 x ((o ++ Lib.uvarint ((2) * ((to) - (fr)))) ++ (T.drop (fr)).take ((to) - (fr))) (fr)] (by kernel_rfl) [14, 15, 16, 17, 18, 19] (by kernel_rfl) (by kernel_rfl) (by kernel_rfl) (by kernel_rfl) (by kernel_rfl) rfl rfl rfl rfl (si4 ⟨(fun _ _ _ h k => RB.keep h k), trivial⟩) ⟨.inr (Stab.is _), .inr (Stab.is _), .inr (Stab.is _), .inr (Stab.is _), .inl rfl, trivial⟩ ?hs1002 ?hQ1002
  case hs1002 =>
   refine ⟨?_, ?_, ?_, ?_, ?_, ?_, ?_, trivial⟩
   ·refine stepFL (stepN rfl fun σ w1 hC h => ?_)
    have e2 := (eqo (h 2 (by decide))).trans T2
    exact Yk.cell1 del6_ty24 rfl e2 (cellAt (eb hC hb22) (show _ = some (v7 : Value) from rfl)) ⟨Ext.refl _, rfl⟩
   ·refine stepFL (stepN rfl fun σ w1 hC h => ?_)
    have e3 := (eqo (h 3 (by decide))).trans T3
    exact Yk.cell1 del6_ty24 rfl e3 (cellAt (eb hC hb21) (show _ = some (vt : Value) from rfl)) ⟨Ext.refl _, rfl⟩
   ·refine stepFL (stepN rfl fun σ w1 hC h => ?_)
    have e1 := (eqo (h 1 (by decide))).trans T1
    exact Yk.cell1 del6_ty3 rfl e1 (cellAt (eb hC hb23) (show _ = some (NI fr : Value) from rfl)) ⟨Ext.refl _, rfl⟩
   ·refine stepFL (stepN rfl fun σ w1 hC h => ?_)
    have e0 := (eqo (h 0 (by decide))).trans T0
    exact Yk.move e0 ⟨Ext.refl _, rfl⟩
   ·refine stepFL (stepN rfl fun σ w1 hC h => ?_)
    have e15 := eqo (h 15 (by decide))
    have e16 := eqo (h 16 (by decide))
    have e17 := eqo (h 17 (by decide))
    exact Yk.sliceLH (xs := T) (l := fr) (n := to) del6_ty24 del6_sz5 rfl (RB.of (hr24.keep hC) e15) e16 e17 (by omega) (by omega) fun v hr _ => ⟨Ext.refl _, hr⟩
   ·refine stepFL (stepN rfl fun σ w1 hC h => ?_)
    have e14 := eqo (h 14 (by decide))
    have e18 : (fun x w' => RB w' x ((T.drop (fr)).take ((to) - (fr)))) (σ 18) w1 := h 18 (by decide)
    have hM1 := hM20.keep hC
    exact Yk.appendRB _ _ w0.heap.size (.int .u8 0) del6_ty24 del6_inf5 rfl del6_ty24 (o ++ Lib.uvarint ((2) * ((to) - (fr)))) ((T.drop (fr)).take ((to) - (fr))) (own_of hM1.own e14) e18 (by simp only [List.length_append, List.length_take, List.length_drop]; omega) hM1.ext.size fun x w2 ho hg => ⟨trivial, MK.grew hM1 (e14 ▸ hg) ho⟩
   ·exact trivial
  intro ρ25 w26 he hf
  obtain ⟨-, -, -, -, -, k19, -⟩ := hf
  obtain ⟨T0, T1, T2, T3, -⟩ := he.hold [(0, _), (1, _), (2, _), (3, _)] ⟨T0, T1, T2, T3, trivial⟩ rfl
  clear he
  have k19 : (fun x w' => MK w0 wI w' lo g3 g5 g7 vt v7 x ((o ++ Lib.uvarint ((2) * ((to) - (fr)))) ++ (T.drop (fr)).take ((to) - (fr))) (fr)) (ρ25 19) w26 := k19
  obtain ⟨v28, T19⟩ : ∃ v, ρ25 19 = v := ⟨_, rfl⟩
  rw [T19] at k19
  have hk29 := k19; clear k19
  refine (Yk.storeC (i := 0) (v := v28) T2 T19 hk29.b5 (Nat.le_of_ble_eq_true rfl) del6_isz24 (own_one hk29.own).1 (own_one hk29.own).2 fun w30 hb31 hg32 hs33 => ?_)
  have hM34 := MK.set5 hk29 hb31 hg32
  clear hk29
  have hb35 : w30.heap[g3]? = some (.cells ([vt] : List Value).toArray 24 (0, 0)) := hM34.b3
  have hb36 : w30.heap[g5]? = some (.cells ([v28] : List Value).toArray 24 (0, 0)) := hM34.b5
  have hb37 : w30.heap[g7]? = some (.cells ([NI (fr)] : List Value).toArray 3 (0, 0)) := hM34.b7
  have hr38 := hT.keep hM34.ext
  refine postF_end (fn := Tryd.f54) [] rfl [] (.tuple #[]) rfl trivial ?_
  refine ⟨rfl, v28, ?_⟩
  rw [flushP, if_pos hc]
  exact hM34
 refine wpF_skip (postF_end (fn := Tryd.f54) [] rfl [] (.tuple #[]) rfl trivial ?_)
 refine ⟨rfl, v, ?_⟩
 rw [flushP, if_neg (by omega)]
 exact hM
open Go.RowKit
section
variable {P : Program} {K : Value → World → Prop} {ρ : Slots} {w : World} {d : Option Tmp} {ty : TypeId} {pos : String} {af : Array Edge} {gd : Option (Nat × Bool)}
theorem Yk.lenOwn {t e e2 : TypeId} (ht : P.underlying t = some (.slice e2)) {x : Operand} {b z n : Nat} {xs : List Value} (h : w.ownsRow b e z (evalR ρ x) n xs) (hk : K (NI n) w) : Yk P K ((execOp (evalR ρ) ⟨d, .call ⟨.builtin .len, #[x], #[t]⟩, ty, pos, af, gd⟩).run P w) := by
  rcases h.2 with ⟨e1, h0⟩ | ⟨g, cap, cur, e1, -⟩
  · subst h0
    exact Yk.lenSl ht e1 hk
  · exact Yk.lenSl ht e1 hk
theorem Yk.atOwn {t e e2 : TypeId} (ht : P.underlying t = some (.slice e2)) (he : ∀ w' : World, (sizeOf e2).run P w' = .ok 1 w') {x y : Operand} {b : Nat} {xs : List Value} (h : w.ownsRow b e 1 (evalR ρ x) xs.length xs) {k : IntKind} {i : Nat} (hy : evalR ρ y = .int k (i : Int)) (hi : i < xs.length)
    (hk : ∀ v, PCell (xs.getD i undef) v w → K v w) : Yk P K ((execOp (evalR ρ) ⟨d, .indexAddr t x y, ty, pos, af, gd⟩).run P w) := by
  rcases h.2 with ⟨e1, h0⟩ | ⟨g, cap, cur, e1, -⟩
  · omega
  · have hc := h.cells (g := g) (by rw [e1]; rfl) i (xs.getD i undef) (by simp [hi])
    rw [Addr.add_lit] at hc
    exact Yk.atSl ht he e1 hy hi (hk _ ⟨_, rfl, hc⟩)
end
def bstep (B T : List UInt8) (i : Nat) (pn : Nat × Nat) (q : Nat) : Nat × Nat := if pn.2 < lcp (B.drop q) (T.drop i) then (q, lcp (B.drop q) (T.drop i)) else pn
def best (B T : List UInt8) (i : Nat) : Nat × Nat := if i + 8 ≤ T.length then (posOf B (B.length - 7) ((T.drop i).take 8)).foldl (bstep B T i) (0, 0) else (0, 0)
def makeGo (B T : List UInt8) : Nat → Nat → Nat → List UInt8 → List UInt8
  | 0, _, fr, o => flushP T fr T.length o
  | f + 1, i, fr, o => if i < T.length then (if (best B T i).2 = 0 then makeGo B T f (i + 1) fr o
      else makeGo B T f (i + (best B T i).2) (i + (best B T i).2) (flushP T fr i o ++ Lib.uvarint (2 * (best B T i).2 + 1) ++ Lib.uvarint (best B T i).1)) else flushP T fr T.length o
def makeP (B T : List UInt8) : List UInt8 := makeGo B T T.length 0 0 (Lib.uvarint B.length ++ Lib.uvarint T.length)
theorem flushP_length (T : List UInt8) (fr to : Nat) (o : List UInt8) (ht : to ≤ 1048576) : (flushP T fr to o).length ≤ o.length + (to - fr) + 9 := by
  unfold flushP
  split
  · have := uvarint_len63 (2 * (to - fr)) (by omega)
    simp only [List.length_append, List.length_take, List.length_drop]
    omega
  · omega
theorem foldl_take_succ {α : Type} (f : α → Nat → α) (a : α) (zs : List Nat) (j : Nat) (h : j < zs.length) : (zs.take (j + 1)).foldl f a = f ((zs.take j).foldl f a) (zs.getD j 0) := by
  rw [List.take_succ_eq_append_getElem h, List.foldl_append]
  simp [h]
theorem NI_getD (zs : List Nat) (j : Nat) (h : j < zs.length) : (zs.map NI).getD j undef = NI (zs.getD j 0) := by simp [h]
theorem makeGo_end {B T : List UInt8} {f i fr : Nat} {o : List UInt8} (h : ¬ i < T.length) : makeGo B T f i fr o = flushP T fr T.length o := by
  cases f with
  | zero => rfl
  | succ f => rw [makeGo, if_neg h]
theorem posOf_lt {B : List UInt8} {k : Nat} {r : List UInt8} {j : Nat} (h : j < (posOf B k r).length) : (posOf B k r).getD j 0 < k := by
  have hm : (posOf B k r).getD j 0 ∈ posOf B k r := by
    rw [List.getD_eq_getElem?_getD, List.getElem?_eq_getElem h]
    exact List.getElem_mem h
  unfold posOf at hm
  rw [List.mem_filter, List.mem_range] at hm
  exact hm.1
open Go.RowKit
set_option maxRecDepth 100000
theorem del8_isz24 : (Tryd.prog.info? 24).map (·.size) = some 1 := by kernel_rfl
theorem del8_isz3 : (Tryd.prog.info? 3).map (·.size) = some 1 := by kernel_rfl
theorem del8_al24 {d : Option Tmp} {ty : TypeId} {pos : String} {af : Array Edge} {gd : Option (Nat × Bool)} (σ : Operand → Value) (w : World) : (execOp σ ⟨d, .alloc 24, ty, pos, af, gd⟩).run Tryd.prog w = .ok (.value (PQ w.heap.size 0)) (w.alloc (.cells ([.slice none 0 0] : List Value).toArray 24)) := by kernel_rfl
theorem del8_ty24 : Tryd.prog.underlying 24 = some (.slice 5) := by kernel_rfl
theorem del8_pl52 : Plain Tryd.prog 52 := fun _ _ => by kernel_rfl
theorem del8_pl53 : Plain Tryd.prog 53 := fun _ _ => by kernel_rfl
theorem del8_al3 {d : Option Tmp} {ty : TypeId} {pos : String} {af : Array Edge} {gd : Option (Nat × Bool)} (σ : Operand → Value) (w : World) : (execOp σ ⟨d, .alloc 3, ty, pos, af, gd⟩).run Tryd.prog w = .ok (.value (PQ w.heap.size 0)) (w.alloc (.cells ([NI 0]).toArray 3)) := by kernel_rfl
theorem del8_sz5 : ∀ w' : World, (sizeOf 5).run Tryd.prog w' = .ok 1 w' := fun _ => by kernel_rfl
theorem del8_ty100 : Tryd.prog.underlying 100 = some (.array 8 5) := by kernel_rfl
theorem del8_isz100 : (Tryd.prog.info? 100).map (·.size) = some 8 := by kernel_rfl
theorem del8_ty96 : Tryd.prog.underlying 96 = some (.map 100 54) := by kernel_rfl
theorem del8_ty54 : Tryd.prog.underlying 54 = some (.slice 3) := by kernel_rfl
theorem del8_sz3 : ∀ w' : World, (sizeOf 3).run Tryd.prog w' = .ok 1 w' := fun _ => by kernel_rfl
theorem del8_ty3 : Tryd.prog.underlying 3 = some (.int .i64) := by kernel_rfl
theorem del8_pl55 : Plain Tryd.prog 55 := fun _ _ => by kernel_rfl
theorem del8_pl54 : Plain Tryd.prog 54 := fun _ _ => by kernel_rfl
theorem make_any (w : World) (vb v2 : Value) (B T : List UInt8) (hrb : RB w vb B) (hrt : RB w v2 T) (hB : B.length ≤ 1048576) (hTl : T.length ≤ 1048576) :
  Calls Tryd.prog 25 #[vb, v2] w fun e w' => ∃ v', e = .returned v' ∧ Ext w w' ∧ w'.ownsRow w.heap.size 5 1 v' (makeP B T).length (Lib.byteCells (makeP B T)) := by
 refine calls_of_wpF (args := [vb, v2]) Tryd.func25 rfl 83 rfl (Nat.le_of_ble_eq_true rfl) ?_
 intro ρ0 hb
 have T0 : ρ0 0 = (vb : Value) := hb.get 0
 have T1 : ρ0 1 = (v2 : Value) := hb.get 1
 clear hb
 have hE := Ext.refl w
 refine sk fun K1 hK1 => (wt (oS rfl (Yk.box1 T1 (RB.one (hrt.keep hE)).1 fun n2 w3 hn4 hb5 hx6 hs7 => ?_)))
 have hE := hE.trans hx6
 have hb8 := hb5; clear hb5
 have hl9 : n2 < w3.heap.size := by omega
 refine oA rfl (oZ ?_)
 have hA10 := Ext.refl w3
 have hea11 := hE
 have hz12 := hE.size
 have hAS := hA10
 refine tN (hK1 _ _ (sk fun K13 hK13 => ?_))
 have hlt14 : n2 < w3.heap.size := (bl hb8)
 refine wpF_draw_own1 5 7 _ [2] (fun a b => Below w3.heap.size a b ∧ ∀ (g : Nat) (cs : Array Value), a.heap[g]? = some (.cells cs 24 (0, 0)) → b.heap[g]? = some (.cells cs 24 (0, 0))) [Is (vb), Is (NI B.length), fun x w' => w'.ownsRow w3.heap.size 5 1 x (([] : List UInt8) ++ Lib.uvarint B.length).length (Lib.byteCells (([] : List UInt8) ++ Lib.uvarint B.length)), Is (v2), Is (NI T.length), fun x w' => w'.ownsRow w3.heap.size 5 1 x (([] ++ Lib.uvarint B.length) ++ Lib.uvarint T.length).length (Lib.byteCells (([] ++ Lib.uvarint B.length) ++ Lib.uvarint T.length)), fun x w' => ∃ g : Nat, x = PQ g 0 ∧ w3.heap.size ≤ g ∧ w'.heap[g]? = some (.cells #[.slice none 0 0] 24 (0, 0))] (by kernel_rfl) [15, 16, 17, 18, 19, 20, 5] (by kernel_rfl) (by kernel_rfl) (by kernel_rfl) (by kernel_rfl) rfl rfl rfl (by decide) rfl (si2 ⟨(fun _ _ _ h k => Stab.own _ _ _ _ _ _ _ _ h k), (si2 ⟨(fun _ _ _ h k => Stab.own _ _ _ _ _ _ _ _ h k), (fun _ _ _ ⟨g, h1, h2, h3⟩ k => ⟨g, h1, h2, eb k h3⟩), trivial⟩)⟩) ⟨.inr (Stab.is _), .inr (Stab.is _), .inl rfl, .inr (Stab.is _), .inr (Stab.is _), .inl rfl, .inr ((fun _ _ _ ⟨g, h1, h2, h3⟩ k => ⟨g, h1, h2, k.2 _ _ h3⟩)), trivial⟩ (fun _ _ h k => Below.trans h k.1) ?hs3001 ?hQ3001
 case hs3001 =>
  refine ⟨?_, ?_, ?_, ?_, ?_, ?_, ?_, ?_, trivial⟩
  ·refine stepFL (stepN rfl fun σ w1 hC h => ?_)
   have e0 := (eqo (h 0 (by decide))).trans T0
   exact Yk.move e0 ⟨Ext.refl _, rfl⟩
  ·refine stepFL (stepN rfl fun σ w1 hC h => ?_)
   have e15 := eqo (h 15 (by decide))
   exact Yk.lenRB del8_ty24 (RB.of (hrb.keep (hE.trans hC)) e15) ⟨Ext.refl _, rfl⟩
  ·refine stepFL (stepN rfl fun σ w1 hC h => ?_)
   have e16 := eqo (h 16 (by decide))
   have hC : Ext w3 w1 := hC
   have hn0 : w1.ownsRow w3.heap.size 5 1 (.slice none 0 0) ([] : List UInt8).length (Lib.byteCells ([] : List UInt8)) := World.ownsRow_nil _ _ _ 1
   refine Yk.callA2 del8_pl52 rfl e16 ((dnumber_any w1 w3.heap.size (.slice none 0 0) [] hn0 hC.size B.length (by omega) (by simp)).mono ?_)
   rintro e w2 ⟨v', rfl, ho, hg⟩
   exact ⟨_, rfl, Ext.of hg.by_, ho⟩
  ·refine stepFL (stepN rfl fun σ w1 hC h => ?_)
   have e3 : σ 3 = PQ n2 0 := (eqo (h 3 (by decide))).trans rfl
   exact Yk.cell1 del8_ty24 rfl e3 (cellAt (eb hC hb8) (show _ = some (v2 : Value) from rfl)) ⟨Ext.refl _, rfl⟩
  ·refine stepFL (stepN rfl fun σ w1 hC h => ?_)
   have e18 := eqo (h 18 (by decide))
   exact Yk.lenRB del8_ty24 (RB.of (hrt.keep (hE.trans hC)) e18) ⟨Ext.refl _, rfl⟩
  ·refine stepFL (stepN rfl fun σ w1 hC h => ?_)
   have e17 : (fun x w' => w'.ownsRow w3.heap.size 5 1 x (([] : List UInt8) ++ Lib.uvarint B.length).length (Lib.byteCells (([] : List UInt8) ++ Lib.uvarint B.length))) (σ 17) w1 := h 17 (by decide)
   have e19 := eqo (h 19 (by decide))
   have hC : Ext w3 w1 := hC
   refine Yk.callA2 del8_pl52 rfl e19 ((dnumber_any w1 w3.heap.size (σ 17) (([] : List UInt8) ++ Lib.uvarint B.length) e17 hC.size T.length (by omega) (by have := uvarint_len63 B.length (by omega); simp; omega)).mono ?_)
   rintro e w2 ⟨v', rfl, ho, hg⟩
   exact ⟨_, rfl, ⟨hg.below hC.size (fun k hk => (World.ownsRow.lt e17 k hk).1), fun g cs h => blk_grew h hg (own_neT e17 h (by decide))⟩, ho⟩
  ·refine stepFL (stepN rfl fun σ w1 hC h => ?_)
   have hC : Ext w3 w1 := hC
   exact Yk.alloc (cs := ([.slice none 0 0] : List Value).toArray) del8_al24 fun g w2 hn hb hx hs => ⟨hx, g, rfl, by have := hC.size; omega, hb⟩
  ·exact trivial
 intro ρ15 w16 hx17 he hf
 obtain ⟨-, -, -, -, -, k20, k5, -⟩ := hf
 obtain ⟨T0, T1, T3, T4, -⟩ := he.hold [(0, _), (1, _), (3, PQ n2 0), (4, (Value.slice none 0 0))] ⟨T0, T1, rfl, rfl, trivial⟩ rfl
 clear he
 have hE := hE.trans hx17
 have hb8 := eb hx17 hb8
 have hA10 := hA10.trans hx17
 have k20 : (fun x w' => w'.ownsRow w3.heap.size 5 1 x (([] ++ Lib.uvarint B.length) ++ Lib.uvarint T.length).length (Lib.byteCells (([] ++ Lib.uvarint B.length) ++ Lib.uvarint T.length))) (ρ15 20) w16 := k20
 obtain ⟨v18, T20⟩ : ∃ v, ρ15 20 = v := ⟨_, rfl⟩
 rw [T20] at k20
 have hk19 := k20; clear k20
 have k5 : (fun x w' => ∃ g : Nat, x = PQ g 0 ∧ w3.heap.size ≤ g ∧ w'.heap[g]? = some (.cells #[.slice none 0 0] 24 (0, 0))) (ρ15 5) w16 := k5
 obtain ⟨v20, T5⟩ : ∃ v, ρ15 5 = v := ⟨_, rfl⟩
 rw [T5] at k5
 have hk21 := k5; clear k5
 obtain ⟨g5, hv5, hlo5, hb5⟩ := hk21
 rw [hv5] at T5
 have hap5 : OB v18 g5 := own_neT hk19 hb5 (by decide)
 refine (Yk.storeC (i := 0) (v := v18) T5 T20 hb5 (Nat.le_of_ble_eq_true rfl) del8_isz24 (own_one hk19).1 (own_one hk19).2 fun w22 hb23 hg24 hs25 => ?_)
 have hE := row_fresh hE hg24 (Nat.le_trans hz12 (by omega))
 have hb8 := kb hg24 hb8 (by omega)
 have hA10 := row_fresh hA10 hg24 (Nat.le_trans (Nat.le_refl _) (by omega))
 clear hb5
 have hk19 := own_kept hk19 hg24 hap5
 have hb5 := hb23; clear hb23
 have hl26 := bl hb5
 have hA27 := Ext.refl w22
 have hea28 := hE
 have hea29 := hA10
 have hz30 := hE.size
 have hz31 := hA10.size
 have hq3 := (bl hb8)
 have hq5 := (bl hb5)
 have hoP := hk19
 have hzP := hE.size
 have hzS := hAS.size
 refine tN (hK13 _ _ (sk fun K32 hK32 => (wt (oM rfl (oS rfl (Yk.callA1 del8_pl53 T0 ((index_any _ vb B (hrb.keep hE) (by omega)).mono ?_)))))))
 rintro e w33 ⟨bM, baseM, rfl, hX⟩
 refine ⟨_, rfl, ?_⟩
 have hE := hE.trans hX.ext
 have hb8 := eb hX.ext hb8
 have hA10 := hA10.trans hX.ext
 have hk19 := Stab.own _ _ _ _ _ _ _ _ hk19 hX.ext
 have hb5 := eb hX.ext hb5
 have hA27 := hA27.trans hX.ext
 have hzI := hX.ext.size
 have hA34 := Ext.refl w33
 have hea35 := hE
 have hea36 := hA10
 have hea37 := hA27
 have hz38 := hE.size
 have hz39 := hA10.size
 have hz40 := hA27.size
 refine oA rfl (oZ (tN (hK32 _ _ (sk fun K41 hK41 => (wt (oS rfl (Yk.alloc (cs := ([NI 0]).toArray) del8_al3 fun n42 w43 hn44 hb45 hx46 hs47 => ?_)))))))
 have hlt48 := lte (bl hb8) hn44
 have hlt49 := lte (bl hb5) hn44
 have hap50 : OB v18 n42 := own_newer hk19 (by omega)
 have hE := hE.trans hx46
 have hb8 := eb hx46 hb8
 have hA10 := hA10.trans hx46
 have hk19 := Stab.own _ _ _ _ _ _ _ _ hk19 hx46
 have hb5 := eb hx46 hb5
 have hA34 := hA34.trans hx46
 have hb51 := hb45; clear hb45
 have hl52 : n42 < w43.heap.size := by omega
 refine oS rfl (Yk.storeC (i := 0) (v := NI 0) (vr (PQ n42 0) rfl) (vr (NI 0) rfl) hb51 (Nat.le_of_ble_eq_true rfl) del8_isz3 rfl rfl fun w53 hb54 hg55 hs56 => ?_)
 have hE := row_fresh hE hg55 (Nat.le_trans hz38 (by omega))
 have hb8 := kb hg55 hb8 (by omega)
 have hA10 := row_fresh hA10 hg55 (Nat.le_trans hz39 (by omega))
 have hk19 := own_kept hk19 hg55 hap50
 have hb5 := kb hg55 hb5 (by omega)
 have hA34 := row_fresh hA34 hg55 (Nat.le_trans (Nat.le_refl _) (by omega))
 clear hb51
 have hb51 := hb54; clear hb54
 have hl57 := bl hb51
 refine oZ (tN (hK41 _ _ (sk fun K58 hK58 => (wt (oS rfl (Yk.mkFunc (vs := #[PQ n42 0, PQ g5 0, PQ n2 0]) (by simp only [List.map_toArray, List.map_cons, List.map_nil]; exact congrArg List.toArray (list3 (vr (PQ n42 0) rfl) T5 T3)) (oA rfl (oZ (tN (hK58 _ _ (sk fun K59 hK59 => (sk fun K60 hK60 => (wt (oA rfl (oL_ [(0, vb), (1, v2), (3, PQ n2 0), (4, (Value.slice none 0 0)), (5, PQ g5 0), (6, .map (some bM)), (7, PQ n42 0), (8, .func (.func 54) #[] #[PQ n42 0, PQ g5 0, PQ n2 0]), (9, NI 0)] ⟨T0, T1, T3, T4, T5, rfl, rfl, rfl, rfl, trivial⟩ fun ρ61 ⟨T0, T1, T3, T4, T5, T6, T7, T8, T9, _⟩ => (tN (hK60 _ _ (wpF_block ?_))))))))))))))))))
 have hM0 : MK w w33 w53 w22.heap.size n2 g5 n42 v2 v18 v18 (([] ++ Lib.uvarint B.length) ++ Lib.uvarint T.length) (0) := ⟨hE, hb8, hb5, hb51, ownsRow_base hk19 (by omega), fun k h1 h2 => hA34.block k h2, fun k hk => .inl (hoP.lt k hk).2, by omega, by omega, by omega, hq3, hq5, by omega, by omega, by omega, by omega⟩
 have hT := hrt
 refine wpF_loop (fun (ρ : Slots) (wz : World) => ∃ ia : Nat, ∃ fr : Nat, ∃ f : Nat, ∃ o : List UInt8, ∃ v : Value, ρ 0 = (vb : Value) ∧ ρ 1 = (v2 : Value) ∧ ρ 3 = (PQ n2 0 : Value) ∧ ρ 4 = ((Value.slice none 0 0) : Value) ∧ ρ 5 = (PQ g5 0 : Value) ∧ ρ 6 = (.map (some bM) : Value) ∧ ρ 7 = (PQ n42 0 : Value) ∧ ρ 8 = (.func (.func 54) #[] #[PQ n42 0, PQ g5 0, PQ n2 0] : Value) ∧ ρ 9 = (NI ia : Value) ∧ Ext w wz ∧ MK w w33 wz w22.heap.size n2 g5 n42 v2 v v (o) (fr) ∧ (makeGo B T f ia fr o = makeP B T) ∧ (T.length ≤ ia + f) ∧ (fr ≤ ia) ∧ (ia ≤ T.length) ∧ (o.length ≤ 20 + 40 * fr) ∧ True) (fun ρ _ => T.length - (intOf (ρ 9)).toNat) ⟨0, 0, T.length, ([] ++ Lib.uvarint B.length) ++ Lib.uvarint T.length, v18, T0, T1, T3, T4, T5, T6, T7, T8, T9, hE, hM0, (show makeGo B T T.length 0 0 _ = _ from by rw [makeP, List.nil_append]), by omega, Nat.le_refl _, Nat.zero_le _, by have := uvarint_len63 B.length (by omega); have := uvarint_len63 T.length (by omega); simp only [List.length_append, List.length_nil]; omega, trivial⟩ ?_
 clear hA10
 clear hA34
 clear hM0
 clear hE
 rintro ρ62 w63 ⟨ia, fr, f, o, v, T0, T1, T3, T4, T5, T6, T7, T8, T9, hE, hM, hgo, hf, hfr, hat, hol, -⟩
 have q9 := T9
 have hb64 : w63.heap[n2]? = some (.cells ([v2] : List Value).toArray 24 (0, 0)) := hM.b3
 have hb65 : w63.heap[g5]? = some (.cells ([v] : List Value).toArray 24 (0, 0)) := hM.b5
 have hb66 : w63.heap[n42]? = some (.cells ([NI (fr)] : List Value).toArray 3 (0, 0)) := hM.b7
 refine sk fun K67 hK67 => (sk fun K68 hK68 => (wt (oM rfl (oS rfl (Yk.cell1 del8_ty24 rfl T3 (cellAt hb64 (show _ = some (v2 : Value) from rfl)) (oS rfl (Yk.lenRB del8_ty24 (RB.of (hrt.keep hE) (vr v2 rfl)) (oS rfl (Yk.eqI (a := (ia : Nat)) (b := (T.length : Nat)) T9 rfl (k_lss _ _ _ _) (oZ (tN (hK68 _ _ ?_))))))))))))
 refine wpF_cond ((ia) < (T.length)) (vr (.bool (decide ((ia) < (T.length)))) rfl) (fun hc0 => ?_) (fun hc0 => ?_)
 ·obtain ⟨f', rfl⟩ : ∃ f', f = f' + 1 := ⟨f - 1, by omega⟩
  refine wpF_skip (tN (hK67 _ _ (wpF_block (sk fun K69 hK69 => (wt (oA rfl (oA rfl (oZ (tN (hK69 _ _ (sk fun K70 hK70 => (sk fun K71 hK71 => (wt (oM rfl (oS rfl (Yk.bin (xv := NI ia) (yv := NI 8) T9 rfl rfl (i64_add _ _ _ (by omega)) (oS rfl (Yk.cell1 del8_ty24 rfl T3 (cellAt hb64 (show _ = some (v2 : Value) from rfl)) (oS rfl (Yk.lenRB del8_ty24 (RB.of (hrt.keep hE) (vr v2 rfl)) ?_))))))))))))))))))))
  refine oS rfl (Yk.eqI (a := ((ia) + (8) : Nat)) (b := (T.length : Nat)) rfl rfl (k_leq _ _ _ _) (oL_ [(0, vb), (1, v2), (3, PQ n2 0), (4, (Value.slice none 0 0)), (5, PQ g5 0), (6, .map (some bM)), (7, PQ n42 0), (8, .func (.func 54) #[] #[PQ n42 0, PQ g5 0, PQ n2 0]), (9, NI ia), (10, NI 0), (11, NI 0), (32, .bool (decide (((ia) + (8)) ≤ (T.length))))] ⟨T0, T1, T3, T4, T5, T6, T7, T8, T9, rfl, rfl, rfl, trivial⟩ fun ρ72 ⟨T0, T1, T3, T4, T5, T6, T7, T8, T9, T10, T11, T32, _⟩ => (tN (hK71 _ _ ?_))))
  refine wpF_cond (((ia) + (8)) ≤ (T.length)) T32 (fun hc1 => ?_) (fun hc1 => ?_)
  ·have hrl : ((T.drop ia).take (ia + 8 - ia)).length = 8 := by rw [List.length_take, List.length_drop]; omega
   have hrl8 : ((T.drop ia).take 8).length = 8 := by rw [List.length_take, List.length_drop]; omega
   refine sk fun K73 hK73 => (wt (oM rfl (oS rfl (Yk.cell1 del8_ty24 rfl T3 (cellAt hb64 (show _ = some (v2 : Value) from rfl)) (oM rfl (oM rfl (oS rfl (Yk.bin (xv := NI ia) (yv := NI 8) T9 rfl rfl (i64_add _ _ _ (by omega)) (oS rfl (Yk.sliceLH (xs := T) (l := ia) (n := (ia) + (8)) del8_ty24 del8_sz5 (vr v2 rfl) (hrt.keep hE) T9 (vr (NI ((ia) + (8))) rfl) (by omega) (by omega) fun v74 hr75 ha76 => (oS rfl (Yk.toArr del8_ty100 (RB.of hr75 (vr v74 rfl)) (l := (T.drop (ia)).take (((ia) + (8)) - (ia))) (n := 8) (by rw [List.length_take, List.length_drop]; omega) (by decide) fun n77 n78 hr79 => (oS rfl (Yk.loadPart (vr (PQ n77 n78) rfl) (show World.rangeAt _ _ _ (Lib.byteCells ((T.drop ia).take 8)) from by simpa only [Nat.add_sub_cancel_left] using hr79) del8_ty100 rfl (by rw [Lib.byteCells_length, hrl8]; exact del8_isz100) (oS rfl (Yk.look rowLaw rowKey del8_ty96 zeroInts T6 (vr (AB ((T.drop ia).take 8)) rfl) (MK.idx hM hX.idx hX.lo) hrl8 fun v80 ho81 => (oS rfl (Yk.lenOwn del8_ty54 (own_of ho81 (vr v80 rfl)) (oM rfl (oL_ [(0, vb), (1, v2), (3, PQ n2 0), (4, (Value.slice none 0 0)), (5, PQ g5 0), (6, .map (some bM)), (7, PQ n42 0), (8, .func (.func 54) #[] #[PQ n42 0, PQ g5 0, PQ n2 0]), (9, NI ia), (10, NI 0), (11, NI 0), (41, v80), (42, NI ((posOf B (B.length - 7) ((T.drop ia).take 8)).length)), (43, NI 0)] ⟨T0, T1, T3, T4, T5, T6, T7, T8, T9, T10, T11, rfl, rfl, rfl, trivial⟩ fun ρ82 ⟨T0, T1, T3, T4, T5, T6, T7, T8, T9, T10, T11, T41, T42, T43, _⟩ => (tN (hK73 _ _ (wpF_block ?_)))))))))))))))))))))))
   refine wpF_loop (fun (ρ : Slots) (wz : World) => ∃ j : Nat, ∃ p : Nat, ∃ n : Nat, ρ 0 = (vb : Value) ∧ ρ 1 = (v2 : Value) ∧ ρ 3 = (PQ n2 0 : Value) ∧ ρ 4 = ((Value.slice none 0 0) : Value) ∧ ρ 5 = (PQ g5 0 : Value) ∧ ρ 6 = (.map (some bM) : Value) ∧ ρ 7 = (PQ n42 0 : Value) ∧ ρ 8 = (.func (.func 54) #[] #[PQ n42 0, PQ g5 0, PQ n2 0] : Value) ∧ ρ 9 = (NI ia : Value) ∧ ρ 41 = (v80 : Value) ∧ ρ 42 = (NI ((posOf B (B.length - 7) ((T.drop ia).take 8)).length) : Value) ∧ ρ 43 = (NI j : Value) ∧ ρ 10 = (NI p : Value) ∧ ρ 11 = (NI n : Value) ∧ Ext w wz ∧ MK w w33 wz w22.heap.size n2 g5 n42 v2 v v (o) (fr) ∧ wz.heap[n2]? = some (.cells ([v2] : List Value).toArray 24 (0, 0)) ∧ wz.heap[g5]? = some (.cells ([v] : List Value).toArray 24 (0, 0)) ∧ wz.heap[n42]? = some (.cells ([NI (fr)] : List Value).toArray 3 (0, 0)) ∧ RB wz v74 ((T.drop (ia)).take (((ia) + (8)) - (ia))) ∧ wz.ownsRow baseM 3 1 v80 (posOf B (B.length - 7) ((T.drop ia).take 8)).length ((posOf B (B.length - 7) ((T.drop ia).take 8)).map NI) ∧ (j ≤ (posOf B (B.length - 7) ((T.drop ia).take 8)).length) ∧ (((posOf B (B.length - 7) ((T.drop ia).take 8)).take j).foldl (bstep B T ia) (0, 0) = (p, n)) ∧ (p ≤ B.length) ∧ (n ≤ T.length - ia) ∧ True) (fun ρ _ => (posOf B (B.length - 7) ((T.drop ia).take 8)).length - (intOf (ρ 43)).toNat) ⟨0, 0, 0, T0, T1, T3, T4, T5, T6, T7, T8, T9, T41, T42, T43, T10, T11, hE, hM, hb64, hb65, hb66, hr75, ho81, Nat.zero_le _, rfl, Nat.zero_le _, Nat.zero_le _, trivial⟩ ?_
   clear hE hM hb64 hb65 hb66 hr75 ho81
   rintro ρ83 w84 ⟨j, p, n, T0, T1, T3, T4, T5, T6, T7, T8, T9, T41, T42, T43, T10, T11, hE, hM, hb64, hb65, hb66, hr75, ho81, hjl, hbp, hp, hn, -⟩
   have q43 := T43
   refine sk fun K85 hK85 => (wt (oS rfl (Yk.eqI (a := (j : Nat)) (b := ((posOf B (B.length - 7) ((T.drop ia).take 8)).length : Nat)) T43 T42 (k_lss _ _ _ _) (oZ (tN (hK85 _ _ (sk fun K86 hK86 => ?_)))))))
   refine wpF_cond ((j) < ((posOf B (B.length - 7) ((T.drop ia).take 8)).length)) (vr (.bool (decide ((j) < ((posOf B (B.length - 7) ((T.drop ia).take 8)).length)))) rfl) (fun hj => ?_) (fun hj => ?_)
   ·have hq := posOf_lt hj
    have hpl := posOf_length B (B.length - 7) ((T.drop ia).take 8)
    refine wpF_skip (tN (hK86 _ _ (sk fun K87 hK87 => (wpF_block (sk fun K88 hK88 => (wt (oS rfl (Yk.atOwn (xs := (posOf B (B.length - 7) ((T.drop ia).take 8)).map NI) del8_ty54 del8_sz3 (by rw [List.length_map]; exact own_of ho81 T41) T43 (by rw [List.length_map]; exact hj) fun v89 hp90 => ?_))))))))
    rw [NI_getD _ _ hj] at hp90
    refine oS rfl (Yk.loadC del8_ty3 rfl (PCell.of hp90 (vr v89 rfl)) (oA rfl (oZ ?_)))
    clear hp90
    refine tN (hK88 _ _ (sk fun K91 hK91 => ?_))
    refine wpF_draw [Is (vb), Is (NI ((posOf B (B.length - 7) ((T.drop ia).take 8)).getD j 0)), fun x w' => RB w' x (B.drop ((posOf B (B.length - 7) ((T.drop ia).take 8)).getD j 0)), Is (v2), Is (NI ia), fun x w' => RB w' x (T.drop (ia)), Is (NI (lcp (B.drop ((posOf B (B.length - 7) ((T.drop ia).take 8)).getD j 0)) (T.drop (ia)))), Is (NI (lcp (B.drop ((posOf B (B.length - 7) ((T.drop ia).take 8)).getD j 0)) (T.drop (ia))))] (by kernel_rfl) [47, 48, 49, 50, 51, 52, 53, 14] (by kernel_rfl) (by kernel_rfl) (si2 ⟨(fun _ _ _ h k => RB.keep h k), (si2 ⟨(fun _ _ _ h k => RB.keep h k), (si2 trivial)⟩)⟩) ?hs4012 ?hQ4012
    case hs4012 =>
     refine ⟨?_, ?_, ?_, ?_, ?_, ?_, ?_, ?_, trivial⟩
     ·refine stepN rfl fun σ w1 hC h => ?_
      have e0 := (eqo (h 0 (by decide))).trans T0
      exact Yk.move e0 ⟨Ext.refl _, rfl⟩
     ·refine stepN rfl fun σ w1 hC h => ?_
      have e13 : σ 13 = NI ((posOf B (B.length - 7) ((T.drop ia).take 8)).getD j 0) := (eqo (h 13 (by decide))).trans rfl
      exact Yk.move e13 ⟨Ext.refl _, rfl⟩
     ·refine stepN rfl fun σ w1 hC h => ?_
      have e47 := eqo (h 47 (by decide))
      have e48 := eqo (h 48 (by decide))
      exact Yk.sliceLo (xs := B) (l := (posOf B (B.length - 7) ((T.drop ia).take 8)).getD j 0) del8_ty24 del8_sz5 rfl (RB.of (hrb.keep (hE.trans hC)) e47) e48 (by omega) fun v hr _ => ⟨Ext.refl _, hr⟩
     ·refine stepN rfl fun σ w1 hC h => ?_
      have e3 := (eqo (h 3 (by decide))).trans T3
      exact Yk.cell1 del8_ty24 rfl e3 (cellAt (eb hC hb64) (show _ = some (v2 : Value) from rfl)) ⟨Ext.refl _, rfl⟩
     ·refine stepN rfl fun σ w1 hC h => ?_
      have e9 := (eqo (h 9 (by decide))).trans T9
      exact Yk.move e9 ⟨Ext.refl _, rfl⟩
     ·refine stepN rfl fun σ w1 hC h => ?_
      have e50 := eqo (h 50 (by decide))
      have e51 := eqo (h 51 (by decide))
      exact Yk.sliceLo (xs := T) (l := ia) del8_ty24 del8_sz5 rfl (RB.of (hrt.keep (hE.trans hC)) e50) e51 (by omega) fun v hr _ => ⟨Ext.refl _, hr⟩
     ·refine stepN rfl fun σ w1 hC h => ?_
      have e49 : (fun x w' => RB w' x (B.drop ((posOf B (B.length - 7) ((T.drop ia).take 8)).getD j 0))) (σ 49) w1 := h 49 (by decide)
      have e52 : (fun x w' => RB w' x (T.drop (ia))) (σ 52) w1 := h 52 (by decide)
      refine Yk.callA2 del8_pl55 rfl rfl ((common_any _ (σ 49) (σ 52) (B.drop ((posOf B (B.length - 7) ((T.drop ia).take 8)).getD j 0)) (T.drop (ia)) e49 e52 (by simp only [List.length_drop]; omega)).mono ?_)
      rintro e w2 ⟨rfl, hx⟩
      exact ⟨_, rfl, hx, rfl⟩
     ·refine stepN rfl fun σ w1 hC h => ?_
      have e53 := eqo (h 53 (by decide))
      exact Yk.assign e53 ⟨Ext.refl _, rfl⟩
    intro ρ92 w93 hx94 he hf
    obtain ⟨-, -, -, -, -, -, -, k14, -⟩ := hf
    obtain ⟨T0, T1, T3, T4, T5, T6, T7, T8, T9, T10, T11, T13, T41, T42, T43, -⟩ := he.hold [(0, _), (1, _), (3, _), (4, _), (5, _), (6, _), (7, _), (8, _), (9, _), (10, _), (11, _), (13, NI ((posOf B (B.length - 7) ((T.drop ia).take 8)).getD j 0)), (41, _), (42, _), (43, _)] ⟨T0, T1, T3, T4, T5, T6, T7, T8, T9, T10, T11, rfl, T41, T42, T43, trivial⟩ rfl
    clear he
    have hE := hE.trans hx94
    have hM : MK w w33 w93 w22.heap.size n2 g5 n42 v2 v v (o) (fr) := (hM.keep hx94)
    have hb64 := eb hx94 hb64
    have hb65 := eb hx94 hb65
    have hb66 := eb hx94 hb66
    have hr75 := hr75.keep hx94
    have ho81 := Stab.own _ _ _ _ _ _ _ _ ho81 hx94
    have T14 : ρ92 14 = NI (lcp (B.drop ((posOf B (B.length - 7) ((T.drop ia).take 8)).getD j 0)) (T.drop (ia))) := k14
    clear k14
    refine tN (hK91 _ _ (sk fun K95 hK95 => (wt (oM rfl (oM rfl (oS rfl (Yk.eqI (a := (lcp (B.drop ((posOf B (B.length - 7) ((T.drop ia).take 8)).getD j 0)) (T.drop (ia)) : Nat)) (b := (n : Nat)) T14 T11 (k_gtr _ _ _ _) (oZ (tN (hK95 _ _ ?_))))))))))
    refine wpF_cond ((n) < (lcp (B.drop ((posOf B (B.length - 7) ((T.drop ia).take 8)).getD j 0)) (T.drop (ia)))) (vr (.bool (decide ((n) < (lcp (B.drop ((posOf B (B.length - 7) ((T.drop ia).take 8)).getD j 0)) (T.drop (ia)))))) rfl) (fun hc3 => ?_) (fun hc3 => ?_)
    ·refine wt (oM rfl (oM rfl (oA rfl (oA rfl (oZ (bN (tN (hK87 _ _ (wt (oS rfl (Yk.bin (xv := NI j) (yv := NI 1) T43 rfl rfl (i64_add _ _ _ (by omega)) (oM rfl (oL_ [(0, vb), (1, v2), (3, PQ n2 0), (4, (Value.slice none 0 0)), (5, PQ g5 0), (6, .map (some bM)), (7, PQ n42 0), (8, .func (.func 54) #[] #[PQ n42 0, PQ g5 0, PQ n2 0]), (9, NI ia), (10, NI ((posOf B (B.length - 7) ((T.drop ia).take 8)).getD j 0)), (11, NI (lcp (B.drop ((posOf B (B.length - 7) ((T.drop ia).take 8)).getD j 0)) (T.drop (ia)))), (13, NI ((posOf B (B.length - 7) ((T.drop ia).take 8)).getD j 0)), (14, NI (lcp (B.drop ((posOf B (B.length - 7) ((T.drop ia).take 8)).getD j 0)) (T.drop (ia)))), (41, v80), (42, NI ((posOf B (B.length - 7) ((T.drop ia).take 8)).length)), (43, NI ((j) + (1)))] ⟨T0, T1, T3, T4, T5, T6, T7, T8, T9, T13, T14, T13, T14, T41, T42, rfl, trivial⟩ fun ρ96 ⟨T0, T1, T3, T4, T5, T6, T7, T8, T9, T10, T11, T13, T14, T41, T42, T43, _⟩ => (tN (And.intro ⟨j + 1, (posOf B (B.length - 7) ((T.drop ia).take 8)).getD j 0, lcp (B.drop ((posOf B (B.length - 7) ((T.drop ia).take 8)).getD j 0)) (T.drop ia), T0, T1, T3, T4, T5, T6, T7, T8, T9, T41, T42, T43, T10, T11, hE, hM, hb64, hb65, hb66, hr75, ho81, by omega, by rw [foldl_take_succ _ _ _ _ hj, hbp, bstep, if_pos hc3], by omega, by have := (lcp_le (B.drop ((posOf B (B.length - 7) ((T.drop ia).take 8)).getD j 0)) (T.drop ia)).2; rw [List.length_drop] at this; omega, trivial⟩ ?_)))))))))))))))
     show (posOf B (B.length - 7) ((T.drop ia).take 8)).length - (intOf (ρ96 43)).toNat < (posOf B (B.length - 7) ((T.drop ia).take 8)).length - (intOf (ρ83 43)).toNat
     rw [T43, q43]
     simp only [intOf, Int.toNat_natCast]; omega
    refine wpF_skip (bN (tN (hK87 _ _ (wt (oS rfl (Yk.bin (xv := NI j) (yv := NI 1) T43 rfl rfl (i64_add _ _ _ (by omega)) (oM rfl (oL_ [(0, vb), (1, v2), (3, PQ n2 0), (4, (Value.slice none 0 0)), (5, PQ g5 0), (6, .map (some bM)), (7, PQ n42 0), (8, .func (.func 54) #[] #[PQ n42 0, PQ g5 0, PQ n2 0]), (9, NI ia), (10, NI p), (11, NI n), (13, NI ((posOf B (B.length - 7) ((T.drop ia).take 8)).getD j 0)), (14, NI (lcp (B.drop ((posOf B (B.length - 7) ((T.drop ia).take 8)).getD j 0)) (T.drop (ia)))), (41, v80), (42, NI ((posOf B (B.length - 7) ((T.drop ia).take 8)).length)), (43, NI ((j) + (1)))] ⟨T0, T1, T3, T4, T5, T6, T7, T8, T9, T10, T11, T13, T14, T41, T42, rfl, trivial⟩ fun ρ97 ⟨T0, T1, T3, T4, T5, T6, T7, T8, T9, T10, T11, T13, T14, T41, T42, T43, _⟩ => (tN (And.intro ⟨j + 1, p, n, T0, T1, T3, T4, T5, T6, T7, T8, T9, T41, T42, T43, T10, T11, hE, hM, hb64, hb65, hb66, hr75, ho81, by omega, by rw [foldl_take_succ _ _ _ _ hj, hbp, bstep, if_neg hc3], by omega, hn, trivial⟩ ?_))))))))))
    show (posOf B (B.length - 7) ((T.drop ia).take 8)).length - (intOf (ρ97 43)).toNat < (posOf B (B.length - 7) ((T.drop ia).take 8)).length - (intOf (ρ83 43)).toNat
    rw [T43, q43]
    simp only [intOf, Int.toNat_natCast]; omega
   rw [show (posOf B (B.length - 7) ((T.drop ia).take 8)).take j = posOf B (B.length - 7) ((T.drop ia).take 8) from List.take_of_length_le (by omega)] at hbp
   have hbe : best B T ia = (p, n) := by rw [best, if_pos hc1, hbp]
   refine wpF_exit (thenF_exit (thenF_exit (inBlockF_hit (tN (hK70 _ _ (sk fun K98 hK98 => (sk fun K99 hK99 => (wt (oM rfl (oS rfl (Yk.eqI (a := (n : Nat)) (b := (0 : Nat)) T11 rfl (k_eql _ _ _ _) (oZ (tN (hK99 _ _ ?_))))))))))))))
   refine wpF_cond ((n : Nat) = (0)) (vr (.bool (decide ((n : Nat) = (0)))) rfl) (fun hn0 => ?_) (fun hn0 => ?_)
   ·refine sk fun K100 hK100 => (wt (oM rfl (oS rfl (Yk.bin (xv := NI ia) (yv := NI 1) T9 rfl rfl (i64_add _ _ _ (by omega)) (oA rfl (oL_ [(0, vb), (1, v2), (3, PQ n2 0), (4, (Value.slice none 0 0)), (5, PQ g5 0), (6, .map (some bM)), (7, PQ n42 0), (8, .func (.func 54) #[] #[PQ n42 0, PQ g5 0, PQ n2 0]), (9, NI ((ia) + (1))), (10, NI p), (11, NI n), (41, v80), (42, NI ((posOf B (B.length - 7) ((T.drop ia).take 8)).length)), (43, NI j)] ⟨T0, T1, T3, T4, T5, T6, T7, T8, rfl, T10, T11, T41, T42, T43, trivial⟩ fun ρ101 ⟨T0, T1, T3, T4, T5, T6, T7, T8, T9, T10, T11, T41, T42, T43, _⟩ => (tN (hK100 _ _ (wpF_exit (thenF_exit (inBlockF_hit (tN (And.intro ⟨ia + 1, fr, f', o, v, T0, T1, T3, T4, T5, T6, T7, T8, T9, hE, hM, by rw [makeGo, if_pos hc0, if_pos (by rw [hbe]; exact hn0)] at hgo; exact hgo, by omega, by omega, by omega, hol, trivial⟩ ?_)))))))))))))
    show T.length - (intOf (ρ101 9)).toNat < T.length - (intOf (ρ62 9)).toNat
    rw [T9, q9]
    simp only [intOf, Int.toNat_natCast]; omega
   refine wpF_skip (tN (hK98 _ _ (sk fun K102 hK102 => (wt (oM rfl (oM rfl (oS rfl (Yk.clo del8_pl54 (caps := #[PQ n42 0, PQ g5 0, PQ n2 0]) T8 #[NI ia, PQ n42 0, PQ g5 0, PQ n2 0] (by simp only [List.map_toArray, List.map_cons, List.map_nil, List.append_toArray, List.cons_append, List.nil_append]; exact congrArg List.toArray (list4 T9 rfl rfl rfl)) ((flush_any w w33 _ (w22.heap.size) n2 g5 n42 v2 v (o) T (fr) (ia) hM hT (by omega) (by omega) (by omega) (by omega)).mono ?_)))))))))
   rintro e w105 ⟨rfl, v103, hM104⟩
   refine ⟨_, rfl, ?_⟩
   have hE := hM104.ext
   clear hM
   clear hr75
   clear ho81
   have hb106 : w105.heap[n2]? = some (.cells ([v2] : List Value).toArray 24 (0, 0)) := hM104.b3
   have hb107 : w105.heap[g5]? = some (.cells ([v103] : List Value).toArray 24 (0, 0)) := hM104.b5
   have hb108 : w105.heap[n42]? = some (.cells ([NI (fr)] : List Value).toArray 3 (0, 0)) := hM104.b7
   refine oZ ?_
   have hfl := flushP_length T fr ia o (by omega)
   have hu6 := uvarint_len63 (2 * n + 1) (by omega)
   have hu7 := uvarint_len63 p (by omega)
   refine tN (hK102 _ _ (sk fun K109 hK109 => (wt (oS rfl (Yk.cell1 del8_ty24 rfl T5 (cellAt hb107 (show _ = some (v103 : Value) from rfl)) (oM rfl (oS rfl (Yk.bin (xv := NI 2) (yv := NI n) rfl T11 rfl (i64_mul _ _ _ (by omega)) (oS rfl (Yk.bin (xv := NI ((2) * (n))) (yv := NI 1) rfl rfl rfl (i64_add _ _ _ (by omega)) (oS rfl (Yk.callA2 del8_pl52 (vr v103 rfl) (vr (NI (((2) * (n)) + (1))) rfl) ((dnumber_any _ w.heap.size v103 (flushP T (fr) (ia) (o)) hM104.own hM104.ext.size (((2) * (n)) + (1)) (by omega) (by first | omega | (simp only [List.length_append]; omega))).mono ?_)))))))))))))
   rintro e w114 ⟨v110, rfl, ho111, hg112⟩
   refine ⟨_, rfl, ?_⟩
   have hM113 := MK.grew hM104 hg112 ho111
   have hE := hM113.ext
   clear hM104
   have hb115 : w114.heap[n2]? = some (.cells ([v2] : List Value).toArray 24 (0, 0)) := hM113.b3
   have hb116 : w114.heap[g5]? = some (.cells ([v103] : List Value).toArray 24 (0, 0)) := hM113.b5
   have hb117 : w114.heap[n42]? = some (.cells ([NI (fr)] : List Value).toArray 3 (0, 0)) := hM113.b7
   refine oM rfl (oS rfl (Yk.callA2 del8_pl52 (vr v110 rfl) T10 ((dnumber_any _ w.heap.size v110 (flushP T (fr) (ia) (o) ++ Lib.uvarint (((2) * (n)) + (1))) hM113.own hM113.ext.size (p) (by omega) (by first | omega | (simp only [List.length_append]; omega))).mono ?_)))
   rintro e w122 ⟨v118, rfl, ho119, hg120⟩
   refine ⟨_, rfl, ?_⟩
   have hM121 := MK.grew hM113 hg120 ho119
   have hE := hM121.ext
   clear hM113
   have hb123 : w122.heap[n2]? = some (.cells ([v2] : List Value).toArray 24 (0, 0)) := hM121.b3
   have hb124 : w122.heap[g5]? = some (.cells ([v103] : List Value).toArray 24 (0, 0)) := hM121.b5
   have hb125 : w122.heap[n42]? = some (.cells ([NI (fr)] : List Value).toArray 3 (0, 0)) := hM121.b7
   refine oS rfl (Yk.storeC (i := 0) (v := v118) T5 (vr v118 rfl) hM121.b5 (Nat.le_of_ble_eq_true rfl) del8_isz24 (own_one hM121.own).1 (own_one hM121.own).2 fun w126 hb127 hg128 hs129 => ?_)
   have hM130 := MK.set5 hM121 hb127 hg128
   have hE := hM130.ext
   clear hM121
   have hb131 : w126.heap[n2]? = some (.cells ([v2] : List Value).toArray 24 (0, 0)) := hM130.b3
   have hb132 : w126.heap[g5]? = some (.cells ([v118] : List Value).toArray 24 (0, 0)) := hM130.b5
   have hb133 : w126.heap[n42]? = some (.cells ([NI (fr)] : List Value).toArray 3 (0, 0)) := hM130.b7
   refine oZ (tN (hK109 _ _ (sk fun K134 hK134 => (wt (oM rfl (oM rfl (oS rfl (Yk.bin (xv := NI ia) (yv := NI n) T9 T11 rfl (i64_add _ _ _ (by omega)) (oA rfl (oZ (tN (hK134 _ _ (wt (oM rfl (oS rfl (Yk.storeC (i := 0) (v := NI ((ia) + (n))) T7 (vr (NI ((ia) + (n))) rfl) hM130.b7 (Nat.le_of_ble_eq_true rfl) del8_isz3 rfl rfl fun w135 hb136 hg137 hs138 => ?_))))))))))))))))
   have hM139 := MK.set7 (n := (ia) + (n)) hM130 hb136 hg137
   have hE := hM139.ext
   clear hM130
   have hb140 : w135.heap[n2]? = some (.cells ([v2] : List Value).toArray 24 (0, 0)) := hM139.b3
   have hb141 : w135.heap[g5]? = some (.cells ([v118] : List Value).toArray 24 (0, 0)) := hM139.b5
   have hb142 : w135.heap[n42]? = some (.cells ([NI ((ia) + (n))] : List Value).toArray 3 (0, 0)) := hM139.b7
   refine oL_ [(0, vb), (1, v2), (3, PQ n2 0), (4, (Value.slice none 0 0)), (5, PQ g5 0), (6, .map (some bM)), (7, PQ n42 0), (8, .func (.func 54) #[] #[PQ n42 0, PQ g5 0, PQ n2 0]), (9, NI ((ia) + (n))), (10, NI p), (11, NI n), (41, v80), (42, NI ((posOf B (B.length - 7) ((T.drop ia).take 8)).length)), (43, NI j)] ⟨T0, T1, T3, T4, T5, T6, T7, T8, rfl, T10, T11, T41, T42, T43, trivial⟩ fun ρ143 ⟨T0, T1, T3, T4, T5, T6, T7, T8, T9, T10, T11, T41, T42, T43, _⟩ => (bN (tN (And.intro ⟨ia + n, ia + n, f', flushP T (fr) (ia) (o) ++ Lib.uvarint (((2) * (n)) + (1)) ++ Lib.uvarint (p), v118, T0, T1, T3, T4, T5, T6, T7, T8, T9, hE, hM139, by rw [makeGo, if_pos hc0, if_neg (by rw [hbe]; exact hn0), hbe] at hgo; exact hgo, by omega, by omega, by omega, by have h5 := flushP_length T fr ia o (by omega); have h6 := uvarint_len63 (2 * n + 1) (by omega); have h7 := uvarint_len63 p (by omega); simp only [List.length_append]; omega, trivial⟩ ?_)))
   show T.length - (intOf (ρ143 9)).toNat < T.length - (intOf (ρ62 9)).toNat
   rw [T9, q9]
   simp only [intOf, Int.toNat_natCast]; omega
  obtain ⟨p, hp0⟩ : ∃ p, p = 0 := ⟨_, rfl⟩
  obtain ⟨n, hnz⟩ : ∃ n, n = 0 := ⟨_, rfl⟩
  have T10 := T10.trans (show (Value.int .i64 ((0 : Nat) : Int)) = NI p by rw [hp0])
  have T11 := T11.trans (show (Value.int .i64 ((0 : Nat) : Int)) = NI n by rw [hnz])
  have hbe : best B T ia = (p, n) := by rw [best, if_neg hc1, hp0, hnz]
  have hp : p ≤ B.length := by omega
  have hn : n ≤ T.length - ia := by omega
  refine wpF_skip (tN (hK70 _ _ (sk fun K144 hK144 => (sk fun K145 hK145 => (wt (oM rfl (oS rfl (Yk.eqI (a := (n : Nat)) (b := (0 : Nat)) T11 rfl (k_eql _ _ _ _) (oZ (tN (hK145 _ _ ?_)))))))))))
  refine wpF_cond ((n : Nat) = (0)) (vr (.bool (decide ((n : Nat) = (0)))) rfl) (fun hn0 => ?_) (fun hn0 => ?_)
  ·refine sk fun K146 hK146 => (wt (oM rfl (oS rfl (Yk.bin (xv := NI ia) (yv := NI 1) T9 rfl rfl (i64_add _ _ _ (by omega)) (oA rfl (oL_ [(0, vb), (1, v2), (3, PQ n2 0), (4, (Value.slice none 0 0)), (5, PQ g5 0), (6, .map (some bM)), (7, PQ n42 0), (8, .func (.func 54) #[] #[PQ n42 0, PQ g5 0, PQ n2 0]), (9, NI ((ia) + (1))), (10, NI p), (11, NI n)] ⟨T0, T1, T3, T4, T5, T6, T7, T8, rfl, T10, T11, trivial⟩ fun ρ147 ⟨T0, T1, T3, T4, T5, T6, T7, T8, T9, T10, T11, _⟩ => (tN (hK146 _ _ (wpF_exit (thenF_exit (inBlockF_hit (tN (And.intro ⟨ia + 1, fr, f', o, v, T0, T1, T3, T4, T5, T6, T7, T8, T9, hE, hM, by rw [makeGo, if_pos hc0, if_pos (by rw [hbe]; exact hn0)] at hgo; exact hgo, by omega, by omega, by omega, hol, trivial⟩ ?_)))))))))))))
   show T.length - (intOf (ρ147 9)).toNat < T.length - (intOf (ρ62 9)).toNat
   rw [T9, q9]
   simp only [intOf, Int.toNat_natCast]; omega
  refine wpF_skip (tN (hK144 _ _ (sk fun K148 hK148 => (wt (oM rfl (oM rfl (oS rfl (Yk.clo del8_pl54 (caps := #[PQ n42 0, PQ g5 0, PQ n2 0]) T8 #[NI ia, PQ n42 0, PQ g5 0, PQ n2 0] (by simp only [List.map_toArray, List.map_cons, List.map_nil, List.append_toArray, List.cons_append, List.nil_append]; exact congrArg List.toArray (list4 T9 rfl rfl rfl)) ((flush_any w w33 _ (w22.heap.size) n2 g5 n42 v2 v (o) T (fr) (ia) hM hT (by omega) (by omega) (by omega) (by omega)).mono ?_)))))))))
  rintro e w151 ⟨rfl, v149, hM150⟩
  refine ⟨_, rfl, ?_⟩
  have hE := hM150.ext
  clear hM
  have hb152 : w151.heap[n2]? = some (.cells ([v2] : List Value).toArray 24 (0, 0)) := hM150.b3
  have hb153 : w151.heap[g5]? = some (.cells ([v149] : List Value).toArray 24 (0, 0)) := hM150.b5
  have hb154 : w151.heap[n42]? = some (.cells ([NI (fr)] : List Value).toArray 3 (0, 0)) := hM150.b7
  refine oZ ?_
  have hfl := flushP_length T fr ia o (by omega)
  have hu6 := uvarint_len63 (2 * n + 1) (by omega)
  have hu7 := uvarint_len63 p (by omega)
  refine tN (hK148 _ _ (sk fun K155 hK155 => (wt (oS rfl (Yk.cell1 del8_ty24 rfl T5 (cellAt hb153 (show _ = some (v149 : Value) from rfl)) (oM rfl (oS rfl (Yk.bin (xv := NI 2) (yv := NI n) rfl T11 rfl (i64_mul _ _ _ (by omega)) (oS rfl (Yk.bin (xv := NI ((2) * (n))) (yv := NI 1) rfl rfl rfl (i64_add _ _ _ (by omega)) (oS rfl (Yk.callA2 del8_pl52 (vr v149 rfl) (vr (NI (((2) * (n)) + (1))) rfl) ((dnumber_any _ w.heap.size v149 (flushP T (fr) (ia) (o)) hM150.own hM150.ext.size (((2) * (n)) + (1)) (by omega) (by first | omega | (simp only [List.length_append]; omega))).mono ?_)))))))))))))
  rintro e w160 ⟨v156, rfl, ho157, hg158⟩
  refine ⟨_, rfl, ?_⟩
  have hM159 := MK.grew hM150 hg158 ho157
  have hE := hM159.ext
  clear hM150
  have hb161 : w160.heap[n2]? = some (.cells ([v2] : List Value).toArray 24 (0, 0)) := hM159.b3
  have hb162 : w160.heap[g5]? = some (.cells ([v149] : List Value).toArray 24 (0, 0)) := hM159.b5
  have hb163 : w160.heap[n42]? = some (.cells ([NI (fr)] : List Value).toArray 3 (0, 0)) := hM159.b7
  refine oM rfl (oS rfl (Yk.callA2 del8_pl52 (vr v156 rfl) T10 ((dnumber_any _ w.heap.size v156 (flushP T (fr) (ia) (o) ++ Lib.uvarint (((2) * (n)) + (1))) hM159.own hM159.ext.size (p) (by omega) (by first | omega | (simp only [List.length_append]; omega))).mono ?_)))
  rintro e w168 ⟨v164, rfl, ho165, hg166⟩
  refine ⟨_, rfl, ?_⟩
  have hM167 := MK.grew hM159 hg166 ho165
  have hE := hM167.ext
  clear hM159
  have hb169 : w168.heap[n2]? = some (.cells ([v2] : List Value).toArray 24 (0, 0)) := hM167.b3
  have hb170 : w168.heap[g5]? = some (.cells ([v149] : List Value).toArray 24 (0, 0)) := hM167.b5
  have hb171 : w168.heap[n42]? = some (.cells ([NI (fr)] : List Value).toArray 3 (0, 0)) := hM167.b7
  refine oS rfl (Yk.storeC (i := 0) (v := v164) T5 (vr v164 rfl) hM167.b5 (Nat.le_of_ble_eq_true rfl) del8_isz24 (own_one hM167.own).1 (own_one hM167.own).2 fun w172 hb173 hg174 hs175 => ?_)
  have hM176 := MK.set5 hM167 hb173 hg174
  have hE := hM176.ext
  clear hM167
  have hb177 : w172.heap[n2]? = some (.cells ([v2] : List Value).toArray 24 (0, 0)) := hM176.b3
  have hb178 : w172.heap[g5]? = some (.cells ([v164] : List Value).toArray 24 (0, 0)) := hM176.b5
  have hb179 : w172.heap[n42]? = some (.cells ([NI (fr)] : List Value).toArray 3 (0, 0)) := hM176.b7
  refine oZ (tN (hK155 _ _ (sk fun K180 hK180 => (wt (oM rfl (oM rfl (oS rfl (Yk.bin (xv := NI ia) (yv := NI n) T9 T11 rfl (i64_add _ _ _ (by omega)) (oA rfl (oZ (tN (hK180 _ _ (wt (oM rfl (oS rfl (Yk.storeC (i := 0) (v := NI ((ia) + (n))) T7 (vr (NI ((ia) + (n))) rfl) hM176.b7 (Nat.le_of_ble_eq_true rfl) del8_isz3 rfl rfl fun w181 hb182 hg183 hs184 => ?_))))))))))))))))
  have hM185 := MK.set7 (n := (ia) + (n)) hM176 hb182 hg183
  have hE := hM185.ext
  clear hM176
  have hb186 : w181.heap[n2]? = some (.cells ([v2] : List Value).toArray 24 (0, 0)) := hM185.b3
  have hb187 : w181.heap[g5]? = some (.cells ([v164] : List Value).toArray 24 (0, 0)) := hM185.b5
  have hb188 : w181.heap[n42]? = some (.cells ([NI ((ia) + (n))] : List Value).toArray 3 (0, 0)) := hM185.b7
  refine oL_ [(0, vb), (1, v2), (3, PQ n2 0), (4, (Value.slice none 0 0)), (5, PQ g5 0), (6, .map (some bM)), (7, PQ n42 0), (8, .func (.func 54) #[] #[PQ n42 0, PQ g5 0, PQ n2 0]), (9, NI ((ia) + (n))), (10, NI p), (11, NI n)] ⟨T0, T1, T3, T4, T5, T6, T7, T8, rfl, T10, T11, trivial⟩ fun ρ189 ⟨T0, T1, T3, T4, T5, T6, T7, T8, T9, T10, T11, _⟩ => (bN (tN (And.intro ⟨ia + n, ia + n, f', flushP T (fr) (ia) (o) ++ Lib.uvarint (((2) * (n)) + (1)) ++ Lib.uvarint (p), v164, T0, T1, T3, T4, T5, T6, T7, T8, T9, hE, hM185, by rw [makeGo, if_pos hc0, if_neg (by rw [hbe]; exact hn0), hbe] at hgo; exact hgo, by omega, by omega, by omega, by have h5 := flushP_length T fr ia o (by omega); have h6 := uvarint_len63 (2 * n + 1) (by omega); have h7 := uvarint_len63 p (by omega); simp only [List.length_append]; omega, trivial⟩ ?_)))
  show T.length - (intOf (ρ189 9)).toNat < T.length - (intOf (ρ62 9)).toNat
  rw [T9, q9]
  simp only [intOf, Int.toNat_natCast]; omega
 rw [makeGo_end hc0] at hgo
 refine wpF_exit (thenF_exit (thenF_exit (inBlockF_hit (tN (hK59 _ _ (sk fun K190 hK190 => (wt (oM rfl (oS rfl (Yk.cell1 del8_ty24 rfl T3 (cellAt hb64 (show _ = some (v2 : Value) from rfl)) (oS rfl (Yk.lenRB del8_ty24 (RB.of (hrt.keep hE) (vr v2 rfl)) (oS rfl (Yk.clo del8_pl54 (caps := #[PQ n42 0, PQ g5 0, PQ n2 0]) T8 #[NI T.length, PQ n42 0, PQ g5 0, PQ n2 0] (by simp only [List.map_toArray, List.map_cons, List.map_nil, List.append_toArray, List.cons_append, List.nil_append]; exact congrArg List.toArray (list4 (vr (NI T.length) rfl) rfl rfl rfl)) ((flush_any w w33 _ (w22.heap.size) n2 g5 n42 v2 v (o) T (fr) (T.length) hM hT (by omega) (by omega) (by omega) (by omega)).mono ?_)))))))))))))))
 rintro e w193 ⟨rfl, v191, hM192⟩
 refine ⟨_, rfl, ?_⟩
 have hE := hM192.ext
 clear hM
 have hb194 : w193.heap[n2]? = some (.cells ([v2] : List Value).toArray 24 (0, 0)) := hM192.b3
 have hb195 : w193.heap[g5]? = some (.cells ([v191] : List Value).toArray 24 (0, 0)) := hM192.b5
 have hb196 : w193.heap[n42]? = some (.cells ([NI (fr)] : List Value).toArray 3 (0, 0)) := hM192.b7
 refine oZ (tN (hK190 _ _ (sk fun K197 hK197 => (wt (oS rfl (Yk.cell1 del8_ty24 rfl T5 (cellAt hb195 (show _ = some (v191 : Value) from rfl)) (oA rfl (oZ (tN (hK197 _ _ (wpF_ret (postF_ret (fn := Tryd.f25) _ rfl [v191] (v191) rfl ⟨rfl, trivial⟩ ?_))))))))))))
 rw [hgo] at hM192
 exact ⟨_, rfl, hM192.ext, ownsRow_base hM192.own (Nat.le_refl _)⟩
open Go.RowKit
def sizesP (D : List UInt8) : Option (Nat × Nat × Nat) := match lebDec 0 (D.drop 0) with
  | none => none
  | some (a, k) => match lebDec 0 (D.drop (0 + k)) with
    | none => none
    | some (b, j) => some (a, b, 0 + k + j)
def sizesRes : Option (Nat × Nat × Nat) → Value
  | none => .tuple #[NI 0, NI 0, NI 0, NI 6]
  | some (a, b, n) => .tuple #[NI a, NI b, NI n, NI 0]
def cutP (F : List UInt8) (p s nx : Nat) : Option (List UInt8 × Nat) := if s < 1 ∨ F.length < p ∨ F.length - p < s then none else some ((F.drop p).take s, nx)
def pieceP (B D : List UInt8) (i : Nat) : Option (List UInt8 × Nat) := match lebDec 0 (D.drop i) with
  | none => none
  | some (x, k) => if x % 2 = 1 then (match lebDec 0 (D.drop (i + k)) with
    | none => none
    | some (p, m) => cutP B p (x / 2) (i + k + m)) else cutP D (i + k) (x / 2) (i + k + x / 2)
def applyGo (B D : List UInt8) (size : Nat) : Nat → Nat → List UInt8 → Option (List UInt8)
  | 0, _, _ => none
  | f + 1, i, o => if i < D.length then (match pieceP B D i with
    | none => none
    | some (b, nx) => if size - o.length < b.length then none else applyGo B D size f nx (o ++ b)) else if o.length = size then some o else none
def applyP (B D : List UInt8) : List UInt8 × Nat := match sizesP D with
  | none => ([], 6)
  | some (a, b, n) => if 262144 < b then ([], 2) else if a ≠ B.length then ([], 6) else match applyGo B D b (D.length + 1) n [] with
    | none => ([], 6)
    | some o => (o, 0)
theorem sizesP_bound {D : List UInt8} {a b n : Nat} (h : sizesP D = some (a, b, n)) : a < 9223372036854775808 ∧ b < 9223372036854775808 ∧ n ≤ D.length := by
  unfold sizesP at h
  split at h
  · cases h
  · rename_i x k hk
    have h1 := lebDec_bound (a := 0) (by omega) hk
    split at h
    · cases h
    · rename_i y j hj
      have h2 := lebDec_bound (a := 0 + k) (by omega) hj
      simp only [Option.some.injEq, Prod.mk.injEq] at h
      obtain ⟨rfl, rfl, rfl⟩ := h
      omega
theorem cutP_some {F b : List UInt8} {p s nx n : Nat} (h : cutP F p s nx = some (b, n)) : 1 ≤ s ∧ p ≤ F.length ∧ s ≤ F.length - p ∧ b = (F.drop p).take s ∧ n = nx := by
  unfold cutP at h
  split at h
  · cases h
  · simp only [Option.some.injEq, Prod.mk.injEq] at h
    exact ⟨by omega, by omega, by omega, h.1.symm, h.2.symm⟩
theorem pieceP_bound {B D b : List UInt8} {i nx : Nat} (hi : i ≤ D.length) (h : pieceP B D i = some (b, nx)) : i < nx ∧ nx ≤ D.length ∧ b.length ≤ B.length + D.length := by
  unfold pieceP at h
  split at h
  · cases h
  · rename_i x k hk
    have h1 := lebDec_bound hi hk
    split at h
    · split at h
      · cases h
      · rename_i p m hm
        have h2 := lebDec_bound (a := i + k) (by omega) hm
        obtain ⟨c1, c2, c3, rfl, rfl⟩ := cutP_some h
        rw [List.length_take, List.length_drop]
        omega
    · obtain ⟨c1, c2, c3, rfl, rfl⟩ := cutP_some h
      rw [List.length_take, List.length_drop]
      omega
open Go.RowKit
set_option maxRecDepth 100000
theorem del10_pl63 : Plain Tryd.prog 63 := fun _ _ => by kernel_rfl
theorem del10_ty24 : Tryd.prog.underlying 24 = some (.slice 5) := by kernel_rfl
theorem del10_sz5 : ∀ w' : World, (sizeOf 5).run Tryd.prog w' = .ok 1 w' := fun _ => by kernel_rfl
theorem sizes_any (w : World) (v : Value) (D : List UInt8) (hr : RB w v D) :
  Calls Tryd.prog 88 #[v] w fun e w' => e = .returned (sizesRes (sizesP D)) ∧ Ext w w' := by
 refine calls_of_wpF (args := [v]) Tryd.func88 rfl 26 rfl (Nat.le_of_ble_eq_true rfl) ?_
 intro ρ0 hb
 have T0 : ρ0 0 = (v : Value) := hb.get 0
 clear hb
 have hE := Ext.refl w
 refine sk fun K1 hK1 => (wt (oA rfl (oA rfl (oA rfl (oA rfl (oZ ?_))))))
 rcases hgxa : lebDec 0 (D.drop (0)) with _ | ⟨xa, ka⟩
 ·refine tN (hK1 _ _ (sk fun K2 hK2 => (wt (oM rfl (oS rfl (Yk.callA2 del10_pl63 T0 (vr (NI 0) rfl) ((getNo _ v D (hr.keep hE) (0) (by omega) hgxa).mono ?_)))))))
  rintro e w4 ⟨rfl, hx3⟩
  refine ⟨_, rfl, ?_⟩
  have hE := hE.trans hx3
  refine oM rfl (oS rfl (Yk.extract (vs := [NI 0, NI 0, NI 6]) (vr (.tuple #[NI 0, NI 0, NI 6]) rfl) (show _ = some (NI 0 : Value) from rfl) (oS rfl (Yk.extract (vs := [NI 0, NI 0, NI 6]) (vr (.tuple #[NI 0, NI 0, NI 6]) rfl) (show _ = some (NI 0 : Value) from rfl) (oS rfl (Yk.extract (vs := [NI 0, NI 0, NI 6]) (vr (.tuple #[NI 0, NI 0, NI 6]) rfl) (show _ = some (NI 6 : Value) from rfl) (oA rfl (oA rfl (oA rfl (oZ (tN (hK2 _ _ (sk fun K5 hK5 => (sk fun K6 hK6 => (wt (oM rfl (oS rfl (Yk.eqI (a := (6 : Nat)) (b := (0 : Nat)) rfl rfl (k_neq _ _ _ _) (oZ (tN (hK6 _ _ ?_)))))))))))))))))))))
  refine wpF_true (vr (.bool (true)) (congrArg Value.bool (decide_eq_true (by decide)))) (sk fun K7 hK7 => (wt (oA rfl (oA rfl (oA rfl (oA rfl (oZ (tN (hK7 _ _ (wpF_ret (thenF_ret (postF_ret (fn := Tryd.f88) _ rfl [NI 0, NI 0, NI 0, NI 6] (.tuple #[NI 0, NI 0, NI 0, NI 6]) rfl ⟨rfl, rfl, rfl, rfl, trivial⟩ ?_))))))))))))
  refine ⟨?_, hE⟩
  rw [sizesP, hgxa]
  rfl
 have hqxa := lebDec_bound (a := 0) (by omega) hgxa
 rcases hgxb : lebDec 0 (D.drop (0 + ka)) with _ | ⟨xb, kb⟩
 ·refine tN (hK1 _ _ (sk fun K8 hK8 => (wt (oM rfl (oS rfl (Yk.callA2 del10_pl63 T0 (vr (NI 0) rfl) ((getYes _ v D (hr.keep hE) (0) (by omega) xa ka hgxa).mono ?_)))))))
  rintro e w10 ⟨rfl, hx9⟩
  refine ⟨_, rfl, ?_⟩
  have hE := hE.trans hx9
  refine oM rfl (oS rfl (Yk.extract (vs := [NI xa, NI ((0) + ka), NI 0]) (vr (.tuple #[NI xa, NI ((0) + ka), NI 0]) rfl) (show _ = some (NI xa : Value) from rfl) (oS rfl (Yk.extract (vs := [NI xa, NI ((0) + ka), NI 0]) (vr (.tuple #[NI xa, NI ((0) + ka), NI 0]) rfl) (show _ = some (NI ((0) + ka) : Value) from rfl) (oS rfl (Yk.extract (vs := [NI xa, NI ((0) + ka), NI 0]) (vr (.tuple #[NI xa, NI ((0) + ka), NI 0]) rfl) (show _ = some (NI 0 : Value) from rfl) (oA rfl (oA rfl (oA rfl (oZ (tN (hK8 _ _ (sk fun K11 hK11 => (sk fun K12 hK12 => (wt (oM rfl (oS rfl (Yk.eqI (a := (0 : Nat)) (b := (0 : Nat)) rfl rfl (k_neq _ _ _ _) (oZ (tN (hK12 _ _ ?_)))))))))))))))))))))
  refine wpF_false (vr (.bool (false)) (congrArg Value.bool (decide_eq_false (by decide)))) (wpF_skip (tN (hK11 _ _ (sk fun K13 hK13 => (wt (oM rfl (oM rfl (oS rfl (Yk.callA2 del10_pl63 T0 (vr (NI ((0) + ka)) rfl) ((getNo _ v D (hr.keep hE) ((0) + ka) (by omega) hgxb).mono ?_))))))))))
  rintro e w15 ⟨rfl, hx14⟩
  refine ⟨_, rfl, ?_⟩
  have hE := hE.trans hx14
  refine oM rfl (oS rfl (Yk.extract (vs := [NI 0, NI 0, NI 6]) (vr (.tuple #[NI 0, NI 0, NI 6]) rfl) (show _ = some (NI 0 : Value) from rfl) (oS rfl (Yk.extract (vs := [NI 0, NI 0, NI 6]) (vr (.tuple #[NI 0, NI 0, NI 6]) rfl) (show _ = some (NI 0 : Value) from rfl) (oS rfl (Yk.extract (vs := [NI 0, NI 0, NI 6]) (vr (.tuple #[NI 0, NI 0, NI 6]) rfl) (show _ = some (NI 6 : Value) from rfl) (oA rfl (oA rfl (oA rfl (oZ (tN (hK13 _ _ (sk fun K16 hK16 => (sk fun K17 hK17 => (wt (oM rfl (oS rfl (Yk.eqI (a := (6 : Nat)) (b := (0 : Nat)) rfl rfl (k_neq _ _ _ _) (oZ (tN (hK17 _ _ ?_)))))))))))))))))))))
  refine wpF_true (vr (.bool (true)) (congrArg Value.bool (decide_eq_true (by decide)))) (sk fun K18 hK18 => (wt (oA rfl (oA rfl (oA rfl (oA rfl (oZ (tN (hK18 _ _ (wpF_ret (thenF_ret (postF_ret (fn := Tryd.f88) _ rfl [NI 0, NI 0, NI 0, NI 6] (.tuple #[NI 0, NI 0, NI 0, NI 6]) rfl ⟨rfl, rfl, rfl, rfl, trivial⟩ ?_))))))))))))
  refine ⟨?_, hE⟩
  rw [sizesP, hgxa]; simp only; rw [hgxb]
  rfl
 have hqxb := lebDec_bound (a := 0 + ka) (by omega) hgxb
 refine tN (hK1 _ _ (sk fun K19 hK19 => (wt (oM rfl (oS rfl (Yk.callA2 del10_pl63 T0 (vr (NI 0) rfl) ((getYes _ v D (hr.keep hE) (0) (by omega) xa ka hgxa).mono ?_)))))))
 rintro e w21 ⟨rfl, hx20⟩
 refine ⟨_, rfl, ?_⟩
 have hE := hE.trans hx20
 refine oM rfl (oS rfl (Yk.extract (vs := [NI xa, NI ((0) + ka), NI 0]) (vr (.tuple #[NI xa, NI ((0) + ka), NI 0]) rfl) (show _ = some (NI xa : Value) from rfl) (oS rfl (Yk.extract (vs := [NI xa, NI ((0) + ka), NI 0]) (vr (.tuple #[NI xa, NI ((0) + ka), NI 0]) rfl) (show _ = some (NI ((0) + ka) : Value) from rfl) (oS rfl (Yk.extract (vs := [NI xa, NI ((0) + ka), NI 0]) (vr (.tuple #[NI xa, NI ((0) + ka), NI 0]) rfl) (show _ = some (NI 0 : Value) from rfl) (oA rfl (oA rfl (oA rfl (oZ (tN (hK19 _ _ (sk fun K22 hK22 => (sk fun K23 hK23 => (wt (oM rfl (oS rfl (Yk.eqI (a := (0 : Nat)) (b := (0 : Nat)) rfl rfl (k_neq _ _ _ _) (oZ (tN (hK23 _ _ ?_)))))))))))))))))))))
 refine wpF_false (vr (.bool (false)) (congrArg Value.bool (decide_eq_false (by decide)))) (wpF_skip (tN (hK22 _ _ (sk fun K24 hK24 => (wt (oM rfl (oM rfl (oS rfl (Yk.callA2 del10_pl63 T0 (vr (NI ((0) + ka)) rfl) ((getYes _ v D (hr.keep hE) ((0) + ka) (by omega) xb kb hgxb).mono ?_))))))))))
 rintro e w26 ⟨rfl, hx25⟩
 refine ⟨_, rfl, ?_⟩
 have hE := hE.trans hx25
 refine oM rfl (oS rfl (Yk.extract (vs := [NI xb, NI (((0) + ka) + kb), NI 0]) (vr (.tuple #[NI xb, NI (((0) + ka) + kb), NI 0]) rfl) (show _ = some (NI xb : Value) from rfl) (oS rfl (Yk.extract (vs := [NI xb, NI (((0) + ka) + kb), NI 0]) (vr (.tuple #[NI xb, NI (((0) + ka) + kb), NI 0]) rfl) (show _ = some (NI (((0) + ka) + kb) : Value) from rfl) (oS rfl (Yk.extract (vs := [NI xb, NI (((0) + ka) + kb), NI 0]) (vr (.tuple #[NI xb, NI (((0) + ka) + kb), NI 0]) rfl) (show _ = some (NI 0 : Value) from rfl) (oA rfl (oA rfl (oA rfl (oZ (tN (hK24 _ _ (sk fun K27 hK27 => (sk fun K28 hK28 => (wt (oM rfl (oS rfl (Yk.eqI (a := (0 : Nat)) (b := (0 : Nat)) rfl rfl (k_neq _ _ _ _) (oZ (tN (hK28 _ _ ?_)))))))))))))))))))))
 refine wpF_false (vr (.bool (false)) (congrArg Value.bool (decide_eq_false (by decide)))) (wpF_skip (tN (hK27 _ _ (sk fun K29 hK29 => (wt (oM rfl (oM rfl (oM rfl (oA rfl (oA rfl (oA rfl (oA rfl (oZ (tN (hK29 _ _ (wpF_ret (postF_ret (fn := Tryd.f88) _ rfl [NI xa, NI xb, NI (((0) + ka) + kb), NI 0] (.tuple #[NI xa, NI xb, NI (((0) + ka) + kb), NI 0]) rfl ⟨rfl, rfl, rfl, rfl, trivial⟩ ?_)))))))))))))))))
 refine ⟨?_, hE⟩
 rw [sizesP, hgxa]; simp only; rw [hgxb]
 rfl

theorem sizes_no (w : World) (v : Value) (D : List UInt8) (hr : RB w v D) (h : sizesP D = none) :
  Calls Tryd.prog 88 #[v] w fun e w' => e = .returned (.tuple #[NI 0, NI 0, NI 0, NI 6]) ∧ Ext w w' := by
 have := sizes_any w v D hr
 rw [h] at this
 exact this
theorem sizes_yes (w : World) (v : Value) (D : List UInt8) (hr : RB w v D) (a b n : Nat) (h : sizesP D = some (a, b, n)) :
  Calls Tryd.prog 88 #[v] w fun e w' => e = .returned (.tuple #[NI a, NI b, NI n, NI 0]) ∧ Ext w w' := by
 have := sizes_any w v D hr
 rw [h] at this
 exact this

theorem piece_any (w : World) (vb v : Value) (B D : List UInt8) (hrb : RB w vb B) (hr : RB w v D) (i : Nat) (hi : i ≤ D.length) (hB : B.length ≤ 1048576) (hD : D.length ≤ 4611686018427387904) :
  Calls Tryd.prog 89 #[vb, v, NI i] w fun e w' => (match pieceP B D i with | none => e = .returned (.tuple #[.slice none 0 0, NI 0, .bool false]) | some (b, nx) => ∃ v', e = .returned (.tuple #[v', NI nx, .bool true]) ∧ RB w' v' b) ∧ Ext w w' := by
 refine calls_of_wpF (args := [vb, v, NI i]) Tryd.func89 rfl 70 rfl (Nat.le_of_ble_eq_true rfl) ?_
 intro ρ0 hb
 have T0 : ρ0 0 = (vb : Value) := hb.get 0
 have T1 : ρ0 1 = (v : Value) := hb.get 1
 have T2 : ρ0 2 = (NI i : Value) := hb.get 2
 clear hb
 have hE := Ext.refl w
 refine sk fun K1 hK1 => (wt (oA rfl (oA rfl (oA rfl (oZ ?_)))))
 rcases hgx : lebDec 0 (D.drop (i)) with _ | ⟨x, k⟩
 ·refine tN (hK1 _ _ (sk fun K2 hK2 => (wt (oM rfl (oM rfl (oS rfl (Yk.callA2 del10_pl63 T1 T2 ((getNo _ v D (hr.keep hE) (i) (by omega) hgx).mono ?_))))))))
  rintro e w4 ⟨rfl, hx3⟩
  refine ⟨_, rfl, ?_⟩
  have hE := hE.trans hx3
  refine oM rfl (oS rfl (Yk.extract (vs := [NI 0, NI 0, NI 6]) (vr (.tuple #[NI 0, NI 0, NI 6]) rfl) (show _ = some (NI 0 : Value) from rfl) (oS rfl (Yk.extract (vs := [NI 0, NI 0, NI 6]) (vr (.tuple #[NI 0, NI 0, NI 6]) rfl) (show _ = some (NI 0 : Value) from rfl) (oS rfl (Yk.extract (vs := [NI 0, NI 0, NI 6]) (vr (.tuple #[NI 0, NI 0, NI 6]) rfl) (show _ = some (NI 6 : Value) from rfl) (oA rfl (oA rfl (oA rfl (oZ (tN (hK2 _ _ (sk fun K5 hK5 => (sk fun K6 hK6 => (wt (oM rfl (oS rfl (Yk.eqI (a := (6 : Nat)) (b := (0 : Nat)) rfl rfl (k_neq _ _ _ _) (oZ (tN (hK6 _ _ ?_)))))))))))))))))))))
  refine wpF_true (vr (.bool (true)) (congrArg Value.bool (decide_eq_true (by decide)))) (sk fun K7 hK7 => (wt (oA rfl (oA rfl (oA rfl (oZ (tN (hK7 _ _ (wpF_ret (thenF_ret (postF_ret (fn := Tryd.f89) _ rfl [(Value.slice none 0 0), NI 0, .bool (false)] (.tuple #[(Value.slice none 0 0), NI 0, .bool (false)]) rfl ⟨rfl, rfl, rfl, trivial⟩ ?_)))))))))))
  rw [pieceP, hgx]
  exact ⟨rfl, hE⟩
 have hqx := lebDec_bound (a := i) (by omega) hgx
 refine tN (hK1 _ _ (sk fun K8 hK8 => (wt (oM rfl (oM rfl (oS rfl (Yk.callA2 del10_pl63 T1 T2 ((getYes _ v D (hr.keep hE) (i) (by omega) x k hgx).mono ?_))))))))
 rintro e w10 ⟨rfl, hx9⟩
 refine ⟨_, rfl, ?_⟩
 have hE := hE.trans hx9
 refine oM rfl (oS rfl (Yk.extract (vs := [NI x, NI ((i) + k), NI 0]) (vr (.tuple #[NI x, NI ((i) + k), NI 0]) rfl) (show _ = some (NI x : Value) from rfl) (oS rfl (Yk.extract (vs := [NI x, NI ((i) + k), NI 0]) (vr (.tuple #[NI x, NI ((i) + k), NI 0]) rfl) (show _ = some (NI ((i) + k) : Value) from rfl) (oS rfl (Yk.extract (vs := [NI x, NI ((i) + k), NI 0]) (vr (.tuple #[NI x, NI ((i) + k), NI 0]) rfl) (show _ = some (NI 0 : Value) from rfl) (oA rfl (oA rfl (oA rfl (oZ (tN (hK8 _ _ (sk fun K11 hK11 => (sk fun K12 hK12 => (wt (oM rfl (oS rfl (Yk.eqI (a := (0 : Nat)) (b := (0 : Nat)) rfl rfl (k_neq _ _ _ _) (oZ (tN (hK12 _ _ ?_)))))))))))))))))))))
 refine wpF_false (vr (.bool (false)) (congrArg Value.bool (decide_eq_false (by decide)))) (wpF_skip (tN (hK11 _ _ (sk fun K13 hK13 => (wt (oM rfl (oS rfl (Yk.bin (xv := NI x) (yv := NI 2) rfl rfl rfl (i64_quo _ _ _ (by omega) (by omega)) (oM rfl (oA rfl (oA rfl (oZ (tN (hK13 _ _ (sk fun K14 hK14 => (wt (oM rfl (oA rfl ?_))))))))))))))))))
 refine oZ (tN (hK14 _ _ (sk fun K15 hK15 => (sk fun K16 hK16 => (wt (oM rfl (oS rfl (Yk.bin (xv := NI x) (yv := NI 2) rfl rfl rfl (i64_rem _ _ _ (by omega)) (oS rfl (Yk.eqI (a := ((x) % (2) : Nat)) (b := (1 : Nat)) rfl rfl (k_eql _ _ _ _) (oZ (tN (hK16 _ _ ?_)))))))))))))
 refine wpF_cond (((x) % (2) : Nat) = (1)) (vr (.bool (decide (((x) % (2) : Nat) = (1)))) rfl) (fun hodd => ?_) (fun hodd => ?_)
 ·rcases hgp : lebDec 0 (D.drop (i + k)) with _ | ⟨p, m⟩
  ·refine sk fun K17 hK17 => (sk fun K18 hK18 => (wt (oM rfl (oM rfl (oS rfl (Yk.callA2 del10_pl63 T1 (vr (NI ((i) + k)) rfl) ((getNo _ v D (hr.keep hE) ((i) + k) (by omega) hgp).mono ?_)))))))
   rintro e w20 ⟨rfl, hx19⟩
   refine ⟨_, rfl, ?_⟩
   have hE := hE.trans hx19
   refine oM rfl (oS rfl (Yk.extract (vs := [NI 0, NI 0, NI 6]) (vr (.tuple #[NI 0, NI 0, NI 6]) rfl) (show _ = some (NI 0 : Value) from rfl) (oS rfl (Yk.extract (vs := [NI 0, NI 0, NI 6]) (vr (.tuple #[NI 0, NI 0, NI 6]) rfl) (show _ = some (NI 0 : Value) from rfl) (oS rfl (Yk.extract (vs := [NI 0, NI 0, NI 6]) (vr (.tuple #[NI 0, NI 0, NI 6]) rfl) (show _ = some (NI 6 : Value) from rfl) (oA rfl (oA rfl (oA rfl (oZ (tN (hK18 _ _ (sk fun K21 hK21 => (wt (oM rfl (oS rfl (Yk.eqI (a := (6 : Nat)) (b := (0 : Nat)) rfl rfl (k_neq _ _ _ _) (oZ (tN (hK21 _ _ (wpF_true (vr (.bool (true)) (congrArg Value.bool (decide_eq_true (by decide)))) ?_)))))))))))))))))))))
   refine sk fun K22 hK22 => (wt (oA rfl (oA rfl (oA rfl (oL_ [(0, vb), (1, v), (2, NI i), (6, (Value.slice none 0 0)), (7, NI 0), (8, .bool (false)), (9, NI x), (10, NI 0), (11, NI 6), (12, NI ((x) / (2))), (13, v), (14, NI 0), (23, .bool (false)), (39, .bool (true))] ⟨T0, T1, T2, rfl, rfl, rfl, rfl, rfl, rfl, rfl, T1, rfl, (congrArg Value.bool (decide_eq_false (by decide))), (congrArg Value.bool (decide_eq_true (by decide))), trivial⟩ fun ρ23 ⟨T0, T1, T2, T6, T7, T8, T9, T10, T11, T12, T13, T14, T23, T39, _⟩ => (tN (hK22 _ _ (wpF_ret (thenF_ret (thenF_ret (postF_ret (fn := Tryd.f89) _ rfl [(Value.slice none 0 0), NI 0, .bool (false)] (.tuple #[(Value.slice none 0 0), NI 0, .bool (false)]) rfl ⟨T6, T7, T8, trivial⟩ ?_)))))))))))
   rw [pieceP, hgx]; simp only
   rw [if_pos hodd, hgp]
   refine ⟨?_, hE⟩
   first | rfl | trivial
  have hqp := lebDec_bound (a := i + k) (by omega) hgp
  refine sk fun K24 hK24 => (sk fun K25 hK25 => (wt (oM rfl (oM rfl (oS rfl (Yk.callA2 del10_pl63 T1 (vr (NI ((i) + k)) rfl) ((getYes _ v D (hr.keep hE) ((i) + k) (by omega) p m hgp).mono ?_)))))))
  rintro e w27 ⟨rfl, hx26⟩
  refine ⟨_, rfl, ?_⟩
  have hE := hE.trans hx26
  refine oM rfl (oS rfl (Yk.extract (vs := [NI p, NI (((i) + k) + m), NI 0]) (vr (.tuple #[NI p, NI (((i) + k) + m), NI 0]) rfl) (show _ = some (NI p : Value) from rfl) (oS rfl (Yk.extract (vs := [NI p, NI (((i) + k) + m), NI 0]) (vr (.tuple #[NI p, NI (((i) + k) + m), NI 0]) rfl) (show _ = some (NI (((i) + k) + m) : Value) from rfl) (oS rfl (Yk.extract (vs := [NI p, NI (((i) + k) + m), NI 0]) (vr (.tuple #[NI p, NI (((i) + k) + m), NI 0]) rfl) (show _ = some (NI 0 : Value) from rfl) (oA rfl (oA rfl (oA rfl (oZ (tN (hK25 _ _ (sk fun K28 hK28 => (wt (oM rfl (oS rfl (Yk.eqI (a := (0 : Nat)) (b := (0 : Nat)) rfl rfl (k_neq _ _ _ _) (oZ (tN (hK28 _ _ (wpF_false (vr (.bool (false)) (congrArg Value.bool (decide_eq_false (by decide)))) ?_)))))))))))))))))))))
  refine wpF_skip (tN (hK24 _ _ (wt (oM rfl (oA rfl (oZ ?_))))))
  by_cases hs1 : x / 2 < 1
  ·refine tN (hK15 _ _ (sk fun K29 hK29 => (sk fun K30 hK30 => (wt (oM rfl (oS rfl (Yk.eqI (a := ((x) / (2) : Nat)) (b := (1 : Nat)) rfl rfl (k_lss _ _ _ _) (oM rfl (oN (d := 43) rfl rfl rfl (vr (.bool (true)) (congrArg Value.bool (decide_eq_true (hs1)))) rfl (oN (d := 43) rfl rfl rfl (vr (.bool (true)) (congrArg Value.bool (decide_eq_true (hs1)))) rfl (oN (d := 43) rfl rfl rfl (vr (.bool (true)) (congrArg Value.bool (decide_eq_true (hs1)))) rfl (oN (d := 43) rfl rfl rfl (vr (.bool (true)) (congrArg Value.bool (decide_eq_true (hs1)))) rfl (oS rfl (Yk.pickT (vr (.bool (true)) (congrArg Value.bool (decide_eq_true (hs1)))) (vr (.bool (true)) rfl) (oM rfl (oN (d := 49) rfl rfl rfl (vr (.bool (true)) rfl) rfl (oN (d := 49) rfl rfl rfl (vr (.bool (true)) rfl) rfl (oN (d := 49) rfl rfl rfl (vr (.bool (true)) rfl) rfl ?_))))))))))))))))))
   refine oN (d := 49) rfl rfl rfl (vr (.bool (true)) rfl) rfl (oN (d := 49) rfl rfl rfl (vr (.bool (true)) rfl) rfl (oN (d := 49) rfl rfl rfl (vr (.bool (true)) rfl) rfl (oS rfl (Yk.pickT (vr (.bool (true)) rfl) (vr (.bool (true)) rfl) (oL_ [(0, vb), (1, v), (2, NI i), (6, (Value.slice none 0 0)), (7, NI 0), (8, .bool (false)), (9, NI x), (10, NI (((i) + k) + m)), (11, NI 0), (12, NI ((x) / (2))), (13, vb), (14, NI p), (23, .bool (false)), (39, .bool (false)), (56, .bool (true))] ⟨T0, T1, T2, rfl, rfl, rfl, rfl, rfl, rfl, rfl, T0, rfl, (congrArg Value.bool (decide_eq_false (by decide))), (congrArg Value.bool (decide_eq_false (by decide))), rfl, trivial⟩ fun ρ31 ⟨T0, T1, T2, T6, T7, T8, T9, T10, T11, T12, T13, T14, T23, T39, T56, _⟩ => (tN (hK30 _ _ (wpF_true T56 (sk fun K32 hK32 => (wt (oA rfl (oA rfl (oA rfl (oZ (tN (hK32 _ _ (wpF_ret (thenF_ret (postF_ret (fn := Tryd.f89) _ rfl [(Value.slice none 0 0), NI 0, .bool (false)] (.tuple #[(Value.slice none 0 0), NI 0, .bool (false)]) rfl ⟨rfl, rfl, rfl, trivial⟩ ?_)))))))))))))))))))
   rw [pieceP, hgx]; simp only
   rw [if_pos hodd, hgp]; simp only
   rw [cutP, if_pos (by omega)]
   refine ⟨?_, hE⟩
   first | rfl | trivial
  by_cases hs2 : B.length < p
  ·refine tN (hK15 _ _ (sk fun K33 hK33 => (sk fun K34 hK34 => (wt (oM rfl (oS rfl (Yk.eqI (a := ((x) / (2) : Nat)) (b := (1 : Nat)) rfl rfl (k_lss _ _ _ _) (oM rfl (oY (d := 43) rfl rfl (vr (.bool (false)) (congrArg Value.bool (decide_eq_false (hs1)))) (Yk.move (vr (NI p) rfl) (oY (d := 43) rfl rfl (vr (.bool (false)) (congrArg Value.bool (decide_eq_false (hs1)))) (Yk.move T0 (oY (d := 43) rfl rfl (vr (.bool (false)) (congrArg Value.bool (decide_eq_false (hs1)))) (Yk.lenRB del10_ty24 (RB.of (hrb.keep hE) (vr vb rfl)) (oY (d := 43) rfl rfl (vr (.bool (false)) (congrArg Value.bool (decide_eq_false (hs1)))) (Yk.eqI (a := (p : Nat)) (b := (B.length : Nat)) rfl rfl (k_gtr _ _ _ _) (oS rfl (Yk.pickF (vr (.bool (false)) (congrArg Value.bool (decide_eq_false (hs1)))) (vr (.bool (true)) (congrArg Value.bool (decide_eq_true (hs2)))) (oM rfl (oN (d := 49) rfl rfl rfl (vr (.bool (true)) rfl) rfl (oN (d := 49) rfl rfl rfl (vr (.bool (true)) rfl) rfl (oN (d := 49) rfl rfl rfl (vr (.bool (true)) rfl) rfl ?_))))))))))))))))))))))
   refine oN (d := 49) rfl rfl rfl (vr (.bool (true)) rfl) rfl (oN (d := 49) rfl rfl rfl (vr (.bool (true)) rfl) rfl (oN (d := 49) rfl rfl rfl (vr (.bool (true)) rfl) rfl (oS rfl (Yk.pickT (vr (.bool (true)) rfl) (vr (.bool (true)) rfl) (oL_ [(0, vb), (1, v), (2, NI i), (6, (Value.slice none 0 0)), (7, NI 0), (8, .bool (false)), (9, NI x), (10, NI (((i) + k) + m)), (11, NI 0), (12, NI ((x) / (2))), (13, vb), (14, NI p), (23, .bool (false)), (39, .bool (false)), (56, .bool (true))] ⟨T0, T1, T2, rfl, rfl, rfl, rfl, rfl, rfl, rfl, T0, rfl, (congrArg Value.bool (decide_eq_false (by decide))), (congrArg Value.bool (decide_eq_false (by decide))), rfl, trivial⟩ fun ρ35 ⟨T0, T1, T2, T6, T7, T8, T9, T10, T11, T12, T13, T14, T23, T39, T56, _⟩ => (tN (hK34 _ _ (wpF_true T56 (sk fun K36 hK36 => (wt (oA rfl (oA rfl (oA rfl (oZ (tN (hK36 _ _ (wpF_ret (thenF_ret (postF_ret (fn := Tryd.f89) _ rfl [(Value.slice none 0 0), NI 0, .bool (false)] (.tuple #[(Value.slice none 0 0), NI 0, .bool (false)]) rfl ⟨rfl, rfl, rfl, trivial⟩ ?_)))))))))))))))))))
   rw [pieceP, hgx]; simp only
   rw [if_pos hodd, hgp]; simp only
   rw [cutP, if_pos (by omega)]
   refine ⟨?_, hE⟩
   first | rfl | trivial
  by_cases hs3 : B.length - (p) < x / 2
  ·refine tN (hK15 _ _ (sk fun K37 hK37 => (sk fun K38 hK38 => (wt (oM rfl (oS rfl (Yk.eqI (a := ((x) / (2) : Nat)) (b := (1 : Nat)) rfl rfl (k_lss _ _ _ _) (oM rfl (oY (d := 43) rfl rfl (vr (.bool (false)) (congrArg Value.bool (decide_eq_false (hs1)))) (Yk.move (vr (NI p) rfl) (oY (d := 43) rfl rfl (vr (.bool (false)) (congrArg Value.bool (decide_eq_false (hs1)))) (Yk.move T0 (oY (d := 43) rfl rfl (vr (.bool (false)) (congrArg Value.bool (decide_eq_false (hs1)))) (Yk.lenRB del10_ty24 (RB.of (hrb.keep hE) (vr vb rfl)) (oY (d := 43) rfl rfl (vr (.bool (false)) (congrArg Value.bool (decide_eq_false (hs1)))) (Yk.eqI (a := (p : Nat)) (b := (B.length : Nat)) rfl rfl (k_gtr _ _ _ _) (oS rfl (Yk.pickF (vr (.bool (false)) (congrArg Value.bool (decide_eq_false (hs1)))) (vr (.bool (false)) (congrArg Value.bool (decide_eq_false (hs2)))) (oM rfl (oY (d := 49) rfl rfl (vr (.bool (false)) rfl) (Yk.move (vr (NI ((x) / (2))) rfl) (oY (d := 49) rfl rfl (vr (.bool (false)) rfl) (Yk.move T0 (oY (d := 49) rfl rfl (vr (.bool (false)) rfl) (Yk.lenRB del10_ty24 (RB.of (hrb.keep hE) (vr vb rfl)) ?_)))))))))))))))))))))))))
   refine oY (d := 49) rfl rfl (vr (.bool (false)) rfl) (Yk.move (vr (NI p) rfl) (oY (d := 49) rfl rfl (vr (.bool (false)) rfl) (Yk.bin (xv := NI B.length) (yv := NI p) rfl rfl rfl (i64_sub _ _ _ (by omega) (by omega)) (oY (d := 49) rfl rfl (vr (.bool (false)) rfl) (Yk.eqI (a := ((x) / (2) : Nat)) (b := ((B.length) - (p) : Nat)) rfl rfl (k_gtr _ _ _ _) (oS rfl (Yk.pickF (vr (.bool (false)) rfl) (vr (.bool (true)) (congrArg Value.bool (decide_eq_true (hs3)))) (oL_ [(0, vb), (1, v), (2, NI i), (6, (Value.slice none 0 0)), (7, NI 0), (8, .bool (false)), (9, NI x), (10, NI (((i) + k) + m)), (11, NI 0), (12, NI ((x) / (2))), (13, vb), (14, NI p), (23, .bool (false)), (39, .bool (false)), (56, .bool (true))] ⟨T0, T1, T2, rfl, rfl, rfl, rfl, rfl, rfl, rfl, T0, rfl, (congrArg Value.bool (decide_eq_false (by decide))), (congrArg Value.bool (decide_eq_false (by decide))), rfl, trivial⟩ fun ρ39 ⟨T0, T1, T2, T6, T7, T8, T9, T10, T11, T12, T13, T14, T23, T39, T56, _⟩ => (tN (hK38 _ _ (wpF_true T56 (sk fun K40 hK40 => (wt (oA rfl (oA rfl (oA rfl (oZ (tN (hK40 _ _ (wpF_ret (thenF_ret (postF_ret (fn := Tryd.f89) _ rfl [(Value.slice none 0 0), NI 0, .bool (false)] (.tuple #[(Value.slice none 0 0), NI 0, .bool (false)]) rfl ⟨rfl, rfl, rfl, trivial⟩ ?_))))))))))))))))))))))
   rw [pieceP, hgx]; simp only
   rw [if_pos hodd, hgp]; simp only
   rw [cutP, if_pos (by omega)]
   refine ⟨?_, hE⟩
   first | rfl | trivial
  refine tN (hK15 _ _ (sk fun K41 hK41 => (sk fun K42 hK42 => (wt (oM rfl (oS rfl (Yk.eqI (a := ((x) / (2) : Nat)) (b := (1 : Nat)) rfl rfl (k_lss _ _ _ _) (oM rfl (oY (d := 43) rfl rfl (vr (.bool (false)) (congrArg Value.bool (decide_eq_false (hs1)))) (Yk.move (vr (NI p) rfl) (oY (d := 43) rfl rfl (vr (.bool (false)) (congrArg Value.bool (decide_eq_false (hs1)))) (Yk.move T0 (oY (d := 43) rfl rfl (vr (.bool (false)) (congrArg Value.bool (decide_eq_false (hs1)))) (Yk.lenRB del10_ty24 (RB.of (hrb.keep hE) (vr vb rfl)) (oY (d := 43) rfl rfl (vr (.bool (false)) (congrArg Value.bool (decide_eq_false (hs1)))) (Yk.eqI (a := (p : Nat)) (b := (B.length : Nat)) rfl rfl (k_gtr _ _ _ _) (oS rfl (Yk.pickF (vr (.bool (false)) (congrArg Value.bool (decide_eq_false (hs1)))) (vr (.bool (false)) (congrArg Value.bool (decide_eq_false (hs2)))) (oM rfl (oY (d := 49) rfl rfl (vr (.bool (false)) rfl) (Yk.move (vr (NI ((x) / (2))) rfl) (oY (d := 49) rfl rfl (vr (.bool (false)) rfl) (Yk.move T0 (oY (d := 49) rfl rfl (vr (.bool (false)) rfl) (Yk.lenRB del10_ty24 (RB.of (hrb.keep hE) (vr vb rfl)) ?_)))))))))))))))))))))))))
  refine oY (d := 49) rfl rfl (vr (.bool (false)) rfl) (Yk.move (vr (NI p) rfl) (oY (d := 49) rfl rfl (vr (.bool (false)) rfl) (Yk.bin (xv := NI B.length) (yv := NI p) rfl rfl rfl (i64_sub _ _ _ (by omega) (by omega)) (oY (d := 49) rfl rfl (vr (.bool (false)) rfl) (Yk.eqI (a := ((x) / (2) : Nat)) (b := ((B.length) - (p) : Nat)) rfl rfl (k_gtr _ _ _ _) (oS rfl (Yk.pickF (vr (.bool (false)) rfl) (vr (.bool (false)) (congrArg Value.bool (decide_eq_false (hs3)))) (oL_ [(0, vb), (1, v), (2, NI i), (6, (Value.slice none 0 0)), (7, NI 0), (8, .bool (false)), (9, NI x), (10, NI (((i) + k) + m)), (11, NI 0), (12, NI ((x) / (2))), (13, vb), (14, NI p), (23, .bool (false)), (39, .bool (false)), (56, .bool (false))] ⟨T0, T1, T2, rfl, rfl, rfl, rfl, rfl, rfl, rfl, T0, rfl, (congrArg Value.bool (decide_eq_false (by decide))), (congrArg Value.bool (decide_eq_false (by decide))), rfl, trivial⟩ fun ρ43 ⟨T0, T1, T2, T6, T7, T8, T9, T10, T11, T12, T13, T14, T23, T39, T56, _⟩ => (tN (hK42 _ _ (wpF_false T56 (wpF_skip (tN (hK41 _ _ (sk fun K44 hK44 => (sk fun K45 hK45 => (wt (oM rfl (oS rfl (Yk.bin (xv := NI x) (yv := NI 2) T9 rfl rfl (i64_rem _ _ _ (by omega)) (oS rfl (Yk.eqI (a := ((x) % (2) : Nat)) (b := (0 : Nat)) rfl rfl (k_eql _ _ _ _) (oZ ?_)))))))))))))))))))))))
  refine tN (hK45 _ _ (wpF_false (vr (.bool (false)) (congrArg Value.bool (decide_eq_false (by omega)))) (wpF_skip (tN (hK44 _ _ (sk fun K46 hK46 => (wt (oM rfl (oM rfl (oM rfl (oM rfl (oS rfl (Yk.bin (xv := NI p) (yv := NI ((x) / (2))) T14 T12 rfl (i64_add _ _ _ (by omega)) (oS rfl (Yk.sliceLH (xs := B) (l := p) (n := (p) + ((x) / (2))) del10_ty24 del10_sz5 T13 (hrb.keep hE) T14 (vr (NI ((p) + ((x) / (2)))) rfl) (by omega) (by omega) fun v47 hr48 ha49 => (oM rfl (oA rfl (oA rfl (oA rfl ?_)))))))))))))))))))
  refine oZ (tN (hK46 _ _ (wpF_ret (postF_ret (fn := Tryd.f89) _ rfl [v47, NI (((i) + k) + m), .bool (true)] (.tuple #[v47, NI (((i) + k) + m), .bool (true)]) rfl ⟨rfl, T10, rfl, trivial⟩ ?_))))
  rw [pieceP, hgx]; simp only
  rw [if_pos hodd, hgp]; simp only
  rw [cutP, if_neg (by omega)]
  refine ⟨⟨_, rfl, ?_⟩, hE⟩
  simpa only [Nat.add_sub_cancel_left] using hr48
 by_cases hs1 : x / 2 < 1
 ·refine wpF_skip (tN (hK15 _ _ (sk fun K50 hK50 => (sk fun K51 hK51 => (wt (oM rfl (oS rfl (Yk.eqI (a := ((x) / (2) : Nat)) (b := (1 : Nat)) rfl rfl (k_lss _ _ _ _) (oM rfl (oN (d := 43) rfl rfl rfl (vr (.bool (true)) (congrArg Value.bool (decide_eq_true (hs1)))) rfl (oN (d := 43) rfl rfl rfl (vr (.bool (true)) (congrArg Value.bool (decide_eq_true (hs1)))) rfl (oN (d := 43) rfl rfl rfl (vr (.bool (true)) (congrArg Value.bool (decide_eq_true (hs1)))) rfl (oN (d := 43) rfl rfl rfl (vr (.bool (true)) (congrArg Value.bool (decide_eq_true (hs1)))) rfl (oS rfl (Yk.pickT (vr (.bool (true)) (congrArg Value.bool (decide_eq_true (hs1)))) (vr (.bool (true)) rfl) (oM rfl (oN (d := 49) rfl rfl rfl (vr (.bool (true)) rfl) rfl (oN (d := 49) rfl rfl rfl (vr (.bool (true)) rfl) rfl ?_))))))))))))))))))
  refine oN (d := 49) rfl rfl rfl (vr (.bool (true)) rfl) rfl (oN (d := 49) rfl rfl rfl (vr (.bool (true)) rfl) rfl (oN (d := 49) rfl rfl rfl (vr (.bool (true)) rfl) rfl (oN (d := 49) rfl rfl rfl (vr (.bool (true)) rfl) rfl (oS rfl (Yk.pickT (vr (.bool (true)) rfl) (vr (.bool (true)) rfl) (oL_ [(0, vb), (1, v), (2, NI i), (6, (Value.slice none 0 0)), (7, NI 0), (8, .bool (false)), (9, NI x), (10, NI ((i) + k)), (11, NI 0), (12, NI ((x) / (2))), (13, v), (14, NI ((i) + k)), (23, .bool (false)), (56, .bool (true))] ⟨T0, T1, T2, rfl, rfl, rfl, rfl, rfl, rfl, rfl, T1, rfl, (congrArg Value.bool (decide_eq_false (by decide))), rfl, trivial⟩ fun ρ52 ⟨T0, T1, T2, T6, T7, T8, T9, T10, T11, T12, T13, T14, T23, T56, _⟩ => (tN (hK51 _ _ (wpF_true T56 (sk fun K53 hK53 => (wt (oA rfl (oA rfl (oA rfl (oZ (tN (hK53 _ _ (wpF_ret (thenF_ret ?_)))))))))))))))))))
  refine postF_ret (fn := Tryd.f89) _ rfl [(Value.slice none 0 0), NI 0, .bool (false)] (.tuple #[(Value.slice none 0 0), NI 0, .bool (false)]) rfl ⟨rfl, rfl, rfl, trivial⟩ ?_
  rw [pieceP, hgx]; simp only
  rw [if_neg hodd]
  rw [cutP, if_pos (by omega)]
  refine ⟨?_, hE⟩
  first | rfl | trivial
 by_cases hs2 : D.length < i + k
 ·refine wpF_skip (tN (hK15 _ _ (sk fun K54 hK54 => (sk fun K55 hK55 => (wt (oM rfl (oS rfl (Yk.eqI (a := ((x) / (2) : Nat)) (b := (1 : Nat)) rfl rfl (k_lss _ _ _ _) (oM rfl (oY (d := 43) rfl rfl (vr (.bool (false)) (congrArg Value.bool (decide_eq_false (hs1)))) (Yk.move (vr (NI ((i) + k)) rfl) (oY (d := 43) rfl rfl (vr (.bool (false)) (congrArg Value.bool (decide_eq_false (hs1)))) (Yk.move T1 (oY (d := 43) rfl rfl (vr (.bool (false)) (congrArg Value.bool (decide_eq_false (hs1)))) (Yk.lenRB del10_ty24 (RB.of (hr.keep hE) (vr v rfl)) (oY (d := 43) rfl rfl (vr (.bool (false)) (congrArg Value.bool (decide_eq_false (hs1)))) (Yk.eqI (a := ((i) + k : Nat)) (b := (D.length : Nat)) rfl rfl (k_gtr _ _ _ _) (oS rfl (Yk.pickF (vr (.bool (false)) (congrArg Value.bool (decide_eq_false (hs1)))) (vr (.bool (true)) (congrArg Value.bool (decide_eq_true (hs2)))) (oM rfl (oN (d := 49) rfl rfl rfl (vr (.bool (true)) rfl) rfl (oN (d := 49) rfl rfl rfl (vr (.bool (true)) rfl) rfl ?_))))))))))))))))))))))
  refine oN (d := 49) rfl rfl rfl (vr (.bool (true)) rfl) rfl (oN (d := 49) rfl rfl rfl (vr (.bool (true)) rfl) rfl (oN (d := 49) rfl rfl rfl (vr (.bool (true)) rfl) rfl (oN (d := 49) rfl rfl rfl (vr (.bool (true)) rfl) rfl (oS rfl (Yk.pickT (vr (.bool (true)) rfl) (vr (.bool (true)) rfl) (oL_ [(0, vb), (1, v), (2, NI i), (6, (Value.slice none 0 0)), (7, NI 0), (8, .bool (false)), (9, NI x), (10, NI ((i) + k)), (11, NI 0), (12, NI ((x) / (2))), (13, v), (14, NI ((i) + k)), (23, .bool (false)), (56, .bool (true))] ⟨T0, T1, T2, rfl, rfl, rfl, rfl, rfl, rfl, rfl, T1, rfl, (congrArg Value.bool (decide_eq_false (by decide))), rfl, trivial⟩ fun ρ56 ⟨T0, T1, T2, T6, T7, T8, T9, T10, T11, T12, T13, T14, T23, T56, _⟩ => (tN (hK55 _ _ (wpF_true T56 (sk fun K57 hK57 => (wt (oA rfl (oA rfl (oA rfl (oZ (tN (hK57 _ _ (wpF_ret (thenF_ret ?_)))))))))))))))))))
  refine postF_ret (fn := Tryd.f89) _ rfl [(Value.slice none 0 0), NI 0, .bool (false)] (.tuple #[(Value.slice none 0 0), NI 0, .bool (false)]) rfl ⟨rfl, rfl, rfl, trivial⟩ ?_
  rw [pieceP, hgx]; simp only
  rw [if_neg hodd]
  rw [cutP, if_pos (by omega)]
  refine ⟨?_, hE⟩
  first | rfl | trivial
 by_cases hs3 : D.length - (i + k) < x / 2
 ·refine wpF_skip (tN (hK15 _ _ (sk fun K58 hK58 => (sk fun K59 hK59 => (wt (oM rfl (oS rfl (Yk.eqI (a := ((x) / (2) : Nat)) (b := (1 : Nat)) rfl rfl (k_lss _ _ _ _) (oM rfl (oY (d := 43) rfl rfl (vr (.bool (false)) (congrArg Value.bool (decide_eq_false (hs1)))) (Yk.move (vr (NI ((i) + k)) rfl) (oY (d := 43) rfl rfl (vr (.bool (false)) (congrArg Value.bool (decide_eq_false (hs1)))) (Yk.move T1 (oY (d := 43) rfl rfl (vr (.bool (false)) (congrArg Value.bool (decide_eq_false (hs1)))) (Yk.lenRB del10_ty24 (RB.of (hr.keep hE) (vr v rfl)) (oY (d := 43) rfl rfl (vr (.bool (false)) (congrArg Value.bool (decide_eq_false (hs1)))) (Yk.eqI (a := ((i) + k : Nat)) (b := (D.length : Nat)) rfl rfl (k_gtr _ _ _ _) (oS rfl (Yk.pickF (vr (.bool (false)) (congrArg Value.bool (decide_eq_false (hs1)))) (vr (.bool (false)) (congrArg Value.bool (decide_eq_false (hs2)))) (oM rfl (oY (d := 49) rfl rfl (vr (.bool (false)) rfl) (Yk.move (vr (NI ((x) / (2))) rfl) (oY (d := 49) rfl rfl (vr (.bool (false)) rfl) (Yk.move T1 ?_))))))))))))))))))))))))
  refine oY (d := 49) rfl rfl (vr (.bool (false)) rfl) (Yk.lenRB del10_ty24 (RB.of (hr.keep hE) (vr v rfl)) (oY (d := 49) rfl rfl (vr (.bool (false)) rfl) (Yk.move (vr (NI ((i) + k)) rfl) (oY (d := 49) rfl rfl (vr (.bool (false)) rfl) (Yk.bin (xv := NI D.length) (yv := NI ((i) + k)) rfl rfl rfl (i64_sub _ _ _ (by omega) (by omega)) (oY (d := 49) rfl rfl (vr (.bool (false)) rfl) (Yk.eqI (a := ((x) / (2) : Nat)) (b := ((D.length) - ((i) + k) : Nat)) rfl rfl (k_gtr _ _ _ _) (oS rfl (Yk.pickF (vr (.bool (false)) rfl) (vr (.bool (true)) (congrArg Value.bool (decide_eq_true (hs3)))) (oL_ [(0, vb), (1, v), (2, NI i), (6, (Value.slice none 0 0)), (7, NI 0), (8, .bool (false)), (9, NI x), (10, NI ((i) + k)), (11, NI 0), (12, NI ((x) / (2))), (13, v), (14, NI ((i) + k)), (23, .bool (false)), (56, .bool (true))] ⟨T0, T1, T2, rfl, rfl, rfl, rfl, rfl, rfl, rfl, T1, rfl, (congrArg Value.bool (decide_eq_false (by decide))), rfl, trivial⟩ fun ρ60 ⟨T0, T1, T2, T6, T7, T8, T9, T10, T11, T12, T13, T14, T23, T56, _⟩ => (tN (hK59 _ _ (wpF_true T56 (sk fun K61 hK61 => (wt (oA rfl (oA rfl (oA rfl (oZ (tN (hK61 _ _ (wpF_ret (thenF_ret ?_)))))))))))))))))))))))
  refine postF_ret (fn := Tryd.f89) _ rfl [(Value.slice none 0 0), NI 0, .bool (false)] (.tuple #[(Value.slice none 0 0), NI 0, .bool (false)]) rfl ⟨rfl, rfl, rfl, trivial⟩ ?_
  rw [pieceP, hgx]; simp only
  rw [if_neg hodd]
  rw [cutP, if_pos (by omega)]
  refine ⟨?_, hE⟩
  first | rfl | trivial
 refine wpF_skip (tN (hK15 _ _ (sk fun K62 hK62 => (sk fun K63 hK63 => (wt (oM rfl (oS rfl (Yk.eqI (a := ((x) / (2) : Nat)) (b := (1 : Nat)) rfl rfl (k_lss _ _ _ _) (oM rfl (oY (d := 43) rfl rfl (vr (.bool (false)) (congrArg Value.bool (decide_eq_false (hs1)))) (Yk.move (vr (NI ((i) + k)) rfl) (oY (d := 43) rfl rfl (vr (.bool (false)) (congrArg Value.bool (decide_eq_false (hs1)))) (Yk.move T1 (oY (d := 43) rfl rfl (vr (.bool (false)) (congrArg Value.bool (decide_eq_false (hs1)))) (Yk.lenRB del10_ty24 (RB.of (hr.keep hE) (vr v rfl)) (oY (d := 43) rfl rfl (vr (.bool (false)) (congrArg Value.bool (decide_eq_false (hs1)))) (Yk.eqI (a := ((i) + k : Nat)) (b := (D.length : Nat)) rfl rfl (k_gtr _ _ _ _) (oS rfl (Yk.pickF (vr (.bool (false)) (congrArg Value.bool (decide_eq_false (hs1)))) (vr (.bool (false)) (congrArg Value.bool (decide_eq_false (hs2)))) (oM rfl (oY (d := 49) rfl rfl (vr (.bool (false)) rfl) (Yk.move (vr (NI ((x) / (2))) rfl) (oY (d := 49) rfl rfl (vr (.bool (false)) rfl) (Yk.move T1 ?_))))))))))))))))))))))))
 refine oY (d := 49) rfl rfl (vr (.bool (false)) rfl) (Yk.lenRB del10_ty24 (RB.of (hr.keep hE) (vr v rfl)) (oY (d := 49) rfl rfl (vr (.bool (false)) rfl) (Yk.move (vr (NI ((i) + k)) rfl) (oY (d := 49) rfl rfl (vr (.bool (false)) rfl) (Yk.bin (xv := NI D.length) (yv := NI ((i) + k)) rfl rfl rfl (i64_sub _ _ _ (by omega) (by omega)) (oY (d := 49) rfl rfl (vr (.bool (false)) rfl) (Yk.eqI (a := ((x) / (2) : Nat)) (b := ((D.length) - ((i) + k) : Nat)) rfl rfl (k_gtr _ _ _ _) (oS rfl (Yk.pickF (vr (.bool (false)) rfl) (vr (.bool (false)) (congrArg Value.bool (decide_eq_false (hs3)))) (oL_ [(0, vb), (1, v), (2, NI i), (6, (Value.slice none 0 0)), (7, NI 0), (8, .bool (false)), (9, NI x), (10, NI ((i) + k)), (11, NI 0), (12, NI ((x) / (2))), (13, v), (14, NI ((i) + k)), (23, .bool (false)), (56, .bool (false))] ⟨T0, T1, T2, rfl, rfl, rfl, rfl, rfl, rfl, rfl, T1, rfl, (congrArg Value.bool (decide_eq_false (by decide))), rfl, trivial⟩ fun ρ64 ⟨T0, T1, T2, T6, T7, T8, T9, T10, T11, T12, T13, T14, T23, T56, _⟩ => (tN (hK63 _ _ (wpF_false T56 (wpF_skip (tN (hK62 _ _ (sk fun K65 hK65 => (sk fun K66 hK66 => (wt (oM rfl (oS rfl (Yk.bin (xv := NI x) (yv := NI 2) T9 rfl rfl (i64_rem _ _ _ (by omega)) (oS rfl (Yk.eqI (a := ((x) % (2) : Nat)) (b := (0 : Nat)) rfl rfl (k_eql _ _ _ _) ?_))))))))))))))))))))))))
 refine oZ (tN (hK66 _ _ (wpF_true (vr (.bool (true)) (congrArg Value.bool (decide_eq_true (by omega)))) (wt (oM rfl (oM rfl (oS rfl (Yk.bin (xv := NI ((i) + k)) (yv := NI ((x) / (2))) T10 T12 rfl (i64_add _ _ _ (by omega)) (oA rfl (oZ (tN (hK65 _ _ (sk fun K67 hK67 => (wt (oM rfl (oM rfl (oM rfl (oM rfl ?_))))))))))))))))))
 refine oS rfl (Yk.bin (xv := NI ((i) + k)) (yv := NI ((x) / (2))) T14 T12 rfl (i64_add _ _ _ (by omega)) (oS rfl (Yk.sliceLH (xs := D) (l := (i) + k) (n := ((i) + k) + ((x) / (2))) del10_ty24 del10_sz5 T13 (hr.keep hE) T14 (vr (NI (((i) + k) + ((x) / (2)))) rfl) (by omega) (by omega) fun v68 hr69 ha70 => (oM rfl (oA rfl (oA rfl (oA rfl (oZ (tN (hK67 _ _ (wpF_ret (postF_ret (fn := Tryd.f89) _ rfl [v68, NI (((i) + k) + ((x) / (2))), .bool (true)] (.tuple #[v68, NI (((i) + k) + ((x) / (2))), .bool (true)]) rfl ⟨rfl, rfl, rfl, trivial⟩ ?_))))))))))))
 rw [pieceP, hgx]; simp only
 rw [if_neg hodd]
 rw [cutP, if_neg (by omega)]
 refine ⟨⟨_, rfl, ?_⟩, hE⟩
 simpa only [Nat.add_sub_cancel_left] using hr69
open Go.RowKit
set_option maxRecDepth 100000
theorem del11_pl88 : Plain Tryd.prog 88 := fun _ _ => by kernel_rfl
theorem del11_ty24 : Tryd.prog.underlying 24 = some (.slice 5) := by kernel_rfl
theorem del11_pl89 : Plain Tryd.prog 89 := fun _ _ => by kernel_rfl
theorem del11_inf5 : (Tryd.prog.info? 5).map (fun i => (i.zero, i.size, i.bytes)) = some (some (.int .u8 0), 1, 1) := by kernel_rfl
theorem piece_no (w : World) (vb v : Value) (B D : List UInt8) (hrb : RB w vb B) (hr : RB w v D) (i : Nat) (hi : i ≤ D.length) (hB : B.length ≤ 1048576) (hD : D.length ≤ 4611686018427387904) (h : pieceP B D i = none) :
  Calls Tryd.prog 89 #[vb, v, NI i] w fun e w' => e = .returned (.tuple #[.slice none 0 0, NI 0, .bool false]) ∧ Ext w w' := by
 have := piece_any w vb v B D hrb hr i hi hB hD
 rw [h] at this
 exact this
theorem piece_yes (w : World) (vb v : Value) (B D : List UInt8) (hrb : RB w vb B) (hr : RB w v D) (i : Nat) (hi : i ≤ D.length) (hB : B.length ≤ 1048576) (hD : D.length ≤ 4611686018427387904) (b : List UInt8) (nx : Nat) (h : pieceP B D i = some (b, nx)) :
  Calls Tryd.prog 89 #[vb, v, NI i] w fun e w' => ∃ v', e = .returned (.tuple #[v', NI nx, .bool true]) ∧ RB w' v' b ∧ Ext w w' := by
 have := piece_any w vb v B D hrb hr i hi hB hD
 rw [h] at this
 exact this.mono fun e w' ⟨⟨v', h1, h2⟩, h3⟩ => ⟨v', h1, h2, h3⟩

theorem apply_any (w : World) (vb v : Value) (B D : List UInt8) (hrb : RB w vb B) (hr : RB w v D) (hB : B.length ≤ 1048576) (hD : D.length ≤ 4611686018427387904) :
  Calls Tryd.prog 77 #[vb, v] w fun e w' => ∃ v', e = .returned (.tuple #[v', NI (applyP B D).2]) ∧ RB w' v' (applyP B D).1 ∧ Ext w w' := by
 refine calls_of_wpF (args := [vb, v]) Tryd.func77 rfl 65 rfl (Nat.le_of_ble_eq_true rfl) ?_
 intro ρ0 hb
 have T0 : ρ0 0 = (vb : Value) := hb.get 0
 have T1 : ρ0 1 = (v : Value) := hb.get 1
 clear hb
 have hE := Ext.refl w
 refine sk fun K1 hK1 => (wt (oA rfl (oA rfl (oZ ?_))))
 rcases hsz : sizesP D with _ | ⟨sa, sb, sn⟩
 ·refine tN (hK1 _ _ (sk fun K2 hK2 => (wt (oM rfl (oS rfl (Yk.callA1 del11_pl88 T1 ((sizes_no _ v D (hr.keep hE) hsz).mono ?_)))))))
  rintro e w4 ⟨rfl, hx3⟩
  refine ⟨_, rfl, ?_⟩
  have hE := hE.trans hx3
  refine oM rfl (oS rfl (Yk.extract (vs := [NI 0, NI 0, NI 0, NI 6]) (vr (.tuple #[NI 0, NI 0, NI 0, NI 6]) rfl) (show _ = some (NI 0 : Value) from rfl) (oS rfl (Yk.extract (vs := [NI 0, NI 0, NI 0, NI 6]) (vr (.tuple #[NI 0, NI 0, NI 0, NI 6]) rfl) (show _ = some (NI 0 : Value) from rfl) (oS rfl (Yk.extract (vs := [NI 0, NI 0, NI 0, NI 6]) (vr (.tuple #[NI 0, NI 0, NI 0, NI 6]) rfl) (show _ = some (NI 0 : Value) from rfl) (oS rfl (Yk.extract (vs := [NI 0, NI 0, NI 0, NI 6]) (vr (.tuple #[NI 0, NI 0, NI 0, NI 6]) rfl) (show _ = some (NI 6 : Value) from rfl) (oA rfl (oA rfl (oA rfl (oA rfl (oZ (tN (hK2 _ _ (sk fun K5 hK5 => (wpF_block (sk fun K6 hK6 => (wt (oM rfl ?_))))))))))))))))))))
  refine oS rfl (Yk.eqI (a := (6 : Nat)) (b := (0 : Nat)) rfl rfl (k_neq _ _ _ _) (oA rfl (oZ (tN (hK6 _ _ (wpF_true (vr (.bool (true)) (congrArg Value.bool (decide_eq_true (by decide)))) (sk fun K7 hK7 => (wt (oM rfl (oA rfl (oA rfl (oZ (tN (hK7 _ _ (wpF_ret (inBlockF_ret (thenF_ret (postF_ret (fn := Tryd.f77) _ rfl [(Value.slice none 0 0), NI 6] (.tuple #[(Value.slice none 0 0), NI 6]) rfl ⟨rfl, rfl, trivial⟩ ?_))))))))))))))))))
  have hP : applyP B D = ([], 6) := by rw [applyP, hsz]
  rw [hP]
  exact ⟨_, rfl, RB.nil _, hE⟩
 have hsb := sizesP_bound hsz
 refine tN (hK1 _ _ (sk fun K8 hK8 => (wt (oM rfl (oS rfl (Yk.callA1 del11_pl88 T1 ((sizes_yes _ v D (hr.keep hE) sa sb sn hsz).mono ?_)))))))
 rintro e w10 ⟨rfl, hx9⟩
 refine ⟨_, rfl, ?_⟩
 have hE := hE.trans hx9
 refine oM rfl (oS rfl (Yk.extract (vs := [NI sa, NI sb, NI sn, NI 0]) (vr (.tuple #[NI sa, NI sb, NI sn, NI 0]) rfl) (show _ = some (NI sa : Value) from rfl) (oS rfl (Yk.extract (vs := [NI sa, NI sb, NI sn, NI 0]) (vr (.tuple #[NI sa, NI sb, NI sn, NI 0]) rfl) (show _ = some (NI sb : Value) from rfl) (oS rfl (Yk.extract (vs := [NI sa, NI sb, NI sn, NI 0]) (vr (.tuple #[NI sa, NI sb, NI sn, NI 0]) rfl) (show _ = some (NI sn : Value) from rfl) (oS rfl (Yk.extract (vs := [NI sa, NI sb, NI sn, NI 0]) (vr (.tuple #[NI sa, NI sb, NI sn, NI 0]) rfl) (show _ = some (NI 0 : Value) from rfl) (oA rfl (oA rfl (oA rfl (oA rfl (oZ (tN (hK8 _ _ (sk fun K11 hK11 => (wpF_block (sk fun K12 hK12 => (wt (oM rfl ?_))))))))))))))))))))
 refine oS rfl (Yk.eqI (a := (0 : Nat)) (b := (0 : Nat)) rfl rfl (k_neq _ _ _ _) (oA rfl (oZ (tN (hK12 _ _ (wpF_false (vr (.bool (false)) (congrArg Value.bool (decide_eq_false (by decide)))) (sk fun K13 hK13 => (wt (oM rfl (oS rfl (Yk.eqI (a := (sb : Nat)) (b := (262144 : Nat)) rfl rfl (k_gtr _ _ _ _) (oA rfl (oZ (tN (hK13 _ _ ?_)))))))))))))))
 refine wpF_cond ((262144) < (sb)) (vr (.bool (decide ((262144) < (sb)))) rfl) (fun hc1 => ?_) (fun hc1 => ?_)
 ·refine sk fun K14 hK14 => (wt (oA rfl (oA rfl (oZ (tN (hK14 _ _ (wpF_ret (inBlockF_ret (thenF_ret (postF_ret (fn := Tryd.f77) _ rfl [(Value.slice none 0 0), NI 2] (.tuple #[(Value.slice none 0 0), NI 2]) rfl ⟨rfl, rfl, trivial⟩ ?_))))))))))
  have hP : applyP B D = ([], 2) := by rw [applyP, hsz]; simp only; rw [if_pos hc1]
  rw [hP]
  exact ⟨_, rfl, RB.nil _, hE⟩
 refine sk fun K15 hK15 => (wt (oM rfl (oM rfl (oS rfl (Yk.lenRB del11_ty24 (RB.of (hrb.keep hE) T0) (oS rfl (Yk.eqI (a := (sa : Nat)) (b := (B.length : Nat)) rfl rfl (k_neq _ _ _ _) (oA rfl (oZ (tN (hK15 _ _ ?_)))))))))))
 refine wpF_cond ((sa : Nat) ≠ (B.length)) (vr (.bool (decide ((sa : Nat) ≠ (B.length)))) rfl) (fun hc2 => ?_) (fun hc2 => ?_)
 ·refine sk fun K16 hK16 => (wt (oA rfl (oA rfl (oZ (tN (hK16 _ _ (wpF_ret (inBlockF_ret (thenF_ret (postF_ret (fn := Tryd.f77) _ rfl [(Value.slice none 0 0), NI 6] (.tuple #[(Value.slice none 0 0), NI 6]) rfl ⟨rfl, rfl, trivial⟩ ?_))))))))))
  have hP : applyP B D = ([], 6) := by rw [applyP, hsz]; simp only; rw [if_neg hc1, if_pos hc2]
  rw [hP]
  exact ⟨_, rfl, RB.nil _, hE⟩
 refine wpF_skip (bN (tN (hK11 _ _ (sk fun K17 hK17 => (wt (oA rfl (oL_ [(0, vb), (1, v), (4, (Value.slice none 0 0)), (5, NI 0), (6, NI sa), (7, NI sb), (8, NI sn), (9, NI 0), (10, (Value.slice none 0 0)), (21, .bool (false))] ⟨T0, T1, rfl, rfl, rfl, rfl, rfl, rfl, rfl, (congrArg Value.bool (decide_eq_false (by decide))), trivial⟩ fun ρ18 ⟨T0, T1, T4, T5, T6, T7, T8, T9, T10, T21, _⟩ => ?_)))))))
 have hoN : w.ownsRow w.heap.size 5 1 (Value.slice none 0 0) ([] : List UInt8).length (Lib.byteCells ([] : List UInt8)) := World.ownsRow_nil _ _ _ 1
 have hoN : w10.ownsRow w.heap.size 5 1 (Value.slice none 0 0) ([] : List UInt8).length (Lib.byteCells ([] : List UInt8)) := World.ownsRow_nil _ _ _ 1
 refine tN (hK17 _ _ (sk fun K19 hK19 => (wpF_block (wpF_loop (fun (ρ : Slots) (wz : World) => ∃ i : Nat, ∃ f : Nat, ∃ o : List UInt8, ∃ vo : Value, ρ 0 = (vb : Value) ∧ ρ 1 = (v : Value) ∧ ρ 6 = (NI sa : Value) ∧ ρ 7 = (NI sb : Value) ∧ ρ 9 = (NI 0 : Value) ∧ ρ 21 = (.bool (false) : Value) ∧ ρ 8 = (NI i : Value) ∧ ρ 10 = (vo : Value) ∧ Ext w wz ∧ wz.ownsRow w.heap.size 5 1 vo o.length (Lib.byteCells (o)) ∧ (applyGo B D sb f i o = applyGo B D sb (D.length + 1) sn []) ∧ (D.length < i + f) ∧ (i ≤ D.length) ∧ (o.length ≤ sb) ∧ True) (fun ρ _ => D.length - (intOf (ρ 8)).toNat) ⟨sn, D.length + 1, [], (Value.slice none 0 0), T0, T1, T6, T7, T9, T21, T8, T10, hE, own_eq hoN (rfl), rfl, by omega, by omega, by simp, trivial⟩ ?_))))
 clear hoN
 clear hE
 rintro ρ20 w21 ⟨i, f, o, vo, T0, T1, T6, T7, T9, T21, T8, T10, hE, ho_vo, hgo, hf, hi, hos, -⟩
 have q8 := T8
 have ql10 := own_sliceLen ho_vo
 obtain ⟨f', rfl⟩ : ∃ f', f = f' + 1 := ⟨f - 1, by omega⟩
 refine sk fun K22 hK22 => (sk fun K23 hK23 => (wt (oM rfl (oM rfl (oS rfl (Yk.lenRB del11_ty24 (RB.of (hr.keep hE) T1) (oS rfl (Yk.eqI (a := (i : Nat)) (b := (D.length : Nat)) T8 rfl (k_lss _ _ _ _) (oZ (tN (hK23 _ _ ?_)))))))))))
 refine wpF_cond ((i) < (D.length)) (vr (.bool (decide ((i) < (D.length)))) rfl) (fun hc3 => ?_) (fun hc3 => ?_)
 ·rcases hpc : pieceP B D i with _ | ⟨pb, nx⟩
  ·refine wpF_skip (tN (hK22 _ _ (wpF_block (sk fun K24 hK24 => (wt (oM rfl (oM rfl (oM rfl (oS rfl (Yk.callA3 del11_pl89 T0 T1 T8 ((piece_no _ vb v B D (hrb.keep hE) (hr.keep hE) i (by omega) hB hD hpc).mono ?_)))))))))))
   rintro e w26 ⟨rfl, hx25⟩
   refine ⟨_, rfl, ?_⟩
   have hE := hE.trans hx25
   have ho_vo := Stab.own _ _ _ _ _ _ _ _ ho_vo hx25
   refine oM rfl (oS rfl (Yk.extract (vs := [(Value.slice none 0 0), NI 0, .bool (false)]) (vr (.tuple #[(Value.slice none 0 0), NI 0, .bool (false)]) rfl) (show _ = some ((Value.slice none 0 0) : Value) from rfl) (oS rfl (Yk.extract (vs := [(Value.slice none 0 0), NI 0, .bool (false)]) (vr (.tuple #[(Value.slice none 0 0), NI 0, .bool (false)]) rfl) (show _ = some (NI 0 : Value) from rfl) (oS rfl (Yk.extract (vs := [(Value.slice none 0 0), NI 0, .bool (false)]) (vr (.tuple #[(Value.slice none 0 0), NI 0, .bool (false)]) rfl) (show _ = some (.bool (false) : Value) from rfl) (oA rfl (oA rfl (oA rfl (oZ (tN (hK24 _ _ (sk fun K27 hK27 => (sk fun K28 hK28 => (wt (oM rfl (oS rfl (Yk.notB (vr (.bool (false)) rfl) (oM rfl (oN (d := 47) rfl rfl rfl (vr (.bool (true)) rfl) rfl ?_))))))))))))))))))))
   refine oN (d := 47) rfl rfl rfl (vr (.bool (true)) rfl) rfl (oN (d := 47) rfl rfl rfl (vr (.bool (true)) rfl) rfl (oN (d := 47) rfl rfl rfl (vr (.bool (true)) rfl) rfl (oN (d := 47) rfl rfl rfl (vr (.bool (true)) rfl) rfl (oN (d := 47) rfl rfl rfl (vr (.bool (true)) rfl) rfl (oN (d := 47) rfl rfl rfl (vr (.bool (true)) rfl) rfl (oS rfl (Yk.pickT (vr (.bool (true)) rfl) (vr (.bool (true)) rfl) (oZ (tN (hK28 _ _ (wpF_true (vr (.bool (true)) rfl) (sk fun K29 hK29 => (wt (oA rfl (oA rfl (oZ (tN (hK29 _ _ ?_))))))))))))))))))
   refine wpF_ret (thenF_ret (inBlockF_ret (thenF_ret (inBlockF_ret (thenF_ret (postF_ret (fn := Tryd.f77) _ rfl [(Value.slice none 0 0), NI 6] (.tuple #[(Value.slice none 0 0), NI 6]) rfl ⟨rfl, rfl, trivial⟩ ?_))))))
   rw [applyGo, if_pos hc3, hpc] at hgo
   have hP : applyP B D = ([], 6) := by rw [applyP, hsz]; simp only; rw [if_neg hc1, if_neg hc2, ← hgo]
   rw [hP]
   exact ⟨_, rfl, RB.nil _, hE⟩
  have hpb := pieceP_bound (by omega) hpc
  refine wpF_skip (tN (hK22 _ _ (wpF_block (sk fun K30 hK30 => (wt (oM rfl (oM rfl (oM rfl (oS rfl (Yk.callA3 del11_pl89 T0 T1 T8 ((piece_yes _ vb v B D (hrb.keep hE) (hr.keep hE) i (by omega) hB hD pb nx hpc).mono ?_)))))))))))
  rintro e w34 ⟨v31, rfl, hr32, hx33⟩
  refine ⟨_, rfl, ?_⟩
  have hE := hE.trans hx33
  have ho_vo := Stab.own _ _ _ _ _ _ _ _ ho_vo hx33
  refine oM rfl (oS rfl (Yk.extract (vs := [v31, NI nx, .bool (true)]) (vr (.tuple #[v31, NI nx, .bool (true)]) rfl) (show _ = some (v31 : Value) from rfl) (oS rfl (Yk.extract (vs := [v31, NI nx, .bool (true)]) (vr (.tuple #[v31, NI nx, .bool (true)]) rfl) (show _ = some (NI nx : Value) from rfl) (oS rfl (Yk.extract (vs := [v31, NI nx, .bool (true)]) (vr (.tuple #[v31, NI nx, .bool (true)]) rfl) (show _ = some (.bool (true) : Value) from rfl) (oA rfl (oA rfl (oA rfl (oZ (tN (hK30 _ _ (sk fun K35 hK35 => (sk fun K36 hK36 => (wt (oM rfl (oS rfl (Yk.notB (vr (.bool (true)) rfl) (oM rfl (oY (d := 47) rfl rfl (vr (.bool (false)) rfl) (Yk.move (vr v31 rfl) ?_)))))))))))))))))))))
  refine oY (d := 47) rfl rfl (vr (.bool (false)) rfl) (Yk.lenRB del11_ty24 (RB.of hr32 (vr v31 rfl)) (oY (d := 47) rfl rfl (vr (.bool (false)) rfl) (Yk.move T7 (oY (d := 47) rfl rfl (vr (.bool (false)) rfl) (Yk.move T10 (oY (d := 47) rfl rfl (vr (.bool (false)) rfl) (Yk.lenRB del11_ty24 (RB.of (RB.ofOwn ho_vo) (vr vo rfl)) (oY (d := 47) rfl rfl (vr (.bool (false)) rfl) (Yk.bin (xv := NI sb) (yv := NI o.length) rfl rfl rfl (i64_sub _ _ _ (by omega) (by omega)) (oY (d := 47) rfl rfl (vr (.bool (false)) rfl) (Yk.eqI (a := (pb.length : Nat)) (b := ((sb) - (o.length) : Nat)) rfl rfl (k_gtr _ _ _ _) (oS rfl (Yk.pickF (vr (.bool (false)) rfl) (vr (.bool (decide (((sb) - (o.length)) < (pb.length)))) rfl) (oZ (tN (hK36 _ _ ?_))))))))))))))))
  refine wpF_cond (((sb) - (o.length)) < (pb.length)) (vr (.bool (decide (((sb) - (o.length)) < (pb.length)))) rfl) (fun hc4 => ?_) (fun hc4 => ?_)
  ·refine sk fun K37 hK37 => (wt (oA rfl (oA rfl (oZ (tN (hK37 _ _ (wpF_ret (thenF_ret (inBlockF_ret (thenF_ret (inBlockF_ret (thenF_ret (postF_ret (fn := Tryd.f77) _ rfl [(Value.slice none 0 0), NI 6] (.tuple #[(Value.slice none 0 0), NI 6]) rfl ⟨rfl, rfl, trivial⟩ ?_)))))))))))))
   rw [applyGo, if_pos hc3, hpc] at hgo
   simp only at hgo; rw [if_pos hc4] at hgo
   have hP : applyP B D = ([], 6) := by rw [applyP, hsz]; simp only; rw [if_neg hc1, if_neg hc2, ← hgo]
   rw [hP]
   exact ⟨_, rfl, RB.nil _, hE⟩
  refine wpF_skip (tN (hK35 _ _ (wt (oM rfl (oM rfl (oS rfl (Yk.appendRB _ _ w.heap.size (.int .u8 0) del11_ty24 del11_inf5 rfl del11_ty24 (o) (pb) (own_of ho_vo T10) (RB.of hr32 (vr v31 rfl)) (by omega) hE.size fun v38 w39 ho40 hg41 => ?_)))))))
  have hg41 : Grew w34 w39 vo v38 := .eqv T10 hg41
  have hE := ext_grew hE hg41 ho_vo (Nat.le_refl _)
  clear ho_vo
  clear hr32
  refine oM rfl (oA rfl (oA rfl (oL_ [(0, vb), (1, v), (6, NI sa), (7, NI sb), (8, NI nx), (9, NI 0), (10, v38), (11, v31), (12, NI nx), (13, .bool (true)), (21, .bool (false))] ⟨T0, T1, T6, T7, rfl, T9, rfl, rfl, rfl, rfl, T21, trivial⟩ fun ρ42 ⟨T0, T1, T6, T7, T8, T9, T10, T11, T12, T13, T21, _⟩ => (bN (tN (And.intro ⟨nx, f', o ++ pb, v38, T0, T1, T6, T7, T9, T21, T8, T10, hE, own_eq ho40 (rfl), by rw [applyGo, if_pos hc3, hpc] at hgo; simp only at hgo; rw [if_neg hc4] at hgo; exact hgo, by omega, by omega, by rw [List.length_append]; omega, trivial⟩ ?_))))))
  show D.length - (intOf (ρ42 8)).toNat < D.length - (intOf (ρ20 8)).toNat
  rw [T8, q8]
  simp only [intOf, Int.toNat_natCast]; omega
 refine wpF_exit (thenF_exit (thenF_exit (inBlockF_hit (tN (hK19 _ _ (sk fun K43 hK43 => (sk fun K44 hK44 => (wt (oM rfl (oS rfl (Yk.lenRB del11_ty24 (RB.of (RB.ofOwn ho_vo) T10) (oM rfl (oS rfl (Yk.eqI (a := (o.length : Nat)) (b := (sb : Nat)) rfl T7 (k_neq _ _ _ _) (oZ (tN (hK44 _ _ ?_)))))))))))))))))
 refine wpF_cond ((o.length : Nat) ≠ (sb)) (vr (.bool (decide ((o.length : Nat) ≠ (sb)))) rfl) (fun hc5 => ?_) (fun hc5 => ?_)
 ·refine sk fun K45 hK45 => (wt (oA rfl (oA rfl (oZ (tN (hK45 _ _ (wpF_ret (thenF_ret (postF_ret (fn := Tryd.f77) _ rfl [(Value.slice none 0 0), NI 6] (.tuple #[(Value.slice none 0 0), NI 6]) rfl ⟨rfl, rfl, trivial⟩ ?_)))))))))
  rw [applyGo, if_neg hc3, if_neg hc5] at hgo
  have hP : applyP B D = ([], 6) := by rw [applyP, hsz]; simp only; rw [if_neg hc1, if_neg hc2, ← hgo]
  rw [hP]
  exact ⟨_, rfl, RB.nil _, hE⟩
 refine wpF_skip (tN (hK43 _ _ (sk fun K46 hK46 => (wt (oM rfl (oA rfl (oA rfl (oZ (tN (hK46 _ _ (wpF_ret (postF_ret (fn := Tryd.f77) _ rfl [vo, NI 0] (.tuple #[vo, NI 0]) rfl ⟨T10, rfl, trivial⟩ ?_))))))))))))
 rw [applyGo, if_neg hc3, if_pos (by omega)] at hgo
 have hP : applyP B D = (o, 0) := by rw [applyP, hsz]; simp only; rw [if_neg hc1, if_neg hc2, ← hgo]
 rw [hP]
 exact ⟨_, rfl, RB.ofOwn ho_vo, hE⟩
open Go.RowKit
theorem flushP_ex (T : List UInt8) (fr to : Nat) (o : List UInt8) : ∃ r, flushP T fr to o = o ++ r := by
  unfold flushP
  split
  · exact ⟨Lib.uvarint (2 * (to - fr)) ++ (T.drop fr).take (to - fr), by rw [List.append_assoc]⟩
  · exact ⟨[], by simp⟩
theorem makeGo_ex (B T : List UInt8) : ∀ (f i fr : Nat) (o : List UInt8), ∃ r, makeGo B T f i fr o = o ++ r
  | 0, _, fr, o => flushP_ex T fr T.length o
  | f + 1, i, fr, o => by
    unfold makeGo
    split
    · split
      · exact makeGo_ex B T f _ _ _
      · obtain ⟨r, hr⟩ := makeGo_ex B T f (i + (best B T i).2) (i + (best B T i).2) (flushP T fr i o ++ Lib.uvarint (2 * (best B T i).2 + 1) ++ Lib.uvarint (best B T i).1)
        obtain ⟨q, hq⟩ := flushP_ex T fr i o
        exact ⟨q ++ Lib.uvarint (2 * (best B T i).2 + 1) ++ Lib.uvarint (best B T i).1 ++ r, by rw [hr, hq]; simp only [List.append_assoc]⟩
    · exact flushP_ex T fr T.length o
theorem lebDec_uv (n : Nat) (h : n < 9223372036854775808) (r : List UInt8) : lebDec 0 (Lib.uvarint n ++ r) = some (n, (Lib.uvarint n).length) := lebDec_uvarint r 8 n 0 (Nat.lt_of_lt_of_le h (by decide)) (by omega) (by omega)
theorem makeP_sizes (B T : List UInt8) (hB : B.length ≤ 1048576) (hT : T.length ≤ 1048576) : sizesP (makeP B T) = some (B.length, T.length, 0 + (Lib.uvarint B.length).length + (Lib.uvarint T.length).length) := by
  obtain ⟨r, hr⟩ := makeGo_ex B T T.length 0 0 (Lib.uvarint B.length ++ Lib.uvarint T.length)
  have h1 : makeP B T = Lib.uvarint B.length ++ (Lib.uvarint T.length ++ r) := by rw [makeP, hr, List.append_assoc]
  unfold sizesP
  rw [h1, List.drop_zero, lebDec_uv _ (by omega)]
  simp only
  rw [Nat.zero_add, List.drop_left, lebDec_uv _ (by omega)]
open Go.RowKit
theorem fold_le (B T : List UInt8) (i : Nat) (hi : i ≤ T.length) : ∀ (zs : List Nat) (pn : Nat × Nat), (∀ z ∈ zs, z ≤ B.length) → pn.1 ≤ B.length → pn.2 ≤ T.length - i → (zs.foldl (bstep B T i) pn).1 ≤ B.length ∧ (zs.foldl (bstep B T i) pn).2 ≤ T.length - i
  | [], _, _, h1, h2 => ⟨h1, h2⟩
  | z :: zs, pn, hz, h1, h2 => by
    rw [List.foldl_cons]
    refine fold_le B T i hi zs _ (fun x hx => hz x (by simp [hx])) ?_ ?_
    · unfold bstep
      split
      · exact hz z (by simp)
      · exact h1
    · unfold bstep
      split
      · have := (lcp_le (B.drop z) (T.drop i)).2
        rw [List.length_drop] at this
        exact this
      · exact h2
theorem best_le (B T : List UInt8) (i : Nat) (hi : i ≤ T.length) : (best B T i).1 ≤ B.length ∧ (best B T i).2 ≤ T.length - i := by
  unfold best
  split
  · refine fold_le B T i hi _ _ (fun z hz => ?_) (Nat.zero_le _) (Nat.zero_le _)
    unfold posOf at hz
    rw [List.mem_filter, List.mem_range] at hz
    omega
  · exact ⟨Nat.zero_le _, Nat.zero_le _⟩
open Go.RowKit
theorem lcp_take : ∀ (a b : List UInt8) (n : Nat), n ≤ lcp a b → a.take n = b.take n
  | _, _, 0, _ => by simp
  | [], b, n + 1, h => by simp [lcp] at h
  | a :: u, [], n + 1, h => by simp [lcp] at h
  | a :: u, b :: z, n + 1, h => by
    unfold lcp at h
    split at h
    · rename_i e
      rw [List.take_succ_cons, List.take_succ_cons, e, lcp_take u z n (by omega)]
    · omega
theorem lcp_ge : ∀ (n : Nat) (a b : List UInt8), n ≤ a.length → n ≤ b.length → a.take n = b.take n → n ≤ lcp a b
  | 0, _, _, _, _, _ => Nat.zero_le _
  | n + 1, [], _, h, _, _ => by simp at h
  | n + 1, _ :: _, [], _, h, _ => by simp at h
  | n + 1, a :: u, b :: z, h1, h2, h => by
    rw [List.take_succ_cons, List.take_succ_cons] at h
    injection h with e1 e2
    unfold lcp
    rw [if_pos e1]
    have := lcp_ge n u z (by simpa using h1) (by simpa using h2) e2
    omega
theorem fold_is (B T : List UInt8) (i : Nat) : ∀ (zs : List Nat) (pn : Nat × Nat), (pn.2 = 0 ∨ pn.2 = lcp (B.drop pn.1) (T.drop i) ∧ 8 ≤ pn.2) → (∀ z ∈ zs, 8 ≤ lcp (B.drop z) (T.drop i)) → (zs.foldl (bstep B T i) pn).2 = 0 ∨ (zs.foldl (bstep B T i) pn).2 = lcp (B.drop (zs.foldl (bstep B T i) pn).1) (T.drop i) ∧ 8 ≤ (zs.foldl (bstep B T i) pn).2
  | [], _, h, _ => h
  | z :: zs, pn, h, hz => by
    rw [List.foldl_cons]
    refine fold_is B T i zs _ ?_ (fun x hx => hz x (by simp [hx]))
    unfold bstep
    split
    · exact .inr ⟨rfl, hz z (by simp)⟩
    · exact h
theorem best_is (B T : List UInt8) (i : Nat) (h : (best B T i).2 ≠ 0) : (best B T i).2 = lcp (B.drop (best B T i).1) (T.drop i) ∧ 8 ≤ (best B T i).2 := by
  have key : (best B T i).2 = 0 ∨ (best B T i).2 = lcp (B.drop (best B T i).1) (T.drop i) ∧ 8 ≤ (best B T i).2 := by
    unfold best
    split
    · rename_i h8
      refine fold_is B T i _ _ (.inl rfl) (fun z hz => ?_)
      unfold posOf at hz
      rw [List.mem_filter, List.mem_range] at hz
      have he := eq_of_beq hz.2
      exact lcp_ge 8 _ _ (by rw [List.length_drop]; omega) (by rw [List.length_drop]; omega) he
    · exact .inl rfl
  exact key.resolve_left h
def flushT (T : List UInt8) (fr to : Nat) : List UInt8 := if fr < to then Lib.uvarint (2 * (to - fr)) ++ (T.drop fr).take (to - fr) else []
def makeT (B T : List UInt8) : Nat → Nat → Nat → List UInt8
  | 0, _, fr => flushT T fr T.length
  | f + 1, i, fr => if i < T.length then (if (best B T i).2 = 0 then makeT B T f (i + 1) fr
      else flushT T fr i ++ (Lib.uvarint (2 * (best B T i).2 + 1) ++ (Lib.uvarint (best B T i).1 ++ makeT B T f (i + (best B T i).2) (i + (best B T i).2)))) else flushT T fr T.length
theorem flushP_T (T : List UInt8) (fr to : Nat) (o : List UInt8) : flushP T fr to o = o ++ flushT T fr to := by
  unfold flushP flushT
  split
  · rw [List.append_assoc]
  · simp
theorem makeGo_T (B T : List UInt8) : ∀ (f i fr : Nat) (o : List UInt8), makeGo B T f i fr o = o ++ makeT B T f i fr
  | 0, _, fr, o => flushP_T T fr T.length o
  | f + 1, i, fr, o => by
    unfold makeGo makeT
    split
    · split
      · exact makeGo_T B T f _ _ _
      · rw [makeGo_T B T f, flushP_T]
        simp only [List.append_assoc]
    · exact flushP_T T fr T.length o
theorem uv2 (n : Nat) (h : n < 16384) : (Lib.uvarint n).length ≤ 2 := Lib.uvarint_length 1 n (by omega)
theorem flushT_len (T : List UInt8) (fr to : Nat) (ht : to ≤ T.length) (hT : T.length ≤ 5000) : (flushT T fr to).length ≤ 2 * (to - fr) := by
  unfold flushT
  split
  · have h2 := uv2 (2 * (to - fr)) (by omega)
    rw [List.length_append, List.length_take, List.length_drop]
    by_cases h1 : to - fr = 1
    · rw [h1, Lib.uvarint_small (by omega)]
      simp
      omega
    · omega
  · simp
theorem makeT_len (B T : List UInt8) (hB : B.length ≤ 5000) (hT : T.length ≤ 5000) : ∀ (f i fr : Nat), fr ≤ i → i ≤ T.length → (makeT B T f i fr).length ≤ 2 * (T.length - fr)
  | 0, i, fr, _, _ => flushT_len T fr T.length (Nat.le_refl _) hT
  | f + 1, i, fr, h, hi => by
    unfold makeT
    split
    · split
      · exact makeT_len B T hB hT f (i + 1) fr (by omega) (by omega)
      · rename_i h1 hn
        have hb := best_le B T i hi
        have h8 := (best_is B T i hn).2
        have ih := makeT_len B T hB hT f (i + (best B T i).2) (i + (best B T i).2) (Nat.le_refl _) (by omega)
        have hf := flushT_len T fr i hi hT
        have u1 := uv2 (2 * (best B T i).2 + 1) (by omega)
        have u2 := uv2 (best B T i).1 (by omega)
        simp only [List.length_append]
        omega
    · exact flushT_len T fr T.length (Nat.le_refl _) hT
theorem makeP_T (B T : List UInt8) : makeP B T = Lib.uvarint B.length ++ Lib.uvarint T.length ++ makeT B T T.length 0 0 := makeGo_T B T _ _ _ _
theorem makeP_len (B T : List UInt8) (hB : B.length ≤ 5000) (hT : T.length ≤ 5000) : (makeP B T).length ≤ 2 * T.length + 18 := by
  have := makeT_len B T hB hT T.length 0 0 (Nat.le_refl _) (Nat.zero_le _)
  have u1 := uv2 B.length (by omega)
  have u2 := uv2 T.length (by omega)
  rw [makeP_T, List.length_append, List.length_append]
  omega
theorem piece_add (B pre bs rest : List UInt8) (h1 : 1 ≤ bs.length) (h2 : bs.length ≤ 1048576) : pieceP B (pre ++ (Lib.uvarint (2 * bs.length) ++ (bs ++ rest))) pre.length = some (bs, pre.length + (Lib.uvarint (2 * bs.length)).length + bs.length) := by
  unfold pieceP
  rw [List.drop_left, lebDec_uv _ (by omega)]
  simp only
  rw [if_neg (by omega), cutP, if_neg (by simp only [List.length_append]; omega), Nat.mul_div_cancel_left _ (by decide)]
  rw [show pre ++ (Lib.uvarint (2 * bs.length) ++ (bs ++ rest)) = (pre ++ Lib.uvarint (2 * bs.length)) ++ (bs ++ rest) by rw [List.append_assoc], ← List.length_append, List.drop_left, List.take_left]
theorem piece_copy (B pre rest : List UInt8) (p n : Nat) (hn : 1 ≤ n) (hp : p ≤ B.length) (hpn : n ≤ B.length - p) (hB : B.length ≤ 1048576) : pieceP B (pre ++ (Lib.uvarint (2 * n + 1) ++ (Lib.uvarint p ++ rest))) pre.length = some ((B.drop p).take n, pre.length + (Lib.uvarint (2 * n + 1)).length + (Lib.uvarint p).length) := by
  unfold pieceP
  rw [List.drop_left, lebDec_uv _ (by omega)]
  simp only
  rw [if_pos (by omega), show pre ++ (Lib.uvarint (2 * n + 1) ++ (Lib.uvarint p ++ rest)) = (pre ++ Lib.uvarint (2 * n + 1)) ++ (Lib.uvarint p ++ rest) by rw [List.append_assoc], ← List.length_append, List.drop_left, lebDec_uv _ (by omega)]
  simp only
  rw [show (2 * n + 1) / 2 = n by omega, cutP, if_neg (by omega)]
theorem take_more (T : List UInt8) (fr to : Nat) (h : fr ≤ to) : T.take fr ++ (T.drop fr).take (to - fr) = T.take to := by
  rw [← List.take_add]
  congr 1
  omega
theorem flush_read (B T pre rest : List UInt8) (fr to : Nat) (h : fr ≤ to) (ht : to ≤ T.length) (hT : T.length ≤ 1048576) (g : Nat) (hg : (flushT T fr to ++ rest).length < g) : ∃ g', rest.length < g' ∧ applyGo B (pre ++ (flushT T fr to ++ rest)) T.length g pre.length (T.take fr) = applyGo B (pre ++ (flushT T fr to ++ rest)) T.length g' (pre ++ flushT T fr to).length (T.take to) := by
  by_cases hlt : fr < to
  · have hl : ((T.drop fr).take (to - fr)).length = to - fr := by rw [List.length_take, List.length_drop]; omega
    have hf : flushT T fr to = Lib.uvarint (2 * ((T.drop fr).take (to - fr)).length) ++ (T.drop fr).take (to - fr) := by rw [flushT, if_pos hlt, hl]
    have hfl : 1 ≤ (flushT T fr to).length := by rw [hf, List.length_append, hl]; omega
    cases g with
    | zero => omega
    | succ g =>
      refine ⟨g, by rw [List.length_append] at hg; omega, ?_⟩
      rw [applyGo, if_pos (by simp only [List.length_append]; omega)]
      have hp := piece_add B pre ((T.drop fr).take (to - fr)) rest (by omega) (by omega)
      rw [show pre ++ (flushT T fr to ++ rest) = pre ++ (Lib.uvarint (2 * ((T.drop fr).take (to - fr)).length) ++ ((T.drop fr).take (to - fr) ++ rest)) by rw [hf, List.append_assoc], hp]
      simp only
      rw [if_neg (by rw [hl, List.length_take]; omega), take_more T fr to h]
      congr 1
      rw [hf]
      simp only [List.length_append]
      omega
  · have he : fr = to := by omega
    subst he
    have hf : flushT T fr fr = [] := by rw [flushT, if_neg (by omega)]
    rw [hf] at hg ⊢
    exact ⟨g, by simpa using hg, by simp⟩
theorem applyGo_end (B D T : List UInt8) (g : Nat) (hg : 0 < g) : applyGo B D T.length g D.length (T.take T.length) = some T := by
  cases g with
  | zero => omega
  | succ g => rw [applyGo, if_neg (by omega), List.take_length, if_pos rfl]
theorem last_read (B T pre : List UInt8) (fr : Nat) (h : fr ≤ T.length) (hT : T.length ≤ 1048576) (g : Nat) (hg : (flushT T fr T.length).length < g) : applyGo B (pre ++ flushT T fr T.length) T.length g pre.length (T.take fr) = some T := by
  obtain ⟨g', h1, h2⟩ := flush_read B T pre [] fr T.length h (Nat.le_refl _) hT g (by simpa using hg)
  rw [List.append_nil] at h2
  rw [h2]
  exact applyGo_end B _ T g' (by omega)
theorem read_make (B T : List UInt8) (hB : B.length ≤ 1048576) (hT : T.length ≤ 1048576) : ∀ (f i fr : Nat) (pre : List UInt8) (g : Nat), fr ≤ i → i ≤ T.length → (makeT B T f i fr).length < g → applyGo B (pre ++ makeT B T f i fr) T.length g pre.length (T.take fr) = some T
  | 0, i, fr, pre, g, h1, h2, hg => last_read B T pre fr (by omega) hT g hg
  | f + 1, i, fr, pre, g, h1, h2, hg => by
    unfold makeT at hg ⊢
    split
    · rename_i hi
      rw [if_pos hi] at hg
      split
      · rename_i hn
        rw [if_pos hn] at hg
        exact read_make B T hB hT f (i + 1) fr pre g (by omega) (by omega) hg
      · rename_i hn
        rw [if_neg hn] at hg
        have hb := best_le B T i h2
        have hs := best_is B T i hn
        generalize best B T i = pn at *
        obtain ⟨p, n⟩ := pn
        simp only at hn hb hs hg ⊢
        have hpn := (lcp_le (B.drop p) (T.drop i)).1
        rw [List.length_drop] at hpn
        obtain ⟨g', h3, h4⟩ := flush_read B T pre (Lib.uvarint (2 * n + 1) ++ (Lib.uvarint p ++ makeT B T f (i + n) (i + n))) fr i h1 h2 hT g hg
        rw [h4]
        have hu := Lib.uvarint_pos (2 * n + 1)
        cases g' with
        | zero => omega
        | succ g' =>
          rw [← List.append_assoc pre, applyGo, if_pos (by simp only [List.length_append]; omega), piece_copy B (pre ++ flushT T fr i) _ p n (by omega) hb.1 (by omega) hB]
          simp only
          have hl : ((B.drop p).take n).length = n := by rw [List.length_take, List.length_drop]; omega
          rw [if_neg (by rw [hl, List.length_take]; omega), lcp_take (B.drop p) (T.drop i) n (by omega)]
          have ht : T.take i ++ (T.drop i).take n = T.take (i + n) := by
            have := take_more T i (i + n) (by omega)
            rwa [Nat.add_sub_cancel_left] at this
          rw [ht]
          have ih := read_make B T hB hT f (i + n) (i + n) (pre ++ flushT T fr i ++ Lib.uvarint (2 * n + 1) ++ Lib.uvarint p) g' (Nat.le_refl _) (by omega) (by simp only [List.length_append] at h3; omega)
          rw [← ih]
          simp only [List.append_assoc, List.length_append, Nat.add_assoc]
    · rename_i hi
      rw [if_neg hi] at hg
      exact last_read B T pre fr (by omega) hT g hg
theorem apply_make (B T : List UInt8) (hB : B.length ≤ 5000) (hT : T.length ≤ 5000) : applyP B (makeP B T) = (T, 0) := by
  unfold applyP
  rw [makeP_sizes B T (by omega) (by omega)]
  simp only
  rw [if_neg (by omega), if_neg (by simp), makeP_T, Nat.zero_add, ← List.length_append]
  have := read_make B T (by omega) (by omega) T.length 0 0 (Lib.uvarint B.length ++ Lib.uvarint T.length) ((Lib.uvarint B.length ++ Lib.uvarint T.length ++ makeT B T T.length 0 0).length + 1) (Nat.le_refl _) (Nat.zero_le _) (by simp only [List.length_append]; omega)
  rw [List.take_zero] at this
  rw [this]
open Go.RowKit
theorem Sha.be64_take (n i : Nat) (h : i < 8) : (Sha.be64 n).take (i + 1) = (Sha.be64 n).take i ++ [UInt8.ofNat (n / 2 ^ (56 - 8 * i))] := by
 unfold Sha.be64
 rw [List.take_succ_eq_append_getElem (by simp; omega)]
 simp
set_option maxRecDepth 100000
open Go.RowKit
set_option maxRecDepth 100000
def HashAt (w : World) (g : Nat) (p : List UInt8) : Prop := ∃ s r, Sha.At p s r ∧ w.heap[g]? = some (.cells (hashL s r (p.length % 64) p.length).toArray 125 (0, 0))
theorem HashAt.keep {w w' : World} {g : Nat} {p : List UInt8} (h : HashAt w g p) (k : Ext w w') : HashAt w' g p := by
  obtain ⟨s, r, h1, h2⟩ := h
  exact ⟨s, r, h1, eb k h2⟩
theorem sha6_ty88 : Tryd.prog.underlying 88 = some (.array 8 87) := by kernel_rfl
theorem sha6_isz88 : (Tryd.prog.info? 88).map (·.size) = some 8 := by kernel_rfl
theorem sha6_ty76 : Tryd.prog.underlying 76 = some (.pointer 125) := by kernel_rfl
theorem sha6_fo125_3 : FieldOff Tryd.prog 125 3 73 := fun b o w => by simp [go_sem]
theorem sha6_ty3 : Tryd.prog.underlying 3 = some (.int .i64) := by kernel_rfl
theorem sha6_ty24 : Tryd.prog.underlying 24 = some (.slice 5) := by kernel_rfl
theorem sha6_isz3 : (Tryd.prog.info? 3).map (·.size) = some 1 := by kernel_rfl
theorem sha6_fo125_1 : FieldOff Tryd.prog 125 1 8 := fun b o w => by simp [go_sem]
theorem sha6_fo125_2 : FieldOff Tryd.prog 125 2 72 := fun b o w => by simp [go_sem]
theorem sha6_ty123 : Tryd.prog.underlying 123 = some (.array 64 5) := by kernel_rfl
theorem sha6_sz5 : ∀ w' : World, (sizeOf 5).run Tryd.prog w' = .ok 1 w' := fun _ => by kernel_rfl
theorem sha6_isz5 : (Tryd.prog.info? 5).map (·.size) = some 1 := by kernel_rfl
theorem sha6_fo125_0 : FieldOff Tryd.prog 125 0 0 := fun b o w => by simp [go_sem]
theorem sha6_pl69 : Plain Tryd.prog 69 := fun _ _ => by kernel_rfl
theorem new_any (w : World) (hG : Laid w) :
    Calls Tryd.prog 38 #[] w fun e w' => ∃ g, e = .returned (PQ g 0) ∧ w.heap.size ≤ g ∧ HashAt w' g [] ∧ Ext w w' := by
  obtain ⟨tF, fF, hF0⟩ := hG.first
  refine calls_of_wpF (args := []) Tryd.func38 rfl 4 rfl (Nat.le_of_ble_eq_true rfl) ?_
  intro ρ0 hb
  clear hb
  have hE := Ext.refl w
  refine sk fun K1 hK1 => (wt (oA rfl (oZ (tN (hK1 _ _ (sk fun K2 hK2 => (wt (oS rfl (Yk.loadAll (vr (PQ 0 0) rfl) (eb hE hF0) sha6_ty88 rfl sha6_isz88 (oS rfl (Yk.run (v := .agg (hashL Sha.first (List.replicate 64 0) 0 0).toArray) (by kernel_rfl) (oS rfl (Yk.box (cs := (hashL Sha.first (List.replicate 64 0) 0 0 : List Value).toArray) (vr (.agg (hashL Sha.first (List.replicate 64 0) 0 0).toArray) rfl) fun n3 w4 hn5 hb6 hx7 hs8 => ?_)))))))))))))
  have hE := hE.trans hx7
  have hb9 := hb6; clear hb6
  have hl10 : n3 < w4.heap.size := by omega
  refine oA rfl (oZ (tN (hK2 _ _ (wpF_ret (postF_ret (fn := Tryd.f38) _ rfl [PQ n3 0] (PQ n3 0) rfl ⟨rfl, trivial⟩ ?_)))))
  exact ⟨_, rfl, by omega, ⟨_, _, Sha.at_nil, hb9⟩, hE⟩

theorem write_any (w : World) (hG : Laid w) (g : Nat) (hh : 1 < g) (p : List UInt8) (hH : HashAt w g p) (v : Value) (c : List UInt8) (hc : RB w v c) (hv : v.ownBlock ≠ some g) (hb : p.length + c.length < 4611686018427387904) :
    Calls Tryd.prog 39 #[PQ g 0, v] w fun e w' => e = .returned (.tuple #[]) ∧ HashAt w' g (p ++ c) ∧ w.grownBy w' (some g) := by
  obtain ⟨s, r, hat, hb0⟩ := hH
  have hs := hat.slen
  have hr := hat.len
  obtain ⟨f, hf⟩ : ∃ f, f = p.length % 64 := ⟨_, rfl⟩
  rw [← hf] at hb0
  obtain ⟨N, hN⟩ : ∃ N, p.length + c.length = N := ⟨_, rfl⟩
  have hgr : w.grownBy w (some g) := World.grownBy.refl _ _
  refine calls_of_wpF (args := [PQ g 0, v]) Tryd.func39 rfl 60 rfl (Nat.le_of_ble_eq_true rfl) ?_
  intro ρ0 hb
  have T0 : ρ0 0 = (PQ g 0 : Value) := hb.get 0
  have T1 : ρ0 1 = (v : Value) := hb.get 1
  clear hb
  refine sk fun K1 hK1 => (sk fun K2 hK2 => (wt (oM rfl (oS rfl (Yk.eqlNil sha6_ty76 T0 (oZ (tN (hK2 _ _ (wpF_false (vr (.bool (false)) rfl) (wpF_skip (tN (hK1 _ _ (sk fun K3 hK3 => (wt (oM rfl (oS rfl (Yk.nilCheck T0 (oS rfl (Yk.fieldAt sha6_fo125_3 (vr (PQ g 0) rfl) (oS rfl (Yk.cell1 sha6_ty3 rfl (vr (PQ g 73) rfl) (cellAt hb0 (hashL_size hs hr)) ?_)))))))))))))))))))))
  refine oM rfl (oS rfl (Yk.lenRB sha6_ty24 (RB.of hc T1) (oS rfl (Yk.bin (xv := NI p.length) (yv := NI c.length) rfl rfl rfl (i64_add _ _ _ (by omega)) (oS rfl (Yk.nilCheck T0 (oS rfl (Yk.fieldAt sha6_fo125_3 (vr (PQ g 0) rfl) (oS rfl (Yk.storeC (i := 73) (v := NI ((p.length) + (c.length))) (vr (PQ g 73) rfl) (vr (NI ((p.length) + (c.length))) rfl) hb0 (by rw [hashL_length hs hr]; omega) sha6_isz3 rfl rfl fun w4 hb5 hg6 hs7 => ?_))))))))))
  clear hb0
  have hc := hc.kept hg6 (.inr hv)
  have hG : Laid w4 := Laid.kept hG hg6 hh
  have hgr : w.grownBy w4 (some g) := grownBy_trans hgr hg6 (fun _ e => .inl e)
  have hb0 := hb5; clear hb5
  have hl8 := bl hb0
  refine oL_ [(0, PQ g 0), (1, v), (6, .bool (false))] ⟨T0, T1, rfl, trivial⟩ fun ρ9 ⟨T0, T1, T6, _⟩ => ?_
  have hb0 : w4.heap[g]? = some (.cells (hashL s r f N).toArray 125 (0, 0)) := blk_eq hb0 (by rw [hashL_setSize hs hr, hN])
  refine tN (hK3 _ _ (wpF_block (wpF_loop (fun (ρ : Slots) (wz : World) => ∃ m : Nat, ∃ s1 : List UInt32, ∃ r1 : List UInt8, ∃ f1 : Nat, ∃ v1 : Value, ρ 0 = (PQ g 0 : Value) ∧ ρ 6 = (.bool (false) : Value) ∧ ρ 1 = (v1 : Value) ∧ Laid wz ∧ w.grownBy wz (some g) ∧ RB wz v1 (c.drop m) ∧ wz.heap[g]? = some (.cells (hashL s1 r1 f1 N).toArray 125 (0, 0)) ∧ (m ≤ c.length) ∧ (Sha.At (p ++ c.take m) s1 r1) ∧ (f1 = (p ++ c.take m).length % 64) ∧ (OB v1 g) ∧ True) (fun ρ _ => sliceLen (ρ 1)) ⟨0, s, r, f, v, T0, T6, T1, hG, hgr, hc, blk_eq hb0 (rfl), by omega, by simpa using hat, by simpa using hf, hv, trivial⟩ ?_)))
  clear hc
  clear hb0
  clear hG hgr
  rintro ρ10 w11 ⟨m, s1, r1, f1, v1, T0, T6, T1, hG, hgr, hc1, hb0l, hm, hat1, hf1, hv1, -⟩
  have q1 := T1
  have ql1 := hc1.sliceLen
  have hs1 := hat1.slen
  have hr1 := hat1.len
  have hf64 : f1 < 64 := by omega
  refine sk fun K12 hK12 => (sk fun K13 hK13 => (wt (oM rfl (oS rfl (Yk.lenRB sha6_ty24 (RB.of hc1 T1) (oS rfl (Yk.eqI (a := ((c.drop m : List UInt8).length : Nat)) (b := (0 : Nat)) rfl rfl (k_gtr _ _ _ _) (oZ (tN (hK13 _ _ ?_))))))))))
  refine wpF_cond ((0) < ((c.drop m : List UInt8).length)) (vr (.bool (decide ((0) < ((c.drop m : List UInt8).length)))) rfl) (fun hc1' => ?_) (fun hc1' => ?_)
  · obtain ⟨X, hX⟩ : ∃ X, X = (c.drop m).take (64 - f1) := ⟨_, rfl⟩
    obtain ⟨n, hn⟩ : ∃ n, n = X.length := ⟨_, rfl⟩
    have hxl : X.length = n := hn.symm
    have hcl : (c.drop m).length = c.length - m := List.length_drop
    have hnm : Nat.min (c.drop m).length (64 - f1) = n := by rw [hn, hX, List.length_take]; exact Nat.min_comm _ _
    have hn1 : 0 < n := by rw [← hnm]; exact Nat.lt_min.2 ⟨hc1', by omega⟩
    have hn2 : f1 + n ≤ 64 := by have : n ≤ 64 - f1 := by rw [← hnm]; exact Nat.min_le_right _ _
                                 omega
    have hn3 : n ≤ (c.drop m).length := by rw [← hnm]; exact Nat.min_le_left _ _
    have hXn : X = (c.drop m).take n := by rw [hX, ← hnm]; simp [List.take_eq_take_iff]; exact Nat.min_comm _ _
    have htk : (p ++ c.take m) ++ X = p ++ c.take (m + n) := by rw [List.append_assoc, hXn, List.take_add]
    
    refine wpF_skip (tN (hK12 _ _ (wpF_block (sk fun K14 hK14 => ?_))))
    refine wpF_draw_mid 9 [Is (PQ g 0), Is (PQ g 0), Is (PQ g 8), Is (PQ g 0), Is (PQ g 0), Is (PQ g 72), Is (NI f1), Is (.slice (some ⟨g, 8 + f1, none⟩) (64 - f1) (64 - f1)), Is (v1), fun x w' => x = NI n ∧ w'.heap[g]? = some (.cells (hashL s1 (r1.take f1 ++ X ++ r1.drop (f1 + n)) f1 N).toArray 125 (0, 0)) ∧ w11.grownBy w' (some g), fun x w' => x = NI n ∧ w'.heap[g]? = some (.cells (hashL s1 (r1.take f1 ++ X ++ r1.drop (f1 + n)) f1 N).toArray 125 (0, 0)) ∧ w11.grownBy w' (some g)] (by kernel_rfl) [19, 20, 21, 22, 23, 24, 25, 26, 27, 28, 4] (by kernel_rfl) (by kernel_rfl) (by kernel_rfl) rfl (si9 ⟨(fun _ _ _ hp he => ⟨hp.1, eb he hp.2.1, grownBy_trans hp.2.2 he.grown (fun _ e => by cases e)⟩), (fun _ _ _ hp he => ⟨hp.1, eb he hp.2.1, grownBy_trans hp.2.2 he.grown (fun _ e => by cases e)⟩), trivial⟩) (si9 trivial) ?hs1003 ?hQ1003
    case hs1003 =>
      refine ⟨?_, ?_, ?_, ?_, ?_, ?_, ?_, ?_, ?_, ?_, ?_, trivial⟩
      · refine stepN rfl fun σ w1 hC h => ?_
        have e0 := (eqo (h 0 (by decide))).trans T0
        have hC : Ext _ w1 := hC
        exact Yk.move e0 ⟨Ext.refl _, rfl⟩
      · refine stepN rfl fun σ w1 hC h => ?_
        have e19 := eqo (h 19 (by decide))
        have hC : Ext _ w1 := hC
        exact Yk.nilCheck e19 ⟨Ext.refl _, rfl⟩
      · refine stepN rfl fun σ w1 hC h => ?_
        have e20 := eqo (h 20 (by decide))
        have hC : Ext _ w1 := hC
        exact Yk.fieldAt sha6_fo125_1 e20 ⟨Ext.refl _, rfl⟩
      · refine stepN rfl fun σ w1 hC h => ?_
        have e0 := (eqo (h 0 (by decide))).trans T0
        have hC : Ext _ w1 := hC
        exact Yk.move e0 ⟨Ext.refl _, rfl⟩
      · refine stepN rfl fun σ w1 hC h => ?_
        have e22 := eqo (h 22 (by decide))
        have hC : Ext _ w1 := hC
        exact Yk.nilCheck e22 ⟨Ext.refl _, rfl⟩
      · refine stepN rfl fun σ w1 hC h => ?_
        have e23 := eqo (h 23 (by decide))
        have hC : Ext _ w1 := hC
        exact Yk.fieldAt sha6_fo125_2 e23 ⟨Ext.refl _, rfl⟩
      · refine stepN rfl fun σ w1 hC h => ?_
        have e24 := eqo (h 24 (by decide))
        have hC : Ext _ w1 := hC
        exact Yk.cell1 sha6_ty3 rfl e24 (cellAt (eb hC hb0l) (hashL_fill hs1 hr1)) ⟨Ext.refl _, rfl⟩
      · refine stepN rfl fun σ w1 hC h => ?_
        have e21 := eqo (h 21 (by decide))
        have e25 := eqo (h 25 (by decide))
        have hC : Ext _ w1 := hC
        exact Yk.sliceArrL sha6_ty123 sha6_sz5 e21 e25 (by omega) ⟨Ext.refl _, rfl⟩
      · refine stepN rfl fun σ w1 hC h => ?_
        have e1 := (eqo (h 1 (by decide))).trans T1
        have hC : Ext _ w1 := hC
        exact Yk.move e1 ⟨Ext.refl _, rfl⟩
      · refine stepN rfl fun σ w1 hC h => ?_
        have e26 := eqo (h 26 (by decide))
        have e27 := eqo (h 27 (by decide))
        have hC : Ext _ w1 := hC
        refine Yk.copyB (.tmp 26) (.tmp 27) (o := 8 + f1) sha6_ty24 sha6_isz5 e26 (l := c.drop m) (by show RB w1 (σ 27) _; rw [e27]; exact hc1.keep hC) (eb hC hb0l) (by rw [hnm]; simp only [List.size_toArray, hashL_length hs1 hr1]; omega) ?_
        refine ⟨trivial, by rw [hnm]; rfl, ?_, ?_⟩
        · rw [hnm, ← hX, ← hxl]
          have := hashL_rest (f := f1) (n := N) (at_ := f1) (x := X) hs1 hr1 (by omega)
          rw [this]
          exact setRow_heap w1 g _ _ _ _ (eb hC hb0l)
        · exact grownBy_trans (row_none hC.grown (some g)) ⟨rfl, rfl, rfl, by simp, fun k _ hk => setRow_other w1 g k _ (fun e => hk (by rw [e]))⟩ (fun _ e => .inl e)
      · refine stepN rfl fun σ w1 hC h => ?_
        have e28 : (fun x w' => x = NI n ∧ w'.heap[g]? = some (.cells (hashL s1 (r1.take f1 ++ X ++ r1.drop (f1 + n)) f1 N).toArray 125 (0, 0)) ∧ w11.grownBy w' (some g)) (σ 28) w1 := h 28 (by decide)
        exact Yk.assign rfl ⟨Ext.refl _, e28⟩
    intro ρ15 w16 he hf
    obtain ⟨-, -, -, -, -, -, -, -, -, -, k4, -⟩ := hf
    obtain ⟨T0, T1, T6, -⟩ := he.hold [(0, _), (1, _), (6, _)] ⟨T0, T1, T6, trivial⟩ rfl
    clear he
    have k4 : (fun x w' => x = NI n ∧ w'.heap[g]? = some (.cells (hashL s1 (r1.take f1 ++ X ++ r1.drop (f1 + n)) f1 N).toArray 125 (0, 0)) ∧ w11.grownBy w' (some g)) (ρ15 4) w16 := k4
    obtain ⟨v18, T4⟩ : ∃ v, ρ15 4 = v := ⟨_, rfl⟩
    rw [T4] at k4
    have hk19 := k4; clear k4
    obtain ⟨hv4, hb4, hg4⟩ := hk19
    rw [hv4] at T4
    have hG : Laid w16 := Laid.kept hG hg4 hh
    have hgr : w.grownBy w16 (some g) := grownBy_trans hgr hg4 (fun _ e => .inl e)
    have hc1 := hc1.kept hg4 (.inr hv1)
    clear hb0l
    have hb20 := hb4; clear hb4
    obtain ⟨r2, hr2⟩ : ∃ r2, r2 = r1.take f1 ++ X ++ r1.drop (f1 + n) := ⟨_, rfl⟩
    have hr2l : r2.length = 64 := by rw [hr2]; simp only [List.length_append, List.length_take, List.length_drop]; omega
    have hb20 : w16.heap[g]? = some (.cells (hashL s1 r2 f1 N).toArray 125 (0, 0)) := blk_eq hb20 (by rw [← hr2])
    refine tN (hK14 _ _ (sk fun K21 hK21 => (wt (oM rfl (oS rfl (Yk.nilCheck T0 (oS rfl (Yk.fieldAt sha6_fo125_2 (vr (PQ g 0) rfl) (oS rfl (Yk.cell1 sha6_ty3 rfl (vr (PQ g 72) rfl) (cellAt hb20 (hashL_fill hs1 hr2l)) (oM rfl (oS rfl (Yk.bin (xv := NI f1) (yv := NI n) rfl T4 rfl (i64_add _ _ _ (by omega)) (oS rfl (Yk.nilCheck T0 (oS rfl (Yk.fieldAt sha6_fo125_2 (vr (PQ g 0) rfl) (oS rfl (Yk.storeC (i := 72) (v := NI ((f1) + (n))) (vr (PQ g 72) rfl) (vr (NI ((f1) + (n))) rfl) hb20 (by rw [hashL_length hs1 hr2l]; omega) sha6_isz3 rfl rfl fun w22 hb23 hg24 hs25 => ?_)))))))))))))))))))
    have hG : Laid w22 := Laid.kept hG hg24 hh
    have hgr : w.grownBy w22 (some g) := grownBy_trans hgr hg24 (fun _ e => .inl e)
    have hc1 := hc1.kept hg24 (.inr hv1)
    clear hb20
    have hb20 := hb23; clear hb23
    have hl26 := bl hb20
    refine oZ ?_
    have hb20 : w22.heap[g]? = some (.cells (hashL s1 r2 (f1 + n) N).toArray 125 (0, 0)) := blk_eq hb20 (hashL_setFill hs1 hr2l)
    refine tN (hK21 _ _ (sk fun K27 hK27 => (wt (oM rfl (oM rfl (oS rfl (Yk.sliceLo (xs := c.drop m) (l := n) sha6_ty24 sha6_sz5 T1 hc1 T4 (hn3) fun v28 hr29 ha30 => ?_)))))))
    have hap31 : OB v28 g := fun e => hv1 (ha30.symm.trans e)
    refine oA rfl (oZ (tN (hK27 _ _ (sk fun K32 hK32 => (wt (oM rfl (oS rfl (Yk.nilCheck T0 (oS rfl (Yk.fieldAt sha6_fo125_2 (vr (PQ g 0) rfl) (oS rfl (Yk.cell1 sha6_ty3 rfl (vr (PQ g 72) rfl) (cellAt hb20 (hashL_fill hs1 hr2l)) (oS rfl (Yk.eqI (a := ((f1 + n) : Nat)) (b := (64 : Nat)) rfl rfl (k_eql _ _ _ _) (oZ (tN (hK32 _ _ ?_)))))))))))))))))
    refine wpF_cond (((f1 + n) : Nat) = (64)) (vr (.bool (decide (((f1 + n) : Nat) = (64)))) rfl) (fun hc2 => ?_) (fun hc2 => ?_)
    · have hr2f : r2 = r1.take f1 ++ X := by rw [hr2, List.drop_of_length_le (by omega), List.append_nil]
      obtain ⟨R, hR⟩ : ∃ R, R = Sha.rounds s1 r2 := ⟨_, rfl⟩
      have HRl : R.length = 8 := by rw [hR, Sha.rounds_length _ _ hs1]
      have hatF : Sha.At ((p ++ c.take m) ++ X) R r2 := by rw [hR, hr2f, hf1]; exact hat1.fill X (by omega)
      have hfF : 0 = ((p ++ c.take m) ++ X).length % 64 := by rw [List.length_append]; omega
      refine sk fun K33 hK33 => ?_
      refine wpF_draw_store 12 (fun (a_ b_ : World) => b_.heap[g]? = some (.cells ((cellsU R).toList ++ (hashL s1 r2 (f1 + n) N).drop (cellsU R).size).toArray 125 (0, 0)) ∧ a_.grownBy b_ (some g) ∧ b_.heap.size = a_.heap.size) [Is (PQ g 0), Is (PQ g 0), Is (PQ g 0), Is (PQ g 0), Is (.agg (cellsU s1)), Is (PQ g 0), Is (PQ g 0), Is (PQ g 8), Is (.slice (some ⟨g, 8, none⟩) 64 64), Is (.agg (cellsU R)), Is (PQ g 0), Is (PQ g 0), (fun _ _ => True)] (by kernel_rfl) [45, 46, 47, 48, 49, 50, 51, 52, 53, 54, 55, 56] (by kernel_rfl) (by kernel_rfl) (by kernel_rfl) rfl (si12 ⟨Stab.any, trivial⟩) (si12 ⟨Stab.any, trivial⟩) ?hs2007 ?hQ2007
      case hs2007 =>
        refine ⟨?_, ?_, ?_, ?_, ?_, ?_, ?_, ?_, ?_, ?_, ?_, ?_, ?_, trivial⟩
        · refine stepN rfl fun σ w1 hC h => ?_
          have e0 := (eqo (h 0 (by decide))).trans T0
          have hC : Ext _ w1 := hC
          exact Yk.move e0 ⟨Ext.refl _, rfl⟩
        · refine stepN rfl fun σ w1 hC h => ?_
          have e0 := (eqo (h 0 (by decide))).trans T0
          have hC : Ext _ w1 := hC
          exact Yk.move e0 ⟨Ext.refl _, rfl⟩
        · refine stepN rfl fun σ w1 hC h => ?_
          have e46 := eqo (h 46 (by decide))
          have hC : Ext _ w1 := hC
          exact Yk.nilCheck e46 ⟨Ext.refl _, rfl⟩
        · refine stepN rfl fun σ w1 hC h => ?_
          have e47 := eqo (h 47 (by decide))
          have hC : Ext _ w1 := hC
          exact Yk.fieldAt sha6_fo125_0 e47 ⟨Ext.refl _, rfl⟩
        · refine stepN rfl fun σ w1 hC h => ?_
          have e48 := eqo (h 48 (by decide))
          have hC : Ext _ w1 := hC
          exact Yk.loadPart (cs := s1.map fun x => U x) e48 (range_state (eb hC hb20)) sha6_ty88 rfl (by rw [List.length_map, hs1]; exact sha6_isz88) ⟨Ext.refl _, rfl⟩
        · refine stepN rfl fun σ w1 hC h => ?_
          have e0 := (eqo (h 0 (by decide))).trans T0
          have hC : Ext _ w1 := hC
          exact Yk.move e0 ⟨Ext.refl _, rfl⟩
        · refine stepN rfl fun σ w1 hC h => ?_
          have e50 := eqo (h 50 (by decide))
          have hC : Ext _ w1 := hC
          exact Yk.nilCheck e50 ⟨Ext.refl _, rfl⟩
        · refine stepN rfl fun σ w1 hC h => ?_
          have e51 := eqo (h 51 (by decide))
          have hC : Ext _ w1 := hC
          exact Yk.fieldAt sha6_fo125_1 e51 ⟨Ext.refl _, rfl⟩
        · refine stepN rfl fun σ w1 hC h => ?_
          have e52 := eqo (h 52 (by decide))
          have hC : Ext _ w1 := hC
          exact Yk.sliceArr sha6_ty123 sha6_sz5 e52 ⟨Ext.refl _, rfl⟩
        · refine stepN rfl fun σ w1 hC h => ?_
          have e49 := eqo (h 49 (by decide))
          have e53 := eqo (h 53 (by decide))
          have hC : Ext _ w1 := hC
          refine Yk.callA2 sha6_pl69 e49 e53 ((rounds_any _ (hG.keep hC) s1 hs1 _ r2 (rb_rest hs1 hr2l (eb hC hb20)) hr2l).mono ?_)
          rintro e w2 ⟨rfl, hx⟩
          exact ⟨_, rfl, hx, by rw [hR]; rfl⟩
        · refine stepN rfl fun σ w1 hC h => ?_
          have e45 := eqo (h 45 (by decide))
          have hC : Ext _ w1 := hC
          exact Yk.nilCheck e45 ⟨Ext.refl _, rfl⟩
        · refine stepN rfl fun σ w1 hC h => ?_
          have e55 := eqo (h 55 (by decide))
          have hC : Ext _ w1 := hC
          exact Yk.fieldAt sha6_fo125_0 e55 ⟨Ext.refl _, rfl⟩
        · refine stepN rfl fun σ w1 hC h => ?_
          have e56 := eqo (h 56 (by decide))
          have e54 := eqo (h 54 (by decide))
          have hC : Ext _ w1 := hC
          exact Yk.storeHd e56 e54 (eb hC hb20) (by rw [cellsU_size, HRl, hashL_length hs1 hr2l]; omega) (by rw [cellsU_size, HRl]; exact sha6_isz88) (cellsU_one _) fun w2 h1 h2 h3 => ⟨⟨h1, h2, h3⟩, trivial⟩
      intro ρ34 w37 w35 hx36 hS38 he hf
      obtain ⟨-, -, -, -, -, -, -, -, -, -, -, -, -⟩ := hf
      obtain ⟨T0, T1, T4, T6, -⟩ := he.hold [(0, _), (1, v28), (4, _), (6, _)] ⟨T0, rfl, T4, T6, trivial⟩ rfl
      clear he
      have hG : Laid w37 := (hG.keep hx36)
      have hgr : w.grownBy w37 (some g) := grownBy_trans hgr hx36.grown (fun _ e => by cases e)
      have hc1 := hc1.keep hx36
      have hb20 := eb hx36 hb20
      have hr29 := hr29.keep hx36
      obtain ⟨hb39, hg40, hs41⟩ := hS38
      have hG : Laid w35 := Laid.kept hG hg40 hh
      have hgr : w.grownBy w35 (some g) := grownBy_trans hgr hg40 (fun _ e => .inl e)
      have hc1 := hc1.kept hg40 (.inr hv1)
      clear hb20
      have hr29 := hr29.kept hg40 (.inr hap31)
      have hb20 := hb39; clear hb39
      have hb20 : w35.heap[g]? = some (.cells (hashL R r2 (f1 + n) N).toArray 125 (0, 0)) := blk_eq hb20 (by rw [cellsU_size, HRl]; exact hashL_state hs1)
      refine tN (hK33 _ _ (wt (oM rfl (oS rfl (Yk.nilCheck T0 (oS rfl (Yk.fieldAt sha6_fo125_2 (vr (PQ g 0) rfl) (oS rfl (Yk.storeC (i := 72) (v := NI 0) (vr (PQ g 72) rfl) (vr (NI 0) rfl) hb20 (by rw [hashL_length HRl hr2l]; omega) sha6_isz3 rfl rfl fun w42 hb43 hg44 hs45 => ?_)))))))))
      have hG : Laid w42 := Laid.kept hG hg44 hh
      have hgr : w.grownBy w42 (some g) := grownBy_trans hgr hg44 (fun _ e => .inl e)
      have hc1 := hc1.kept hg44 (.inr hv1)
      have hr29 := hr29.kept hg44 (.inr hap31)
      clear hb20
      have hb20 := hb43; clear hb43
      have hl46 := bl hb20
      refine oL_ [(0, PQ g 0), (1, v28), (4, NI n), (6, .bool (false))] ⟨T0, T1, T4, T6, trivial⟩ fun ρ47 ⟨T0, T1, T4, T6, _⟩ => ?_
      have hb20 : w42.heap[g]? = some (.cells (hashL R r2 0 N).toArray 125 (0, 0)) := blk_eq hb20 (hashL_setFill HRl hr2l)
      refine bN (tN (And.intro ⟨m + n, R, r2, 0, v28, T0, T6, T1, hG, hgr, (show RB _ _ _ from (by rw [← List.drop_drop]; exact hr29)), blk_eq hb20 (rfl), by omega, by rw [← htk]; exact hatF, by rw [← htk]; exact hfF, hap31, trivial⟩ ?_))
      show sliceLen (ρ47 1) < sliceLen (ρ10 1)
      rw [T1, q1]
      have q3 := hr29.sliceLen
      have q4 := ql1
      rw [q3, q4]
      simp only [List.length_drop]
      omega
    have hatP : Sha.At ((p ++ c.take m) ++ X) s1 r2 := by rw [hr2, ← hxl, hf1]; exact hat1.put X (by omega)
    have hfP : f1 + n = ((p ++ c.take m) ++ X).length % 64 := by rw [List.length_append]; omega
    refine wpF_skip (bN (frame_named [(0, PQ g 0), (1, v28), (4, NI n), (6, .bool (false))] ⟨T0, rfl, T4, T6, trivial⟩ fun ρ48 ⟨T0, T1, T4, T6, _⟩ => (tN (And.intro ⟨m + n, s1, r2, f1 + n, v28, T0, T6, T1, hG, hgr, (show RB _ _ _ from (by rw [← List.drop_drop]; exact hr29)), blk_eq hb20 (rfl), by omega, by rw [← htk]; exact hatP, by rw [← htk]; exact hfP, hap31, trivial⟩ ?_))))
    show sliceLen (ρ48 1) < sliceLen (ρ10 1)
    rw [T1, q1]
    have q3 := hr29.sliceLen
    have q4 := ql1
    rw [q3, q4]
    simp only [List.length_drop]
    omega
  have hcF := hc1'
  refine wpF_exit (thenF_exit (thenF_exit (inBlockF_hit (postF_end (fn := Tryd.f39) [] rfl [] (.tuple #[]) rfl trivial ?_))))
  have hml : m = c.length := by have := hcF; simp at this; omega
  subst hml
  refine ⟨rfl, ⟨s1, r1, by simpa using hat1, ?_⟩, hgr⟩
  have e1 : f1 = (p ++ c).length % 64 := by simpa using hf1
  have e2 : N = (p ++ c).length := by rw [← hN, List.length_append]
  rw [← e1, ← e2]
  exact hb0l
open Go.RowKit
set_option maxRecDepth 100000
theorem hashL_one (s : List UInt32) (r : List UInt8) (f n : Nat) : ∀ v ∈ (hashL s r f n).toArray.toList, v.oneCell' = true := by
 intro v hv
 simp [hashL, Lib.byteCells] at hv
 rcases hv with ⟨_, _, rfl⟩ | ⟨_, _, rfl⟩ | rfl | rfl <;> rfl
namespace Sha
def outs (s : List UInt32) (i : Nat) : List UInt8 := (out s).take (4 * i) ++ List.replicate (32 - 4 * i) 0
theorem out_length : ∀ s : List UInt32, (out s).length = 4 * s.length
 | [] => rfl
 | x :: s => by
  have := out_length s
  unfold out at *
  rw [List.flatMap_cons, List.length_append, this]
  simp
  omega
theorem outs_length (s : List UInt32) (hs : s.length = 8) (i : Nat) (hi : i ≤ 8) : (outs s i).length = 32 := by
 unfold outs
 rw [List.length_append, List.length_take, List.length_replicate, out_length, hs]
 omega
theorem outs_all (s : List UInt32) (hs : s.length = 8) : outs s 8 = out s := by
 unfold outs
 rw [List.take_of_length_le (by rw [out_length, hs]; exact Nat.le_refl _)]
 simp
theorem outs_step (s : List UInt32) (hs : s.length = 8) (i : Nat) (hi : i < 8) :
  ((((outs s i).set (4 * i) (s.getD i 0 >>> 24).toUInt8).set (4 * i + 1) (s.getD i 0 >>> 16).toUInt8).set (4 * i + 2) (s.getD i 0 >>> 8).toUInt8).set (4 * i + 3) (s.getD i 0).toUInt8 = outs s (i + 1) := by
 match s, hs with
 | [a, b, c, d, e, f, g, h], _ =>
  have : i = 0 ∨ i = 1 ∨ i = 2 ∨ i = 3 ∨ i = 4 ∨ i = 5 ∨ i = 6 ∨ i = 7 := by omega
  rcases this with rfl | rfl | rfl | rfl | rfl | rfl | rfl | rfl <;> rfl
theorem sum_length (p : List UInt8) : (sum p).length = 32 := by
 unfold sum
 rw [out_length, blocks_length _ _ _ rfl]
end Sha
theorem sha7_isz125 : (Tryd.prog.info? 125).map (·.size) = some 74 := by kernel_rfl
theorem sha7_isz38 : (Tryd.prog.info? 38).map (·.size) = some 32 := by kernel_rfl
theorem sha7_al38 {d : Option Tmp} {ty : TypeId} {pos : String} {af : Array Edge} {gd : Option (Nat × Bool)} (σ : Operand → Value) (w : World) : (execOp σ ⟨d, .alloc 38, ty, pos, af, gd⟩).run Tryd.prog w = .ok (.value (PQ w.heap.size 0)) (w.alloc (.cells (Lib.byteCells (List.replicate 32 0)).toArray 38)) := by kernel_rfl
theorem sha7_ty76 : Tryd.prog.underlying 76 = some (.pointer 125) := by kernel_rfl
theorem sha7_ty125 : ∃ fs, Tryd.prog.underlying 125 = some (.struct fs) := struct_of (by kernel_rfl)
theorem sha7_al125 {d : Option Tmp} {ty : TypeId} {pos : String} {af : Array Edge} {gd : Option (Nat × Bool)} (σ : Operand → Value) (w : World) : (execOp σ ⟨d, .alloc 125, ty, pos, af, gd⟩).run Tryd.prog w = .ok (.value (PQ w.heap.size 0)) (w.alloc (.cells (hashL (List.replicate 8 0) (List.replicate 64 0) 0 0).toArray 125)) := by kernel_rfl
theorem sha7_l1_24 (z : Int) (w : World) : (Instr.buildSlice 24 1 #[(0, .int .u8 z)]).run Tryd.prog w = .ok (.slice (some ⟨w.heap.size, 0, none⟩) 1 1) (w.alloc (.cells #[.int .u8 z] 5)) := by kernel_rfl
theorem sha7_fo125_3 : FieldOff Tryd.prog 125 3 73 := fun b o w => by simp [go_sem]
theorem sha7_ty3 : Tryd.prog.underlying 3 = some (.int .i64) := by kernel_rfl
theorem sha7_ty24 : Tryd.prog.underlying 24 = some (.slice 5) := by kernel_rfl
theorem sha7_inf5 : (Tryd.prog.info? 5).map (fun i => (i.zero, i.size, i.bytes)) = some (some (.int .u8 0), 1, 1) := by kernel_rfl
theorem sha7_ty95 : Tryd.prog.underlying 95 = some (.int .u64) := by kernel_rfl
theorem sha7_ty5 : Tryd.prog.underlying 5 = some (.int .u8) := by kernel_rfl
theorem sha7_pl39 : Plain Tryd.prog 39 := fun _ _ => by kernel_rfl
theorem sha7_fo125_0 : FieldOff Tryd.prog 125 0 0 := fun b o w => by simp [go_sem]
theorem sha7_ty88 : Tryd.prog.underlying 88 = some (.array 8 87) := by kernel_rfl
theorem sha7_isz88 : (Tryd.prog.info? 88).map (·.size) = some 8 := by kernel_rfl
theorem sha7_ty87 : Tryd.prog.underlying 87 = some (.int .u32) := by kernel_rfl
theorem sha7_sz87 : ∀ w' : World, (sizeOf 87).run Tryd.prog w' = .ok 1 w' := fun _ => by kernel_rfl
theorem sha7_ty38 : Tryd.prog.underlying 38 = some (.array 32 5) := by kernel_rfl
theorem sha7_sz5 : ∀ w' : World, (sizeOf 5).run Tryd.prog w' = .ok 1 w' := fun _ => by kernel_rfl
theorem sha7_isz5 : (Tryd.prog.info? 5).map (·.size) = some 1 := by kernel_rfl
theorem sumAt_any (w : World) (hG : Laid w) (g : Nat) (p : List UInt8) (hH : HashAt w g p) (hp : p.length < 1152921504606846976) :
  Calls Tryd.prog 40 #[PQ g 0] w fun e w' => e = .returned (AB (Sha.sum p)) ∧ Ext w w' := by
 obtain ⟨s, r, hat, hb0⟩ := hH
 have hs := hat.slen
 have hr := hat.len
 obtain ⟨f, hf⟩ : ∃ f, f = p.length % 64 := ⟨_, rfl⟩
 obtain ⟨N, hN⟩ : ∃ N, p.length = N := ⟨_, rfl⟩
 rw [← hf, hN] at hb0
 have hw2 : 1 < w.heap.size := hG.two
 refine calls_of_wpF (args := [PQ g 0]) Tryd.func40 rfl 85 rfl (Nat.le_of_ble_eq_true rfl) ?_
 intro ρ0 hb
 have T0 : ρ0 0 = (PQ g 0 : Value) := hb.get 0
 clear hb
 have hE := Ext.refl w
 refine sk fun K1 hK1 => (wt (oS rfl (Yk.alloc (cs := (Lib.byteCells (List.replicate 32 0)).toArray) sha7_al38 fun n2 w3 hn4 hb5 hx6 hs7 => ?_)))
 have hlt8 := lte (bl hb0) hn4
 have hb0 := eb hx6 hb0
 have hE := hE.trans hx6
 have hb9 := hb5; clear hb5
 have hl10 : n2 < w3.heap.size := by omega
 refine oZ (tN (hK1 _ _ (sk fun K11 hK11 => (sk fun K12 hK12 => (wt (oM rfl (oS rfl (Yk.eqlNil sha7_ty76 T0 (oZ (tN (hK12 _ _ (wpF_false (vr (.bool (false)) rfl) (wpF_skip (tN (hK11 _ _ (sk fun K13 hK13 => (wt (oM rfl (oS rfl (Yk.nilCheck T0 ?_))))))))))))))))))))
 refine oS rfl (Yk.loadAll (vr (PQ g 0) rfl) hb0 (sha7_ty125).choose_spec rfl (by rw [List.size_toArray, hashL_length hs hr]; exact sha7_isz125) (oS rfl (Yk.alloc (cs := (hashL (List.replicate 8 0) (List.replicate 64 0) 0 0).toArray) sha7_al125 fun n14 w15 hn16 hb17 hx18 hs19 => ?_)))
 have hA20 := Ext.refl w3
 have hea21 := hE
 have hz22 := hE.size
 have hlt23 := lte (bl hb0) hn16
 have hlt24 := lte (bl hb9) hn16
 have hb0 := eb hx18 hb0
 have hE := hE.trans hx18
 have hb9 := eb hx18 hb9
 have hA20 := hA20.trans hx18
 have hb25 := hb17; clear hb17
 have hl26 : n14 < w15.heap.size := by omega
 refine oS rfl (Yk.storeAll (vr (PQ n14 0) rfl) (vr (.agg (hashL s r f N).toArray) rfl) hb25 (by rw [List.size_toArray, List.size_toArray, hashL_length hs hr]; rfl) (by rw [List.size_toArray, hashL_length hs hr]; exact sha7_isz125) (hashL_one s r f N) fun w27 hb28 hg29 hs30 => ?_)
 have hb0 := kb hg29 hb0 (by omega)
 have hE := row_fresh hE hg29 (Nat.le_trans hz22 (by omega))
 have hb9 := kb hg29 hb9 (by omega)
 have hA20 := row_fresh hA20 hg29 (Nat.le_trans (Nat.le_refl _) (by omega))
 clear hb25
 have hb25 := hb28; clear hb28
 have hl31 := bl hb25
 refine oZ (tN (hK13 _ _ (sk fun K32 hK32 => (wt (oS rfl (Yk.lit1 (b := 128) sha7_l1_24 (vr (B8 (128)) rfl) fun v33 w34 hN35 => ?_))))))
 have hA36 := Ext.refl w27
 have hea37 := hE
 have hea38 := hA20
 have hz39 := hE.size
 have hz40 := hA20.size
 have hap41 : OB v33 g := own_older hN35.own (bl hb0)
 have hap42 : OB v33 n2 := own_older hN35.own (bl hb9)
 have hap43 : OB v33 n14 := own_older hN35.own (bl hb25)
 have hb0 := eb hN35.ext hb0
 have hE := hE.trans hN35.ext
 have hb9 := eb hN35.ext hb9
 have hA20 := hA20.trans hN35.ext
 have hb25 := eb hN35.ext hb25
 have hA36 := hA36.trans hN35.ext
 have ho44 := hN35.own; clear hN35
 refine oA rfl (oL_ [(0, PQ g 0), (2, PQ n2 0), (3, PQ n14 0), (4, v33), (11, .bool (false))] ⟨T0, rfl, rfl, rfl, rfl, trivial⟩ fun ρ45 ⟨T0, T2, T3, T4, T11, _⟩ => (tN (hK32 _ _ (sk fun K46 hK46 => (wpF_block (wpF_loop (fun (ρ : Slots) (wz : World) => ∃ k : Nat, ∃ v4 : Value, ρ 0 = (PQ g 0 : Value) ∧ ρ 2 = (PQ n2 0 : Value) ∧ ρ 3 = (PQ n14 0 : Value) ∧ ρ 11 = (.bool (false) : Value) ∧ ρ 4 = (v4 : Value) ∧ wz.heap[g]? = some (.cells (hashL s r f N).toArray 125 (0, 0)) ∧ Ext w wz ∧ wz.heap[n2]? = some (.cells (Lib.byteCells (List.replicate 32 0)).toArray 38 (0, 0)) ∧ Ext w3 wz ∧ wz.heap[n14]? = some (.cells (hashL s r f N).toArray 125 (0, 0)) ∧ Ext w27 wz ∧ wz.ownsRow w27.heap.size 5 1 v4 (128 :: List.replicate k 0 : List UInt8).length (Lib.byteCells (128 :: List.replicate k 0)) ∧ (k ≤ (119 - N % 64) % 64) ∧ (OB v4 g) ∧ (OB v4 n2) ∧ (OB v4 n14) ∧ True) (fun ρ _ => 65 - sliceLen (ρ 4)) ⟨0, v33, T0, T2, T3, T11, T4, hb0, hE, hb9, hA20, hb25, hA36, own_eq ho44 (rfl), Nat.zero_le _, hap41, hap42, hap43, trivial⟩ ?_))))))
 clear ho44
 clear hb0 hE hb9 hA20 hb25 hA36
 rintro ρ47 w48 ⟨k, v4, T0, T2, T3, T11, T4, hb0, hE, hb9, hA20, hb25, hA36, ho_v4, hk, hap_v4_g, hap_v4_n2, hap_v4_n14, -⟩
 have q4 := T4
 have ql4 := own_sliceLen ho_v4
 refine sk fun K49 hK49 => (sk fun K50 hK50 => (wt (oM rfl (oS rfl (Yk.nilCheck T0 (oS rfl (Yk.fieldAt sha7_fo125_3 (vr (PQ g 0) rfl) (oS rfl (Yk.cell1 sha7_ty3 rfl (vr (PQ g 73) rfl) (cellAt hb0 (hashL_size hs hr)) (oM rfl (oS rfl (Yk.lenRB sha7_ty24 (RB.of (RB.ofOwn ho_v4) T4) (oS rfl (Yk.bin (xv := NI N) (yv := NI ((128 :: List.replicate k 0 : List UInt8).length)) rfl rfl rfl (i64_add _ _ _ (by simp; omega)) (oS rfl (Yk.bin (xv := NI ((N) + ((128 :: List.replicate k 0 : List UInt8).length))) (yv := NI 64) rfl rfl rfl (i64_rem _ _ _ (by omega)) (oS rfl (Yk.eqI (a := (((N) + ((128 :: List.replicate k 0 : List UInt8).length)) % (64) : Nat)) (b := (56 : Nat)) rfl rfl (k_neq _ _ _ _) (oZ (tN (hK50 _ _ ?_)))))))))))))))))))))
 refine wpF_cond ((((N) + ((128 :: List.replicate k 0 : List UInt8).length)) % (64) : Nat) ≠ (56)) (vr (.bool (decide ((((N) + ((128 :: List.replicate k 0 : List UInt8).length)) % (64) : Nat) ≠ (56)))) rfl) (fun hc1 => ?_) (fun hc1 => ?_)
 ·refine wpF_skip (tN (hK49 _ _ (wpF_block (wt (oM rfl (oS rfl (Yk.lit1 (b := 0) sha7_l1_24 (vr (B8 (0)) rfl) fun v51 w52 hN53 => ?_)))))))
  have hA54 := Ext.refl w48
  have hea55 := hE
  have hea56 := hA20
  have hea57 := hA36
  have hz58 := hE.size
  have hz59 := hA20.size
  have hz60 := hA36.size
  have hap61 : OB v51 g := own_older hN53.own (bl hb0)
  have hap62 : OB v51 n2 := own_older hN53.own (bl hb9)
  have hap63 : OB v51 n14 := own_older hN53.own (bl hb25)
  have hap64 : ApartV v4 v51 := apartv_new ho_v4 hN53.own
  have hap65 : ApartV v51 v4 := apartv_new' ho_v4 hN53.own
  have hb0 := eb hN53.ext hb0
  have hE := hE.trans hN53.ext
  have hb9 := eb hN53.ext hb9
  have hA20 := hA20.trans hN53.ext
  have hb25 := eb hN53.ext hb25
  have hA36 := hA36.trans hN53.ext
  have ho_v4 := Stab.own _ _ _ _ _ _ _ _ ho_v4 hN53.ext
  have hA54 := hA54.trans hN53.ext
  have ho66 := hN53.own; clear hN53
  refine oS rfl (Yk.appendRB _ _ w27.heap.size (.int .u8 0) sha7_ty24 sha7_inf5 rfl sha7_ty24 (128 :: List.replicate k 0) ([(0 : UInt8)]) (own_of ho_v4 T4) (RB.of (RB.ofOwn ho66) (vr v51 rfl)) (by simp; omega) hA36.size fun v67 w68 ho69 hg70 => ?_)
  have hg70 : Grew w52 w68 v4 v67 := .eqv T4 hg70
  have hap71 : OB v67 g := apart_grew hg70 hap_v4_g (bl hb0)
  have hap72 : OB v67 n2 := apart_grew hg70 hap_v4_n2 (bl hb9)
  have hap73 : OB v67 n14 := apart_grew hg70 hap_v4_n14 (bl hb25)
  have hap74 : ApartV v67 v51 := apartv_grew hg70 hap64 ho66
  have hap75 : ApartV v51 v67 := fun k h1 h2 => hap74 k h2 h1
  have hb0 := blk_grew hb0 hg70 hap_v4_g
  have hE := ext_grew hE hg70 ho_v4 hz39
  have hb9 := blk_grew hb9 hg70 hap_v4_n2
  have hA20 := ext_grew hA20 hg70 ho_v4 hz40
  have hb25 := blk_grew hb25 hg70 hap_v4_n14
  have hA36 := ext_grew hA36 hg70 ho_v4 (Nat.le_refl _)
  clear ho_v4
  clear hA54
  have ho66 := own_grew ho66 hg70 hap64
  refine oA rfl (oL_ [(0, PQ g 0), (2, PQ n2 0), (3, PQ n14 0), (4, v67), (11, .bool (false))] ⟨T0, T2, T3, rfl, T11, trivial⟩ fun ρ76 ⟨T0, T2, T3, T4, T11, _⟩ => (bN (tN (And.intro ⟨k + 1, v67, T0, T2, T3, T11, T4, hb0, hE, hb9, hA20, hb25, hA36, own_eq ho69 (by simp [List.replicate_succ']), by simp at hc1; omega, hap71, hap72, hap73, trivial⟩ ?_))))
  show 65 - sliceLen (ρ76 4) < 65 - sliceLen (ρ47 4)
  rw [T4, q4]
  have qn := own_sliceLen ho69
  rw [qn, ql4]
  simp
  omega
 refine wpF_exit (thenF_exit (thenF_exit (inBlockF_hit (tN (hK46 _ _ (sk fun K77 hK77 => (wt (oM rfl (oS rfl (Yk.nilCheck T0 (oS rfl (Yk.fieldAt sha7_fo125_3 (vr (PQ g 0) rfl) (oS rfl (Yk.cell1 sha7_ty3 rfl (vr (PQ g 73) rfl) (cellAt hb0 (hashL_size hs hr)) (oS rfl (Yk.convI sha7_ty3 sha7_ty95 (vr (NI N) rfl) (wrap_u64 (N) (by omega)) (oS rfl (Yk.bin (xv := .int .u64 ((N : Nat) : Int)) (yv := .int .u64 ((8 : Nat) : Int)) rfl rfl rfl (u64_mul _ _ _ (by omega)) (oA rfl (oZ ?_))))))))))))))))))))
 obtain ⟨Z, hZ⟩ : ∃ Z, Z = (128 : UInt8) :: List.replicate k 0 := ⟨_, rfl⟩
 have ho_v4 : w48.ownsRow w27.heap.size 5 1 v4 (Z : List UInt8).length (Lib.byteCells (Z)) := (hZ.symm : 128 :: List.replicate k 0 = Z) ▸ ho_v4
 have hZl : Z.length = 1 + k := by rw [hZ]; simp; omega
 refine tN (hK77 _ _ (sk fun K78 hK78 => (sk fun K79 hK79 => (wt (oM rfl (oL_ [(0, PQ g 0), (2, PQ n2 0), (3, PQ n14 0), (4, v4), (5, .int .u64 (((N) * (8) : Nat) : Int)), (11, .bool (false)), (36, NI 0)] ⟨T0, T2, T3, T4, rfl, T11, rfl, trivial⟩ fun ρ80 ⟨T0, T2, T3, T4, T5, T11, T36, _⟩ => (tN (hK79 _ _ (wpF_block (wpF_loop (fun (ρ : Slots) (wz : World) => ∃ i : Nat, ∃ v5 : Value, ρ 0 = (PQ g 0 : Value) ∧ ρ 2 = (PQ n2 0 : Value) ∧ ρ 3 = (PQ n14 0 : Value) ∧ ρ 5 = (.int .u64 (((N) * (8) : Nat) : Int) : Value) ∧ ρ 11 = (.bool (false) : Value) ∧ ρ 36 = (NI i : Value) ∧ ρ 4 = (v5 : Value) ∧ wz.heap[g]? = some (.cells (hashL s r f N).toArray 125 (0, 0)) ∧ Ext w wz ∧ wz.heap[n2]? = some (.cells (Lib.byteCells (List.replicate 32 0)).toArray 38 (0, 0)) ∧ Ext w3 wz ∧ wz.heap[n14]? = some (.cells (hashL s r f N).toArray 125 (0, 0)) ∧ Ext w27 wz ∧ wz.ownsRow w27.heap.size 5 1 v5 (Z ++ (Sha.be64 (8 * N)).take i : List UInt8).length (Lib.byteCells (Z ++ (Sha.be64 (8 * N)).take i)) ∧ (i ≤ 8) ∧ (OB v5 g) ∧ (OB v5 n2) ∧ (OB v5 n14) ∧ True) (fun ρ _ => 8 - (intOf (ρ 36)).toNat) ⟨0, v4, T0, T2, T3, T5, T11, T36, T4, hb0, hE, hb9, hA20, hb25, hA36, own_eq ho_v4 (by simp), by omega, hap_v4_g, hap_v4_n2, hap_v4_n14, trivial⟩ ?_))))))))))
 clear ho_v4
 clear hb0 hE hb9 hA20 hb25 hA36
 rintro ρ81 w82 ⟨i, v5, T0, T2, T3, T5, T11, T36, T4, hb0, hE, hb9, hA20, hb25, hA36, ho5, hi, hap_v5_g, hap_v5_n2, hap_v5_n14, -⟩
 have q36 := T36
 have ql4 := own_sliceLen ho5
 refine sk fun K83 hK83 => (wt (oS rfl (Yk.eqI (a := (i : Nat)) (b := (8 : Nat)) T36 rfl (k_lss _ _ _ _) (oZ (tN (hK83 _ _ (sk fun K84 hK84 => ?_)))))))
 refine wpF_cond ((i) < (8)) (vr (.bool (decide ((i) < (8)))) rfl) (fun hc2 => ?_) (fun hc2 => ?_)
 ·refine wpF_skip (tN (hK84 _ _ (sk fun K85 hK85 => (wpF_block (sk fun K86 hK86 => (wt (oM rfl (oA rfl (oZ (tN (hK86 _ _ (wt (oM rfl (oM rfl (oM rfl (oS rfl (Yk.bin (xv := NI 8) (yv := NI i) rfl T36 rfl (i64_mul _ _ _ (by omega)) (oS rfl (Yk.bin (xv := NI 56) (yv := NI ((8) * (i))) rfl rfl rfl (i64_sub _ _ _ (by omega) (by omega)) ?_)))))))))))))))))))
  refine oS rfl (Yk.bin (xv := .int .u64 (((N) * (8) : Nat) : Int)) (yv := NI ((56) - ((8) * (i)))) T5 rfl rfl (u64_shr _ _ _ _ (by omega)) (oS rfl (Yk.convI sha7_ty95 sha7_ty5 (vr (.int .u64 ((((N) * (8)) / 2 ^ ((56) - ((8) * (i))) : Nat) : Int)) rfl) (toByte (((N) * (8)) / 2 ^ ((56) - ((8) * (i))))) (oS rfl (Yk.lit1 (b := UInt8.ofNat (((N) * (8)) / 2 ^ ((56) - ((8) * (i))))) sha7_l1_24 (vr (B8 (UInt8.ofNat (((N) * (8)) / 2 ^ ((56) - ((8) * (i)))))) rfl) fun v87 w88 hN89 => ?_)))))
  have hA90 := Ext.refl w82
  have hea91 := hE
  have hea92 := hA20
  have hea93 := hA36
  have hz94 := hE.size
  have hz95 := hA20.size
  have hz96 := hA36.size
  have hap97 : OB v87 g := own_older hN89.own (bl hb0)
  have hap98 : OB v87 n2 := own_older hN89.own (bl hb9)
  have hap99 : OB v87 n14 := own_older hN89.own (bl hb25)
  have hap100 : ApartV v5 v87 := apartv_new ho5 hN89.own
  have hap101 : ApartV v87 v5 := apartv_new' ho5 hN89.own
  have hb0 := eb hN89.ext hb0
  have hE := hE.trans hN89.ext
  have hb9 := eb hN89.ext hb9
  have hA20 := hA20.trans hN89.ext
  have hb25 := eb hN89.ext hb25
  have hA36 := hA36.trans hN89.ext
  have ho5 := Stab.own _ _ _ _ _ _ _ _ ho5 hN89.ext
  have hA90 := hA90.trans hN89.ext
  have ho102 := hN89.own; clear hN89
  refine oS rfl (Yk.appendRB _ _ w27.heap.size (.int .u8 0) sha7_ty24 sha7_inf5 rfl sha7_ty24 (Z ++ (Sha.be64 (8 * N)).take i) ([(UInt8.ofNat (((N) * (8)) / 2 ^ ((56) - ((8) * (i)))) : UInt8)]) (own_of ho5 T4) (RB.of (RB.ofOwn ho102) (vr v87 rfl)) (by simp [Sha.be64]; omega) hA36.size fun v103 w104 ho105 hg106 => ?_)
  have hg106 : Grew w88 w104 v5 v103 := .eqv T4 hg106
  have hap107 : OB v103 g := apart_grew hg106 hap_v5_g (bl hb0)
  have hap108 : OB v103 n2 := apart_grew hg106 hap_v5_n2 (bl hb9)
  have hap109 : OB v103 n14 := apart_grew hg106 hap_v5_n14 (bl hb25)
  have hap110 : ApartV v103 v87 := apartv_grew hg106 hap100 ho102
  have hap111 : ApartV v87 v103 := fun k h1 h2 => hap110 k h2 h1
  have hb0 := blk_grew hb0 hg106 hap_v5_g
  have hE := ext_grew hE hg106 ho5 hz39
  have hb9 := blk_grew hb9 hg106 hap_v5_n2
  have hA20 := ext_grew hA20 hg106 ho5 hz40
  have hb25 := blk_grew hb25 hg106 hap_v5_n14
  have hA36 := ext_grew hA36 hg106 ho5 (Nat.le_refl _)
  clear ho5
  clear hA90
  have ho102 := own_grew ho102 hg106 hap100
  refine oA rfl (oZ (bN (tN (hK85 _ _ (wt (oS rfl (Yk.bin (xv := NI i) (yv := NI 1) T36 rfl rfl (i64_add _ _ _ (by omega)) (oM rfl (oL_ [(0, PQ g 0), (2, PQ n2 0), (3, PQ n14 0), (4, v103), (5, .int .u64 (((N) * (8) : Nat) : Int)), (6, NI i), (11, .bool (false)), (36, NI ((i) + (1)))] ⟨T0, T2, T3, rfl, T5, T36, T11, rfl, trivial⟩ fun ρ112 ⟨T0, T2, T3, T4, T5, T6, T11, T36, _⟩ => (tN (And.intro ⟨i + 1, v103, T0, T2, T3, T5, T11, T36, T4, hb0, hE, hb9, hA20, hb25, hA36, own_eq ho105 (by rw [Sha.be64_take _ _ hc2, List.append_assoc, Nat.mul_comm N 8]), by omega, hap107, hap108, hap109, trivial⟩ ?_)))))))))))
  show 8 - (intOf (ρ112 36)).toNat < 8 - (intOf (ρ81 36)).toNat
  rw [T36, q36]
  simp only [intOf, Int.toNat_natCast]; omega
 obtain ⟨Q, hQ⟩ : ∃ Q, Q = Z ++ (Sha.be64 (8 * N)).take i := ⟨_, rfl⟩
 have ho5 : w82.ownsRow w27.heap.size 5 1 v5 (Q : List UInt8).length (Lib.byteCells (Q)) := (hQ.symm : Z ++ (Sha.be64 (8 * N)).take i = Q) ▸ ho5
 have hQt : Q = Sha.tail p.length := by simp at hc1; rw [hQ, hZ, show i = 8 by omega, show k = (119 - p.length % 64) % 64 by omega, List.take_of_length_le (by simp [Sha.be64]), ← hN]; simp [Sha.tail]
 have hQl : Q.length ≤ 100 := by rw [hQ]; simp [Sha.be64]; omega
 refine wpF_exit (thenF_exit (thenF_exit (inBlockF_hit (tN (hK78 _ _ (sk fun K113 hK113 => (wt (oM rfl (oS rfl (Yk.callA2 sha7_pl39 T3 T4 ((write_any _ (hG.keep hE) n14 (by omega) p ⟨s, r, hat, by rw [← hf, hN]; exact hb25⟩ v5 Q (RB.ofOwn ho5) hap_v5_n14 (by omega)).mono ?_)))))))))))
 rintro e w115 ⟨rfl, ⟨s2, r2, hat2, hb3⟩, hg114⟩
 refine ⟨_, rfl, ?_⟩
 have hb0 := kb hg114 hb0 (by omega)
 have hE := row_fresh hE hg114 (Nat.le_trans hz22 (by omega))
 have hb9 := kb hg114 hb9 (by omega)
 have hA20 := row_fresh hA20 hg114 (Nat.le_trans (Nat.le_refl _) (by omega))
 clear hb25
 clear hA36
 have ho5 := own_kept ho5 hg114 hap_v5_n14
 have hs2 := hat2.slen
 have hr2 := hat2.len
 refine oZ (tN (hK113 _ _ (sk fun K116 hK116 => (wt (oS rfl (Yk.alloc (cs := (Lib.byteCells (List.replicate 32 0)).toArray) sha7_al38 fun n117 w118 hn119 hb120 hx121 hs122 => ?_))))))
 have hA123 := Ext.refl w115
 have hea124 := hE
 have hea125 := hA20
 have hz126 := hE.size
 have hz127 := hA20.size
 have hlt128 := lte (bl hb0) hn119
 have hlt129 := lte (bl hb9) hn119
 have hlt130 := lte (bl hb3) hn119
 have hap131 : OB v5 n117 := own_newer ho5 (by omega)
 have hb0 := eb hx121 hb0
 have hE := hE.trans hx121
 have hb9 := eb hx121 hb9
 have hA20 := hA20.trans hx121
 have ho5 := Stab.own _ _ _ _ _ _ _ _ ho5 hx121
 have hb3 := eb hx121 hb3
 have hA123 := hA123.trans hx121
 have hb132 := hb120; clear hb120
 have hl133 : n117 < w118.heap.size := by omega
 refine oZ (tN (hK116 _ _ (sk fun K134 hK134 => (sk fun K135 hK135 => (wt (oS rfl (Yk.fieldAt sha7_fo125_0 T3 (oS rfl (Yk.loadPart (cs := s2.map fun x => U x) (vr (PQ n14 0) rfl) (range_state hb3) sha7_ty88 rfl (by rw [List.length_map, hs2]; exact sha7_isz88) (oM rfl (oL_ [(0, PQ g 0), (2, PQ n2 0), (3, PQ n14 0), (4, v5), (5, .int .u64 (((N) * (8) : Nat) : Int)), (7, PQ n117 0), (11, .bool (false)), (36, NI i), (52, .agg (s2.map fun x => U x).toArray), (53, NI 0)] ⟨T0, T2, T3, T4, T5, rfl, T11, T36, rfl, rfl, trivial⟩ fun ρ136 ⟨T0, T2, T3, T4, T5, T7, T11, T36, T52, T53, _⟩ => (tN (hK135 _ _ (wpF_block (wpF_loop (fun (ρ : Slots) (wz : World) => ∃ j : Nat, ρ 0 = (PQ g 0 : Value) ∧ ρ 2 = (PQ n2 0 : Value) ∧ ρ 3 = (PQ n14 0 : Value) ∧ ρ 4 = (v5 : Value) ∧ ρ 5 = (.int .u64 (((N) * (8) : Nat) : Int) : Value) ∧ ρ 7 = (PQ n117 0 : Value) ∧ ρ 11 = (.bool (false) : Value) ∧ ρ 36 = (NI i : Value) ∧ ρ 52 = (.agg (s2.map fun x => U x).toArray : Value) ∧ ρ 53 = (NI j : Value) ∧ wz.heap[g]? = some (.cells (hashL s r f N).toArray 125 (0, 0)) ∧ Ext w wz ∧ wz.heap[n2]? = some (.cells (Lib.byteCells (List.replicate 32 0)).toArray 38 (0, 0)) ∧ Ext w3 wz ∧ wz.ownsRow w27.heap.size 5 1 v5 (Q : List UInt8).length (Lib.byteCells (Q)) ∧ wz.heap[n14]? = some (.cells (hashL s2 r2 ((p ++ Q).length % 64) (p ++ Q).length).toArray 125 (0, 0)) ∧ Ext w115 wz ∧ wz.heap[n117]? = some (.cells (Lib.byteCells (Sha.outs s2 j)).toArray 38 (0, 0)) ∧ (j ≤ 8) ∧ True) (fun ρ _ => 8 - (intOf (ρ 53)).toNat) ⟨0, T0, T2, T3, T4, T5, T7, T11, T36, T52, T53, hb0, hE, hb9, hA20, ho5, hb3, hA123, blk_eq hb132 (rfl), by omega, trivial⟩ ?_)))))))))))))))
 clear hb132
 clear hb0 hE hb9 hA20 ho5 hb3 hA123
 rintro ρ137 w138 ⟨j, T0, T2, T3, T4, T5, T7, T11, T36, T52, T53, hb0, hE, hb9, hA20, ho5, hb3, hA123, hb132l, hj, -⟩
 have q53 := T53
 refine sk fun K139 hK139 => (wt (oS rfl (Yk.eqI (a := (j : Nat)) (b := (8 : Nat)) T53 rfl (k_lss _ _ _ _) (oZ (tN (hK139 _ _ (sk fun K140 hK140 => ?_)))))))
 refine wpF_cond ((j) < (8)) (vr (.bool (decide ((j) < (8)))) rfl) (fun hc3 => ?_) (fun hc3 => ?_)
 ·refine wpF_skip (tN (hK140 _ _ (sk fun K141 hK141 => (wpF_block (sk fun K142 hK142 => (wt (oM rfl (oS rfl (Yk.idxU (l := s2) (i := j) sha7_ty88 sha7_ty87 rfl sha7_sz87 T52 T53 (by omega) (hs2) (oA rfl (oA rfl (oZ (tN (hK142 _ _ (wt (oM rfl (oS rfl (Yk.bin (xv := NI 4) (yv := NI j) rfl T53 rfl (i64_mul _ _ _ (by omega)) (oM rfl ?_)))))))))))))))))))
  refine oS rfl (Yk.bin (xv := NI 4) (yv := NI j) rfl T53 rfl (i64_mul _ _ _ (by omega)) (oS rfl (Yk.bin (xv := NI ((4) * (j))) (yv := NI 1) rfl rfl rfl (i64_add _ _ _ (by omega)) (oM rfl (oS rfl (Yk.bin (xv := NI 4) (yv := NI j) rfl T53 rfl (i64_mul _ _ _ (by omega)) (oS rfl (Yk.bin (xv := NI ((4) * (j))) (yv := NI 2) rfl rfl rfl (i64_add _ _ _ (by omega)) (oM rfl (oS rfl (Yk.bin (xv := NI 4) (yv := NI j) rfl T53 rfl (i64_mul _ _ _ (by omega)) (oS rfl (Yk.bin (xv := NI ((4) * (j))) (yv := NI 3) rfl rfl rfl (i64_add _ _ _ (by omega)) (oM rfl (oS rfl (Yk.bin (vr (U (s2.getD (j) 0)) rfl) (vr (.int .u64 ((24 : Nat) : Int)) rfl) rfl (u_shr _ _ _ 24 (by decide)) (oS rfl (Yk.narrow sha7_ty87 sha7_ty5 (vr (U ((s2.getD (j) 0) >>> 24)) rfl) (oM rfl (oS rfl (Yk.bin (vr (U (s2.getD (j) 0)) rfl) (vr (.int .u64 ((16 : Nat) : Int)) rfl) rfl (u_shr _ _ _ 16 (by decide)) (oS rfl (Yk.narrow sha7_ty87 sha7_ty5 (vr (U ((s2.getD (j) 0) >>> 16)) rfl) (oM rfl (oS rfl (Yk.bin (vr (U (s2.getD (j) 0)) rfl) (vr (.int .u64 ((8 : Nat) : Int)) rfl) rfl (u_shr _ _ _ 8 (by decide)) ?_))))))))))))))))))))))))))
  refine oS rfl (Yk.narrow sha7_ty87 sha7_ty5 (vr (U ((s2.getD (j) 0) >>> 8)) rfl) (oM rfl (oS rfl (Yk.narrow sha7_ty87 sha7_ty5 (vr (U (s2.getD (j) 0)) rfl) (oS rfl (Yk.atArr0 (i := (4) * (j)) sha7_ty38 sha7_sz5 T7 (vr (NI ((4) * (j))) rfl) (by omega) (oS rfl (Yk.storeB8 (i := (4) * (j)) (v := ((s2.getD (j) 0) >>> 24).toUInt8) (vr (.pointer (some ⟨n117, (4) * (j), none⟩)) rfl) (vr (B8 (((s2.getD (j) 0) >>> 24).toUInt8)) rfl) hb132l (by rw [Sha.outs_length _ hs2 _ (by omega)]; omega) sha7_isz5 fun w143 hb144 hg145 hs146 => ?_))))))))
  have hb0 := kb hg145 hb0 (by omega)
  have hE := row_fresh hE hg145 (Nat.le_trans hz126 (by omega))
  have hb9 := kb hg145 hb9 (by omega)
  have hA20 := row_fresh hA20 hg145 (Nat.le_trans hz127 (by omega))
  have ho5 := own_kept ho5 hg145 hap131
  have hb3 := kb hg145 hb3 (by omega)
  have hA123 := row_fresh hA123 hg145 (Nat.le_trans (Nat.le_refl _) (by omega))
  clear hb132l
  have hb132l := hb144; clear hb144
  have hl147 := bl hb132l
  refine oS rfl (Yk.atArr0 (i := ((4) * (j)) + (1)) sha7_ty38 sha7_sz5 T7 (vr (NI (((4) * (j)) + (1))) rfl) (by omega) (oS rfl (Yk.storeB8 (i := ((4) * (j)) + (1)) (v := ((s2.getD (j) 0) >>> 16).toUInt8) (vr (.pointer (some ⟨n117, ((4) * (j)) + (1), none⟩)) rfl) (vr (B8 (((s2.getD (j) 0) >>> 16).toUInt8)) rfl) hb132l (by rw [List.length_set, Sha.outs_length _ hs2 _ (by omega)]; omega) sha7_isz5 fun w148 hb149 hg150 hs151 => ?_)))
  have hb0 := kb hg150 hb0 (by omega)
  have hE := row_fresh hE hg150 (Nat.le_trans hz126 (by omega))
  have hb9 := kb hg150 hb9 (by omega)
  have hA20 := row_fresh hA20 hg150 (Nat.le_trans hz127 (by omega))
  have ho5 := own_kept ho5 hg150 hap131
  have hb3 := kb hg150 hb3 (by omega)
  have hA123 := row_fresh hA123 hg150 (Nat.le_trans (Nat.le_refl _) (by omega))
  clear hb132l
  have hb132l := hb149; clear hb149
  have hl152 := bl hb132l
  refine oS rfl (Yk.atArr0 (i := ((4) * (j)) + (2)) sha7_ty38 sha7_sz5 T7 (vr (NI (((4) * (j)) + (2))) rfl) (by omega) (oS rfl (Yk.storeB8 (i := ((4) * (j)) + (2)) (v := ((s2.getD (j) 0) >>> 8).toUInt8) (vr (.pointer (some ⟨n117, ((4) * (j)) + (2), none⟩)) rfl) (vr (B8 (((s2.getD (j) 0) >>> 8).toUInt8)) rfl) hb132l (by rw [List.length_set, List.length_set, Sha.outs_length _ hs2 _ (by omega)]; omega) sha7_isz5 fun w153 hb154 hg155 hs156 => ?_)))
  have hb0 := kb hg155 hb0 (by omega)
  have hE := row_fresh hE hg155 (Nat.le_trans hz126 (by omega))
  have hb9 := kb hg155 hb9 (by omega)
  have hA20 := row_fresh hA20 hg155 (Nat.le_trans hz127 (by omega))
  have ho5 := own_kept ho5 hg155 hap131
  have hb3 := kb hg155 hb3 (by omega)
  have hA123 := row_fresh hA123 hg155 (Nat.le_trans (Nat.le_refl _) (by omega))
  clear hb132l
  have hb132l := hb154; clear hb154
  have hl157 := bl hb132l
  refine oS rfl (Yk.atArr0 (i := ((4) * (j)) + (3)) sha7_ty38 sha7_sz5 T7 (vr (NI (((4) * (j)) + (3))) rfl) (by omega) (oS rfl (Yk.storeB8 (i := ((4) * (j)) + (3)) (v := (s2.getD (j) 0).toUInt8) (vr (.pointer (some ⟨n117, ((4) * (j)) + (3), none⟩)) rfl) (vr (B8 ((s2.getD (j) 0).toUInt8)) rfl) hb132l (by rw [List.length_set, List.length_set, List.length_set, Sha.outs_length _ hs2 _ (by omega)]; omega) sha7_isz5 fun w158 hb159 hg160 hs161 => ?_)))
  have hb0 := kb hg160 hb0 (by omega)
  have hE := row_fresh hE hg160 (Nat.le_trans hz126 (by omega))
  have hb9 := kb hg160 hb9 (by omega)
  have hA20 := row_fresh hA20 hg160 (Nat.le_trans hz127 (by omega))
  have ho5 := own_kept ho5 hg160 hap131
  have hb3 := kb hg160 hb3 (by omega)
  have hA123 := row_fresh hA123 hg160 (Nat.le_trans (Nat.le_refl _) (by omega))
  clear hb132l
  have hb132l := hb159; clear hb159
  have hl162 := bl hb132l
  refine oZ (bN (tN (hK141 _ _ (wt (oS rfl (Yk.bin (xv := NI j) (yv := NI 1) T53 rfl rfl (i64_add _ _ _ (by omega)) (oM rfl (oL_ [(0, PQ g 0), (2, PQ n2 0), (3, PQ n14 0), (4, v5), (5, .int .u64 (((N) * (8) : Nat) : Int)), (7, PQ n117 0), (8, NI j), (9, U (s2.getD (j) 0)), (11, .bool (false)), (36, NI i), (52, .agg (s2.map fun x => U x).toArray), (53, NI ((j) + (1)))] ⟨T0, T2, T3, T4, T5, T7, T53, rfl, T11, T36, T52, rfl, trivial⟩ fun ρ163 ⟨T0, T2, T3, T4, T5, T7, T8, T9, T11, T36, T52, T53, _⟩ => (tN (And.intro ⟨j + 1, T0, T2, T3, T4, T5, T7, T11, T36, T52, T53, hb0, hE, hb9, hA20, ho5, hb3, hA123, blk_eq hb132l (congrArg Lib.byteCells (Sha.outs_step s2 hs2 j hc3)), by omega, trivial⟩ ?_))))))))))
  show 8 - (intOf (ρ163 53)).toNat < 8 - (intOf (ρ137 53)).toNat
  rw [T53, q53]
  simp only [intOf, Int.toNat_natCast]; omega
 refine wpF_exit (thenF_exit (thenF_exit (inBlockF_hit (tN (hK134 _ _ (sk fun K164 hK164 => (wt (oS rfl (Yk.loadAll T7 hb132l sha7_ty38 rfl (by rw [List.size_toArray, Lib.byteCells_length, Sha.outs_length _ hs2 _ (by omega)]; exact sha7_isz38) (oS rfl (Yk.storeAll T2 (vr (AB (Sha.outs s2 j)) rfl) hb9 (by rw [List.size_toArray, Lib.byteCells_length, Sha.outs_length _ hs2 _ (by omega)]; rfl) (by rw [List.size_toArray, Lib.byteCells_length, Sha.outs_length _ hs2 _ (by omega)]; exact sha7_isz38) (byteCells_one _) fun w165 hb166 hg167 hs168 => ?_)))))))))))
 have hb0 := kb hg167 hb0 (by omega)
 have hE := row_fresh hE hg167 (Nat.le_trans (Nat.le_refl _) (by omega))
 clear hb9
 clear hA20
 have ho5 := own_kept ho5 hg167 hap_v5_n2
 have hb3 := kb hg167 hb3 (by omega)
 clear hA123
 have hb132l := kb hg167 hb132l (by omega)
 have hb9 := hb166; clear hb166
 have hl169 := bl hb9
 refine oZ (tN (hK164 _ _ (wpF_ret (postF_ret (fn := Tryd.f40) _ rfl [AB (Sha.outs s2 j)] (AB (Sha.outs s2 j)) rfl ⟨ResF.row T2 hb9 sha7_ty38 rfl (by rw [List.size_toArray, Lib.byteCells_length, Sha.outs_length _ hs2 _ (by omega)]; exact sha7_isz38), trivial⟩ ?_))))
 refine ⟨?_, hE⟩
 have e : Sha.outs s2 j = Sha.sum p := by rw [show j = 8 by omega, Sha.outs_all s2 hs2, hat2.state, hQt]; rfl
 rw [e]

open Go.RowKit
set_option maxRecDepth 100000
theorem HashAt.other {w w' : World} {g b : Nat} {p : List UInt8} (h : HashAt w g p) (hg : w.grownBy w' (some b)) (hne : g ≠ b) : HashAt w' g p := by
 obtain ⟨s, r, h1, h2⟩ := h
 exact ⟨s, r, h1, (hg.block g (bl h2) (by simpa using hne)).trans h2⟩
theorem flatten_take (ls : List (List UInt8)) (i : Nat) (hi : i < ls.length) : (ls.take (i + 1)).flatten = (ls.take i).flatten ++ ls.getD i [] := by
 rw [List.take_succ_eq_append_getElem hi, List.flatten_append]
 simp [hi]
theorem flatten_take_le (ls : List (List UInt8)) (i : Nat) (hi : i < ls.length) : (ls.take i).flatten.length + (ls.getD i []).length ≤ ls.flatten.length := by
 have h1 := flatten_take ls i hi
 have h2 : ls.flatten = (ls.take (i + 1)).flatten ++ (ls.drop (i + 1)).flatten := by rw [← List.flatten_append, List.take_append_drop]
 rw [h2, h1]
 simp only [List.length_append]
 omega
theorem sha8_ty76 : Tryd.prog.underlying 76 = some (.pointer 125) := by kernel_rfl
theorem sha8_fo125_3 : FieldOff Tryd.prog 125 3 73 := fun b o w => by simp [go_sem]
theorem sha8_ty3 : Tryd.prog.underlying 3 = some (.int .i64) := by kernel_rfl
theorem sha8_ty24 : Tryd.prog.underlying 24 = some (.slice 5) := by kernel_rfl
theorem sha8_isz3 : (Tryd.prog.info? 3).map (·.size) = some 1 := by kernel_rfl
theorem sha8_isz38 : (Tryd.prog.info? 38).map (·.size) = some 32 := by kernel_rfl
theorem sha8_al38 {d : Option Tmp} {ty : TypeId} {pos : String} {af : Array Edge} {gd : Option (Nat × Bool)} (σ : Operand → Value) (w : World) : (execOp σ ⟨d, .alloc 38, ty, pos, af, gd⟩).run Tryd.prog w = .ok (.value (PQ w.heap.size 0)) (w.alloc (.cells (Lib.byteCells (List.replicate 32 0)).toArray 38)) := by kernel_rfl
theorem sha8_pl38 : Plain Tryd.prog 38 := fun _ _ => by kernel_rfl
theorem sha8_ty75 : Tryd.prog.underlying 75 = some (.slice 24) := by kernel_rfl
theorem sha8_sz24 : ∀ w' : World, (sizeOf 24).run Tryd.prog w' = .ok 1 w' := fun _ => by kernel_rfl
theorem sha8_pl39 : Plain Tryd.prog 39 := fun _ _ => by kernel_rfl
theorem sha8_pl40 : Plain Tryd.prog 40 := fun _ _ => by kernel_rfl
theorem sha8_ty38 : Tryd.prog.underlying 38 = some (.array 32 5) := by kernel_rfl
theorem writeEmpty_any (w : World) (g : Nat) (p : List UInt8) (hH : HashAt w g p) (v : Value) (hc : RB w v []) (hb : p.length < 4611686018427387904) :
  Calls Tryd.prog 39 #[PQ g 0, v] w fun e w' => e = .returned (.tuple #[]) ∧ HashAt w' g p ∧ w.grownBy w' (some g) := by
 obtain ⟨s, r, hat, hb0⟩ := hH
 have hs := hat.slen
 have hr := hat.len
 obtain ⟨f, hf⟩ : ∃ f, f = p.length % 64 := ⟨_, rfl⟩
 rw [← hf] at hb0
 have hgr : w.grownBy w (some g) := World.grownBy.refl _ _
 refine calls_of_wpF (args := [PQ g 0, v]) Tryd.func39 rfl 60 rfl (Nat.le_of_ble_eq_true rfl) ?_
 intro ρ0 hb
 have T0 : ρ0 0 = (PQ g 0 : Value) := hb.get 0
 have T1 : ρ0 1 = (v : Value) := hb.get 1
 clear hb
 refine sk fun K1 hK1 => (sk fun K2 hK2 => (wt (oM rfl (oS rfl (Yk.eqlNil sha8_ty76 T0 (oZ (tN (hK2 _ _ (wpF_false (vr (.bool (false)) rfl) (wpF_skip (tN (hK1 _ _ (sk fun K3 hK3 => (wt (oM rfl (oS rfl (Yk.nilCheck T0 (oS rfl (Yk.fieldAt sha8_fo125_3 (vr (PQ g 0) rfl) (oS rfl (Yk.cell1 sha8_ty3 rfl (vr (PQ g 73) rfl) (cellAt hb0 (hashL_size hs hr)) ?_)))))))))))))))))))))
 refine oM rfl (oS rfl (Yk.lenRB sha8_ty24 (RB.of hc T1) (oS rfl (Yk.bin (xv := NI p.length) (yv := NI ((([] : List UInt8) : List UInt8).length)) rfl rfl rfl (i64_add _ _ _ (by simp; omega)) (oS rfl (Yk.nilCheck T0 (oS rfl (Yk.fieldAt sha8_fo125_3 (vr (PQ g 0) rfl) (oS rfl (Yk.storeC (i := 73) (v := NI ((p.length) + ((([] : List UInt8) : List UInt8).length))) (vr (PQ g 73) rfl) (vr (NI ((p.length) + ((([] : List UInt8) : List UInt8).length))) rfl) hb0 (by rw [hashL_length hs hr]; omega) sha8_isz3 rfl rfl fun w4 hb5 hg6 hs7 => ?_))))))))))
 clear hb0
 have hc : RB w4 v ([] : List UInt8) := RB.nilAny hc
 have hgr : w.grownBy w4 (some g) := grownBy_trans hgr hg6 (fun _ e => .inl e)
 have hb0 := hb5; clear hb5
 have hl8 := bl hb0
 refine oL_ [(0, PQ g 0), (1, v), (6, .bool (false))] ⟨T0, T1, rfl, trivial⟩ fun ρ9 ⟨T0, T1, T6, _⟩ => ?_
 have hb0 : w4.heap[g]? = some (.cells (hashL s r f p.length).toArray 125 (0, 0)) := blk_eq hb0 (hashL_setSize hs hr)
 refine tN (hK3 _ _ (wpF_block (wpF_loop (fun (ρ : Slots) (wz : World) => ρ 0 = (PQ g 0 : Value) ∧ ρ 6 = (.bool (false) : Value) ∧ ρ 1 = (v : Value) ∧ RB wz v ([] : List UInt8) ∧ w.grownBy wz (some g) ∧ wz.heap[g]? = some (.cells (hashL s r f p.length).toArray 125 (0, 0)) ∧ True) (fun ρ _ => 0) ⟨T0, T6, T1, hc, hgr, hb0, trivial⟩ ?_)))
 clear hc hgr hb0
 rintro ρ10 w11 ⟨T0, T6, T1, hc, hgr, hb0, -⟩
 refine sk fun K12 hK12 => (sk fun K13 hK13 => (wt (oM rfl (oS rfl (Yk.lenRB sha8_ty24 (RB.of hc T1) (oS rfl (Yk.eqI (a := ((([] : List UInt8) : List UInt8).length : Nat)) (b := (0 : Nat)) rfl rfl (k_gtr _ _ _ _) (oL_ [(0, PQ g 0), (1, v), (6, .bool (false)), (18, .bool (decide ((0) < ((([] : List UInt8) : List UInt8).length))))] ⟨T0, T1, T6, rfl, trivial⟩ fun ρ14 ⟨T0, T1, T6, T18, _⟩ => (tN (hK13 _ _ (wpF_false (show _ = Value.bool false from (T18).trans (congrArg Value.bool (decide_eq_false (by simp)))) (wpF_exit (thenF_exit (thenF_exit (inBlockF_hit (postF_end (fn := Tryd.f39) [] rfl [] (.tuple #[]) rfl trivial ?_))))))))))))))))
 exact ⟨rfl, ⟨s, r, hat, by rw [← hf]; exact hb0⟩, hgr⟩

theorem write_all (w : World) (hG : Laid w) (g : Nat) (hh : 1 < g) (p : List UInt8) (hH : HashAt w g p) (v : Value) (c : List UInt8) (hc : RB w v c) (hv : 0 < c.length → v.ownBlock ≠ some g) (hb : p.length + c.length < 4611686018427387904) :
  Calls Tryd.prog 39 #[PQ g 0, v] w fun e w' => e = .returned (.tuple #[]) ∧ HashAt w' g (p ++ c) ∧ w.grownBy w' (some g) := by
 by_cases h0 : 0 < c.length
 ·exact write_any w hG g hh p hH v c hc (hv h0) hb
 ·have : c = [] := List.eq_nil_of_length_eq_zero (by omega)
  subst this
  rw [List.append_nil]
  exact writeEmpty_any w g p hH v hc (by simpa using hb)

theorem sum_any (w : World) (hG : Laid w) (v : Value) (ls : List (List UInt8)) (hls : RBs w v ls) (hb : ls.flatten.length < 1152921504606846976) (hlen : ls.length < 1152921504606846976) :
    Calls Tryd.prog 17 #[v] w fun e w' => e = .returned (AB (Sha.sum ls.flatten)) ∧ Ext w w' := by
 have hw2 : 1 < w.heap.size := hG.two
 refine calls_of_wpF (args := [v]) Tryd.func17 rfl 19 rfl (Nat.le_of_ble_eq_true rfl) ?_
 intro ρ0 hb
 have T0 : ρ0 0 = (v : Value) := hb.get 0
 clear hb
 have hE := Ext.refl w
 refine sk fun K1 hK1 => (wt (oS rfl (Yk.alloc (cs := (Lib.byteCells (List.replicate 32 0)).toArray) sha8_al38 fun n2 w3 hn4 hb5 hx6 hs7 => ?_)))
 have hE := hE.trans hx6
 have hb8 := hb5; clear hb5
 have hl9 : n2 < w3.heap.size := by omega
 refine oZ (tN (hK1 _ _ (sk fun K10 hK10 => (wt (oS rfl (Yk.callA0 sha8_pl38  ((new_any _ (hG.keep hE)).mono ?_)))))))
 rintro e w14 ⟨gH, rfl, hn13, hH12, hx11⟩
 refine ⟨_, rfl, ?_⟩
 have hA15 := Ext.refl w3
 have hea16 := hE
 have hz17 := hE.size
 have hlt18 : n2 < gH := by have := (bl hb8); omega
 have hE := hE.trans hx11
 have hb8 := eb hx11 hb8
 have hA15 := hA15.trans hx11
 refine oA rfl (oZ (tN (hK10 _ _ (sk fun K19 hK19 => (sk fun K20 hK20 => (wt (oM rfl (oS rfl (Yk.lenRBs sha8_ty75 (RBs.of (hls.keep hE) T0) (oM rfl (oL_ [(0, v), (2, PQ n2 0), (3, PQ gH 0), (7, v), (8, NI ls.length), (9, NI 0)] ⟨T0, rfl, rfl, T0, rfl, rfl, trivial⟩ fun ρ21 ⟨T0, T2, T3, T7, T8, T9, _⟩ => (tN (hK20 _ _ (wpF_block (wpF_loop (fun (ρ : Slots) (wz : World) => ∃ i : Nat, ρ 0 = (v : Value) ∧ ρ 2 = (PQ n2 0 : Value) ∧ ρ 3 = (PQ gH 0 : Value) ∧ ρ 7 = (v : Value) ∧ ρ 8 = (NI ls.length : Value) ∧ ρ 9 = (NI i : Value) ∧ Ext w wz ∧ wz.heap[n2]? = some (.cells (Lib.byteCells (List.replicate 32 0)).toArray 38 (0, 0)) ∧ Ext w3 wz ∧ HashAt wz gH ((ls.take i).flatten) ∧ (i ≤ ls.length) ∧ True) (fun ρ _ => ls.length - (intOf (ρ 9)).toNat) ⟨0, T0, T2, T3, T7, T8, T9, hE, hb8, hA15, by simpa using hH12, Nat.zero_le _, trivial⟩ ?_)))))))))))))))
 clear hH12
 clear hE hb8 hA15
 rintro ρ22 w23 ⟨i, T0, T2, T3, T7, T8, T9, hE, hb8, hA15, hHi, hi, -⟩
 have q9 := T9
 refine sk fun K24 hK24 => (wt (oS rfl (Yk.eqI (a := (i : Nat)) (b := (ls.length : Nat)) T9 T8 (k_lss _ _ _ _) (oZ (tN (hK24 _ _ (sk fun K25 hK25 => ?_)))))))
 refine wpF_cond ((i) < (ls.length)) (vr (.bool (decide ((i) < (ls.length)))) rfl) (fun hi3 => ?_) (fun hi3 => ?_)
 ·refine wpF_skip (tN (hK25 _ _ (sk fun K26 hK26 => (wpF_block (sk fun K27 hK27 => (wt (oS rfl (Yk.atRBs0 (ls := ls) (i := i) hE sha8_ty75 sha8_sz24 hls T7 T9 (hi3) fun v28 u29 hp30 hr31 => (oS rfl (Yk.loadC sha8_ty24 rfl (PCell.of hp30 (vr v28 rfl)) (oA rfl (oZ ?_))))))))))))
  clear hp30
  refine tN (hK27 _ _ (wt (oM rfl (oM rfl (oS rfl (Yk.callA2 sha8_pl39 T3 (vr u29 rfl) ((write_all _ (hG.keep hE) gH (by omega) ((ls.take i).flatten) hHi u29 (ls.getD (i) []) (hr31.keep hE) (fun h0 hb => by have := RB.lt hr31 h0 hb; omega) (by have := flatten_take_le ls i hi3; omega)).mono ?_)))))))
  rintro e w34 ⟨rfl, hH32, hg33⟩
  refine ⟨_, rfl, ?_⟩
  have hE := row_fresh hE hg33 (Nat.le_trans hz17 hn13)
  have hb8 := kb hg33 hb8 (by omega)
  have hA15 := row_fresh hA15 hg33 (Nat.le_trans (Nat.le_refl _) hn13)
  clear hHi
  refine oZ (bN (tN (hK26 _ _ (wt (oS rfl (Yk.bin (xv := NI i) (yv := NI 1) T9 rfl rfl (i64_add _ _ _ (by have := hlen; omega)) (oM rfl (oL_ [(0, v), (2, PQ n2 0), (3, PQ gH 0), (5, u29), (7, v), (8, NI ls.length), (9, NI ((i) + (1)))] ⟨T0, T2, T3, rfl, T7, T8, rfl, trivial⟩ fun ρ35 ⟨T0, T2, T3, T5, T7, T8, T9, _⟩ => (tN (And.intro ⟨i + 1, T0, T2, T3, T7, T8, T9, hE, hb8, hA15, (show HashAt _ _ _ from by rw [flatten_take ls i hi3]; exact hH32), by omega, trivial⟩ ?_))))))))))
  show ls.length - (intOf (ρ35 9)).toNat < ls.length - (intOf (ρ22 9)).toNat
  rw [T9, q9]
  simp only [intOf, Int.toNat_natCast]; omega
 have hfl : (ls.take i).flatten = ls.flatten := by rw [List.take_of_length_le (by omega)]
 have hfl2 := congrArg List.length hfl
 refine wpF_exit (thenF_exit (thenF_exit (inBlockF_hit (tN (hK19 _ _ (sk fun K36 hK36 => (wt (oM rfl (oS rfl (Yk.callA1 sha8_pl40 T3 ((sumAt_any _ (hG.keep hE) gH ((ls.take i).flatten) hHi (by omega)).mono ?_)))))))))))
 rintro e w38 ⟨rfl, hx37⟩
 refine ⟨_, rfl, ?_⟩
 have hE := hE.trans hx37
 have hb8 := eb hx37 hb8
 have hA15 := hA15.trans hx37
 have hHi := hHi.keep hx37
 refine oS rfl (Yk.storeAll T2 (vr (AB (Sha.sum ((ls.take i).flatten))) rfl) hb8 (by rw [List.size_toArray, Lib.byteCells_length, Sha.sum_length]; rfl) (by rw [List.size_toArray, Lib.byteCells_length, Sha.sum_length]; exact sha8_isz38) (byteCells_one _) fun w39 hb40 hg41 hs42 => ?_)
 have hE := row_fresh hE hg41 (Nat.le_trans (Nat.le_refl _) (by omega))
 clear hb8
 clear hA15
 have hHi := HashAt.other hHi hg41 (by omega)
 have hb8 := hb40; clear hb40
 have hl43 := bl hb8
 refine oZ (tN (hK36 _ _ (wpF_ret (postF_ret (fn := Tryd.f17) _ rfl [AB (Sha.sum ((ls.take i).flatten))] (AB (Sha.sum ((ls.take i).flatten))) rfl ⟨ResF.row T2 hb8 sha8_ty38 rfl (by rw [List.size_toArray, Lib.byteCells_length, Sha.sum_length]; exact sha8_isz38), trivial⟩ ?_))))
 rw [hfl]
 exact ⟨rfl, hE⟩
open Go.RowKit
set_option maxRecDepth 100000
namespace Sha
end Sha
open Go.RowKit
structure Pt where
  v : Value
  bytes : Bs
  base : Int
def dPt : Pt := ⟨.slice none 0 0, [], 0⟩
def partC (p : Pt) : List Value := [p.v, .int .i64 p.base]
def PartsOk (w : World) (ps : List Pt) : Prop := ∀ p ∈ ps, RB w p.v p.bytes ∧ -9223372036854775808 ≤ p.base ∧ p.base ≤ 9223372036854775807
theorem PartsOk.keep {w w' : World} {ps : List Pt} (h : PartsOk w ps) (k : Ext w w') : PartsOk w' ps := fun p hp => ⟨(h p hp).1.keep k, (h p hp).2⟩
theorem getD_mem {α : Type} {l : List α} {i : Nat} (d : α) (h : i < l.length) : l.getD i d ∈ l := by
  rw [List.getD_eq_getElem?_getD, List.getElem?_eq_getElem h]
  exact List.getElem_mem h
theorem partC_one {p : Pt} (h : p.v.cells = #[p.v] ∧ p.v.oneCell' = true) : ∀ u ∈ partC p, u.oneCell' = true := by
  intro u hu
  simp only [partC, List.mem_cons, List.not_mem_nil, or_false] at hu
  rcases hu with rfl | rfl
  · exact h.2
  · rfl
structure BS where
  b : Bs
  ids : List Bs
  places : List Nat
  depths : List Nat
  total : Nat
def textB (s : Bs) : Bs := Lib.uvarint s.length ++ s
def depthB (p : Pt) (s : BS) : Nat := if p.base < 0 then 0 else s.depths.getD p.base.toNat 0 + 1
def bnext (ps : List Pt) (p : Pt) (s : BS) : BS :=
  { b := if p.base < 0 then s.b ++ [0] ++ textB p.bytes else s.b ++ [1] ++ s.ids.getD p.base.toNat [] ++ textB (makeP (ps.getD p.base.toNat dPt).bytes p.bytes)
    ids := s.ids ++ [Sha.sum p.bytes], places := s.places ++ [s.b.length], depths := s.depths ++ [depthB p s], total := s.total + p.bytes.length }
def pstep (ps : List Pt) (i : Nat) (s : BS) : Except Nat BS :=
  if (ps.getD i dPt).base < -1 ∨ (i : Int) ≤ (ps.getD i dPt).base then .error 1
  else if Sha.sum (ps.getD i dPt).bytes ∈ s.ids then .error 11
  else if 50 < depthB (ps.getD i dPt) s then .error 17
  else .ok (bnext ps (ps.getD i dPt) s)
def bgo (ps : List Pt) : Nat → Except Nat BS
  | 0 => .ok ⟨80 :: Lib.uvarint ps.length, [], [], [], 0⟩
  | i + 1 => match bgo ps i with
    | .error e => .error e
    | .ok s => pstep ps i s
theorem bgo_err {ps : List Pt} {e : Nat} : ∀ {i : Nat} (_ : bgo ps i = .error e) (k : Nat), bgo ps (i + k) = .error e
  | _, h, 0 => h
  | i, h, k + 1 => by
    show (match bgo ps (i + k) with | .error e => _ | .ok s => _) = _
    rw [bgo_err h k]
theorem bgo_step {ps : List Pt} {i : Nat} {s : BS} (h : bgo ps i = .ok s) : bgo ps (i + 1) = pstep ps i s := by
  show (match bgo ps i with | .error e => _ | .ok s => _) = _
  rw [h]
def placesG (s : BS) (id : Bs) : Option Nat := (s.ids.zip s.places).lookup id
def LightP (ps : List Pt) : Prop := ps.length ≤ 60 ∧ ∀ p ∈ ps, p.bytes.length ≤ 200
structure BOk (i : Nat) (s : BS) : Prop where
  ids : s.ids.length = i
  places : s.places.length = i
  depths : s.depths.length = i
  len : ∀ id ∈ s.ids, id.length = 32
  b : s.b.length ≤ 10 + 500 * i
  pl : ∀ p ∈ s.places, p ≤ 10 + 500 * i
  dp : ∀ d ∈ s.depths, d ≤ 50
  total : s.total ≤ 200 * i
theorem uv3 {n : Nat} (h : n < 16384) : (Lib.uvarint n).length ≤ 2 := by
  by_cases h1 : n < 128
  · rw [Lib.uvarint_small h1]; simp
  · rw [Lib.uvarint_big (by omega), Lib.uvarint_small (by omega)]; simp
theorem lookup_zip_none {α β : Type} [BEq α] [LawfulBEq α] : ∀ (l : List α) (m : List β) (x : α), x ∉ l → (l.zip m).lookup x = none
  | [], _, _, _ => by simp
  | _ :: _, [], _, _ => by simp
  | a :: l, b :: m, x, h => by
    simp only [List.mem_cons, not_or] at h
    rw [List.zip_cons_cons, List.lookup_cons, lookup_zip_none l m x h.2]
    have : (x == a) = false := by simpa using h.1
    rw [this]
theorem lookup_zip_some {α β : Type} [BEq α] [LawfulBEq α] : ∀ (l : List α) (m : List β) (x : α), l.length = m.length → x ∈ l → ∃ y, (l.zip m).lookup x = some y ∧ y ∈ m
  | [], _, _, _, h => by simp at h
  | _ :: _, [], _, h, _ => by simp at h
  | a :: l, b :: m, x, hl, h => by
    rw [List.zip_cons_cons, List.lookup_cons]
    by_cases e : x = a
    · subst e
      exact ⟨b, by simp, by simp⟩
    · have : (x == a) = false := by simpa using e
      rw [this]
      obtain ⟨y, h1, h2⟩ := lookup_zip_some l m x (by simpa using hl) ((List.mem_cons.1 h).resolve_left e)
      exact ⟨y, h1, by simp [h2]⟩
theorem lookup_zip_snoc {α β : Type} [BEq α] [LawfulBEq α] [DecidableEq α] : ∀ (l : List α) (m : List β) (a : α) (b : β), l.length = m.length → a ∉ l → (fun x => ((l ++ [a]).zip (m ++ [b])).lookup x) = updM (fun x => (l.zip m).lookup x) a (some b)
  | [], [], a, b, _, _ => by
    funext x
    unfold updM
    simp only [List.nil_append, List.zip_cons_cons, List.zip_nil_left, List.lookup_cons, List.lookup_nil]
    by_cases e : x = a
    · simp [e]
    · have : (x == a) = false := by simpa using e
      simp [e, this]
  | [], _ :: _, _, _, h, _ => by simp at h
  | _ :: _, [], _, _, h, _ => by simp at h
  | c :: l, d :: m, a, b, hl, h => by
    simp only [List.mem_cons, not_or] at h
    have ih := lookup_zip_snoc l m a b (by simpa using hl) h.2
    funext x
    have ihx := congrFun ih x
    unfold updM at ihx ⊢
    simp only [List.cons_append, List.zip_cons_cons, List.lookup_cons, ihx]
    by_cases e : x = a
    · subst e
      have : (x == c) = false := by simpa using h.1
      simp [this]
    · simp [e]
theorem placesG_next {ps : List Pt} {p : Pt} {i : Nat} {s : BS} (h : BOk i s) (hn : Sha.sum p.bytes ∉ s.ids) : placesG (bnext ps p s) = updM (placesG s) (Sha.sum p.bytes) (some s.b.length) := by
  have := lookup_zip_snoc s.ids s.places (Sha.sum p.bytes) s.b.length (by rw [h.ids, h.places]) hn
  exact this
theorem BOk.next {ps : List Pt} {i : Nat} {s : BS} (hL : LightP ps) (h : BOk i s) (hi : i < ps.length) {s' : BS} (hs : pstep ps i s = Except.ok s') : BOk (i + 1) s' := by
  unfold pstep at hs
  split at hs
  · cases hs
  · split at hs
    · cases hs
    · split at hs
      · cases hs
      · rename_i h1 h2 h3
        cases hs
        have hp := hL.2 _ (getD_mem dPt hi)
        refine ⟨by simp [bnext, h.ids], by simp [bnext, h.places], by simp [bnext, h.depths], ?_, ?_, ?_, ?_, ?_⟩
        · intro id hid
          simp only [bnext, List.mem_append, List.mem_singleton] at hid
          rcases hid with hid | rfl
          · exact h.len id hid
          · exact Sha.sum_length _
        · have hb := h.b
          have hu := uv3 (n := (ps.getD i dPt).bytes.length) (by omega)
          simp only [bnext]
          split
          · simp only [List.length_append, List.length_cons, List.length_nil, textB]
            omega
          · rename_i hbase
            have hb1 : (ps.getD i dPt).base.toNat < s.ids.length := by rw [h.ids]; omega
            have h32 := h.len _ (getD_mem [] hb1)
            have hq := hL.2 _ (getD_mem dPt (l := ps) (i := (ps.getD i dPt).base.toNat) (by rw [h.ids] at hb1; omega))
            have hm := makeP_len (ps.getD (ps.getD i dPt).base.toNat dPt).bytes (ps.getD i dPt).bytes (by omega) (by omega)
            have hu2 := uv3 (n := (makeP (ps.getD (ps.getD i dPt).base.toNat dPt).bytes (ps.getD i dPt).bytes).length) (by omega)
            simp only [List.length_append, List.length_cons, List.length_nil, textB, h32]
            omega
        · intro q hq
          have hb := h.b
          simp only [bnext, List.mem_append, List.mem_singleton] at hq
          rcases hq with hq | rfl
          · have := h.pl q hq; omega
          · omega
        · intro q hq
          simp only [bnext, List.mem_append, List.mem_singleton] at hq
          rcases hq with hq | rfl
          · exact h.dp q hq
          · omega
        · have ht := h.total
          simp only [bnext]
          omega
theorem bgo_ok {ps : List Pt} (hL : LightP ps) : ∀ (i : Nat) (s : BS), i ≤ ps.length → bgo ps i = .ok s → BOk i s
  | 0, s, _, h => by
    cases h
    have := uv3 (n := ps.length) (by have := hL.1; omega)
    exact ⟨rfl, rfl, rfl, by simp, by simp only [List.length_cons]; omega, by simp, by simp, by simp⟩
  | i + 1, s, hi, h => by
    have h' : (match bgo ps i with | .error e => .error e | .ok s => pstep ps i s) = Except.ok s := h
    cases hb : bgo ps i with
    | error e => rw [hb] at h'; cases h'
    | ok s0 =>
      rw [hb] at h'
      exact (bgo_ok hL i s0 (by omega) hb).next hL (by omega) h'
def behindB (s : BS) (at_ : Nat) : Bs := (fanL s.ids).flatMap fourP ++ (sortB s.ids).flatMap (fun id => id ++ fourP ((placesG s id).getD 0)) ++ fourP at_
def buildP (ps : List Pt) : Bs × Nat :=
  match bgo ps ps.length with
  | .error e => ([], e)
  | .ok s => (s.b ++ behindB s s.b.length ++ Sha.sum (s.b ++ behindB s s.b.length), 0)
theorem flat4 (l : List Nat) : (l.flatMap fourP).length = 4 * l.length := by
  induction l with
  | nil => rfl
  | cons a r ih => rw [List.flatMap_cons, List.length_append, ih, fourP_len, List.length_cons]; omega
theorem flat36 (f : Bs → Nat) (l : List Bs) (h : ∀ x ∈ l, x.length = 32) : (l.flatMap fun id => id ++ fourP (f id)).length = 36 * l.length := by
  induction l with
  | nil => rfl
  | cons a r ih =>
    rw [List.flatMap_cons, List.length_append, List.length_append, fourP_len, h a (by simp), ih (fun x hx => h x (by simp [hx])), List.length_cons]
    omega
theorem behindB_len {i : Nat} {s : BS} (h : BOk i s) (a : Nat) : (behindB s a).length = 1028 + 36 * i := by
  unfold behindB
  rw [List.length_append, List.length_append, flat4, fanL_len, flat36 (fun id => (placesG s id).getD 0) _ (fun x hx => h.len x ((sortB_perm _).subset hx)), sortB_len, h.ids, fourP_len]
  omega
end Go.Proofs.YtcegdjpdnlaleaaDoor
