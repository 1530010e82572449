/- Part 3 of what stands behind these statements: laws and walks of the functions that are reached. Conditions: those that each theorem names. -/
import Derived.Test.YtcegdjpdnlaleaaDoorN2
set_option linter.unusedVariables false
set_option linter.unusedSimpArgs false
namespace Go.Proofs.YtcegdjpdnlaleaaDoor
open Go.RowKit
open Go.WideMaps (KeyLaw)
structure IX (w0 w : World) (b base : Nat) (I : TypeId) (G : List UInt8 → List Nat) : Prop where
  ext : Ext w0 w
  lo : w0.heap.size ≤ b
  hb : base ≤ w.heap.size
  idx : IdxAt w b base I G
structure IXO (w0 w : World) (b base : Nat) (I : TypeId) (G : List UInt8 → List Nat) (r : List UInt8) (v : Value) (zs : List Nat) (st : Nat) : Prop where
  ext : Ext w0 w
  lo : w0.heap.size ≤ b
  hb : base ≤ w.heap.size
  opn : IdxOpen w b base I G r v zs st
section
variable {P : Program} {K : Value → World → Prop} {ρ : Slots} {w w' : World} {d : Option Tmp} {ty : TypeId} {pos : String} {af : Array Edge} {gd : Option (Nat × Bool)}
variable {w0 : World} {b base : Nat} {I : TypeId} {G : List UInt8 → List Nat} {r : List UInt8} {v : Value} {zs : List Nat} {st : Nat}
theorem IX.keep (h : IX w0 w b base I G) (k : Ext w w') : IX w0 w' b base I G := ⟨h.ext.trans k, h.lo, Nat.le_trans h.hb k.size, h.idx.keep k⟩
theorem Yk.makeMap {t : TypeId} (hk : ∀ b w', w.heap.size = b → IX w w' b (b + 1) I (fun _ => []) → K (.map (some b)) w') : Yk P K ((execOp (evalR ρ) ⟨d, .makeMap t none, ty, pos, af, gd⟩).run P w) := by
  refine Yk.value (v := .map (some w.heap.size)) (w' := w.alloc (.map #[] 0)) ?_ (hk _ _ rfl ⟨(Below.refl _ _).alloc (Nat.le_refl _) _, Nat.le_refl _, by simp, IdxAt.made w⟩)
  unfold execOp
  simp only [Option.map_none, Sem.run_bind, run_makeMap, Result.andThen_ok, Sem.run_pure]
theorem Yk.entry {t Kt E : TypeId} (L : KeyLaw P Kt) (hkr : ∀ r : List UInt8, r.length = 8 → ∃ l, keyOf P Kt (rk r) = some l) (ht : P.underlying t = some (.map Kt E)) (hz : ∀ u : World, (zeroValue E).run P u = .ok (.slice none 0 0) u) {x y : Operand}
    (hm : evalR ρ x = .map (some b)) (hy : evalR ρ y = rk r) (h : IX w0 w b base I G) (hr : r.length = 8) (hk : ∀ v st w1, IXO w0 w1 b base I G r v (G r) st → w.grownBy w1 (some b) → K (.tuple #[v, NI st]) w1) :
    Yk P K ((execOp (evalR ρ) ⟨d, .mapEntry t x y, ty, pos, af, gd⟩).run P w) := by
  obtain ⟨v, st, w1, hrun, hg, hs, ho⟩ := h.idx.entry L hkr ht hz hr
  refine Yk.value (v := .tuple #[v, NI st]) (w' := w1) ?_ (hk v st w1 ⟨Below.grown h.ext hg h.ext.size (fun k hk => by cases hk; exact h.lo), h.lo, by rw [hs]; exact h.hb, ho⟩ hg)
  unfold execOp
  simp only [hm, hy, Sem.run_bind, hrun, Result.andThen_ok, Sem.run_pure]
  rfl
theorem Yk.entryStore {t : TypeId} {x s y : Operand} (hm : evalR ρ x = .map (some b)) (hs : evalR ρ s = NI st) (hy : evalR ρ y = v) (h : IXO w0 w b base I G r v zs st) (hne : zs ≠ []) (hk : ∀ w1, IX w0 w1 b base I (updG G r zs) → K undef w1) :
    Yk P K ((execOp (evalR ρ) ⟨d, .entryStore t x s y, ty, pos, af, gd⟩).run P w) := by
  obtain ⟨w1, hrun, hg, hsz, ho⟩ := h.opn.store (P := P) (t := t) hne
  have hrun' : (Instr.entryStore t (.map (some b)) (NI st) v).run P w = .ok () w1 := hrun
  have hK := hk w1 ⟨Below.grown h.ext hg h.ext.size (fun k hk => by cases hk; exact h.lo), h.lo, by rw [hsz]; exact h.hb, ho⟩
  unfold execOp
  simp only [hm, hs, hy, Sem.run_bind, hrun', Result.andThen_ok, Sem.run_pure]
  exact hK
theorem IXO.own (h : IXO w0 w b base I G r v zs st) : w.ownsRow base I 1 v zs.length (zs.map NI) := h.opn.2.2.1
theorem IXO.grew {v' : Value} {zs' : List Nat} (h : IXO w0 w b base I G r v zs st) (gr : Grew w w' v v') (ho : w'.ownsRow base I 1 v' zs'.length (zs'.map NI)) : IXO w0 w' b base I G r v' zs' st :=
  ⟨Below.grown h.ext gr.by_ h.ext.size (fun k hk => Nat.le_trans h.lo (Nat.le_trans (Nat.le_of_lt h.opn.1) (h.own.lt k hk).1)), h.lo, Nat.le_trans h.hb gr.by_.size, h.opn.grew gr ho⟩
theorem Yk.toArr {t e : TypeId} {n : Nat} (ht : P.underlying t = some (.array n e)) {x : Operand} {l : List UInt8} (h : RB w (evalR ρ x) l) (hl : l.length = n) (hn : 0 < n) (hk : ∀ g o, w.rangeAt g o (Lib.byteCells l) → K (.pointer (some ⟨g, o, none⟩)) w) :
    Yk P K ((execOp (evalR ρ) ⟨d, .sliceToArrayPointer t x, ty, pos, af, gd⟩).run P w) := by
  obtain ⟨g, o, cap, hv, h1, h2, h3, h4⟩ := h.open_ (by omega)
  refine Yk.value (v := .pointer (some ⟨g, o, none⟩)) (w' := w) ?_ (hk g o fun j v hj => ?_)
  · unfold execOp
    simp only [hv, Instr.arrayAt, Sem.run_bind, run_underlying ht, Result.andThen_ok]
    rw [if_neg (by omega)]
    rfl
  · have hj' : j < l.length := by simpa [Lib.byteCells] using (List.getElem?_eq_some_iff.1 hj).1
    rw [h4 j hj', ← hj]
    simp [Lib.byteCells, hj', List.getD]
theorem Yk.look {t Kt E : TypeId} (L : KeyLaw P Kt) (hkr : ∀ r : List UInt8, r.length = 8 → ∃ l, keyOf P Kt (rk r) = some l) (ht : P.underlying t = some (.map Kt E)) (hz : ∀ u : World, (zeroValue E).run P u = .ok (.slice none 0 0) u) {x y : Operand}
    (hm : evalR ρ x = .map (some b)) (hy : evalR ρ y = rk r) (h : IdxAt w b base I G) (hr : r.length = 8) (hk : ∀ v, w.ownsRow base I 1 v (G r).length ((G r).map NI) → K v w) :
    Yk P K ((execOp (evalR ρ) ⟨d, .lookup t x y false, ty, pos, af, gd⟩).run P w) := by
  obtain ⟨v, hrun, ho⟩ := h.look L hkr ht hz hr
  refine Yk.value (v := v) (w' := w) ?_ (hk v ho)
  unfold execOp
  simp only [hm, hy, Sem.run_bind, hrun, Result.andThen_ok, Sem.run_pure]
end
def posOf (l : List UInt8) (k : Nat) (r : List UInt8) : List Nat := (List.range k).filter fun j => (l.drop j).take 8 == r
theorem posOf_upd (l : List UInt8) (k : Nat) : updG (posOf l k) ((l.drop k).take 8) (posOf l k ((l.drop k).take 8) ++ [k]) = posOf l (k + 1) := by
  funext s
  unfold updG posOf
  rw [List.range_succ, List.filter_append]
  by_cases h : s = (l.drop k).take 8
  · subst h
    rw [if_pos rfl]
    simp
  · rw [if_neg h]
    have : ((l.drop k).take 8 == s) = false := by simpa using fun e => h e.symm
    simp [this]
theorem posOf_zero (l : List UInt8) : posOf l 0 = fun _ => [] := by
  funext s
  rfl
theorem posOf_length (l : List UInt8) (k : Nat) (r : List UInt8) : (posOf l k r).length ≤ k := by
  have := List.length_filter_le (fun j => (l.drop j).take 8 == r) (List.range k)
  rw [List.length_range] at this
  exact this
theorem rowLaw : KeyLaw Tryd.prog 100 := deep_law_laid (by kernel_rfl) (m := 3) (by decide) (of_decide_eq_true (by kernel_rfl)) (by kernel_rfl) (by kernel_rfl)
theorem rowKey : ∀ r : List UInt8, r.length = 8 → ∃ l, keyOf Tryd.prog 100 (rk r) = some l := fun _ h =>
  keyOf_row (n := 8) (e := 5) Tryd.underlying100 Tryd.underlying5 (by kernel_rfl) (by kernel_rfl) (by kernel_rfl) (of_decide_eq_true (by kernel_rfl)) h
theorem zeroInts : ∀ u : World, (zeroValue 54).run Tryd.prog u = .ok (.slice none 0 0) u := fun _ => by kernel_rfl
theorem infoI : (Tryd.prog.info? 3).map (fun i => (i.zero, i.size, i.bytes)) = some (some (.int .i64 0), 1, 8) := by kernel_rfl
open Go.RowKit
set_option maxRecDepth 100000
theorem del4_isz100 : (Tryd.prog.info? 100).map (·.size) = some 8 := by kernel_rfl
theorem del4_ty24 : Tryd.prog.underlying 24 = some (.slice 5) := by kernel_rfl
theorem del4_sz5 : ∀ w' : World, (sizeOf 5).run Tryd.prog w' = .ok 1 w' := fun _ => by kernel_rfl
theorem del4_ty100 : Tryd.prog.underlying 100 = some (.array 8 5) := by kernel_rfl
theorem del4_al100 {d : Option Tmp} {ty : TypeId} {pos : String} {af : Array Edge} {gd : Option (Nat × Bool)} (σ : Operand → Value) (w : World) : (execOp σ ⟨d, .alloc 100, ty, pos, af, gd⟩).run Tryd.prog w = .ok (.value (PQ w.heap.size 0)) (w.alloc (.cells (Lib.byteCells (List.replicate 8 0)).toArray 100)) := by kernel_rfl
theorem del4_one54 (z : Int) (w : World) : (Instr.buildSlice 54 1 #[(0, .int .i64 z)]).run Tryd.prog w = .ok (.slice (some ⟨w.heap.size, 0, none⟩) 1 1) (w.alloc (.cells #[.int .i64 z] 3)) := by kernel_rfl
theorem Yk.litI {P : Program} {K : Value → World → Prop} {ρ : Slots} {w : World} {d : Option Tmp} {ty : TypeId} {pos : String} {af : Array Edge} {gd : Option (Nat × Bool)} {t e : TypeId} {x : Operand} {z : Nat} (hx : evalR ρ x = NI z) (hr : ∀ w : World, (Instr.buildSlice t 1 #[(0, .int .i64 z)]).run P w = .ok (.slice (some ⟨w.heap.size, 0, none⟩) 1 1) (w.alloc (.cells #[.int .i64 z] e))) (hk : ∀ b w', w.heap.size = b → w'.heap[b]? = some (.cells #[.int .i64 z] e (0, 0)) → Ext w w' → w'.heap.size = b + 1 → K (.slice (some ⟨b, 0, none⟩) 1 1) w') : Yk P K ((execOp (evalR ρ) ⟨d, .buildSlice t 1 #[(0, x)], ty, pos, af, gd⟩).run P w) := Yk.lits (cs := #[.int .i64 z]) (fun w => (by simp only [List.map_toArray, List.map_cons, List.map_nil, hx] : _ = _).trans (hr w)) hk
theorem del4_ty96 : Tryd.prog.underlying 96 = some (.map 100 54) := by kernel_rfl
theorem del4_ty54 : Tryd.prog.underlying 54 = some (.slice 3) := by kernel_rfl
theorem index_any (w : World) (v : Value) (l : List UInt8) (hr : RB w v l) (hl : l.length ≤ 1048576) :
  Calls Tryd.prog 53 #[v] w fun e w' => ∃ b base, e = .returned (.map (some b)) ∧ IX w w' b base 3 (posOf l (l.length - 7)) := by
 refine gG (args := [v]) Tryd.func53 rfl 30 rfl rfl ?_
 have hE := Ext.refl w
 refine gS (Yk.makeMap (I := 3) fun n3 w4 hb5 hX6 => ?_)
 have hX6 := (posOf_zero l) ▸ hX6
 have hE := hX6.ext
 refine gL (fun (ρ : Slots) (wz : World) => ∃ i : Nat, ρ 0 = (v : Value) ∧ ρ 2 = ((Value.map none) : Value) ∧ ρ 3 = (.map (some n3) : Value) ∧ ρ 4 = (NI i : Value) ∧ Ext w wz ∧ IX w wz n3 (n3 + 1) 3 (posOf l i) ∧ (i ≤ l.length - 7) ∧ True) (fun ρ _ => l.length - (intOf (ρ 4)).toNat) ⟨0, rfl, rfl, rfl, rfl, hE, hX6, Nat.zero_le _, trivial⟩ ?_
 clear hX6
 clear hE
 rintro ρ9 w10 ⟨i, T0, T2, T3, T4, hE, hXi, hil, -⟩
 have q4 := T4
 refine gS (Yk.bin (xv := NI i) (yv := NI 8) T4 rfl rfl (i64_add _ _ _ (by omega)) (gS (Yk.lenRB del4_ty24 (RB.of (hr.keep hE) T0) (gS (Yk.eqI (a := ((i) + (8) : Nat)) (b := (l.length : Nat)) rfl rfl (k_leq _ _ _ _) ?_)))))
 refine cD rfl (fun h8 => ?_) fun h8 => ?_
 ·have hrl : ((l.drop i).take (i + 8 - i)).length = 8 := by rw [List.length_take, List.length_drop]; omega
  have hrl8 : ((l.drop i).take 8).length = 8 := by rw [List.length_take, List.length_drop]; omega
  refine gS (Yk.bin (xv := NI i) (yv := NI 8) T4 rfl rfl (i64_add _ _ _ (by omega)) (gS (Yk.sliceLH (xs := l) (l := i) (n := (i) + (8)) del4_ty24 del4_sz5 T0 (hr.keep hE) T4 rfl (by omega) (by omega) fun v15 hr16 ha17 => (gS (Yk.toArr del4_ty100 (RB.of hr16 rfl) (l := (l.drop (i)).take (((i) + (8)) - (i))) (n := 8) (by rw [List.length_take, List.length_drop]; omega) (by decide) fun n18 n19 hr20 => (gS (Yk.loadPart rfl hr20 del4_ty100 rfl (by rw [Lib.byteCells_length, hrl]; exact del4_isz100) (gS (Yk.alloc del4_al100 fun n21 w22 hn23 hb24 hx25 hs26 => ?_)))))))))
  have hA27 := Ext.refl w10
  have hz29 := hE.size
  have hb30 := hb24; clear hb24
  have hl31 : n21 < w22.heap.size := by omega
  refine gS (Yk.storeAll (vr (PQ n21 0) rfl) (vr (AB ((l.drop (i)).take (((i) + (8)) - (i)))) rfl) hb30 (by simp only [List.size_toArray, Lib.byteCells_length, hrl]; rfl) (by simp only [List.size_toArray, Lib.byteCells_length, hrl]; exact del4_isz100) (byteCells_one _) fun w32 hb33 hg34 hs35 => ?_)
  clear hb30
  have hb30 := hb33; clear hb33
  have hl36 := bl hb30
  have hb30 : w32.heap[n21]? = some (.cells (Lib.byteCells ((l.drop i).take 8)).toArray 100 (0, 0)) := blk_eq hb30 (by rw [show i + 8 - i = 8 by omega])
  refine gS (Yk.loadAll rfl hb30 del4_ty100 rfl (by simp only [List.size_toArray, Lib.byteCells_length, hrl8]; exact del4_isz100) (gS (Yk.litI (z := i) T4 (fun w => del4_one54 _ w) fun n37 w38 hn39 hb40 hx41 hs42 => ?_)))
  have hb1i := hb40
  have hA27 := hA27.trans hx25
  have hA27 := row_fresh hA27 hg34 (Nat.le_trans (Nat.le_refl _) (by omega))
  have hA27 := hA27.trans hx41
  refine gS (Yk.entry rowLaw rowKey del4_ty96 zeroInts T3 rfl (hXi.keep hA27) hrl8 fun v43 n44 w45 hX46 hg47 => ?_)
  have hE := hE.trans hA27
  have hE := hX46.ext
  clear hb30
  have hb1i := (Eq.trans (hg47.block n37 (bl hb1i) (by have h1 := hXi.idx.lt; simp; omega)) hb1i)
  refine gS (Yk.extract (vs := [v43, NI n44]) rfl rfl (gS (Yk.append _ _ (n3 + 1) 3 (.int .i64 0) 1 8 del4_ty54 infoI rfl (posOf l i ((l.drop i).take 8)).length ((posOf l i ((l.drop i).take 8)).map NI) (own_of hX46.own (vr v43 rfl)) 1 [NI i] (show Src _ _ _ _ _ _ _ from by rw [(vr (.slice (some ⟨n37, 0, none⟩) 1 1) rfl)]; exact (Src.ofSlice _ del4_ty54 ⟨n37, 0, none⟩ 1 1 [NI i] rfl (fun j u hu => by rw [Addr.add_lit, Nat.zero_add]; exact cellAt (l := [NI i]) hb1i hu) (fun u hu => by rw [List.mem_singleton.1 hu]; rfl))) (by have := posOf_length l i ((l.drop i).take 8); unfold maxLen; omega) (by have := posOf_length l i ((l.drop i).take 8); omega) hX46.hb fun v48 w49 ho50 hg51 => ?_)))
  have hX52 := IXO.grew (zs' := posOf l i ((l.drop i).take 8) ++ [i]) hX46 hg51 (by rw [List.length_append, List.map_append]; exact ho50)
  have hE := hX52.ext
  clear hX46
  refine gS (Yk.extract (vs := [v43, NI n44]) rfl rfl (gS (Yk.entryStore T3 rfl rfl hX52 (by simp) fun w53 hX54 => ?_)))
  have hX54 := (posOf_upd l i) ▸ hX54
  have hE := hX54.ext
  clear hX52
  refine gS (Yk.bin (xv := NI i) (yv := NI 1) T4 rfl rfl (i64_add _ _ _ (by omega)) (gK (And.intro ⟨i + 1, T0, T2, T3, rfl, hE, hX54, by omega, trivial⟩ ?_)))
  show l.length - (intOf (NI ((i) + (1)))).toNat < l.length - (intOf (ρ9 4)).toNat
  rw [q4]
  simp only [intOf, Int.toNat_natCast]; omega
 have hik : i = l.length - 7 := by omega
 refine rt1 rfl T3 ?_
 rw [hik] at hXi
 exact ⟨_, _, rfl, hXi⟩
open Go.RowKit
structure MKD (w0 wI w : World) (lo g3 g5 g7 : Nat) (vt vc v : Value) (o : List UInt8) (fr : Nat) : Prop where
  ext : Ext w0 w
  b3 : w.heap[g3]? = some (.cells #[vt] 24 (0, 0))
  b5 : w.heap[g5]? = some (.cells #[vc] 24 (0, 0))
  b7 : w.heap[g7]? = some (.cells #[NI fr] 3 (0, 0))
  own : w.ownsRow w0.heap.size 5 1 v o.length (Lib.byteCells o)
  fz : ∀ k, lo ≤ k → k < wI.heap.size → w.heap[k]? = wI.heap[k]?
  apz : ∀ k, v.ownBlock = some k → k < lo ∨ wI.heap.size ≤ k
  l3 : w0.heap.size ≤ g3
  l5 : w0.heap.size ≤ g5
  l7 : w0.heap.size ≤ g7
  o3 : g3 < lo
  o5 : g5 < lo
  o35 : g3 ≠ g5
  o7 : wI.heap.size ≤ g7
  oi : lo ≤ wI.heap.size
  os : wI.heap.size ≤ w.heap.size
theorem own_neT {w : World} {b : Nat} {e t : TypeId} {z n g : Nat} {v : Value} {xs : List Value} {cs : Array Value} {fr : Nat × Nat} (ho : w.ownsRow b e z v n xs) (hb : w.heap[g]? = some (.cells cs t fr)) (hne : e ≠ t) : v.ownBlock ≠ some g := fun h => by
  rcases ho.2 with ⟨rfl, _⟩ | ⟨g', cap, cur, rfl, _, hg, _⟩
  · cases h
  · have : g' = g := by simpa [Value.ownBlock] using h
    subst this
    rw [hg] at hb
    simp only [Option.some.injEq, Obj.cells.injEq] at hb
    exact hne hb.2.1
section
variable {w0 wI w w' : World} {lo g3 g5 g7 : Nat} {vt vc v : Value} {o : List UInt8} {fr : Nat}
theorem MKD.keep (h : MKD w0 wI w lo g3 g5 g7 vt vc v o fr) (k : Ext w w') : MKD w0 wI w' lo g3 g5 g7 vt vc v o fr :=
  ⟨h.ext.trans k, Ext.blk' k h.b3, Ext.blk' k h.b5, Ext.blk' k h.b7, Stab.own _ _ _ _ _ _ _ _ h.own k, fun i h1 h2 => (k.block i (Nat.lt_of_lt_of_le h2 h.os)).trans (h.fz i h1 h2), h.apz, h.l3, h.l5, h.l7, h.o3, h.o5, h.o35, h.o7, h.oi, Nat.le_trans h.os k.size⟩
theorem MKD.grew {v' : Value} {o' : List UInt8} (h : MKD w0 wI w lo g3 g5 g7 vt vc v o fr) (gr : Grew w w' v v') (ho : w'.ownsRow w0.heap.size 5 1 v' o'.length (Lib.byteCells o')) : MKD w0 wI w' lo g3 g5 g7 vt vc v' o' fr :=
  ⟨ext_grew h.ext gr h.own (Nat.le_refl _), blk_grew h.b3 gr (own_neT h.own h.b3 (by decide)), blk_grew h.b5 gr (own_neT h.own h.b5 (by decide)), blk_grew h.b7 gr (own_neT h.own h.b7 (by decide)), ho,
    fun i h1 h2 => (gr.by_.block i (Nat.lt_of_lt_of_le h2 h.os) (fun e => by rcases h.apz i e.symm with h3 | h3 <;> omega)).trans (h.fz i h1 h2),
    fun k hk => (gr.fresh k hk).elim (h.apz k) (fun h3 => .inr (Nat.le_trans h.os h3)), h.l3, h.l5, h.l7, h.o3, h.o5, h.o35, h.o7, h.oi, Nat.le_trans h.os gr.by_.size⟩
theorem MKD.set5 (h : MKD w0 wI w lo g3 g5 g7 vt vc v o fr) (hb : w'.heap[g5]? = some (.cells #[v] 24 (0, 0))) (hg : w.grownBy w' (some g5)) : MKD w0 wI w' lo g3 g5 g7 vt v v o fr :=
  have lt := fun {k : Nat} {x : Obj} (hx : w.heap[k]? = some x) => (Array.getElem?_eq_some_iff.1 hx).1
  have h57 : g7 ≠ g5 := by have := h.o5; have := h.o7; have := h.oi; omega
  ⟨Below.grown h.ext hg h.ext.size (fun k hk => by cases hk; exact h.l5), (hg.block g3 (lt h.b3) (by simp [h.o35])).trans h.b3, hb, (hg.block g7 (lt h.b7) (by simp [h57])).trans h.b7,
    own_kept h.own hg (own_neT h.own h.b5 (by decide)), fun i h1 h2 => (hg.block i (Nat.lt_of_lt_of_le h2 h.os) (fun e => by cases e; have := h.o5; omega)).trans (h.fz i h1 h2), h.apz, h.l3, h.l5, h.l7, h.o3, h.o5, h.o35, h.o7, h.oi, Nat.le_trans h.os hg.size⟩
theorem MKD.set7 {n : Nat} (h : MKD w0 wI w lo g3 g5 g7 vt vc v o fr) (hb : w'.heap[g7]? = some (.cells #[NI n] 3 (0, 0))) (hg : w.grownBy w' (some g7)) : MKD w0 wI w' lo g3 g5 g7 vt vc v o n :=
  have lt := fun {k : Nat} {x : Obj} (hx : w.heap[k]? = some x) => (Array.getElem?_eq_some_iff.1 hx).1
  have h57 : g5 ≠ g7 := by have := h.o5; have := h.o7; have := h.oi; omega
  have h37 : g3 ≠ g7 := by have := h.o3; have := h.o7; have := h.oi; omega
  ⟨Below.grown h.ext hg h.ext.size (fun k hk => by cases hk; exact h.l7), (hg.block g3 (lt h.b3) (by simp [h37])).trans h.b3, (hg.block g5 (lt h.b5) (by simp [h57])).trans h.b5, hb,
    own_kept h.own hg (own_neT h.own h.b7 (by decide)), fun i h1 h2 => (hg.block i (Nat.lt_of_lt_of_le h2 h.os) (fun e => by cases e; have := h.o7; omega)).trans (h.fz i h1 h2), h.apz, h.l3, h.l5, h.l7, h.o3, h.o5, h.o35, h.o7, h.oi, Nat.le_trans h.os hg.size⟩
theorem MKD.idx {b base : Nat} {I : TypeId} {G : List UInt8 → List Nat} (h : MKD w0 wI w lo g3 g5 g7 vt vc v o fr) (hI : IdxAt wI b base I G) (hb : lo ≤ b) : IdxAt w b base I G := by
  obtain ⟨h1, es, c, h2, h3⟩ := hI
  refine ⟨h1, es, c, (h.fz b hb (Array.getElem?_eq_some_iff.1 h2).1).trans h2, h3.born, h3.nodup, h3.keys, fun e he => ?_, h3.all, h3.apart⟩
  obtain ⟨q, k1, k2, k3, k4⟩ := h3.ent e he
  refine ⟨q, k1, k2, k3, k4.1, ?_⟩
  rcases k4.2 with h5 | ⟨g, cap, cur, e1, hbg, hg, r⟩
  · exact .inl h5
  · exact .inr ⟨g, cap, cur, e1, hbg, (h.fz g (by omega) (Array.getElem?_eq_some_iff.1 hg).1).trans hg, r⟩
end
def flushP (T : List UInt8) (fr to : Nat) (o : List UInt8) : List UInt8 := if fr < to then o ++ Lib.uvarint (2 * (to - fr)) ++ (T.drop fr).take (to - fr) else o
open Go.RowKit
set_option maxRecDepth 100000
theorem del6_isz24 : (Tryd.prog.info? 24).map (·.size) = some 1 := by kernel_rfl
theorem del6_ty3 : Tryd.prog.underlying 3 = some (.int .i64) := by kernel_rfl
theorem del6_ty24 : Tryd.prog.underlying 24 = some (.slice 5) := by kernel_rfl
theorem del6_pl52 : Plain Tryd.prog 52 := fun _ _ => by kernel_rfl
theorem del6_sz5 : ∀ w' : World, (sizeOf 5).run Tryd.prog w' = .ok 1 w' := fun _ => by kernel_rfl
theorem del6_inf5 : (Tryd.prog.info? 5).map (fun i => (i.zero, i.size, i.bytes)) = some (some (.int .u8 0), 1, 1) := by kernel_rfl
theorem flush_any (w0 wI w : World) (lo g3 g5 g7 : Nat) (vt v : Value) (o T : List UInt8) (fr to : Nat) (hM : MKD w0 wI w lo g3 g5 g7 vt v v o fr) (hT : RB w0 vt T) (hto : to ≤ T.length) (hfr : fr ≤ T.length) (hTl : T.length ≤ 1048576) (hol : o.length ≤ 1073741824) :
  Calls Tryd.prog 54 #[NI to, PQ g7 0, PQ g5 0, PQ g3 0] w fun e w' => e = .returned (.tuple #[]) ∧ ∃ v', MKD w0 wI w' lo g3 g5 g7 vt v' v' (flushP T fr to o) fr := by
 have hb1 : w.heap[g3]? = some (.cells ([vt] : List Value).toArray 24 (0, 0)) := hM.b3
 have hb2 : w.heap[g5]? = some (.cells ([v] : List Value).toArray 24 (0, 0)) := hM.b5
 have hb3 : w.heap[g7]? = some (.cells ([NI (fr)] : List Value).toArray 3 (0, 0)) := hM.b7
 have hr4 := hT.keep hM.ext
 refine gG (args := [NI to, PQ g7 0, PQ g5 0, PQ g3 0]) Tryd.func54 rfl 20 rfl rfl (gS (Yk.cell1 del6_ty3 rfl rfl (cellAt hb3 rfl) (gS (Yk.eqI (a := (to : Nat)) (b := (fr : Nat)) rfl rfl (k_gtr _ _ _ _) ?_))))
 refine cD rfl (fun hc => ?_) fun hc => ?_
 ·have hu9 := uvarint_len63 (2 * (to - fr)) (by omega)
  refine gS (Yk.cell1 del6_ty24 rfl rfl (cellAt hb2 rfl) (gS (Yk.cell1 del6_ty3 rfl rfl (cellAt hb3 rfl) (gS (Yk.bin (xv := NI to) (yv := NI fr) rfl rfl rfl (i64_sub _ _ _ (by omega) (by omega)) (gS (Yk.bin (xv := NI 2) (yv := NI ((to) - (fr))) rfl rfl rfl (i64_mul _ _ _ (by omega)) (gS (Yk.callA2 del6_pl52 rfl rfl ((dnumber_any _ w0.heap.size v (o) hM.own hM.ext.size ((2) * ((to) - (fr))) (by omega) (by omega)).mono ?_))))))))))
  rintro e w11 ⟨v7, rfl, ho8, hg9⟩
  refine ⟨_, rfl, ?_⟩
  have hM10 := MKD.grew hM hg9 ho8
  clear hM
  have hb12 : w11.heap[g3]? = some (.cells ([vt] : List Value).toArray 24 (0, 0)) := hM10.b3
  have hb13 : w11.heap[g5]? = some (.cells ([v] : List Value).toArray 24 (0, 0)) := hM10.b5
  have hb14 : w11.heap[g7]? = some (.cells ([NI (fr)] : List Value).toArray 3 (0, 0)) := hM10.b7
  have hr15 := hT.keep hM10.ext
  refine gS (Yk.storeC (i := 0) (v := v7) rfl rfl hM10.b5 (Nat.le_of_ble_eq_true rfl) del6_isz24 (own_one hM10.own).1 (own_one hM10.own).2 fun w16 hb17 hg18 hs19 => ?_)
  have hM20 := MKD.set5 hM10 hb17 hg18
  clear hM10
  have hb21 : w16.heap[g3]? = some (.cells ([vt] : List Value).toArray 24 (0, 0)) := hM20.b3
  have hb22 : w16.heap[g5]? = some (.cells ([v7] : List Value).toArray 24 (0, 0)) := hM20.b5
  have hb23 : w16.heap[g7]? = some (.cells ([NI (fr)] : List Value).toArray 3 (0, 0)) := hM20.b7
  have hr24 := hT.keep hM20.ext
  refine gR ?_
  refine wpF_draw_seq2 5 _ [4] [Is (v7), Is (vt), Is (NI fr), Is (NI to), fun x w' => RB w' x ((T.drop (fr)).take ((to) - (fr))), fun x w' => MKD w0 wI w' lo g3 g5 g7 vt v7 x ((o ++ Lib.uvarint ((2) * ((to) - (fr)))) ++ (T.drop (fr)).take ((to) - (fr))) (fr)] (by kernel_rfl) [14, 15, 16, 17, 18, 19] (by kernel_rfl) (by kernel_rfl) (by kernel_rfl) (by kernel_rfl) (by kernel_rfl) rfl rfl rfl rfl (si4 ⟨(fun _ _ _ h k => RB.keep h k), trivial⟩) ⟨.inr (Stab.is _), .inr (Stab.is _), .inr (Stab.is _), .inr (Stab.is _), .inl rfl, trivial⟩ ?hs1002 ?hQ1002
  case hs1002 =>
   refine ⟨?_, ?_, ?_, ?_, ?_, ?_, ?_, trivial⟩
   ·refine stepFL (stepN rfl fun σ w1 hC h => ?_)
    have e2 : σ 2 = PQ g5 0 := (eqo (h 2 (by decide))).trans rfl
    exact Yk.cell1 del6_ty24 rfl e2 (cellAt (eb hC hb22) (show _ = some (v7 : Value) from rfl)) ⟨Ext.refl _, rfl⟩
   ·refine stepFL (stepN rfl fun σ w1 hC h => ?_)
    have e3 : σ 3 = PQ g3 0 := (eqo (h 3 (by decide))).trans rfl
    exact Yk.cell1 del6_ty24 rfl e3 (cellAt (eb hC hb21) (show _ = some (vt : Value) from rfl)) ⟨Ext.refl _, rfl⟩
   ·refine stepFL (stepN rfl fun σ w1 hC h => ?_)
    have e1 : σ 1 = PQ g7 0 := (eqo (h 1 (by decide))).trans rfl
    exact Yk.cell1 del6_ty3 rfl e1 (cellAt (eb hC hb23) (show _ = some (NI fr : Value) from rfl)) ⟨Ext.refl _, rfl⟩
   ·refine stepFL (stepN rfl fun σ w1 hC h => ?_)
    have e0 : σ 0 = NI to := (eqo (h 0 (by decide))).trans rfl
    exact Yk.move e0 ⟨Ext.refl _, rfl⟩
   ·refine stepFL (stepN rfl fun σ w1 hC h => ?_)
    have e15 := eqo (h 15 (by decide))
    have e16 := eqo (h 16 (by decide))
    have e17 := eqo (h 17 (by decide))
    exact Yk.sliceLH (xs := T) (l := fr) (n := to) del6_ty24 del6_sz5 rfl (RB.of (hr24.keep hC) e15) e16 e17 (by omega) (by omega) fun v hr _ => ⟨Ext.refl _, hr⟩
   ·refine stepFL (stepN rfl fun σ w1 hC h => ?_)
    have e14 := eqo (h 14 (by decide))
    have e18 : (fun x w' => RB w' x ((T.drop (fr)).take ((to) - (fr)))) (σ 18) w1 := h 18 (by decide)
    have hM1 := hM20.keep hC
    exact Yk.appendRB _ _ w0.heap.size (.int .u8 0) del6_ty24 del6_inf5 rfl del6_ty24 (o ++ Lib.uvarint ((2) * ((to) - (fr)))) ((T.drop (fr)).take ((to) - (fr))) (own_of hM1.own e14) e18 (by simp only [List.length_append, List.length_take, List.length_drop]; omega) hM1.ext.size fun x w2 ho hg => ⟨trivial, MKD.grew hM1 (e14 ▸ hg) ho⟩
   ·exact trivial
  intro ρ25 w26 he hf
  obtain ⟨-, -, -, -, -, k19, -⟩ := hf
  obtain ⟨T0, T1, T2, T3, -⟩ := he.hold [(0, NI to), (1, PQ g7 0), (2, PQ g5 0), (3, PQ g3 0)] ⟨rfl, rfl, rfl, rfl, trivial⟩ rfl
  clear he
  have k19 : (fun x w' => MKD w0 wI w' lo g3 g5 g7 vt v7 x ((o ++ Lib.uvarint ((2) * ((to) - (fr)))) ++ (T.drop (fr)).take ((to) - (fr))) (fr)) (ρ25 19) w26 := k19
  obtain ⟨v28, T19⟩ : ∃ v, ρ25 19 = v := ⟨_, rfl⟩
  rw [T19] at k19
  have hk29 := k19; clear k19
  refine (Yk.storeC (i := 0) (v := v28) T2 T19 hk29.b5 (Nat.le_of_ble_eq_true rfl) del6_isz24 (own_one hk29.own).1 (own_one hk29.own).2 fun w30 hb31 hg32 hs33 => ?_)
  have hM34 := MKD.set5 hk29 hb31 hg32
  clear hk29
  have hb35 : w30.heap[g3]? = some (.cells ([vt] : List Value).toArray 24 (0, 0)) := hM34.b3
  have hb36 : w30.heap[g5]? = some (.cells ([v28] : List Value).toArray 24 (0, 0)) := hM34.b5
  have hb37 : w30.heap[g7]? = some (.cells ([NI (fr)] : List Value).toArray 3 (0, 0)) := hM34.b7
  have hr38 := hT.keep hM34.ext
  refine gX (rt0 rfl ?_)
  refine ⟨rfl, v28, ?_⟩
  rw [flushP, if_pos hc]
  exact hM34
 refine rt0 rfl ?_
 refine ⟨rfl, v, ?_⟩
 rw [flushP, if_neg (by omega)]
 exact hM
open Go.RowKit
section
variable {P : Program} {K : Value → World → Prop} {ρ : Slots} {w : World} {d : Option Tmp} {ty : TypeId} {pos : String} {af : Array Edge} {gd : Option (Nat × Bool)}
theorem Yk.lenOwn {t e e2 : TypeId} (ht : P.underlying t = some (.slice e2)) {x : Operand} {b z n : Nat} {xs : List Value} (h : w.ownsRow b e z (evalR ρ x) n xs) (hk : K (NI n) w) : Yk P K ((execOp (evalR ρ) ⟨d, .call ⟨.builtin .len, #[x], #[t]⟩, ty, pos, af, gd⟩).run P w) := by
  rcases h.2 with ⟨e1, h0⟩ | ⟨g, cap, cur, e1, -⟩
  · subst h0
    exact Yk.lenSl ht e1 hk
  · exact Yk.lenSl ht e1 hk
theorem Yk.atOwn {t e e2 : TypeId} (ht : P.underlying t = some (.slice e2)) (he : ∀ w' : World, (sizeOf e2).run P w' = .ok 1 w') {x y : Operand} {b : Nat} {xs : List Value} (h : w.ownsRow b e 1 (evalR ρ x) xs.length xs) {k : IntKind} {i : Nat} (hy : evalR ρ y = .int k (i : Int)) (hi : i < xs.length)
    (hk : ∀ v, PCell (xs.getD i undef) v w → K v w) : Yk P K ((execOp (evalR ρ) ⟨d, .indexAddr t x y, ty, pos, af, gd⟩).run P w) := by
  rcases h.2 with ⟨e1, h0⟩ | ⟨g, cap, cur, e1, -⟩
  · omega
  · have hc := h.cells (g := g) (by rw [e1]; rfl) i (xs.getD i undef) (by simp [hi])
    rw [Addr.add_lit] at hc
    exact Yk.atSl ht he e1 hy hi (hk _ ⟨_, rfl, hc⟩)
end
def bstep (B T : List UInt8) (i : Nat) (pn : Nat × Nat) (q : Nat) : Nat × Nat := if pn.2 < lcp (B.drop q) (T.drop i) then (q, lcp (B.drop q) (T.drop i)) else pn
def best (B T : List UInt8) (i : Nat) : Nat × Nat := if i + 8 ≤ T.length then (posOf B (B.length - 7) ((T.drop i).take 8)).foldl (bstep B T i) (0, 0) else (0, 0)
def makeGo (B T : List UInt8) : Nat → Nat → Nat → List UInt8 → List UInt8
  | 0, _, fr, o => flushP T fr T.length o
  | f + 1, i, fr, o => if i < T.length then (if (best B T i).2 = 0 then makeGo B T f (i + 1) fr o
      else makeGo B T f (i + (best B T i).2) (i + (best B T i).2) (flushP T fr i o ++ Lib.uvarint (2 * (best B T i).2 + 1) ++ Lib.uvarint (best B T i).1)) else flushP T fr T.length o
def makeP (B T : List UInt8) : List UInt8 := makeGo B T T.length 0 0 (Lib.uvarint B.length ++ Lib.uvarint T.length)
theorem flushP_length (T : List UInt8) (fr to : Nat) (o : List UInt8) (ht : to ≤ 1048576) : (flushP T fr to o).length ≤ o.length + (to - fr) + 9 := by
  unfold flushP
  split
  · have := uvarint_len63 (2 * (to - fr)) (by omega)
    simp only [List.length_append, List.length_take, List.length_drop]
    omega
  · omega
theorem foldl_take_succ {α : Type} (f : α → Nat → α) (a : α) (zs : List Nat) (j : Nat) (h : j < zs.length) : (zs.take (j + 1)).foldl f a = f ((zs.take j).foldl f a) (zs.getD j 0) := by
  rw [List.take_succ_eq_append_getElem h, List.foldl_append]
  simp [h]
theorem NI_getD (zs : List Nat) (j : Nat) (h : j < zs.length) : (zs.map NI).getD j undef = NI (zs.getD j 0) := by simp [h]
theorem makeGo_end {B T : List UInt8} {f i fr : Nat} {o : List UInt8} (h : ¬ i < T.length) : makeGo B T f i fr o = flushP T fr T.length o := by
  cases f with
  | zero => rfl
  | succ f => rw [makeGo, if_neg h]
theorem posOf_lt {B : List UInt8} {k : Nat} {r : List UInt8} {j : Nat} (h : j < (posOf B k r).length) : (posOf B k r).getD j 0 < k := by
  have hm : (posOf B k r).getD j 0 ∈ posOf B k r := by
    rw [List.getD_eq_getElem?_getD, List.getElem?_eq_getElem h]
    exact List.getElem_mem h
  unfold posOf at hm
  rw [List.mem_filter, List.mem_range] at hm
  exact hm.1
open Go.RowKit
set_option maxRecDepth 100000
theorem del8_isz24 : (Tryd.prog.info? 24).map (·.size) = some 1 := by kernel_rfl
theorem del8_isz3 : (Tryd.prog.info? 3).map (·.size) = some 1 := by kernel_rfl
theorem del8_al24 {d : Option Tmp} {ty : TypeId} {pos : String} {af : Array Edge} {gd : Option (Nat × Bool)} (σ : Operand → Value) (w : World) : (execOp σ ⟨d, .alloc 24, ty, pos, af, gd⟩).run Tryd.prog w = .ok (.value (PQ w.heap.size 0)) (w.alloc (.cells ([.slice none 0 0] : List Value).toArray 24)) := by kernel_rfl
theorem del8_ty24 : Tryd.prog.underlying 24 = some (.slice 5) := by kernel_rfl
theorem del8_pl52 : Plain Tryd.prog 52 := fun _ _ => by kernel_rfl
theorem del8_pl53 : Plain Tryd.prog 53 := fun _ _ => by kernel_rfl
theorem del8_al3 {d : Option Tmp} {ty : TypeId} {pos : String} {af : Array Edge} {gd : Option (Nat × Bool)} (σ : Operand → Value) (w : World) : (execOp σ ⟨d, .alloc 3, ty, pos, af, gd⟩).run Tryd.prog w = .ok (.value (PQ w.heap.size 0)) (w.alloc (.cells ([NI 0]).toArray 3)) := by kernel_rfl
theorem del8_sz5 : ∀ w' : World, (sizeOf 5).run Tryd.prog w' = .ok 1 w' := fun _ => by kernel_rfl
theorem del8_ty100 : Tryd.prog.underlying 100 = some (.array 8 5) := by kernel_rfl
theorem del8_isz100 : (Tryd.prog.info? 100).map (·.size) = some 8 := by kernel_rfl
theorem del8_ty96 : Tryd.prog.underlying 96 = some (.map 100 54) := by kernel_rfl
theorem del8_ty54 : Tryd.prog.underlying 54 = some (.slice 3) := by kernel_rfl
theorem del8_sz3 : ∀ w' : World, (sizeOf 3).run Tryd.prog w' = .ok 1 w' := fun _ => by kernel_rfl
theorem del8_ty3 : Tryd.prog.underlying 3 = some (.int .i64) := by kernel_rfl
theorem del8_pl55 : Plain Tryd.prog 55 := fun _ _ => by kernel_rfl
theorem del8_pl54 : Plain Tryd.prog 54 := fun _ _ => by kernel_rfl
theorem make_any (w : World) (vb v2 : Value) (B T : List UInt8) (hrb : RB w vb B) (hrt : RB w v2 T) (hB : B.length ≤ 1048576) (hTl : T.length ≤ 1048576) :
  Calls Tryd.prog 25 #[vb, v2] w fun e w' => ∃ v', e = .returned v' ∧ Ext w w' ∧ w'.ownsRow w.heap.size 5 1 v' (makeP B T).length (Lib.byteCells (makeP B T)) := by
 refine gG (args := [vb, v2]) Tryd.func25 rfl 83 rfl rfl ?_
 have hE := Ext.refl w
 refine gS (Yk.box1 (vr v2 rfl) (RB.one (hrt.keep hE)).1 fun n2 w3 hn4 hb5 hx6 hs7 => ?_)
 have hb8 := hb5; clear hb5
 have hl9 : n2 < w3.heap.size := by omega
 have hA10 := Ext.refl w3
 have hE := hE.trans hx6
 have hz12 := hE.size
 have hAS := hA10
 refine gR ?_
 have hlt14 : n2 < w3.heap.size := (bl hb8)
 refine wpF_draw_own1 5 7 _ [2] (fun a b => Below w3.heap.size a b ∧ ∀ (g : Nat) (cs : Array Value), a.heap[g]? = some (.cells cs 24 (0, 0)) → b.heap[g]? = some (.cells cs 24 (0, 0))) [Is (vb), Is (NI B.length), fun x w' => w'.ownsRow w3.heap.size 5 1 x (([] : List UInt8) ++ Lib.uvarint B.length).length (Lib.byteCells (([] : List UInt8) ++ Lib.uvarint B.length)), Is (v2), Is (NI T.length), fun x w' => w'.ownsRow w3.heap.size 5 1 x (([] ++ Lib.uvarint B.length) ++ Lib.uvarint T.length).length (Lib.byteCells (([] ++ Lib.uvarint B.length) ++ Lib.uvarint T.length)), fun x w' => ∃ g : Nat, x = PQ g 0 ∧ w3.heap.size ≤ g ∧ w'.heap[g]? = some (.cells #[.slice none 0 0] 24 (0, 0))] (by kernel_rfl) [15, 16, 17, 18, 19, 20, 5] (by kernel_rfl) (by kernel_rfl) (by kernel_rfl) (by kernel_rfl) rfl rfl rfl (by decide) rfl (si2 ⟨(fun _ _ _ h k => Stab.own _ _ _ _ _ _ _ _ h k), (si2 ⟨(fun _ _ _ h k => Stab.own _ _ _ _ _ _ _ _ h k), (fun _ _ _ ⟨g, h1, h2, h3⟩ k => ⟨g, h1, h2, eb k h3⟩), trivial⟩)⟩) ⟨.inr (Stab.is _), .inr (Stab.is _), .inl rfl, .inr (Stab.is _), .inr (Stab.is _), .inl rfl, .inr ((fun _ _ _ ⟨g, h1, h2, h3⟩ k => ⟨g, h1, h2, k.2 _ _ h3⟩)), trivial⟩ (fun _ _ h k => Below.trans h k.1) ?hs3001 ?hQ3001
 case hs3001 =>
  refine ⟨?_, ?_, ?_, ?_, ?_, ?_, ?_, ?_, trivial⟩
  ·refine stepFL (stepN rfl fun σ w1 hC h => ?_)
   have e0 : σ 0 = vb := (eqo (h 0 (by decide))).trans rfl
   exact Yk.move e0 ⟨Ext.refl _, rfl⟩
  ·refine stepFL (stepN rfl fun σ w1 hC h => ?_)
   have e15 := eqo (h 15 (by decide))
   exact Yk.lenRB del8_ty24 (RB.of (hrb.keep (hE.trans hC)) e15) ⟨Ext.refl _, rfl⟩
  ·refine stepFL (stepN rfl fun σ w1 hC h => ?_)
   have e16 := eqo (h 16 (by decide))
   have hC : Ext w3 w1 := hC
   have hn0 : w1.ownsRow w3.heap.size 5 1 (.slice none 0 0) ([] : List UInt8).length (Lib.byteCells ([] : List UInt8)) := World.ownsRow_nil _ _ _ 1
   refine Yk.callA2 del8_pl52 rfl e16 ((dnumber_any w1 w3.heap.size (.slice none 0 0) [] hn0 hC.size B.length (by omega) (by simp)).mono ?_)
   rintro e w2 ⟨v', rfl, ho, hg⟩
   exact ⟨_, rfl, Ext.of hg.by_, ho⟩
  ·refine stepFL (stepN rfl fun σ w1 hC h => ?_)
   have e3 : σ 3 = PQ n2 0 := (eqo (h 3 (by decide))).trans rfl
   exact Yk.cell1 del8_ty24 rfl e3 (cellAt (eb hC hb8) (show _ = some (v2 : Value) from rfl)) ⟨Ext.refl _, rfl⟩
  ·refine stepFL (stepN rfl fun σ w1 hC h => ?_)
   have e18 := eqo (h 18 (by decide))
   exact Yk.lenRB del8_ty24 (RB.of (hrt.keep (hE.trans hC)) e18) ⟨Ext.refl _, rfl⟩
  ·refine stepFL (stepN rfl fun σ w1 hC h => ?_)
   have e17 : (fun x w' => w'.ownsRow w3.heap.size 5 1 x (([] : List UInt8) ++ Lib.uvarint B.length).length (Lib.byteCells (([] : List UInt8) ++ Lib.uvarint B.length))) (σ 17) w1 := h 17 (by decide)
   have e19 := eqo (h 19 (by decide))
   have hC : Ext w3 w1 := hC
   refine Yk.callA2 del8_pl52 rfl e19 ((dnumber_any w1 w3.heap.size (σ 17) (([] : List UInt8) ++ Lib.uvarint B.length) e17 hC.size T.length (by omega) (by have := uvarint_len63 B.length (by omega); simp; omega)).mono ?_)
   rintro e w2 ⟨v', rfl, ho, hg⟩
   exact ⟨_, rfl, ⟨hg.below hC.size (fun k hk => (World.ownsRow.lt e17 k hk).1), fun g cs h => blk_grew h hg (own_neT e17 h (by decide))⟩, ho⟩
  ·refine stepFL (stepN rfl fun σ w1 hC h => ?_)
   have hC : Ext w3 w1 := hC
   exact Yk.alloc (cs := ([.slice none 0 0] : List Value).toArray) del8_al24 fun g w2 hn hb hx hs => ⟨hx, g, rfl, by have := hC.size; omega, hb⟩
  ·exact trivial
 intro ρ15 w16 hx17 he hf
 obtain ⟨-, -, -, -, -, k20, k5, -⟩ := hf
 obtain ⟨T0, T1, T3, T4, -⟩ := he.hold [(0, vb), (1, v2), (3, PQ n2 0), (4, (Value.slice none 0 0))] ⟨rfl, rfl, rfl, rfl, trivial⟩ rfl
 clear he
 have k20 : (fun x w' => w'.ownsRow w3.heap.size 5 1 x (([] ++ Lib.uvarint B.length) ++ Lib.uvarint T.length).length (Lib.byteCells (([] ++ Lib.uvarint B.length) ++ Lib.uvarint T.length))) (ρ15 20) w16 := k20
 obtain ⟨v18, T20⟩ : ∃ v, ρ15 20 = v := ⟨_, rfl⟩
 rw [T20] at k20
 have hk19 := k20; clear k20
 have k5 : (fun x w' => ∃ g : Nat, x = PQ g 0 ∧ w3.heap.size ≤ g ∧ w'.heap[g]? = some (.cells #[.slice none 0 0] 24 (0, 0))) (ρ15 5) w16 := k5
 obtain ⟨v20, T5⟩ : ∃ v, ρ15 5 = v := ⟨_, rfl⟩
 rw [T5] at k5
 have hk21 := k5; clear k5
 obtain ⟨g5, hv5, hlo5, hb5⟩ := hk21
 rw [hv5] at T5
 have hap5 : OB v18 g5 := own_neT hk19 hb5 (by decide)
 refine (Yk.storeC (i := 0) (v := v18) T5 T20 hb5 (Nat.le_of_ble_eq_true rfl) del8_isz24 (own_one hk19).1 (own_one hk19).2 fun w22 hb23 hg24 hs25 => ?_)
 clear hb5
 have hb5 := hb23; clear hb23
 have hl26 := bl hb5
 refine gX ?_
 have hE := hE.trans hx17
 have hE := row_fresh hE hg24 (Nat.le_trans hz12 (by omega))
 have hA10 := hA10.trans hx17
 have hA10 := row_fresh hA10 hg24 (Nat.le_trans (Nat.le_refl _) (by omega))
 have hz30 := hE.size
 have hz31 := hA10.size
 have hb8 := eb hA10 hb8
 have hq3 := (bl hb8)
 have hq5 := (bl hb5)
 have hk19 := own_kept hk19 hg24 hap5
 have hoP := hk19
 have hzP := hE.size
 have hzS := hAS.size
 refine gS (Yk.callA1 del8_pl53 T0 ((index_any _ vb B (hrb.keep hE) (by omega)).mono ?_))
 rintro e w33 ⟨bM, baseM, rfl, hX⟩
 refine ⟨_, rfl, ?_⟩
 have hzI := hX.ext.size
 have hA34 := Ext.refl w33
 have hE := hE.trans hX.ext
 have hA10 := hA10.trans hX.ext
 have hz38 := hE.size
 have hz39 := hA10.size
 refine gS (Yk.alloc del8_al3 fun n42 w43 hn44 hb45 hx46 hs47 => ?_)
 have hb51 := hb45; clear hb45
 have hl52 : n42 < w43.heap.size := by omega
 refine gS (Yk.storeC (i := 0) (v := NI 0) rfl rfl hb51 (Nat.le_of_ble_eq_true rfl) del8_isz3 rfl rfl fun w53 hb54 hg55 hs56 => ?_)
 clear hb51
 have hb51 := hb54; clear hb54
 have hl57 := bl hb51
 refine gS (Yk.mkFunc (vs := #[PQ n42 0, PQ g5 0, PQ n2 0]) (by simp only [List.map_toArray, List.map_cons, List.map_nil]; exact congrArg List.toArray (list3 (vr (PQ n42 0) rfl) T5 T3)) ?_)
 have hA34 := hA34.trans hx46
 have hA34 := row_fresh hA34 hg55 (Nat.le_trans (Nat.le_refl _) (by omega))
 have hb8 := eb (hX.ext.trans hA34) hb8
 have hk19 := Stab.own _ _ _ _ _ _ _ _ hk19 (hX.ext.trans hA34)
 have hb5 := eb (hX.ext.trans hA34) hb5
 have hE := hE.trans hx46
 have hE := row_fresh hE hg55 (Nat.le_trans hz38 (by omega))
 have hM0 : MKD w w33 w53 w22.heap.size n2 g5 n42 v2 v18 v18 (([] ++ Lib.uvarint B.length) ++ Lib.uvarint T.length) (0) := ⟨hE, hb8, hb5, hb51, ownsRow_base hk19 (by omega), fun k h1 h2 => hA34.block k h2, fun k hk => .inl (hoP.lt k hk).2, by omega, by omega, by omega, hq3, hq5, by omega, by omega, by omega, by omega⟩
 have hT := hrt
 refine gL (fun (ρ : Slots) (wz : World) => ∃ ia : Nat, ∃ fr : Nat, ∃ f : Nat, ∃ o : List UInt8, ∃ v : Value, ρ 0 = (vb : Value) ∧ ρ 1 = (v2 : Value) ∧ ρ 3 = (PQ n2 0 : Value) ∧ ρ 4 = ((Value.slice none 0 0) : Value) ∧ ρ 5 = (PQ g5 0 : Value) ∧ ρ 6 = (.map (some bM) : Value) ∧ ρ 7 = (PQ n42 0 : Value) ∧ ρ 8 = (.func (.func 54) #[] #[PQ n42 0, PQ g5 0, PQ n2 0] : Value) ∧ ρ 9 = (NI ia : Value) ∧ Ext w wz ∧ MKD w w33 wz w22.heap.size n2 g5 n42 v2 v v (o) (fr) ∧ (makeGo B T f ia fr o = makeP B T) ∧ (T.length ≤ ia + f) ∧ (fr ≤ ia) ∧ (ia ≤ T.length) ∧ (o.length ≤ 20 + 40 * fr) ∧ True) (fun ρ _ => T.length - (intOf (ρ 9)).toNat) ⟨0, 0, T.length, ([] ++ Lib.uvarint B.length) ++ Lib.uvarint T.length, v18, T0, T1, T3, T4, T5, rfl, rfl, rfl, rfl, hE, hM0, (show makeGo B T T.length 0 0 _ = _ from by rw [makeP, List.nil_append]), by omega, Nat.le_refl _, Nat.zero_le _, by have := uvarint_len63 B.length (by omega); have := uvarint_len63 T.length (by omega); simp only [List.length_append, List.length_nil]; omega, trivial⟩ ?_
 clear hM0
 clear hE
 rintro ρ61 w62 ⟨ia, fr, f, o, v, T0, T1, T3, T4, T5, T6, T7, T8, T9, hE, hM, hgo, hf, hfr, hat, hol, -⟩
 have q9 := T9
 have hb63 : w62.heap[n2]? = some (.cells ([v2] : List Value).toArray 24 (0, 0)) := hM.b3
 have hb64 : w62.heap[g5]? = some (.cells ([v] : List Value).toArray 24 (0, 0)) := hM.b5
 have hb65 : w62.heap[n42]? = some (.cells ([NI (fr)] : List Value).toArray 3 (0, 0)) := hM.b7
 refine gS (Yk.cell1 del8_ty24 rfl T3 (cellAt hb63 rfl) (gS (Yk.lenRB del8_ty24 (RB.of (hrt.keep hE) rfl) (gS (Yk.eqI (a := (ia : Nat)) (b := (T.length : Nat)) T9 rfl (k_lss _ _ _ _) ?_)))))
 refine cD rfl (fun hc0 => ?_) fun hc0 => ?_
 ·obtain ⟨f', rfl⟩ : ∃ f', f = f' + 1 := ⟨f - 1, by omega⟩
  refine gS (Yk.bin (xv := NI ia) (yv := NI 8) T9 rfl rfl (i64_add _ _ _ (by omega)) (gS (Yk.cell1 del8_ty24 rfl T3 (cellAt hb63 rfl) (gS (Yk.lenRB del8_ty24 (RB.of (hrt.keep hE) rfl) (gS (Yk.eqI (a := ((ia) + (8) : Nat)) (b := (T.length : Nat)) rfl rfl (k_leq _ _ _ _) ?_)))))))
  refine cD rfl (fun hc1 => ?_) fun hc1 => ?_
  ·have hrl : ((T.drop ia).take (ia + 8 - ia)).length = 8 := by rw [List.length_take, List.length_drop]; omega
   have hrl8 : ((T.drop ia).take 8).length = 8 := by rw [List.length_take, List.length_drop]; omega
   refine gS (Yk.cell1 del8_ty24 rfl T3 (cellAt hb63 rfl) (gS (Yk.bin (xv := NI ia) (yv := NI 8) T9 rfl rfl (i64_add _ _ _ (by omega)) (gS (Yk.sliceLH (xs := T) (l := ia) (n := (ia) + (8)) del8_ty24 del8_sz5 rfl (hrt.keep hE) T9 rfl (by omega) (by omega) fun v72 hr73 ha74 => (gS (Yk.toArr del8_ty100 (RB.of hr73 rfl) (l := (T.drop (ia)).take (((ia) + (8)) - (ia))) (n := 8) (by rw [List.length_take, List.length_drop]; omega) (by decide) fun n75 n76 hr77 => (gS (Yk.loadPart rfl (show World.rangeAt _ _ _ (Lib.byteCells ((T.drop ia).take 8)) from by simpa only [Nat.add_sub_cancel_left] using hr77) del8_ty100 rfl (by rw [Lib.byteCells_length, hrl8]; exact del8_isz100) (gS (Yk.look rowLaw rowKey del8_ty96 zeroInts T6 rfl (MKD.idx hM hX.idx hX.lo) hrl8 fun v78 ho79 => (gS (Yk.lenOwn del8_ty54 (own_of ho79 rfl) (gL (fun (ρ : Slots) (wz : World) => ∃ j : Nat, ∃ p : Nat, ∃ n : Nat, ρ 0 = (vb : Value) ∧ ρ 1 = (v2 : Value) ∧ ρ 3 = (PQ n2 0 : Value) ∧ ρ 4 = ((Value.slice none 0 0) : Value) ∧ ρ 5 = (PQ g5 0 : Value) ∧ ρ 6 = (.map (some bM) : Value) ∧ ρ 7 = (PQ n42 0 : Value) ∧ ρ 8 = (.func (.func 54) #[] #[PQ n42 0, PQ g5 0, PQ n2 0] : Value) ∧ ρ 9 = (NI ia : Value) ∧ ρ 41 = (v78 : Value) ∧ ρ 42 = (NI ((posOf B (B.length - 7) ((T.drop ia).take 8)).length) : Value) ∧ ρ 43 = (NI j : Value) ∧ ρ 10 = (NI p : Value) ∧ ρ 11 = (NI n : Value) ∧ Ext w wz ∧ MKD w w33 wz w22.heap.size n2 g5 n42 v2 v v (o) (fr) ∧ wz.heap[n2]? = some (.cells ([v2] : List Value).toArray 24 (0, 0)) ∧ wz.heap[g5]? = some (.cells ([v] : List Value).toArray 24 (0, 0)) ∧ wz.heap[n42]? = some (.cells ([NI (fr)] : List Value).toArray 3 (0, 0)) ∧ RB wz v72 ((T.drop (ia)).take (((ia) + (8)) - (ia))) ∧ wz.ownsRow baseM 3 1 v78 (posOf B (B.length - 7) ((T.drop ia).take 8)).length ((posOf B (B.length - 7) ((T.drop ia).take 8)).map NI) ∧ (j ≤ (posOf B (B.length - 7) ((T.drop ia).take 8)).length) ∧ (((posOf B (B.length - 7) ((T.drop ia).take 8)).take j).foldl (bstep B T ia) (0, 0) = (p, n)) ∧ (p ≤ B.length) ∧ (n ≤ T.length - ia) ∧ True) (fun ρ _ => (posOf B (B.length - 7) ((T.drop ia).take 8)).length - (intOf (ρ 43)).toNat) ⟨0, 0, 0, T0, T1, T3, T4, T5, T6, T7, T8, T9, rfl, rfl, rfl, rfl, rfl, hE, hM, hb63, hb64, hb65, hr73, ho79, Nat.zero_le _, rfl, Nat.zero_le _, Nat.zero_le _, trivial⟩ ?_))))))))))))))
   clear hE hM hb63 hb64 hb65 hr73 ho79
   rintro ρ80 w81 ⟨j, p, n, T0, T1, T3, T4, T5, T6, T7, T8, T9, T41, T42, T43, T10, T11, hE, hM, hb63, hb64, hb65, hr73, ho79, hjl, hbp, hp, hn, -⟩
   have q43 := T43
   refine gS (Yk.eqI (a := (j : Nat)) (b := ((posOf B (B.length - 7) ((T.drop ia).take 8)).length : Nat)) T43 T42 (k_lss _ _ _ _) ?_)
   refine cD rfl (fun hj => ?_) fun hj => ?_
   ·have hq := posOf_lt hj
    have hpl := posOf_length B (B.length - 7) ((T.drop ia).take 8)
    refine gS (Yk.atOwn (xs := (posOf B (B.length - 7) ((T.drop ia).take 8)).map NI) del8_ty54 del8_sz3 (by rw [List.length_map]; exact own_of ho79 T41) T43 (by rw [List.length_map]; exact hj) fun v86 hp87 => ?_)
    rw [NI_getD _ _ hj] at hp87
    refine gS (Yk.loadC del8_ty3 rfl (PCell.of hp87 rfl) ?_)
    clear hp87
    refine gR ?_
    refine wpF_draw [Is (vb), Is (NI ((posOf B (B.length - 7) ((T.drop ia).take 8)).getD j 0)), fun x w' => RB w' x (B.drop ((posOf B (B.length - 7) ((T.drop ia).take 8)).getD j 0)), Is (v2), Is (NI ia), fun x w' => RB w' x (T.drop (ia)), Is (NI (lcp (B.drop ((posOf B (B.length - 7) ((T.drop ia).take 8)).getD j 0)) (T.drop (ia)))), Is (NI (lcp (B.drop ((posOf B (B.length - 7) ((T.drop ia).take 8)).getD j 0)) (T.drop (ia))))] (by kernel_rfl) [47, 48, 49, 50, 51, 52, 53, 14] (by kernel_rfl) (by kernel_rfl) (si2 ⟨(fun _ _ _ h k => RB.keep h k), (si2 ⟨(fun _ _ _ h k => RB.keep h k), (si2 trivial)⟩)⟩) ?hs4012 ?hQ4012
    case hs4012 =>
     refine ⟨?_, ?_, ?_, ?_, ?_, ?_, ?_, ?_, trivial⟩
     ·refine stepN rfl fun σ w1 hC h => ?_
      have e0 := (eqo (h 0 (by decide))).trans T0
      exact Yk.move e0 ⟨Ext.refl _, rfl⟩
     ·refine stepN rfl fun σ w1 hC h => ?_
      have e13 : σ 13 = NI ((posOf B (B.length - 7) ((T.drop ia).take 8)).getD j 0) := (eqo (h 13 (by decide))).trans rfl
      exact Yk.move e13 ⟨Ext.refl _, rfl⟩
     ·refine stepN rfl fun σ w1 hC h => ?_
      have e47 := eqo (h 47 (by decide))
      have e48 := eqo (h 48 (by decide))
      exact Yk.sliceLo (xs := B) (l := (posOf B (B.length - 7) ((T.drop ia).take 8)).getD j 0) del8_ty24 del8_sz5 rfl (RB.of (hrb.keep (hE.trans hC)) e47) e48 (by omega) fun v hr _ => ⟨Ext.refl _, hr⟩
     ·refine stepN rfl fun σ w1 hC h => ?_
      have e3 := (eqo (h 3 (by decide))).trans T3
      exact Yk.cell1 del8_ty24 rfl e3 (cellAt (eb hC hb63) (show _ = some (v2 : Value) from rfl)) ⟨Ext.refl _, rfl⟩
     ·refine stepN rfl fun σ w1 hC h => ?_
      have e9 := (eqo (h 9 (by decide))).trans T9
      exact Yk.move e9 ⟨Ext.refl _, rfl⟩
     ·refine stepN rfl fun σ w1 hC h => ?_
      have e50 := eqo (h 50 (by decide))
      have e51 := eqo (h 51 (by decide))
      exact Yk.sliceLo (xs := T) (l := ia) del8_ty24 del8_sz5 rfl (RB.of (hrt.keep (hE.trans hC)) e50) e51 (by omega) fun v hr _ => ⟨Ext.refl _, hr⟩
     ·refine stepN rfl fun σ w1 hC h => ?_
      have e49 : (fun x w' => RB w' x (B.drop ((posOf B (B.length - 7) ((T.drop ia).take 8)).getD j 0))) (σ 49) w1 := h 49 (by decide)
      have e52 : (fun x w' => RB w' x (T.drop (ia))) (σ 52) w1 := h 52 (by decide)
      refine Yk.callA2 del8_pl55 rfl rfl ((common_any _ (σ 49) (σ 52) (B.drop ((posOf B (B.length - 7) ((T.drop ia).take 8)).getD j 0)) (T.drop (ia)) e49 e52 (by simp only [List.length_drop]; omega)).mono ?_)
      rintro e w2 ⟨rfl, hx⟩
      exact ⟨_, rfl, hx, rfl⟩
     ·refine stepN rfl fun σ w1 hC h => ?_
      have e53 := eqo (h 53 (by decide))
      exact Yk.assign e53 ⟨Ext.refl _, rfl⟩
    intro ρ89 w90 hx91 he hf
    obtain ⟨-, -, -, -, -, -, -, k14, -⟩ := hf
    obtain ⟨T0, T1, T3, T4, T5, T6, T7, T8, T9, T10, T11, T13, T41, T42, T43, -⟩ := he.hold [(0, _), (1, _), (3, _), (4, _), (5, _), (6, _), (7, _), (8, _), (9, _), (10, _), (11, _), (13, NI ((posOf B (B.length - 7) ((T.drop ia).take 8)).getD j 0)), (41, _), (42, _), (43, _)] ⟨T0, T1, T3, T4, T5, T6, T7, T8, T9, T10, T11, rfl, T41, T42, T43, trivial⟩ rfl
    clear he
    have hM : MKD w w33 w90 w22.heap.size n2 g5 n42 v2 v v (o) (fr) := (hM.keep hx91)
    have T14 : ρ89 14 = NI (lcp (B.drop ((posOf B (B.length - 7) ((T.drop ia).take 8)).getD j 0)) (T.drop (ia))) := k14
    clear k14
    refine gX (gS (Yk.eqI (a := (lcp (B.drop ((posOf B (B.length - 7) ((T.drop ia).take 8)).getD j 0)) (T.drop (ia)) : Nat)) (b := (n : Nat)) T14 T11 (k_gtr _ _ _ _) ?_))
    refine cD rfl (fun hc3 => ?_) fun hc3 => ?_
    ·have hE := hE.trans hx91
     have hb63 := eb hx91 hb63
     have hb64 := eb hx91 hb64
     have hb65 := eb hx91 hb65
     have hr73 := hr73.keep hx91
     have ho79 := Stab.own _ _ _ _ _ _ _ _ ho79 hx91
     refine gS (Yk.bin (xv := NI j) (yv := NI 1) T43 rfl rfl (i64_add _ _ _ (by omega)) (gK (And.intro ⟨j + 1, (posOf B (B.length - 7) ((T.drop ia).take 8)).getD j 0, lcp (B.drop ((posOf B (B.length - 7) ((T.drop ia).take 8)).getD j 0)) (T.drop ia), T0, T1, T3, T4, T5, T6, T7, T8, T9, T41, T42, rfl, T13, T14, hE, hM, hb63, hb64, hb65, hr73, ho79, by omega, by rw [foldl_take_succ _ _ _ _ hj, hbp, bstep, if_pos hc3], by omega, by have := (lcp_le (B.drop ((posOf B (B.length - 7) ((T.drop ia).take 8)).getD j 0)) (T.drop ia)).2; rw [List.length_drop] at this; omega, trivial⟩ ?_)))
     show (posOf B (B.length - 7) ((T.drop ia).take 8)).length - (intOf (NI ((j) + (1)))).toNat < (posOf B (B.length - 7) ((T.drop ia).take 8)).length - (intOf (ρ80 43)).toNat
     rw [q43]
     simp only [intOf, Int.toNat_natCast]; omega
    have hE := hE.trans hx91
    have hb63 := eb hx91 hb63
    have hb64 := eb hx91 hb64
    have hb65 := eb hx91 hb65
    have hr73 := hr73.keep hx91
    have ho79 := Stab.own _ _ _ _ _ _ _ _ ho79 hx91
    refine gS (Yk.bin (xv := NI j) (yv := NI 1) T43 rfl rfl (i64_add _ _ _ (by omega)) (gK (And.intro ⟨j + 1, p, n, T0, T1, T3, T4, T5, T6, T7, T8, T9, T41, T42, rfl, T10, T11, hE, hM, hb63, hb64, hb65, hr73, ho79, by omega, by rw [foldl_take_succ _ _ _ _ hj, hbp, bstep, if_neg hc3], by omega, hn, trivial⟩ ?_)))
    show (posOf B (B.length - 7) ((T.drop ia).take 8)).length - (intOf (NI ((j) + (1)))).toNat < (posOf B (B.length - 7) ((T.drop ia).take 8)).length - (intOf (ρ80 43)).toNat
    rw [q43]
    simp only [intOf, Int.toNat_natCast]; omega
   rw [show (posOf B (B.length - 7) ((T.drop ia).take 8)).take j = posOf B (B.length - 7) ((T.drop ia).take 8) from List.take_of_length_le (by omega)] at hbp
   have hbe : best B T ia = (p, n) := by rw [best, if_pos hc1, hbp]
   refine gS (Yk.eqI (a := (n : Nat)) (b := (0 : Nat)) T11 rfl (k_eql _ _ _ _) ?_)
   refine cD rfl (fun hn0 => ?_) fun hn0 => ?_
   ·refine gS (Yk.bin (xv := NI ia) (yv := NI 1) T9 rfl rfl (i64_add _ _ _ (by omega)) (gK (And.intro ⟨ia + 1, fr, f', o, v, T0, T1, T3, T4, T5, T6, T7, T8, rfl, hE, hM, by rw [makeGo, if_pos hc0, if_pos (by rw [hbe]; exact hn0)] at hgo; exact hgo, by omega, by omega, by omega, hol, trivial⟩ ?_)))
    show T.length - (intOf (NI ((ia) + (1)))).toNat < T.length - (intOf (ρ61 9)).toNat
    rw [q9]
    simp only [intOf, Int.toNat_natCast]; omega
   refine gS (Yk.clo del8_pl54 (caps := #[PQ n42 0, PQ g5 0, PQ n2 0]) T8 #[NI ia, PQ n42 0, PQ g5 0, PQ n2 0] (by simp only [List.map_toArray, List.map_cons, List.map_nil, List.append_toArray, List.cons_append, List.nil_append]; exact congrArg List.toArray (list4 T9 rfl rfl rfl)) ((flush_any w w33 _ (w22.heap.size) n2 g5 n42 v2 v (o) T (fr) (ia) hM hT (by omega) (by omega) (by omega) (by omega)).mono ?_))
   rintro e w99 ⟨rfl, v97, hM98⟩
   refine ⟨_, rfl, ?_⟩
   have hE := hM98.ext
   clear hr73
   clear ho79
   clear hM
   have hb100 : w99.heap[n2]? = some (.cells ([v2] : List Value).toArray 24 (0, 0)) := hM98.b3
   have hb101 : w99.heap[g5]? = some (.cells ([v97] : List Value).toArray 24 (0, 0)) := hM98.b5
   have hb102 : w99.heap[n42]? = some (.cells ([NI (fr)] : List Value).toArray 3 (0, 0)) := hM98.b7
   have hfl := flushP_length T fr ia o (by omega)
   have hu6 := uvarint_len63 (2 * n + 1) (by omega)
   have hu7 := uvarint_len63 p (by omega)
   refine gS (Yk.cell1 del8_ty24 rfl T5 (cellAt hb101 rfl) (gS (Yk.bin (xv := NI 2) (yv := NI n) rfl T11 rfl (i64_mul _ _ _ (by omega)) (gS (Yk.bin (xv := NI ((2) * (n))) (yv := NI 1) rfl rfl rfl (i64_add _ _ _ (by omega)) (gS (Yk.callA2 del8_pl52 rfl rfl ((dnumber_any _ w.heap.size v97 (flushP T (fr) (ia) (o)) hM98.own hM98.ext.size (((2) * (n)) + (1)) (by omega) (by first | omega | (simp only [List.length_append]; omega))).mono ?_))))))))
   rintro e w108 ⟨v104, rfl, ho105, hg106⟩
   refine ⟨_, rfl, ?_⟩
   have hM107 := MKD.grew hM98 hg106 ho105
   have hE := hM107.ext
   clear hM98
   have hb109 : w108.heap[n2]? = some (.cells ([v2] : List Value).toArray 24 (0, 0)) := hM107.b3
   have hb110 : w108.heap[g5]? = some (.cells ([v97] : List Value).toArray 24 (0, 0)) := hM107.b5
   have hb111 : w108.heap[n42]? = some (.cells ([NI (fr)] : List Value).toArray 3 (0, 0)) := hM107.b7
   refine gS (Yk.callA2 del8_pl52 rfl T10 ((dnumber_any _ w.heap.size v104 (flushP T (fr) (ia) (o) ++ Lib.uvarint (((2) * (n)) + (1))) hM107.own hM107.ext.size (p) (by omega) (by first | omega | (simp only [List.length_append]; omega))).mono ?_))
   rintro e w116 ⟨v112, rfl, ho113, hg114⟩
   refine ⟨_, rfl, ?_⟩
   have hM115 := MKD.grew hM107 hg114 ho113
   have hE := hM115.ext
   clear hM107
   have hb117 : w116.heap[n2]? = some (.cells ([v2] : List Value).toArray 24 (0, 0)) := hM115.b3
   have hb118 : w116.heap[g5]? = some (.cells ([v97] : List Value).toArray 24 (0, 0)) := hM115.b5
   have hb119 : w116.heap[n42]? = some (.cells ([NI (fr)] : List Value).toArray 3 (0, 0)) := hM115.b7
   refine gS (Yk.storeC (i := 0) (v := v112) T5 rfl hM115.b5 (Nat.le_of_ble_eq_true rfl) del8_isz24 (own_one hM115.own).1 (own_one hM115.own).2 fun w120 hb121 hg122 hs123 => ?_)
   have hM124 := MKD.set5 hM115 hb121 hg122
   have hE := hM124.ext
   clear hM115
   have hb125 : w120.heap[n2]? = some (.cells ([v2] : List Value).toArray 24 (0, 0)) := hM124.b3
   have hb126 : w120.heap[g5]? = some (.cells ([v112] : List Value).toArray 24 (0, 0)) := hM124.b5
   have hb127 : w120.heap[n42]? = some (.cells ([NI (fr)] : List Value).toArray 3 (0, 0)) := hM124.b7
   refine gS (Yk.bin (xv := NI ia) (yv := NI n) T9 T11 rfl (i64_add _ _ _ (by omega)) (gS (Yk.storeC (i := 0) (v := NI ((ia) + (n))) T7 rfl hM124.b7 (Nat.le_of_ble_eq_true rfl) del8_isz3 rfl rfl fun w129 hb130 hg131 hs132 => ?_)))
   have hM133 := MKD.set7 (n := (ia) + (n)) hM124 hb130 hg131
   have hE := hM133.ext
   clear hM124
   have hb134 : w129.heap[n2]? = some (.cells ([v2] : List Value).toArray 24 (0, 0)) := hM133.b3
   have hb135 : w129.heap[g5]? = some (.cells ([v112] : List Value).toArray 24 (0, 0)) := hM133.b5
   have hb136 : w129.heap[n42]? = some (.cells ([NI ((ia) + (n))] : List Value).toArray 3 (0, 0)) := hM133.b7
   refine gK (And.intro ⟨ia + n, ia + n, f', flushP T (fr) (ia) (o) ++ Lib.uvarint (((2) * (n)) + (1)) ++ Lib.uvarint (p), v112, T0, T1, T3, T4, T5, T6, T7, T8, rfl, hE, hM133, by rw [makeGo, if_pos hc0, if_neg (by rw [hbe]; exact hn0), hbe] at hgo; exact hgo, by omega, by omega, by omega, by have h5 := flushP_length T fr ia o (by omega); have h6 := uvarint_len63 (2 * n + 1) (by omega); have h7 := uvarint_len63 p (by omega); simp only [List.length_append]; omega, trivial⟩ ?_)
   show T.length - (intOf (NI ((ia) + (n)))).toNat < T.length - (intOf (ρ61 9)).toNat
   rw [q9]
   simp only [intOf, Int.toNat_natCast]; omega
  obtain ⟨p, hp0⟩ : ∃ p, p = 0 := ⟨_, rfl⟩
  obtain ⟨n, hnz⟩ : ∃ n, n = 0 := ⟨_, rfl⟩
  have T10 := (vr (NI 0) rfl).trans (show (Value.int .i64 ((0 : Nat) : Int)) = NI p by rw [hp0])
  have T11 := (vr (NI 0) rfl).trans (show (Value.int .i64 ((0 : Nat) : Int)) = NI n by rw [hnz])
  have hbe : best B T ia = (p, n) := by rw [best, if_neg hc1, hp0, hnz]
  have hp : p ≤ B.length := by omega
  have hn : n ≤ T.length - ia := by omega
  refine gS (Yk.eqI (a := (n : Nat)) (b := (0 : Nat)) T11 rfl (k_eql _ _ _ _) ?_)
  refine cD rfl (fun hn0 => ?_) fun hn0 => ?_
  ·refine gS (Yk.bin (xv := NI ia) (yv := NI 1) T9 rfl rfl (i64_add _ _ _ (by omega)) (gK (And.intro ⟨ia + 1, fr, f', o, v, T0, T1, T3, T4, T5, T6, T7, T8, rfl, hE, hM, by rw [makeGo, if_pos hc0, if_pos (by rw [hbe]; exact hn0)] at hgo; exact hgo, by omega, by omega, by omega, hol, trivial⟩ ?_)))
   show T.length - (intOf (NI ((ia) + (1)))).toNat < T.length - (intOf (ρ61 9)).toNat
   rw [q9]
   simp only [intOf, Int.toNat_natCast]; omega
  refine gS (Yk.clo del8_pl54 (caps := #[PQ n42 0, PQ g5 0, PQ n2 0]) T8 #[NI ia, PQ n42 0, PQ g5 0, PQ n2 0] (by simp only [List.map_toArray, List.map_cons, List.map_nil, List.append_toArray, List.cons_append, List.nil_append]; exact congrArg List.toArray (list4 T9 rfl rfl rfl)) ((flush_any w w33 _ (w22.heap.size) n2 g5 n42 v2 v (o) T (fr) (ia) hM hT (by omega) (by omega) (by omega) (by omega)).mono ?_))
  rintro e w143 ⟨rfl, v141, hM142⟩
  refine ⟨_, rfl, ?_⟩
  have hE := hM142.ext
  clear hM
  have hb144 : w143.heap[n2]? = some (.cells ([v2] : List Value).toArray 24 (0, 0)) := hM142.b3
  have hb145 : w143.heap[g5]? = some (.cells ([v141] : List Value).toArray 24 (0, 0)) := hM142.b5
  have hb146 : w143.heap[n42]? = some (.cells ([NI (fr)] : List Value).toArray 3 (0, 0)) := hM142.b7
  have hfl := flushP_length T fr ia o (by omega)
  have hu6 := uvarint_len63 (2 * n + 1) (by omega)
  have hu7 := uvarint_len63 p (by omega)
  refine gS (Yk.cell1 del8_ty24 rfl T5 (cellAt hb145 rfl) (gS (Yk.bin (xv := NI 2) (yv := NI n) rfl T11 rfl (i64_mul _ _ _ (by omega)) (gS (Yk.bin (xv := NI ((2) * (n))) (yv := NI 1) rfl rfl rfl (i64_add _ _ _ (by omega)) (gS (Yk.callA2 del8_pl52 rfl rfl ((dnumber_any _ w.heap.size v141 (flushP T (fr) (ia) (o)) hM142.own hM142.ext.size (((2) * (n)) + (1)) (by omega) (by first | omega | (simp only [List.length_append]; omega))).mono ?_))))))))
  rintro e w152 ⟨v148, rfl, ho149, hg150⟩
  refine ⟨_, rfl, ?_⟩
  have hM151 := MKD.grew hM142 hg150 ho149
  have hE := hM151.ext
  clear hM142
  have hb153 : w152.heap[n2]? = some (.cells ([v2] : List Value).toArray 24 (0, 0)) := hM151.b3
  have hb154 : w152.heap[g5]? = some (.cells ([v141] : List Value).toArray 24 (0, 0)) := hM151.b5
  have hb155 : w152.heap[n42]? = some (.cells ([NI (fr)] : List Value).toArray 3 (0, 0)) := hM151.b7
  refine gS (Yk.callA2 del8_pl52 rfl T10 ((dnumber_any _ w.heap.size v148 (flushP T (fr) (ia) (o) ++ Lib.uvarint (((2) * (n)) + (1))) hM151.own hM151.ext.size (p) (by omega) (by first | omega | (simp only [List.length_append]; omega))).mono ?_))
  rintro e w160 ⟨v156, rfl, ho157, hg158⟩
  refine ⟨_, rfl, ?_⟩
  have hM159 := MKD.grew hM151 hg158 ho157
  have hE := hM159.ext
  clear hM151
  have hb161 : w160.heap[n2]? = some (.cells ([v2] : List Value).toArray 24 (0, 0)) := hM159.b3
  have hb162 : w160.heap[g5]? = some (.cells ([v141] : List Value).toArray 24 (0, 0)) := hM159.b5
  have hb163 : w160.heap[n42]? = some (.cells ([NI (fr)] : List Value).toArray 3 (0, 0)) := hM159.b7
  refine gS (Yk.storeC (i := 0) (v := v156) T5 rfl hM159.b5 (Nat.le_of_ble_eq_true rfl) del8_isz24 (own_one hM159.own).1 (own_one hM159.own).2 fun w164 hb165 hg166 hs167 => ?_)
  have hM168 := MKD.set5 hM159 hb165 hg166
  have hE := hM168.ext
  clear hM159
  have hb169 : w164.heap[n2]? = some (.cells ([v2] : List Value).toArray 24 (0, 0)) := hM168.b3
  have hb170 : w164.heap[g5]? = some (.cells ([v156] : List Value).toArray 24 (0, 0)) := hM168.b5
  have hb171 : w164.heap[n42]? = some (.cells ([NI (fr)] : List Value).toArray 3 (0, 0)) := hM168.b7
  refine gS (Yk.bin (xv := NI ia) (yv := NI n) T9 T11 rfl (i64_add _ _ _ (by omega)) (gS (Yk.storeC (i := 0) (v := NI ((ia) + (n))) T7 rfl hM168.b7 (Nat.le_of_ble_eq_true rfl) del8_isz3 rfl rfl fun w173 hb174 hg175 hs176 => ?_)))
  have hM177 := MKD.set7 (n := (ia) + (n)) hM168 hb174 hg175
  have hE := hM177.ext
  clear hM168
  have hb178 : w173.heap[n2]? = some (.cells ([v2] : List Value).toArray 24 (0, 0)) := hM177.b3
  have hb179 : w173.heap[g5]? = some (.cells ([v156] : List Value).toArray 24 (0, 0)) := hM177.b5
  have hb180 : w173.heap[n42]? = some (.cells ([NI ((ia) + (n))] : List Value).toArray 3 (0, 0)) := hM177.b7
  refine gK (And.intro ⟨ia + n, ia + n, f', flushP T (fr) (ia) (o) ++ Lib.uvarint (((2) * (n)) + (1)) ++ Lib.uvarint (p), v156, T0, T1, T3, T4, T5, T6, T7, T8, rfl, hE, hM177, by rw [makeGo, if_pos hc0, if_neg (by rw [hbe]; exact hn0), hbe] at hgo; exact hgo, by omega, by omega, by omega, by have h5 := flushP_length T fr ia o (by omega); have h6 := uvarint_len63 (2 * n + 1) (by omega); have h7 := uvarint_len63 p (by omega); simp only [List.length_append]; omega, trivial⟩ ?_)
  show T.length - (intOf (NI ((ia) + (n)))).toNat < T.length - (intOf (ρ61 9)).toNat
  rw [q9]
  simp only [intOf, Int.toNat_natCast]; omega
 rw [makeGo_end hc0] at hgo
 refine gS (Yk.cell1 del8_ty24 rfl T3 (cellAt hb63 rfl) (gS (Yk.lenRB del8_ty24 (RB.of (hrt.keep hE) rfl) (gS (Yk.clo del8_pl54 (caps := #[PQ n42 0, PQ g5 0, PQ n2 0]) T8 #[NI T.length, PQ n42 0, PQ g5 0, PQ n2 0] (by simp only [List.map_toArray, List.map_cons, List.map_nil, List.append_toArray, List.cons_append, List.nil_append]; exact congrArg List.toArray (list4 rfl rfl rfl rfl)) ((flush_any w w33 _ (w22.heap.size) n2 g5 n42 v2 v (o) T (fr) (T.length) hM hT (by omega) (by omega) (by omega) (by omega)).mono ?_))))))
 rintro e w184 ⟨rfl, v182, hM183⟩
 refine ⟨_, rfl, ?_⟩
 have hE := hM183.ext
 clear hM
 have hb185 : w184.heap[n2]? = some (.cells ([v2] : List Value).toArray 24 (0, 0)) := hM183.b3
 have hb186 : w184.heap[g5]? = some (.cells ([v182] : List Value).toArray 24 (0, 0)) := hM183.b5
 have hb187 : w184.heap[n42]? = some (.cells ([NI (fr)] : List Value).toArray 3 (0, 0)) := hM183.b7
 refine gS (Yk.cell1 del8_ty24 rfl T5 (cellAt hb186 rfl) (rt1 rfl (vr v182 rfl) ?_))
 rw [hgo] at hM183
 exact ⟨_, rfl, hM183.ext, ownsRow_base hM183.own (Nat.le_refl _)⟩
open Go.RowKit
def sizesP (D : List UInt8) : Option (Nat × Nat × Nat) := match lebDec 0 (D.drop 0) with
  | none => none
  | some (a, k) => match lebDec 0 (D.drop (0 + k)) with
    | none => none
    | some (b, j) => some (a, b, 0 + k + j)
def sizesRes : Option (Nat × Nat × Nat) → Value
  | none => .tuple #[NI 0, NI 0, NI 0, NI 6]
  | some (a, b, n) => .tuple #[NI a, NI b, NI n, NI 0]
def cutP (F : List UInt8) (p s nx : Nat) : Option (List UInt8 × Nat) := if s < 1 ∨ F.length < p ∨ F.length - p < s then none else some ((F.drop p).take s, nx)
def pieceP (B D : List UInt8) (i : Nat) : Option (List UInt8 × Nat) := match lebDec 0 (D.drop i) with
  | none => none
  | some (x, k) => if x % 2 = 1 then (match lebDec 0 (D.drop (i + k)) with
    | none => none
    | some (p, m) => cutP B p (x / 2) (i + k + m)) else cutP D (i + k) (x / 2) (i + k + x / 2)
def applyGo (B D : List UInt8) (size : Nat) : Nat → Nat → List UInt8 → Option (List UInt8)
  | 0, _, _ => none
  | f + 1, i, o => if i < D.length then (match pieceP B D i with
    | none => none
    | some (b, nx) => if size - o.length < b.length then none else applyGo B D size f nx (o ++ b)) else if o.length = size then some o else none
def applyP (B D : List UInt8) : List UInt8 × Nat := match sizesP D with
  | none => ([], 6)
  | some (a, b, n) => if 262144 < b then ([], 2) else if a ≠ B.length then ([], 6) else match applyGo B D b (D.length + 1) n [] with
    | none => ([], 6)
    | some o => (o, 0)
theorem sizesP_bound {D : List UInt8} {a b n : Nat} (h : sizesP D = some (a, b, n)) : a < 9223372036854775808 ∧ b < 9223372036854775808 ∧ n ≤ D.length := by
  unfold sizesP at h
  split at h
  · cases h
  · rename_i x k hk
    have h1 := lebDec_bound (a := 0) (by omega) hk
    split at h
    · cases h
    · rename_i y j hj
      have h2 := lebDec_bound (a := 0 + k) (by omega) hj
      simp only [Option.some.injEq, Prod.mk.injEq] at h
      obtain ⟨rfl, rfl, rfl⟩ := h
      omega
theorem cutP_some {F b : List UInt8} {p s nx n : Nat} (h : cutP F p s nx = some (b, n)) : 1 ≤ s ∧ p ≤ F.length ∧ s ≤ F.length - p ∧ b = (F.drop p).take s ∧ n = nx := by
  unfold cutP at h
  split at h
  · cases h
  · simp only [Option.some.injEq, Prod.mk.injEq] at h
    exact ⟨by omega, by omega, by omega, h.1.symm, h.2.symm⟩
theorem pieceP_bound {B D b : List UInt8} {i nx : Nat} (hi : i ≤ D.length) (h : pieceP B D i = some (b, nx)) : i < nx ∧ nx ≤ D.length ∧ b.length ≤ B.length + D.length := by
  unfold pieceP at h
  split at h
  · cases h
  · rename_i x k hk
    have h1 := lebDec_bound hi hk
    split at h
    · split at h
      · cases h
      · rename_i p m hm
        have h2 := lebDec_bound (a := i + k) (by omega) hm
        obtain ⟨c1, c2, c3, rfl, rfl⟩ := cutP_some h
        rw [List.length_take, List.length_drop]
        omega
    · obtain ⟨c1, c2, c3, rfl, rfl⟩ := cutP_some h
      rw [List.length_take, List.length_drop]
      omega
open Go.RowKit
set_option maxRecDepth 100000
theorem del10_pl63 : Plain Tryd.prog 63 := fun _ _ => by kernel_rfl
theorem del10_ty24 : Tryd.prog.underlying 24 = some (.slice 5) := by kernel_rfl
theorem del10_sz5 : ∀ w' : World, (sizeOf 5).run Tryd.prog w' = .ok 1 w' := fun _ => by kernel_rfl
theorem sizes_any (w : World) (v : Value) (D : List UInt8) (hr : RB w v D) :
  Calls Tryd.prog 88 #[v] w fun e w' => e = .returned (sizesRes (sizesP D)) ∧ Ext w w' := by
 refine gG (args := [v]) Tryd.func88 rfl 26 rfl rfl ?_
 have hE := Ext.refl w
 rcases hgxa : lebDec 0 (D.drop (0)) with _ | ⟨xa, ka⟩
 ·refine gS (Yk.callA2 del10_pl63 rfl rfl ((getNo _ v D (hr.keep hE) (0) (by omega) hgxa).mono ?_))
  rintro e w4 ⟨rfl, hx3⟩
  refine ⟨_, rfl, ?_⟩
  have hE := hE.trans hx3
  refine gS (Yk.extract (vs := [NI 0, NI 0, NI 6]) rfl rfl (gS (Yk.extract (vs := [NI 0, NI 0, NI 6]) rfl rfl (gS (Yk.extract (vs := [NI 0, NI 0, NI 6]) rfl rfl (gS (Yk.eqI (a := (6 : Nat)) (b := (0 : Nat)) rfl rfl (k_neq _ _ _ _) (kT (by decide) (cT rfl (rtg (v := .tuple #[NI 0, NI 0, NI 0, NI 6]) (vs := [NI 0, NI 0, NI 0, NI 6]) rfl rfl ⟨rfl, rfl, rfl, rfl, trivial⟩ ?_))))))))))
  refine ⟨?_, hE⟩
  rw [sizesP, hgxa]
  rfl
 have hqxa := lebDec_bound (a := 0) (by omega) hgxa
 rcases hgxb : lebDec 0 (D.drop (0 + ka)) with _ | ⟨xb, kb⟩
 ·refine gS (Yk.callA2 del10_pl63 rfl rfl ((getYes _ v D (hr.keep hE) (0) (by omega) xa ka hgxa).mono ?_))
  rintro e w10 ⟨rfl, hx9⟩
  refine ⟨_, rfl, ?_⟩
  have hE := hE.trans hx9
  refine gS (Yk.extract (vs := [NI xa, NI ((0) + ka), NI 0]) rfl rfl (gS (Yk.extract (vs := [NI xa, NI ((0) + ka), NI 0]) rfl rfl (gS (Yk.extract (vs := [NI xa, NI ((0) + ka), NI 0]) rfl rfl (gS (Yk.eqI (a := (0 : Nat)) (b := (0 : Nat)) rfl rfl (k_neq _ _ _ _) (kF (by decide) (cF rfl (gS (Yk.callA2 del10_pl63 rfl rfl ((getNo _ v D (hr.keep hE) ((0) + ka) (by omega) hgxb).mono ?_))))))))))))
  rintro e w15 ⟨rfl, hx14⟩
  refine ⟨_, rfl, ?_⟩
  have hE := hE.trans hx14
  refine gS (Yk.extract (vs := [NI 0, NI 0, NI 6]) rfl rfl (gS (Yk.extract (vs := [NI 0, NI 0, NI 6]) rfl rfl (gS (Yk.extract (vs := [NI 0, NI 0, NI 6]) rfl rfl (gS (Yk.eqI (a := (6 : Nat)) (b := (0 : Nat)) rfl rfl (k_neq _ _ _ _) (kT (by decide) (cT rfl (rtg (v := .tuple #[NI 0, NI 0, NI 0, NI 6]) (vs := [NI 0, NI 0, NI 0, NI 6]) rfl rfl ⟨rfl, rfl, rfl, rfl, trivial⟩ ?_))))))))))
  refine ⟨?_, hE⟩
  rw [sizesP, hgxa]; simp only; rw [hgxb]
  rfl
 have hqxb := lebDec_bound (a := 0 + ka) (by omega) hgxb
 refine gS (Yk.callA2 del10_pl63 rfl rfl ((getYes _ v D (hr.keep hE) (0) (by omega) xa ka hgxa).mono ?_))
 rintro e w21 ⟨rfl, hx20⟩
 refine ⟨_, rfl, ?_⟩
 have hE := hE.trans hx20
 refine gS (Yk.extract (vs := [NI xa, NI ((0) + ka), NI 0]) rfl rfl (gS (Yk.extract (vs := [NI xa, NI ((0) + ka), NI 0]) rfl rfl (gS (Yk.extract (vs := [NI xa, NI ((0) + ka), NI 0]) rfl rfl (gS (Yk.eqI (a := (0 : Nat)) (b := (0 : Nat)) rfl rfl (k_neq _ _ _ _) (kF (by decide) (cF rfl (gS (Yk.callA2 del10_pl63 rfl rfl ((getYes _ v D (hr.keep hE) ((0) + ka) (by omega) xb kb hgxb).mono ?_))))))))))))
 rintro e w26 ⟨rfl, hx25⟩
 refine ⟨_, rfl, ?_⟩
 have hE := hE.trans hx25
 refine gS (Yk.extract (vs := [NI xb, NI (((0) + ka) + kb), NI 0]) rfl rfl (gS (Yk.extract (vs := [NI xb, NI (((0) + ka) + kb), NI 0]) rfl rfl (gS (Yk.extract (vs := [NI xb, NI (((0) + ka) + kb), NI 0]) rfl rfl (gS (Yk.eqI (a := (0 : Nat)) (b := (0 : Nat)) rfl rfl (k_neq _ _ _ _) (kF (by decide) (cF rfl (rtg (v := .tuple #[NI xa, NI xb, NI (((0) + ka) + kb), NI 0]) (vs := [NI xa, NI xb, NI (((0) + ka) + kb), NI 0]) rfl rfl ⟨rfl, rfl, rfl, rfl, trivial⟩ ?_))))))))))
 refine ⟨?_, hE⟩
 rw [sizesP, hgxa]; simp only; rw [hgxb]
 rfl

theorem sizes_no (w : World) (v : Value) (D : List UInt8) (hr : RB w v D) (h : sizesP D = none) :
  Calls Tryd.prog 88 #[v] w fun e w' => e = .returned (.tuple #[NI 0, NI 0, NI 0, NI 6]) ∧ Ext w w' := by
 have := sizes_any w v D hr
 rw [h] at this
 exact this
theorem sizes_yes (w : World) (v : Value) (D : List UInt8) (hr : RB w v D) (a b n : Nat) (h : sizesP D = some (a, b, n)) :
  Calls Tryd.prog 88 #[v] w fun e w' => e = .returned (.tuple #[NI a, NI b, NI n, NI 0]) ∧ Ext w w' := by
 have := sizes_any w v D hr
 rw [h] at this
 exact this

theorem piece_any (w : World) (vb v : Value) (B D : List UInt8) (hrb : RB w vb B) (hr : RB w v D) (i : Nat) (hi : i ≤ D.length) (hB : B.length ≤ 1048576) (hD : D.length ≤ 4611686018427387904) :
  Calls Tryd.prog 89 #[vb, v, NI i] w fun e w' => (match pieceP B D i with | none => e = .returned (.tuple #[.slice none 0 0, NI 0, .bool false]) | some (b, nx) => ∃ v', e = .returned (.tuple #[v', NI nx, .bool true]) ∧ RB w' v' b) ∧ Ext w w' := by
 refine gG (args := [vb, v, NI i]) Tryd.func89 rfl 70 rfl rfl ?_
 have hE := Ext.refl w
 rcases hgx : lebDec 0 (D.drop (i)) with _ | ⟨x, k⟩
 ·refine gS (Yk.callA2 del10_pl63 rfl rfl ((getNo _ v D (hr.keep hE) (i) (by omega) hgx).mono ?_))
  rintro e w4 ⟨rfl, hx3⟩
  refine ⟨_, rfl, ?_⟩
  refine gS (Yk.extract (vs := [NI 0, NI 0, NI 6]) rfl rfl (gS (Yk.extract (vs := [NI 0, NI 0, NI 6]) rfl rfl (gS (Yk.extract (vs := [NI 0, NI 0, NI 6]) rfl rfl (gS (Yk.eqI (a := (6 : Nat)) (b := (0 : Nat)) rfl rfl (k_neq _ _ _ _) (kT (by decide) (cT rfl (rt3 rfl (vr (Value.slice none 0 0) rfl) (vr (NI 0) rfl) (vr (.bool (false)) rfl) ?_))))))))))
  rw [pieceP, hgx]
  have hE := hE.trans hx3
  exact ⟨rfl, hE⟩
 have hqx := lebDec_bound (a := i) (by omega) hgx
 refine gS (Yk.callA2 del10_pl63 rfl rfl ((getYes _ v D (hr.keep hE) (i) (by omega) x k hgx).mono ?_))
 rintro e w10 ⟨rfl, hx9⟩
 refine ⟨_, rfl, ?_⟩
 refine gS (Yk.extract (vs := [NI x, NI ((i) + k), NI 0]) rfl rfl (gS (Yk.extract (vs := [NI x, NI ((i) + k), NI 0]) rfl rfl (gS (Yk.extract (vs := [NI x, NI ((i) + k), NI 0]) rfl rfl (gS (Yk.eqI (a := (0 : Nat)) (b := (0 : Nat)) rfl rfl (k_neq _ _ _ _) (kF (by decide) (cF rfl (gS (Yk.bin (xv := NI x) (yv := NI 2) rfl rfl rfl (i64_quo _ _ _ (by omega) (by omega)) (gS (Yk.bin (xv := NI x) (yv := NI 2) rfl rfl rfl (i64_rem _ _ _ (by omega)) (gS (Yk.eqI (a := ((x) % (2) : Nat)) (b := (1 : Nat)) rfl rfl (k_eql _ _ _ _) ?_)))))))))))))))
 refine cD rfl (fun hodd => ?_) fun hodd => ?_
 ·rcases hgp : lebDec 0 (D.drop (i + k)) with _ | ⟨p, m⟩
  ·have hE := hE.trans hx9
   refine gS (Yk.callA2 del10_pl63 rfl rfl ((getNo _ v D (hr.keep hE) ((i) + k) (by omega) hgp).mono ?_))
   rintro e w20 ⟨rfl, hx19⟩
   refine ⟨_, rfl, ?_⟩
   refine gS (Yk.extract (vs := [NI 0, NI 0, NI 6]) rfl rfl (gS (Yk.extract (vs := [NI 0, NI 0, NI 6]) rfl rfl (gS (Yk.extract (vs := [NI 0, NI 0, NI 6]) rfl rfl (gS (Yk.eqI (a := (6 : Nat)) (b := (0 : Nat)) rfl rfl (k_neq _ _ _ _) (kT (by decide) (cT rfl (rt3 rfl (vr (Value.slice none 0 0) rfl) (vr (NI 0) rfl) (vr (.bool (false)) rfl) ?_))))))))))
   rw [pieceP, hgx]; simp only
   rw [if_pos hodd, hgp]
   have hE := hE.trans hx19
   refine ⟨?_, hE⟩
   first | rfl | trivial
  have hqp := lebDec_bound (a := i + k) (by omega) hgp
  have hE := hE.trans hx9
  refine gS (Yk.callA2 del10_pl63 rfl rfl ((getYes _ v D (hr.keep hE) ((i) + k) (by omega) p m hgp).mono ?_))
  rintro e w26 ⟨rfl, hx25⟩
  refine ⟨_, rfl, ?_⟩
  refine gS (Yk.extract (vs := [NI p, NI (((i) + k) + m), NI 0]) rfl rfl (gS (Yk.extract (vs := [NI p, NI (((i) + k) + m), NI 0]) rfl rfl (gS (Yk.extract (vs := [NI p, NI (((i) + k) + m), NI 0]) rfl rfl (gS (Yk.eqI (a := (0 : Nat)) (b := (0 : Nat)) rfl rfl (k_neq _ _ _ _) (kF (by decide) (cF rfl ?_)))))))))
  by_cases hs1 : x / 2 < 1
  ·refine gS (Yk.eqI (a := ((x) / (2) : Nat)) (b := (1 : Nat)) rfl rfl (k_lss _ _ _ _) (kT (hs1) (gS (Yk.pickT rfl rfl (gS (Yk.pickT rfl rfl (cT rfl (rt3 rfl (vr (Value.slice none 0 0) rfl) (vr (NI 0) rfl) (vr (.bool (false)) rfl) ?_))))))))
   rw [pieceP, hgx]; simp only
   rw [if_pos hodd, hgp]; simp only
   rw [cutP, if_pos (by omega)]
   have hE := hE.trans hx25
   refine ⟨?_, hE⟩
   first | rfl | trivial
  by_cases hs2 : B.length < p
  ·have hE := hE.trans hx25
   refine gS (Yk.eqI (a := ((x) / (2) : Nat)) (b := (1 : Nat)) rfl rfl (k_lss _ _ _ _) (kF (hs1) (gS (Yk.lenRB del10_ty24 (RB.of (hrb.keep hE) rfl) (gS (Yk.eqI (a := (p : Nat)) (b := (B.length : Nat)) rfl rfl (k_gtr _ _ _ _) (kT (hs2) (gS (Yk.pickF rfl rfl (gS (Yk.pickT rfl rfl (cT rfl (rt3 rfl (vr (Value.slice none 0 0) rfl) (vr (NI 0) rfl) (vr (.bool (false)) rfl) ?_)))))))))))))
   rw [pieceP, hgx]; simp only
   rw [if_pos hodd, hgp]; simp only
   rw [cutP, if_pos (by omega)]
   refine ⟨?_, hE⟩
   first | rfl | trivial
  by_cases hs3 : B.length - (p) < x / 2
  ·have hE := hE.trans hx25
   refine gS (Yk.eqI (a := ((x) / (2) : Nat)) (b := (1 : Nat)) rfl rfl (k_lss _ _ _ _) (kF (hs1) (gS (Yk.lenRB del10_ty24 (RB.of (hrb.keep hE) rfl) (gS (Yk.eqI (a := (p : Nat)) (b := (B.length : Nat)) rfl rfl (k_gtr _ _ _ _) (kF (hs2) (gS (Yk.pickF rfl rfl (gS (Yk.lenRB del10_ty24 (RB.of (hrb.keep hE) rfl) (gS (Yk.bin (xv := NI B.length) (yv := NI p) rfl rfl rfl (i64_sub _ _ _ (by omega) (by omega)) (gS (Yk.eqI (a := ((x) / (2) : Nat)) (b := ((B.length) - (p) : Nat)) rfl rfl (k_gtr _ _ _ _) (kT (hs3) (gS (Yk.pickF rfl rfl (cT rfl (rt3 rfl (vr (Value.slice none 0 0) rfl) (vr (NI 0) rfl) (vr (.bool (false)) rfl) ?_))))))))))))))))))))
   rw [pieceP, hgx]; simp only
   rw [if_pos hodd, hgp]; simp only
   rw [cutP, if_pos (by omega)]
   refine ⟨?_, hE⟩
   first | rfl | trivial
  have hE := hE.trans hx25
  refine gS (Yk.eqI (a := ((x) / (2) : Nat)) (b := (1 : Nat)) rfl rfl (k_lss _ _ _ _) (kF (hs1) (gS (Yk.lenRB del10_ty24 (RB.of (hrb.keep hE) rfl) (gS (Yk.eqI (a := (p : Nat)) (b := (B.length : Nat)) rfl rfl (k_gtr _ _ _ _) (kF (hs2) (gS (Yk.pickF rfl rfl (gS (Yk.lenRB del10_ty24 (RB.of (hrb.keep hE) rfl) (gS (Yk.bin (xv := NI B.length) (yv := NI p) rfl rfl rfl (i64_sub _ _ _ (by omega) (by omega)) (gS (Yk.eqI (a := ((x) / (2) : Nat)) (b := ((B.length) - (p) : Nat)) rfl rfl (k_gtr _ _ _ _) (kF (hs3) (gS (Yk.pickF rfl rfl (cF rfl (gS (Yk.bin (xv := NI x) (yv := NI 2) rfl rfl rfl (i64_rem _ _ _ (by omega)) (gS (Yk.eqI (a := ((x) % (2) : Nat)) (b := (0 : Nat)) rfl rfl (k_eql _ _ _ _) (kF (by omega) (cF rfl (gS (Yk.bin (xv := NI p) (yv := NI ((x) / (2))) rfl rfl rfl (i64_add _ _ _ (by omega)) (gS (Yk.sliceLH (xs := B) (l := p) (n := (p) + ((x) / (2))) del10_ty24 del10_sz5 rfl (hrb.keep hE) rfl rfl (by omega) (by omega) fun v42 hr43 ha44 => (rt3 rfl (vr v42 rfl) (vr (NI (((i) + k) + m)) rfl) (vr (.bool (true)) rfl) ?_))))))))))))))))))))))))))))))
  rw [pieceP, hgx]; simp only
  rw [if_pos hodd, hgp]; simp only
  rw [cutP, if_neg (by omega)]
  refine ⟨⟨_, rfl, ?_⟩, hE⟩
  simpa only [Nat.add_sub_cancel_left] using hr43
 by_cases hs1 : x / 2 < 1
 ·refine gS (Yk.eqI (a := ((x) / (2) : Nat)) (b := (1 : Nat)) rfl rfl (k_lss _ _ _ _) (kT (hs1) (gS (Yk.pickT rfl rfl (gS (Yk.pickT rfl rfl (cT rfl (rt3 rfl (vr (Value.slice none 0 0) rfl) (vr (NI 0) rfl) (vr (.bool (false)) rfl) ?_))))))))
  rw [pieceP, hgx]; simp only
  rw [if_neg hodd]
  rw [cutP, if_pos (by omega)]
  have hE := hE.trans hx9
  refine ⟨?_, hE⟩
  first | rfl | trivial
 by_cases hs2 : D.length < i + k
 ·have hE := hE.trans hx9
  refine gS (Yk.eqI (a := ((x) / (2) : Nat)) (b := (1 : Nat)) rfl rfl (k_lss _ _ _ _) (kF (hs1) (gS (Yk.lenRB del10_ty24 (RB.of (hr.keep hE) rfl) (gS (Yk.eqI (a := ((i) + k : Nat)) (b := (D.length : Nat)) rfl rfl (k_gtr _ _ _ _) (kT (hs2) (gS (Yk.pickF rfl rfl (gS (Yk.pickT rfl rfl (cT rfl (rt3 rfl (vr (Value.slice none 0 0) rfl) (vr (NI 0) rfl) (vr (.bool (false)) rfl) ?_)))))))))))))
  rw [pieceP, hgx]; simp only
  rw [if_neg hodd]
  rw [cutP, if_pos (by omega)]
  refine ⟨?_, hE⟩
  first | rfl | trivial
 by_cases hs3 : D.length - (i + k) < x / 2
 ·have hE := hE.trans hx9
  refine gS (Yk.eqI (a := ((x) / (2) : Nat)) (b := (1 : Nat)) rfl rfl (k_lss _ _ _ _) (kF (hs1) (gS (Yk.lenRB del10_ty24 (RB.of (hr.keep hE) rfl) (gS (Yk.eqI (a := ((i) + k : Nat)) (b := (D.length : Nat)) rfl rfl (k_gtr _ _ _ _) (kF (hs2) (gS (Yk.pickF rfl rfl (gS (Yk.lenRB del10_ty24 (RB.of (hr.keep hE) rfl) (gS (Yk.bin (xv := NI D.length) (yv := NI ((i) + k)) rfl rfl rfl (i64_sub _ _ _ (by omega) (by omega)) (gS (Yk.eqI (a := ((x) / (2) : Nat)) (b := ((D.length) - ((i) + k) : Nat)) rfl rfl (k_gtr _ _ _ _) (kT (hs3) (gS (Yk.pickF rfl rfl (cT rfl (rt3 rfl (vr (Value.slice none 0 0) rfl) (vr (NI 0) rfl) (vr (.bool (false)) rfl) ?_))))))))))))))))))))
  rw [pieceP, hgx]; simp only
  rw [if_neg hodd]
  rw [cutP, if_pos (by omega)]
  refine ⟨?_, hE⟩
  first | rfl | trivial
 have hE := hE.trans hx9
 refine gS (Yk.eqI (a := ((x) / (2) : Nat)) (b := (1 : Nat)) rfl rfl (k_lss _ _ _ _) (kF (hs1) (gS (Yk.lenRB del10_ty24 (RB.of (hr.keep hE) rfl) (gS (Yk.eqI (a := ((i) + k : Nat)) (b := (D.length : Nat)) rfl rfl (k_gtr _ _ _ _) (kF (hs2) (gS (Yk.pickF rfl rfl (gS (Yk.lenRB del10_ty24 (RB.of (hr.keep hE) rfl) (gS (Yk.bin (xv := NI D.length) (yv := NI ((i) + k)) rfl rfl rfl (i64_sub _ _ _ (by omega) (by omega)) (gS (Yk.eqI (a := ((x) / (2) : Nat)) (b := ((D.length) - ((i) + k) : Nat)) rfl rfl (k_gtr _ _ _ _) (kF (hs3) (gS (Yk.pickF rfl rfl (cF rfl (gS (Yk.bin (xv := NI x) (yv := NI 2) rfl rfl rfl (i64_rem _ _ _ (by omega)) (gS (Yk.eqI (a := ((x) % (2) : Nat)) (b := (0 : Nat)) rfl rfl (k_eql _ _ _ _) (kT (by omega) (cT rfl (gS (Yk.bin (xv := NI ((i) + k)) (yv := NI ((x) / (2))) rfl rfl rfl (i64_add _ _ _ (by omega)) (gS (Yk.bin (xv := NI ((i) + k)) (yv := NI ((x) / (2))) rfl rfl rfl (i64_add _ _ _ (by omega)) (gS (Yk.sliceLH (xs := D) (l := (i) + k) (n := ((i) + k) + ((x) / (2))) del10_ty24 del10_sz5 rfl (hr.keep hE) rfl rfl (by omega) (by omega) fun v59 hr60 ha61 => (rt3 rfl (vr v59 rfl) (vr (NI (((i) + k) + ((x) / (2)))) rfl) (vr (.bool (true)) rfl) ?_))))))))))))))))))))))))))))))))
 rw [pieceP, hgx]; simp only
 rw [if_neg hodd]
 rw [cutP, if_neg (by omega)]
 refine ⟨⟨_, rfl, ?_⟩, hE⟩
 simpa only [Nat.add_sub_cancel_left] using hr60
open Go.RowKit
set_option maxRecDepth 100000
theorem del11_pl88 : Plain Tryd.prog 88 := fun _ _ => by kernel_rfl
theorem del11_ty24 : Tryd.prog.underlying 24 = some (.slice 5) := by kernel_rfl
theorem del11_pl89 : Plain Tryd.prog 89 := fun _ _ => by kernel_rfl
theorem del11_inf5 : (Tryd.prog.info? 5).map (fun i => (i.zero, i.size, i.bytes)) = some (some (.int .u8 0), 1, 1) := by kernel_rfl
theorem piece_no (w : World) (vb v : Value) (B D : List UInt8) (hrb : RB w vb B) (hr : RB w v D) (i : Nat) (hi : i ≤ D.length) (hB : B.length ≤ 1048576) (hD : D.length ≤ 4611686018427387904) (h : pieceP B D i = none) :
  Calls Tryd.prog 89 #[vb, v, NI i] w fun e w' => e = .returned (.tuple #[.slice none 0 0, NI 0, .bool false]) ∧ Ext w w' := by
 have := piece_any w vb v B D hrb hr i hi hB hD
 rw [h] at this
 exact this
theorem piece_yes (w : World) (vb v : Value) (B D : List UInt8) (hrb : RB w vb B) (hr : RB w v D) (i : Nat) (hi : i ≤ D.length) (hB : B.length ≤ 1048576) (hD : D.length ≤ 4611686018427387904) (b : List UInt8) (nx : Nat) (h : pieceP B D i = some (b, nx)) :
  Calls Tryd.prog 89 #[vb, v, NI i] w fun e w' => ∃ v', e = .returned (.tuple #[v', NI nx, .bool true]) ∧ RB w' v' b ∧ Ext w w' := by
 have := piece_any w vb v B D hrb hr i hi hB hD
 rw [h] at this
 exact this.mono fun e w' ⟨⟨v', h1, h2⟩, h3⟩ => ⟨v', h1, h2, h3⟩

theorem apply_new (w : World) (vb v : Value) (B D : List UInt8) (hrb : RB w vb B) (hr : RB w v D) (hB : B.length ≤ 1048576) (hD : D.length ≤ 4611686018427387904) :
  Calls Tryd.prog 77 #[vb, v] w fun e w' => ∃ v', e = .returned (.tuple #[v', NI (applyP B D).2]) ∧ RB w' v' (applyP B D).1 ∧ Ext w w' ∧ ∀ k, Value.ownBlock v' = some k → w.heap.size ≤ k ∧ k < w'.heap.size := by
 refine gG (args := [vb, v]) Tryd.func77 rfl 65 rfl rfl ?_
 have hE := Ext.refl w
 rcases hsz : sizesP D with _ | ⟨sa, sb, sn⟩
 ·refine gS (Yk.callA1 del11_pl88 rfl ((sizes_no _ v D (hr.keep hE) hsz).mono ?_))
  rintro e w4 ⟨rfl, hx3⟩
  refine ⟨_, rfl, ?_⟩
  refine gS (Yk.extract (vs := [NI 0, NI 0, NI 0, NI 6]) rfl rfl (gS (Yk.extract (vs := [NI 0, NI 0, NI 0, NI 6]) rfl rfl (gS (Yk.extract (vs := [NI 0, NI 0, NI 0, NI 6]) rfl rfl (gS (Yk.extract (vs := [NI 0, NI 0, NI 0, NI 6]) rfl rfl (gS (Yk.eqI (a := (6 : Nat)) (b := (0 : Nat)) rfl rfl (k_neq _ _ _ _) (kT (by decide) (cT rfl (rt2 rfl (vr (Value.slice none 0 0) rfl) (vr (NI 6) rfl) ?_))))))))))))
  have hP : applyP B D = ([], 6) := by rw [applyP, hsz]
  rw [hP]
  have hE := hE.trans hx3
  exact ⟨_, rfl, RB.nil _, hE, (fun k hk => by cases hk)⟩
 have hsb := sizesP_bound hsz
 refine gS (Yk.callA1 del11_pl88 rfl ((sizes_yes _ v D (hr.keep hE) sa sb sn hsz).mono ?_))
 rintro e w10 ⟨rfl, hx9⟩
 refine ⟨_, rfl, ?_⟩
 refine gS (Yk.extract (vs := [NI sa, NI sb, NI sn, NI 0]) rfl rfl (gS (Yk.extract (vs := [NI sa, NI sb, NI sn, NI 0]) rfl rfl (gS (Yk.extract (vs := [NI sa, NI sb, NI sn, NI 0]) rfl rfl (gS (Yk.extract (vs := [NI sa, NI sb, NI sn, NI 0]) rfl rfl (gS (Yk.eqI (a := (0 : Nat)) (b := (0 : Nat)) rfl rfl (k_neq _ _ _ _) (kF (by decide) (cF rfl (gS (Yk.eqI (a := (sb : Nat)) (b := (262144 : Nat)) rfl rfl (k_gtr _ _ _ _) ?_)))))))))))))
 refine cD rfl (fun hc1 => ?_) fun hc1 => ?_
 ·refine rt2 rfl (vr (Value.slice none 0 0) rfl) (vr (NI 2) rfl) ?_
  have hP : applyP B D = ([], 2) := by rw [applyP, hsz]; simp only; rw [if_pos hc1]
  rw [hP]
  have hE := hE.trans hx9
  exact ⟨_, rfl, RB.nil _, hE, (fun k hk => by cases hk)⟩
 have hE := hE.trans hx9
 refine gS (Yk.lenRB del11_ty24 (RB.of (hrb.keep hE) rfl) (gS (Yk.eqI (a := (sa : Nat)) (b := (B.length : Nat)) rfl rfl (k_neq _ _ _ _) ?_)))
 refine cD rfl (fun hc2 => ?_) fun hc2 => ?_
 ·refine rt2 rfl (vr (Value.slice none 0 0) rfl) (vr (NI 6) rfl) ?_
  have hP : applyP B D = ([], 6) := by rw [applyP, hsz]; simp only; rw [if_neg hc1, if_pos hc2]
  rw [hP]
  exact ⟨_, rfl, RB.nil _, hE, (fun k hk => by cases hk)⟩
 have hoN : w.ownsRow w.heap.size 5 1 (Value.slice none 0 0) ([] : List UInt8).length (Lib.byteCells ([] : List UInt8)) := World.ownsRow_nil _ _ _ 1
 have hoN : w10.ownsRow w.heap.size 5 1 (Value.slice none 0 0) ([] : List UInt8).length (Lib.byteCells ([] : List UInt8)) := World.ownsRow_nil _ _ _ 1
 refine gL (fun (ρ : Slots) (wz : World) => ∃ i : Nat, ∃ f : Nat, ∃ o : List UInt8, ∃ vo : Value, ρ 0 = (vb : Value) ∧ ρ 1 = (v : Value) ∧ ρ 6 = (NI sa : Value) ∧ ρ 7 = (NI sb : Value) ∧ ρ 9 = (NI 0 : Value) ∧ ρ 21 = (.bool (false) : Value) ∧ ρ 8 = (NI i : Value) ∧ ρ 10 = (vo : Value) ∧ Ext w wz ∧ wz.ownsRow w.heap.size 5 1 vo o.length (Lib.byteCells (o)) ∧ (applyGo B D sb f i o = applyGo B D sb (D.length + 1) sn []) ∧ (D.length < i + f) ∧ (i ≤ D.length) ∧ (o.length ≤ sb) ∧ True) (fun ρ _ => D.length - (intOf (ρ 8)).toNat) ⟨sn, D.length + 1, [], (Value.slice none 0 0), rfl, rfl, rfl, rfl, rfl, rfl, rfl, rfl, hE, own_eq hoN (rfl), rfl, by omega, by omega, by simp, trivial⟩ ?_
 clear hoN
 clear hE
 rintro ρ19 w20 ⟨i, f, o, vo, T0, T1, T6, T7, T9, T21, T8, T10, hE, ho_vo, hgo, hf, hi, hos, -⟩
 have q8 := T8
 have ql10 := own_sliceLen ho_vo
 obtain ⟨f', rfl⟩ : ∃ f', f = f' + 1 := ⟨f - 1, by omega⟩
 refine gS (Yk.lenRB del11_ty24 (RB.of (hr.keep hE) T1) (gS (Yk.eqI (a := (i : Nat)) (b := (D.length : Nat)) T8 rfl (k_lss _ _ _ _) ?_)))
 refine cD rfl (fun hc3 => ?_) fun hc3 => ?_
 ·rcases hpc : pieceP B D i with _ | ⟨pb, nx⟩
  ·refine gS (Yk.callA3 del11_pl89 T0 T1 T8 ((piece_no _ vb v B D (hrb.keep hE) (hr.keep hE) i (by omega) hB hD hpc).mono ?_))
   rintro e w25 ⟨rfl, hx24⟩
   refine ⟨_, rfl, ?_⟩
   refine gS (Yk.extract (vs := [(Value.slice none 0 0), NI 0, .bool (false)]) rfl rfl (gS (Yk.extract (vs := [(Value.slice none 0 0), NI 0, .bool (false)]) rfl rfl (gS (Yk.extract (vs := [(Value.slice none 0 0), NI 0, .bool (false)]) rfl rfl (gS (Yk.notB rfl (gS (Yk.pickT rfl rfl (cT rfl (rt2 rfl (vr (Value.slice none 0 0) rfl) (vr (NI 6) rfl) ?_)))))))))))
   rw [applyGo, if_pos hc3, hpc] at hgo
   have hP : applyP B D = ([], 6) := by rw [applyP, hsz]; simp only; rw [if_neg hc1, if_neg hc2, ← hgo]
   rw [hP]
   have hE := hE.trans hx24
   exact ⟨_, rfl, RB.nil _, hE, (fun k hk => by cases hk)⟩
  have hpb := pieceP_bound (by omega) hpc
  refine gS (Yk.callA3 del11_pl89 T0 T1 T8 ((piece_yes _ vb v B D (hrb.keep hE) (hr.keep hE) i (by omega) hB hD pb nx hpc).mono ?_))
  rintro e w33 ⟨v30, rfl, hr31, hx32⟩
  refine ⟨_, rfl, ?_⟩
  have ho_vo := Stab.own _ _ _ _ _ _ _ _ ho_vo hx32
  refine gS (Yk.extract (vs := [v30, NI nx, .bool (true)]) rfl rfl (gS (Yk.extract (vs := [v30, NI nx, .bool (true)]) rfl rfl (gS (Yk.extract (vs := [v30, NI nx, .bool (true)]) rfl rfl (gS (Yk.notB rfl (gS (Yk.lenRB del11_ty24 (RB.of hr31 rfl) (gS (Yk.lenRB del11_ty24 (RB.of (RB.ofOwn ho_vo) T10) (gS (Yk.bin (xv := NI sb) (yv := NI o.length) T7 rfl rfl (i64_sub _ _ _ (by omega) (by omega)) (gS (Yk.eqI (a := (pb.length : Nat)) (b := ((sb) - (o.length) : Nat)) rfl rfl (k_gtr _ _ _ _) (gS (Yk.pickF rfl rfl ?_)))))))))))))))))
  refine cD rfl (fun hc4 => ?_) fun hc4 => ?_
  ·refine rt2 rfl (vr (Value.slice none 0 0) rfl) (vr (NI 6) rfl) ?_
   rw [applyGo, if_pos hc3, hpc] at hgo
   simp only at hgo; rw [if_pos hc4] at hgo
   have hP : applyP B D = ([], 6) := by rw [applyP, hsz]; simp only; rw [if_neg hc1, if_neg hc2, ← hgo]
   rw [hP]
   have hE := hE.trans hx32
   exact ⟨_, rfl, RB.nil _, hE, (fun k hk => by cases hk)⟩
  have hE := hE.trans hx32
  refine gS (Yk.appendRB _ _ w.heap.size (.int .u8 0) del11_ty24 del11_inf5 rfl del11_ty24 (o) (pb) (own_of ho_vo T10) (RB.of hr31 (vr v30 rfl)) (by omega) hE.size fun v37 w38 ho39 hg40 => ?_)
  have hg40 : Grew w33 w38 vo v37 := .eqv T10 hg40
  have hE := ext_grew hE hg40 ho_vo (Nat.le_refl _)
  clear hr31
  clear ho_vo
  refine gK (And.intro ⟨nx, f', o ++ pb, v37, T0, T1, T6, T7, T9, T21, rfl, rfl, hE, own_eq ho39 (rfl), by rw [applyGo, if_pos hc3, hpc] at hgo; simp only at hgo; rw [if_neg hc4] at hgo; exact hgo, by omega, by omega, by rw [List.length_append]; omega, trivial⟩ ?_)
  show D.length - (intOf (NI nx)).toNat < D.length - (intOf (ρ19 8)).toNat
  rw [q8]
  simp only [intOf, Int.toNat_natCast]; omega
 refine gS (Yk.lenRB del11_ty24 (RB.of (RB.ofOwn ho_vo) T10) (gS (Yk.eqI (a := (o.length : Nat)) (b := (sb : Nat)) rfl T7 (k_neq _ _ _ _) ?_)))
 refine cD rfl (fun hc5 => ?_) fun hc5 => ?_
 ·refine rt2 rfl (vr (Value.slice none 0 0) rfl) (vr (NI 6) rfl) ?_
  rw [applyGo, if_neg hc3, if_neg hc5] at hgo
  have hP : applyP B D = ([], 6) := by rw [applyP, hsz]; simp only; rw [if_neg hc1, if_neg hc2, ← hgo]
  rw [hP]
  exact ⟨_, rfl, RB.nil _, hE, (fun k hk => by cases hk)⟩
 refine rt2 rfl T10 (vr (NI 0) rfl) ?_
 rw [applyGo, if_neg hc3, if_pos (by omega)] at hgo
 have hP : applyP B D = (o, 0) := by rw [applyP, hsz]; simp only; rw [if_neg hc1, if_neg hc2, ← hgo]
 rw [hP]
 exact ⟨_, rfl, RB.ofOwn ho_vo, hE, (ho_vo).lt⟩

open Go.RowKit
theorem flushP_ex (T : List UInt8) (fr to : Nat) (o : List UInt8) : ∃ r, flushP T fr to o = o ++ r := by
  unfold flushP
  split
  · exact ⟨Lib.uvarint (2 * (to - fr)) ++ (T.drop fr).take (to - fr), by rw [List.append_assoc]⟩
  · exact ⟨[], by simp⟩
theorem makeGo_ex (B T : List UInt8) : ∀ (f i fr : Nat) (o : List UInt8), ∃ r, makeGo B T f i fr o = o ++ r
  | 0, _, fr, o => flushP_ex T fr T.length o
  | f + 1, i, fr, o => by
    unfold makeGo
    split
    · split
      · exact makeGo_ex B T f _ _ _
      · obtain ⟨r, hr⟩ := makeGo_ex B T f (i + (best B T i).2) (i + (best B T i).2) (flushP T fr i o ++ Lib.uvarint (2 * (best B T i).2 + 1) ++ Lib.uvarint (best B T i).1)
        obtain ⟨q, hq⟩ := flushP_ex T fr i o
        exact ⟨q ++ Lib.uvarint (2 * (best B T i).2 + 1) ++ Lib.uvarint (best B T i).1 ++ r, by rw [hr, hq]; simp only [List.append_assoc]⟩
    · exact flushP_ex T fr T.length o
theorem lebDec_uv (n : Nat) (h : n < 9223372036854775808) (r : List UInt8) : lebDec 0 (Lib.uvarint n ++ r) = some (n, (Lib.uvarint n).length) := lebDec_uvarint r 8 n 0 (Nat.lt_of_lt_of_le h (by decide)) (by omega) (by omega)
theorem makeP_sizes (B T : List UInt8) (hB : B.length ≤ 1048576) (hT : T.length ≤ 1048576) : sizesP (makeP B T) = some (B.length, T.length, 0 + (Lib.uvarint B.length).length + (Lib.uvarint T.length).length) := by
  obtain ⟨r, hr⟩ := makeGo_ex B T T.length 0 0 (Lib.uvarint B.length ++ Lib.uvarint T.length)
  have h1 : makeP B T = Lib.uvarint B.length ++ (Lib.uvarint T.length ++ r) := by rw [makeP, hr, List.append_assoc]
  unfold sizesP
  rw [h1, List.drop_zero, lebDec_uv _ (by omega)]
  simp only
  rw [Nat.zero_add, List.drop_left, lebDec_uv _ (by omega)]
open Go.RowKit
theorem fold_le (B T : List UInt8) (i : Nat) (hi : i ≤ T.length) : ∀ (zs : List Nat) (pn : Nat × Nat), (∀ z ∈ zs, z ≤ B.length) → pn.1 ≤ B.length → pn.2 ≤ T.length - i → (zs.foldl (bstep B T i) pn).1 ≤ B.length ∧ (zs.foldl (bstep B T i) pn).2 ≤ T.length - i
  | [], _, _, h1, h2 => ⟨h1, h2⟩
  | z :: zs, pn, hz, h1, h2 => by
    rw [List.foldl_cons]
    refine fold_le B T i hi zs _ (fun x hx => hz x (by simp [hx])) ?_ ?_
    · unfold bstep
      split
      · exact hz z (by simp)
      · exact h1
    · unfold bstep
      split
      · have := (lcp_le (B.drop z) (T.drop i)).2
        rw [List.length_drop] at this
        exact this
      · exact h2
theorem best_le (B T : List UInt8) (i : Nat) (hi : i ≤ T.length) : (best B T i).1 ≤ B.length ∧ (best B T i).2 ≤ T.length - i := by
  unfold best
  split
  · refine fold_le B T i hi _ _ (fun z hz => ?_) (Nat.zero_le _) (Nat.zero_le _)
    unfold posOf at hz
    rw [List.mem_filter, List.mem_range] at hz
    omega
  · exact ⟨Nat.zero_le _, Nat.zero_le _⟩
open Go.RowKit
theorem lcp_take : ∀ (a b : List UInt8) (n : Nat), n ≤ lcp a b → a.take n = b.take n
  | _, _, 0, _ => by simp
  | [], b, n + 1, h => by simp [lcp] at h
  | a :: u, [], n + 1, h => by simp [lcp] at h
  | a :: u, b :: z, n + 1, h => by
    unfold lcp at h
    split at h
    · rename_i e
      rw [List.take_succ_cons, List.take_succ_cons, e, lcp_take u z n (by omega)]
    · omega
theorem lcp_ge : ∀ (n : Nat) (a b : List UInt8), n ≤ a.length → n ≤ b.length → a.take n = b.take n → n ≤ lcp a b
  | 0, _, _, _, _, _ => Nat.zero_le _
  | n + 1, [], _, h, _, _ => by simp at h
  | n + 1, _ :: _, [], _, h, _ => by simp at h
  | n + 1, a :: u, b :: z, h1, h2, h => by
    rw [List.take_succ_cons, List.take_succ_cons] at h
    injection h with e1 e2
    unfold lcp
    rw [if_pos e1]
    have := lcp_ge n u z (by simpa using h1) (by simpa using h2) e2
    omega
theorem fold_is (B T : List UInt8) (i : Nat) : ∀ (zs : List Nat) (pn : Nat × Nat), (pn.2 = 0 ∨ pn.2 = lcp (B.drop pn.1) (T.drop i) ∧ 8 ≤ pn.2) → (∀ z ∈ zs, 8 ≤ lcp (B.drop z) (T.drop i)) → (zs.foldl (bstep B T i) pn).2 = 0 ∨ (zs.foldl (bstep B T i) pn).2 = lcp (B.drop (zs.foldl (bstep B T i) pn).1) (T.drop i) ∧ 8 ≤ (zs.foldl (bstep B T i) pn).2
  | [], _, h, _ => h
  | z :: zs, pn, h, hz => by
    rw [List.foldl_cons]
    refine fold_is B T i zs _ ?_ (fun x hx => hz x (by simp [hx]))
    unfold bstep
    split
    · exact .inr ⟨rfl, hz z (by simp)⟩
    · exact h
theorem best_is (B T : List UInt8) (i : Nat) (h : (best B T i).2 ≠ 0) : (best B T i).2 = lcp (B.drop (best B T i).1) (T.drop i) ∧ 8 ≤ (best B T i).2 := by
  have key : (best B T i).2 = 0 ∨ (best B T i).2 = lcp (B.drop (best B T i).1) (T.drop i) ∧ 8 ≤ (best B T i).2 := by
    unfold best
    split
    · rename_i h8
      refine fold_is B T i _ _ (.inl rfl) (fun z hz => ?_)
      unfold posOf at hz
      rw [List.mem_filter, List.mem_range] at hz
      have he := eq_of_beq hz.2
      exact lcp_ge 8 _ _ (by rw [List.length_drop]; omega) (by rw [List.length_drop]; omega) he
    · exact .inl rfl
  exact key.resolve_left h
def flushT (T : List UInt8) (fr to : Nat) : List UInt8 := if fr < to then Lib.uvarint (2 * (to - fr)) ++ (T.drop fr).take (to - fr) else []
def makeT (B T : List UInt8) : Nat → Nat → Nat → List UInt8
  | 0, _, fr => flushT T fr T.length
  | f + 1, i, fr => if i < T.length then (if (best B T i).2 = 0 then makeT B T f (i + 1) fr
      else flushT T fr i ++ (Lib.uvarint (2 * (best B T i).2 + 1) ++ (Lib.uvarint (best B T i).1 ++ makeT B T f (i + (best B T i).2) (i + (best B T i).2)))) else flushT T fr T.length
theorem flushP_T (T : List UInt8) (fr to : Nat) (o : List UInt8) : flushP T fr to o = o ++ flushT T fr to := by
  unfold flushP flushT
  split
  · rw [List.append_assoc]
  · simp
theorem makeGo_T (B T : List UInt8) : ∀ (f i fr : Nat) (o : List UInt8), makeGo B T f i fr o = o ++ makeT B T f i fr
  | 0, _, fr, o => flushP_T T fr T.length o
  | f + 1, i, fr, o => by
    unfold makeGo makeT
    split
    · split
      · exact makeGo_T B T f _ _ _
      · rw [makeGo_T B T f, flushP_T]
        simp only [List.append_assoc]
    · exact flushP_T T fr T.length o
theorem uv2 (n : Nat) (h : n < 16384) : (Lib.uvarint n).length ≤ 2 := Lib.uvarint_length 1 n (by omega)
theorem flushT_len (T : List UInt8) (fr to : Nat) (ht : to ≤ T.length) (hT : T.length ≤ 5000) : (flushT T fr to).length ≤ 2 * (to - fr) := by
  unfold flushT
  split
  · have h2 := uv2 (2 * (to - fr)) (by omega)
    rw [List.length_append, List.length_take, List.length_drop]
    by_cases h1 : to - fr = 1
    · rw [h1, Lib.uvarint_small (by omega)]
      simp
      omega
    · omega
  · simp
theorem makeT_len (B T : List UInt8) (hB : B.length ≤ 5000) (hT : T.length ≤ 5000) : ∀ (f i fr : Nat), fr ≤ i → i ≤ T.length → (makeT B T f i fr).length ≤ 2 * (T.length - fr)
  | 0, i, fr, _, _ => flushT_len T fr T.length (Nat.le_refl _) hT
  | f + 1, i, fr, h, hi => by
    unfold makeT
    split
    · split
      · exact makeT_len B T hB hT f (i + 1) fr (by omega) (by omega)
      · rename_i h1 hn
        have hb := best_le B T i hi
        have h8 := (best_is B T i hn).2
        have ih := makeT_len B T hB hT f (i + (best B T i).2) (i + (best B T i).2) (Nat.le_refl _) (by omega)
        have hf := flushT_len T fr i hi hT
        have u1 := uv2 (2 * (best B T i).2 + 1) (by omega)
        have u2 := uv2 (best B T i).1 (by omega)
        simp only [List.length_append]
        omega
    · exact flushT_len T fr T.length (Nat.le_refl _) hT
theorem makeP_T (B T : List UInt8) : makeP B T = Lib.uvarint B.length ++ Lib.uvarint T.length ++ makeT B T T.length 0 0 := makeGo_T B T _ _ _ _
theorem makeP_len (B T : List UInt8) (hB : B.length ≤ 5000) (hT : T.length ≤ 5000) : (makeP B T).length ≤ 2 * T.length + 18 := by
  have := makeT_len B T hB hT T.length 0 0 (Nat.le_refl _) (Nat.zero_le _)
  have u1 := uv2 B.length (by omega)
  have u2 := uv2 T.length (by omega)
  rw [makeP_T, List.length_append, List.length_append]
  omega
theorem piece_add (B pre bs rest : List UInt8) (h1 : 1 ≤ bs.length) (h2 : bs.length ≤ 1048576) : pieceP B (pre ++ (Lib.uvarint (2 * bs.length) ++ (bs ++ rest))) pre.length = some (bs, pre.length + (Lib.uvarint (2 * bs.length)).length + bs.length) := by
  unfold pieceP
  rw [List.drop_left, lebDec_uv _ (by omega)]
  simp only
  rw [if_neg (by omega), cutP, if_neg (by simp only [List.length_append]; omega), Nat.mul_div_cancel_left _ (by decide)]
  rw [show pre ++ (Lib.uvarint (2 * bs.length) ++ (bs ++ rest)) = (pre ++ Lib.uvarint (2 * bs.length)) ++ (bs ++ rest) by rw [List.append_assoc], ← List.length_append, List.drop_left, List.take_left]
theorem piece_copy (B pre rest : List UInt8) (p n : Nat) (hn : 1 ≤ n) (hp : p ≤ B.length) (hpn : n ≤ B.length - p) (hB : B.length ≤ 1048576) : pieceP B (pre ++ (Lib.uvarint (2 * n + 1) ++ (Lib.uvarint p ++ rest))) pre.length = some ((B.drop p).take n, pre.length + (Lib.uvarint (2 * n + 1)).length + (Lib.uvarint p).length) := by
  unfold pieceP
  rw [List.drop_left, lebDec_uv _ (by omega)]
  simp only
  rw [if_pos (by omega), show pre ++ (Lib.uvarint (2 * n + 1) ++ (Lib.uvarint p ++ rest)) = (pre ++ Lib.uvarint (2 * n + 1)) ++ (Lib.uvarint p ++ rest) by rw [List.append_assoc], ← List.length_append, List.drop_left, lebDec_uv _ (by omega)]
  simp only
  rw [show (2 * n + 1) / 2 = n by omega, cutP, if_neg (by omega)]
theorem take_more (T : List UInt8) (fr to : Nat) (h : fr ≤ to) : T.take fr ++ (T.drop fr).take (to - fr) = T.take to := by
  rw [← List.take_add]
  congr 1
  omega
theorem flush_read (B T pre rest : List UInt8) (fr to : Nat) (h : fr ≤ to) (ht : to ≤ T.length) (hT : T.length ≤ 1048576) (g : Nat) (hg : (flushT T fr to ++ rest).length < g) : ∃ g', rest.length < g' ∧ applyGo B (pre ++ (flushT T fr to ++ rest)) T.length g pre.length (T.take fr) = applyGo B (pre ++ (flushT T fr to ++ rest)) T.length g' (pre ++ flushT T fr to).length (T.take to) := by
  by_cases hlt : fr < to
  · have hl : ((T.drop fr).take (to - fr)).length = to - fr := by rw [List.length_take, List.length_drop]; omega
    have hf : flushT T fr to = Lib.uvarint (2 * ((T.drop fr).take (to - fr)).length) ++ (T.drop fr).take (to - fr) := by rw [flushT, if_pos hlt, hl]
    have hfl : 1 ≤ (flushT T fr to).length := by rw [hf, List.length_append, hl]; omega
    cases g with
    | zero => omega
    | succ g =>
      refine ⟨g, by rw [List.length_append] at hg; omega, ?_⟩
      rw [applyGo, if_pos (by simp only [List.length_append]; omega)]
      have hp := piece_add B pre ((T.drop fr).take (to - fr)) rest (by omega) (by omega)
      rw [show pre ++ (flushT T fr to ++ rest) = pre ++ (Lib.uvarint (2 * ((T.drop fr).take (to - fr)).length) ++ ((T.drop fr).take (to - fr) ++ rest)) by rw [hf, List.append_assoc], hp]
      simp only
      rw [if_neg (by rw [hl, List.length_take]; omega), take_more T fr to h]
      congr 1
      rw [hf]
      simp only [List.length_append]
      omega
  · have he : fr = to := by omega
    subst he
    have hf : flushT T fr fr = [] := by rw [flushT, if_neg (by omega)]
    rw [hf] at hg ⊢
    exact ⟨g, by simpa using hg, by simp⟩
theorem applyGo_end (B D T : List UInt8) (g : Nat) (hg : 0 < g) : applyGo B D T.length g D.length (T.take T.length) = some T := by
  cases g with
  | zero => omega
  | succ g => rw [applyGo, if_neg (by omega), List.take_length, if_pos rfl]
theorem last_read (B T pre : List UInt8) (fr : Nat) (h : fr ≤ T.length) (hT : T.length ≤ 1048576) (g : Nat) (hg : (flushT T fr T.length).length < g) : applyGo B (pre ++ flushT T fr T.length) T.length g pre.length (T.take fr) = some T := by
  obtain ⟨g', h1, h2⟩ := flush_read B T pre [] fr T.length h (Nat.le_refl _) hT g (by simpa using hg)
  rw [List.append_nil] at h2
  rw [h2]
  exact applyGo_end B _ T g' (by omega)
theorem read_make (B T : List UInt8) (hB : B.length ≤ 1048576) (hT : T.length ≤ 1048576) : ∀ (f i fr : Nat) (pre : List UInt8) (g : Nat), fr ≤ i → i ≤ T.length → (makeT B T f i fr).length < g → applyGo B (pre ++ makeT B T f i fr) T.length g pre.length (T.take fr) = some T
  | 0, i, fr, pre, g, h1, h2, hg => last_read B T pre fr (by omega) hT g hg
  | f + 1, i, fr, pre, g, h1, h2, hg => by
    unfold makeT at hg ⊢
    split
    · rename_i hi
      rw [if_pos hi] at hg
      split
      · rename_i hn
        rw [if_pos hn] at hg
        exact read_make B T hB hT f (i + 1) fr pre g (by omega) (by omega) hg
      · rename_i hn
        rw [if_neg hn] at hg
        have hb := best_le B T i h2
        have hs := best_is B T i hn
        generalize best B T i = pn at *
        obtain ⟨p, n⟩ := pn
        simp only at hn hb hs hg ⊢
        have hpn := (lcp_le (B.drop p) (T.drop i)).1
        rw [List.length_drop] at hpn
        obtain ⟨g', h3, h4⟩ := flush_read B T pre (Lib.uvarint (2 * n + 1) ++ (Lib.uvarint p ++ makeT B T f (i + n) (i + n))) fr i h1 h2 hT g hg
        rw [h4]
        have hu := Lib.uvarint_pos (2 * n + 1)
        cases g' with
        | zero => omega
        | succ g' =>
          rw [← List.append_assoc pre, applyGo, if_pos (by simp only [List.length_append]; omega), piece_copy B (pre ++ flushT T fr i) _ p n (by omega) hb.1 (by omega) hB]
          simp only
          have hl : ((B.drop p).take n).length = n := by rw [List.length_take, List.length_drop]; omega
          rw [if_neg (by rw [hl, List.length_take]; omega), lcp_take (B.drop p) (T.drop i) n (by omega)]
          have ht : T.take i ++ (T.drop i).take n = T.take (i + n) := by
            have := take_more T i (i + n) (by omega)
            rwa [Nat.add_sub_cancel_left] at this
          rw [ht]
          have ih := read_make B T hB hT f (i + n) (i + n) (pre ++ flushT T fr i ++ Lib.uvarint (2 * n + 1) ++ Lib.uvarint p) g' (Nat.le_refl _) (by omega) (by simp only [List.length_append] at h3; omega)
          rw [← ih]
          simp only [List.append_assoc, List.length_append, Nat.add_assoc]
    · rename_i hi
      rw [if_neg hi] at hg
      exact last_read B T pre fr (by omega) hT g hg
theorem apply_make (B T : List UInt8) (hB : B.length ≤ 5000) (hT : T.length ≤ 5000) : applyP B (makeP B T) = (T, 0) := by
  unfold applyP
  rw [makeP_sizes B T (by omega) (by omega)]
  simp only
  rw [if_neg (by omega), if_neg (by simp), makeP_T, Nat.zero_add, ← List.length_append]
  have := read_make B T (by omega) (by omega) T.length 0 0 (Lib.uvarint B.length ++ Lib.uvarint T.length) ((Lib.uvarint B.length ++ Lib.uvarint T.length ++ makeT B T T.length 0 0).length + 1) (Nat.le_refl _) (Nat.zero_le _) (by simp only [List.length_append]; omega)
  rw [List.take_zero] at this
  rw [this]
open Go.RowKit
theorem Sha.be64_take (n i : Nat) (h : i < 8) : (Sha.be64 n).take (i + 1) = (Sha.be64 n).take i ++ [UInt8.ofNat (n / 2 ^ (56 - 8 * i))] := by
 unfold Sha.be64
 rw [List.take_succ_eq_append_getElem (by simp; omega)]
 simp
set_option maxRecDepth 100000
open Go.RowKit
set_option maxRecDepth 100000
def HashAt (w : World) (g : Nat) (p : List UInt8) : Prop := ∃ s r, Sha.At p s r ∧ w.heap[g]? = some (.cells (hashL s r (p.length % 64) p.length).toArray 125 (0, 0))
theorem HashAt.keep {w w' : World} {g : Nat} {p : List UInt8} (h : HashAt w g p) (k : Ext w w') : HashAt w' g p := by
  obtain ⟨s, r, h1, h2⟩ := h
  exact ⟨s, r, h1, eb k h2⟩
theorem sha6_ty88 : Tryd.prog.underlying 88 = some (.array 8 87) := by kernel_rfl
theorem sha6_isz88 : (Tryd.prog.info? 88).map (·.size) = some 8 := by kernel_rfl
theorem sha6_ty76 : Tryd.prog.underlying 76 = some (.pointer 125) := by kernel_rfl
theorem sha6_fo125_3 : FieldOff Tryd.prog 125 3 73 := fun b o w => by simp [go_sem]
theorem sha6_ty3 : Tryd.prog.underlying 3 = some (.int .i64) := by kernel_rfl
theorem sha6_ty24 : Tryd.prog.underlying 24 = some (.slice 5) := by kernel_rfl
theorem sha6_isz3 : (Tryd.prog.info? 3).map (·.size) = some 1 := by kernel_rfl
theorem sha6_fo125_1 : FieldOff Tryd.prog 125 1 8 := fun b o w => by simp [go_sem]
theorem sha6_fo125_2 : FieldOff Tryd.prog 125 2 72 := fun b o w => by simp [go_sem]
theorem sha6_ty123 : Tryd.prog.underlying 123 = some (.array 64 5) := by kernel_rfl
theorem sha6_sz5 : ∀ w' : World, (sizeOf 5).run Tryd.prog w' = .ok 1 w' := fun _ => by kernel_rfl
theorem sha6_isz5 : (Tryd.prog.info? 5).map (·.size) = some 1 := by kernel_rfl
theorem sha6_fo125_0 : FieldOff Tryd.prog 125 0 0 := fun b o w => by simp [go_sem]
theorem sha6_pl69 : Plain Tryd.prog 69 := fun _ _ => by kernel_rfl
theorem new_any (w : World) (hG : Laid w) :
    Calls Tryd.prog 38 #[] w fun e w' => ∃ g, e = .returned (PQ g 0) ∧ w.heap.size ≤ g ∧ HashAt w' g [] ∧ Ext w w' := by
  obtain ⟨tF, fF, hF0⟩ := hG.first
  refine gG (args := []) Tryd.func38 rfl 4 rfl rfl ?_
  have hE := Ext.refl w
  refine gS (Yk.loadAll rfl (eb hE hF0) sha6_ty88 rfl sha6_isz88 (gS (Yk.run (v := .agg (hashL Sha.first (List.replicate 64 0) 0 0).toArray) (by kernel_rfl) (gS (Yk.box (vr (.agg (hashL Sha.first (List.replicate 64 0) 0 0).toArray) rfl) fun n3 w4 hn5 hb6 hx7 hs8 => ?_)))))
  have hb9 := hb6; clear hb6
  have hl10 : n3 < w4.heap.size := by omega
  refine rt1 rfl (vr (PQ n3 0) rfl) ?_
  have hE := hE.trans hx7
  exact ⟨_, rfl, by omega, ⟨_, _, Sha.at_nil, hb9⟩, hE⟩

theorem write_any (w : World) (hG : Laid w) (g : Nat) (hh : 1 < g) (p : List UInt8) (hH : HashAt w g p) (v : Value) (c : List UInt8) (hc : RB w v c) (hv : v.ownBlock ≠ some g) (hb : p.length + c.length < 4611686018427387904) :
    Calls Tryd.prog 39 #[PQ g 0, v] w fun e w' => e = .returned (.tuple #[]) ∧ HashAt w' g (p ++ c) ∧ w.grownBy w' (some g) := by
  obtain ⟨s, r, hat, hb0⟩ := hH
  have hs := hat.slen
  have hr := hat.len
  obtain ⟨f, hf⟩ : ∃ f, f = p.length % 64 := ⟨_, rfl⟩
  rw [← hf] at hb0
  obtain ⟨N, hN⟩ : ∃ N, p.length + c.length = N := ⟨_, rfl⟩
  have hgr : w.grownBy w (some g) := World.grownBy.refl _ _
  refine gG (args := [PQ g 0, v]) Tryd.func39 rfl 60 rfl rfl (gS (Yk.eqlNil sha6_ty76 rfl (cF rfl (gS (Yk.nilCheck rfl (gS (Yk.fieldAt sha6_fo125_3 rfl (gS (Yk.cell1 sha6_ty3 rfl rfl (cellAt hb0 (hashL_size hs hr)) (gS (Yk.lenRB sha6_ty24 (RB.of hc rfl) (gS (Yk.bin (xv := NI p.length) (yv := NI c.length) rfl rfl rfl (i64_add _ _ _ (by omega)) (gS (Yk.nilCheck rfl (gS (Yk.fieldAt sha6_fo125_3 rfl (gS (Yk.storeC (i := 73) (v := NI ((p.length) + (c.length))) rfl rfl hb0 (by rw [hashL_length hs hr]; omega) sha6_isz3 rfl rfl fun w4 hb5 hg6 hs7 => ?_)))))))))))))))))))
  have hG : Laid w4 := Laid.kept hG hg6 hh
  have hgr : w.grownBy w4 (some g) := grownBy_trans hgr hg6 (fun _ e => .inl e)
  clear hb0
  have hb0 := hb5; clear hb5
  have hl8 := bl hb0
  have hb0 : w4.heap[g]? = some (.cells (hashL s r f N).toArray 125 (0, 0)) := blk_eq hb0 (by rw [hashL_setSize hs hr, hN])
  have hc := RB.kept hc hg6 (.inr hv)
  refine gL (fun (ρ : Slots) (wz : World) => ∃ m : Nat, ∃ s1 : List UInt32, ∃ r1 : List UInt8, ∃ f1 : Nat, ∃ v1 : Value, ρ 0 = (PQ g 0 : Value) ∧ ρ 6 = (.bool (false) : Value) ∧ ρ 1 = (v1 : Value) ∧ Laid wz ∧ w.grownBy wz (some g) ∧ RB wz v1 (c.drop m) ∧ wz.heap[g]? = some (.cells (hashL s1 r1 f1 N).toArray 125 (0, 0)) ∧ (m ≤ c.length) ∧ (Sha.At (p ++ c.take m) s1 r1) ∧ (f1 = (p ++ c.take m).length % 64) ∧ (OB v1 g) ∧ True) (fun ρ _ => sliceLen (ρ 1)) ⟨0, s, r, f, v, rfl, rfl, rfl, hG, hgr, hc, blk_eq hb0 (rfl), by omega, by simpa using hat, by simpa using hf, hv, trivial⟩ ?_
  clear hc
  clear hb0
  clear hG hgr
  rintro ρ9 w10 ⟨m, s1, r1, f1, v1, T0, T6, T1, hG, hgr, hc1, hb0l, hm, hat1, hf1, hv1, -⟩
  have q1 := T1
  have ql1 := hc1.sliceLen
  have hs1 := hat1.slen
  have hr1 := hat1.len
  have hf64 : f1 < 64 := by omega
  refine gS (Yk.lenRB sha6_ty24 (RB.of hc1 T1) (gS (Yk.eqI (a := ((c.drop m : List UInt8).length : Nat)) (b := (0 : Nat)) rfl rfl (k_gtr _ _ _ _) ?_)))
  refine cD rfl (fun hc1' => ?_) fun hc1' => ?_
  · obtain ⟨X, hX⟩ : ∃ X, X = (c.drop m).take (64 - f1) := ⟨_, rfl⟩
    obtain ⟨n, hn⟩ : ∃ n, n = X.length := ⟨_, rfl⟩
    have hxl : X.length = n := hn.symm
    have hcl : (c.drop m).length = c.length - m := List.length_drop
    have hnm : Nat.min (c.drop m).length (64 - f1) = n := by rw [hn, hX, List.length_take]; exact Nat.min_comm _ _
    have hn1 : 0 < n := by rw [← hnm]; exact Nat.lt_min.2 ⟨hc1', by omega⟩
    have hn2 : f1 + n ≤ 64 := by have : n ≤ 64 - f1 := by rw [← hnm]; exact Nat.min_le_right _ _
                                 omega
    have hn3 : n ≤ (c.drop m).length := by rw [← hnm]; exact Nat.min_le_left _ _
    have hXn : X = (c.drop m).take n := by rw [hX, ← hnm]; simp [List.take_eq_take_iff]; exact Nat.min_comm _ _
    have htk : (p ++ c.take m) ++ X = p ++ c.take (m + n) := by rw [List.append_assoc, hXn, List.take_add]
    
    refine gR ?_
    refine wpF_draw_mid 9 [Is (PQ g 0), Is (PQ g 0), Is (PQ g 8), Is (PQ g 0), Is (PQ g 0), Is (PQ g 72), Is (NI f1), Is (.slice (some ⟨g, 8 + f1, none⟩) (64 - f1) (64 - f1)), Is (v1), fun x w' => x = NI n ∧ w'.heap[g]? = some (.cells (hashL s1 (r1.take f1 ++ X ++ r1.drop (f1 + n)) f1 N).toArray 125 (0, 0)) ∧ w10.grownBy w' (some g), fun x w' => x = NI n ∧ w'.heap[g]? = some (.cells (hashL s1 (r1.take f1 ++ X ++ r1.drop (f1 + n)) f1 N).toArray 125 (0, 0)) ∧ w10.grownBy w' (some g)] (by kernel_rfl) [19, 20, 21, 22, 23, 24, 25, 26, 27, 28, 4] (by kernel_rfl) (by kernel_rfl) (by kernel_rfl) rfl (si9 ⟨(fun _ _ _ hp he => ⟨hp.1, eb he hp.2.1, grownBy_trans hp.2.2 he.grown (fun _ e => by cases e)⟩), (fun _ _ _ hp he => ⟨hp.1, eb he hp.2.1, grownBy_trans hp.2.2 he.grown (fun _ e => by cases e)⟩), trivial⟩) (si9 trivial) ?hs1003 ?hQ1003
    case hs1003 =>
      refine ⟨?_, ?_, ?_, ?_, ?_, ?_, ?_, ?_, ?_, ?_, ?_, trivial⟩
      · refine stepN rfl fun σ w1 hC h => ?_
        have e0 := (eqo (h 0 (by decide))).trans T0
        have hC : Ext _ w1 := hC
        exact Yk.move e0 ⟨Ext.refl _, rfl⟩
      · refine stepN rfl fun σ w1 hC h => ?_
        have e19 := eqo (h 19 (by decide))
        have hC : Ext _ w1 := hC
        exact Yk.nilCheck e19 ⟨Ext.refl _, rfl⟩
      · refine stepN rfl fun σ w1 hC h => ?_
        have e20 := eqo (h 20 (by decide))
        have hC : Ext _ w1 := hC
        exact Yk.fieldAt sha6_fo125_1 e20 ⟨Ext.refl _, rfl⟩
      · refine stepN rfl fun σ w1 hC h => ?_
        have e0 := (eqo (h 0 (by decide))).trans T0
        have hC : Ext _ w1 := hC
        exact Yk.move e0 ⟨Ext.refl _, rfl⟩
      · refine stepN rfl fun σ w1 hC h => ?_
        have e22 := eqo (h 22 (by decide))
        have hC : Ext _ w1 := hC
        exact Yk.nilCheck e22 ⟨Ext.refl _, rfl⟩
      · refine stepN rfl fun σ w1 hC h => ?_
        have e23 := eqo (h 23 (by decide))
        have hC : Ext _ w1 := hC
        exact Yk.fieldAt sha6_fo125_2 e23 ⟨Ext.refl _, rfl⟩
      · refine stepN rfl fun σ w1 hC h => ?_
        have e24 := eqo (h 24 (by decide))
        have hC : Ext _ w1 := hC
        exact Yk.cell1 sha6_ty3 rfl e24 (cellAt (eb hC hb0l) (hashL_fill hs1 hr1)) ⟨Ext.refl _, rfl⟩
      · refine stepN rfl fun σ w1 hC h => ?_
        have e21 := eqo (h 21 (by decide))
        have e25 := eqo (h 25 (by decide))
        have hC : Ext _ w1 := hC
        exact Yk.sliceArrL sha6_ty123 sha6_sz5 e21 e25 (by omega) ⟨Ext.refl _, rfl⟩
      · refine stepN rfl fun σ w1 hC h => ?_
        have e1 := (eqo (h 1 (by decide))).trans T1
        have hC : Ext _ w1 := hC
        exact Yk.move e1 ⟨Ext.refl _, rfl⟩
      · refine stepN rfl fun σ w1 hC h => ?_
        have e26 := eqo (h 26 (by decide))
        have e27 := eqo (h 27 (by decide))
        have hC : Ext _ w1 := hC
        refine Yk.copyB (.tmp 26) (.tmp 27) (o := 8 + f1) sha6_ty24 sha6_isz5 e26 (l := c.drop m) (by show RB w1 (σ 27) _; rw [e27]; exact hc1.keep hC) (eb hC hb0l) (by rw [hnm]; simp only [List.size_toArray, hashL_length hs1 hr1]; omega) ?_
        refine ⟨trivial, by rw [hnm]; rfl, ?_, ?_⟩
        · rw [hnm, ← hX, ← hxl]
          have := hashL_rest (f := f1) (n := N) (at_ := f1) (x := X) hs1 hr1 (by omega)
          rw [this]
          exact setRow_heap w1 g _ _ _ _ (eb hC hb0l)
        · exact grownBy_trans (row_none hC.grown (some g)) ⟨rfl, rfl, rfl, by simp, fun k _ hk => setRow_other w1 g k _ (fun e => hk (by rw [e]))⟩ (fun _ e => .inl e)
      · refine stepN rfl fun σ w1 hC h => ?_
        have e28 : (fun x w' => x = NI n ∧ w'.heap[g]? = some (.cells (hashL s1 (r1.take f1 ++ X ++ r1.drop (f1 + n)) f1 N).toArray 125 (0, 0)) ∧ w10.grownBy w' (some g)) (σ 28) w1 := h 28 (by decide)
        exact Yk.assign rfl ⟨Ext.refl _, e28⟩
    intro ρ14 w15 he hf
    obtain ⟨-, -, -, -, -, -, -, -, -, -, k4, -⟩ := hf
    obtain ⟨T0, T1, T6, -⟩ := he.hold [(0, _), (1, _), (6, _)] ⟨T0, T1, T6, trivial⟩ rfl
    clear he
    have k4 : (fun x w' => x = NI n ∧ w'.heap[g]? = some (.cells (hashL s1 (r1.take f1 ++ X ++ r1.drop (f1 + n)) f1 N).toArray 125 (0, 0)) ∧ w10.grownBy w' (some g)) (ρ14 4) w15 := k4
    obtain ⟨v17, T4⟩ : ∃ v, ρ14 4 = v := ⟨_, rfl⟩
    rw [T4] at k4
    have hk18 := k4; clear k4
    obtain ⟨hv4, hb4, hg4⟩ := hk18
    rw [hv4] at T4
    have hG : Laid w15 := Laid.kept hG hg4 hh
    have hgr : w.grownBy w15 (some g) := grownBy_trans hgr hg4 (fun _ e => .inl e)
    clear hb0l
    have hb19 := hb4; clear hb4
    obtain ⟨r2, hr2⟩ : ∃ r2, r2 = r1.take f1 ++ X ++ r1.drop (f1 + n) := ⟨_, rfl⟩
    have hr2l : r2.length = 64 := by rw [hr2]; simp only [List.length_append, List.length_take, List.length_drop]; omega
    have hb19 : w15.heap[g]? = some (.cells (hashL s1 r2 f1 N).toArray 125 (0, 0)) := blk_eq hb19 (by rw [← hr2])
    refine gX (gS (Yk.nilCheck T0 (gS (Yk.fieldAt sha6_fo125_2 rfl (gS (Yk.cell1 sha6_ty3 rfl rfl (cellAt hb19 (hashL_fill hs1 hr2l)) (gS (Yk.bin (xv := NI f1) (yv := NI n) rfl T4 rfl (i64_add _ _ _ (by omega)) (gS (Yk.nilCheck T0 (gS (Yk.fieldAt sha6_fo125_2 rfl (gS (Yk.storeC (i := 72) (v := NI ((f1) + (n))) rfl rfl hb19 (by rw [hashL_length hs1 hr2l]; omega) sha6_isz3 rfl rfl fun w21 hb22 hg23 hs24 => ?_))))))))))))))
    have hG : Laid w21 := Laid.kept hG hg23 hh
    have hgr : w.grownBy w21 (some g) := grownBy_trans hgr hg23 (fun _ e => .inl e)
    clear hb19
    have hb19 := hb22; clear hb22
    have hl25 := bl hb19
    have hb19 : w21.heap[g]? = some (.cells (hashL s1 r2 (f1 + n) N).toArray 125 (0, 0)) := blk_eq hb19 (hashL_setFill hs1 hr2l)
    have hc1 := RB.kept hc1 hg4 (.inr hv1)
    have hc1 := RB.kept hc1 hg23 (.inr hv1)
    refine gS (Yk.sliceLo (xs := c.drop m) (l := n) sha6_ty24 sha6_sz5 T1 hc1 T4 (hn3) fun v27 hr28 ha29 => ?_)
    have hap30 : OB v27 g := fun e => hv1 (ha29.symm.trans e)
    refine gS (Yk.nilCheck T0 (gS (Yk.fieldAt sha6_fo125_2 rfl (gS (Yk.cell1 sha6_ty3 rfl rfl (cellAt hb19 (hashL_fill hs1 hr2l)) (gS (Yk.eqI (a := ((f1 + n) : Nat)) (b := (64 : Nat)) rfl rfl (k_eql _ _ _ _) ?_)))))))
    refine cD rfl (fun hc2 => ?_) fun hc2 => ?_
    · have hr2f : r2 = r1.take f1 ++ X := by rw [hr2, List.drop_of_length_le (by omega), List.append_nil]
      obtain ⟨R, hR⟩ : ∃ R, R = Sha.rounds s1 r2 := ⟨_, rfl⟩
      have HRl : R.length = 8 := by rw [hR, Sha.rounds_length _ _ hs1]
      have hatF : Sha.At ((p ++ c.take m) ++ X) R r2 := by rw [hR, hr2f, hf1]; exact hat1.fill X (by omega)
      have hfF : 0 = ((p ++ c.take m) ++ X).length % 64 := by rw [List.length_append]; omega
      refine gR ?_
      refine wpF_draw_store 12 (fun (a_ b_ : World) => b_.heap[g]? = some (.cells ((cellsU R).toList ++ (hashL s1 r2 (f1 + n) N).drop (cellsU R).size).toArray 125 (0, 0)) ∧ a_.grownBy b_ (some g) ∧ b_.heap.size = a_.heap.size) [Is (PQ g 0), Is (PQ g 0), Is (PQ g 0), Is (PQ g 0), Is (.agg (cellsU s1)), Is (PQ g 0), Is (PQ g 0), Is (PQ g 8), Is (.slice (some ⟨g, 8, none⟩) 64 64), Is (.agg (cellsU R)), Is (PQ g 0), Is (PQ g 0), (fun _ _ => True)] (by kernel_rfl) [45, 46, 47, 48, 49, 50, 51, 52, 53, 54, 55, 56] (by kernel_rfl) (by kernel_rfl) (by kernel_rfl) rfl (si12 ⟨Stab.any, trivial⟩) (si12 ⟨Stab.any, trivial⟩) ?hs2007 ?hQ2007
      case hs2007 =>
        refine ⟨?_, ?_, ?_, ?_, ?_, ?_, ?_, ?_, ?_, ?_, ?_, ?_, ?_, trivial⟩
        · refine stepN rfl fun σ w1 hC h => ?_
          have e0 := (eqo (h 0 (by decide))).trans T0
          have hC : Ext _ w1 := hC
          exact Yk.move e0 ⟨Ext.refl _, rfl⟩
        · refine stepN rfl fun σ w1 hC h => ?_
          have e0 := (eqo (h 0 (by decide))).trans T0
          have hC : Ext _ w1 := hC
          exact Yk.move e0 ⟨Ext.refl _, rfl⟩
        · refine stepN rfl fun σ w1 hC h => ?_
          have e46 := eqo (h 46 (by decide))
          have hC : Ext _ w1 := hC
          exact Yk.nilCheck e46 ⟨Ext.refl _, rfl⟩
        · refine stepN rfl fun σ w1 hC h => ?_
          have e47 := eqo (h 47 (by decide))
          have hC : Ext _ w1 := hC
          exact Yk.fieldAt sha6_fo125_0 e47 ⟨Ext.refl _, rfl⟩
        · refine stepN rfl fun σ w1 hC h => ?_
          have e48 := eqo (h 48 (by decide))
          have hC : Ext _ w1 := hC
          exact Yk.loadPart (cs := s1.map fun x => U x) e48 (range_state (eb hC hb19)) sha6_ty88 rfl (by rw [List.length_map, hs1]; exact sha6_isz88) ⟨Ext.refl _, rfl⟩
        · refine stepN rfl fun σ w1 hC h => ?_
          have e0 := (eqo (h 0 (by decide))).trans T0
          have hC : Ext _ w1 := hC
          exact Yk.move e0 ⟨Ext.refl _, rfl⟩
        · refine stepN rfl fun σ w1 hC h => ?_
          have e50 := eqo (h 50 (by decide))
          have hC : Ext _ w1 := hC
          exact Yk.nilCheck e50 ⟨Ext.refl _, rfl⟩
        · refine stepN rfl fun σ w1 hC h => ?_
          have e51 := eqo (h 51 (by decide))
          have hC : Ext _ w1 := hC
          exact Yk.fieldAt sha6_fo125_1 e51 ⟨Ext.refl _, rfl⟩
        · refine stepN rfl fun σ w1 hC h => ?_
          have e52 := eqo (h 52 (by decide))
          have hC : Ext _ w1 := hC
          exact Yk.sliceArr sha6_ty123 sha6_sz5 e52 ⟨Ext.refl _, rfl⟩
        · refine stepN rfl fun σ w1 hC h => ?_
          have e49 := eqo (h 49 (by decide))
          have e53 := eqo (h 53 (by decide))
          have hC : Ext _ w1 := hC
          refine Yk.callA2 sha6_pl69 e49 e53 ((rounds_any _ (hG.keep hC) s1 hs1 _ r2 (rb_rest hs1 hr2l (eb hC hb19)) hr2l).mono ?_)
          rintro e w2 ⟨rfl, hx⟩
          exact ⟨_, rfl, hx, by rw [hR]; rfl⟩
        · refine stepN rfl fun σ w1 hC h => ?_
          have e45 := eqo (h 45 (by decide))
          have hC : Ext _ w1 := hC
          exact Yk.nilCheck e45 ⟨Ext.refl _, rfl⟩
        · refine stepN rfl fun σ w1 hC h => ?_
          have e55 := eqo (h 55 (by decide))
          have hC : Ext _ w1 := hC
          exact Yk.fieldAt sha6_fo125_0 e55 ⟨Ext.refl _, rfl⟩
        · refine stepN rfl fun σ w1 hC h => ?_
          have e56 := eqo (h 56 (by decide))
          have e54 := eqo (h 54 (by decide))
          have hC : Ext _ w1 := hC
          exact Yk.storeHd e56 e54 (eb hC hb19) (by rw [cellsU_size, HRl, hashL_length hs1 hr2l]; omega) (by rw [cellsU_size, HRl]; exact sha6_isz88) (cellsU_one _) fun w2 h1 h2 h3 => ⟨⟨h1, h2, h3⟩, trivial⟩
      intro ρ33 w36 w34 hx35 hS37 he hf
      obtain ⟨-, -, -, -, -, -, -, -, -, -, -, -, -⟩ := hf
      obtain ⟨T0, T1, T4, T6, -⟩ := he.hold [(0, _), (1, v27), (4, _), (6, _)] ⟨T0, rfl, T4, T6, trivial⟩ rfl
      clear he
      have hG : Laid w36 := (hG.keep hx35)
      have hgr : w.grownBy w36 (some g) := grownBy_trans hgr hx35.grown (fun _ e => by cases e)
      obtain ⟨hb38, hg39, hs40⟩ := hS37
      have hG : Laid w34 := Laid.kept hG hg39 hh
      have hgr : w.grownBy w34 (some g) := grownBy_trans hgr hg39 (fun _ e => .inl e)
      clear hb19
      have hb19 := hb38; clear hb38
      have hb19 : w34.heap[g]? = some (.cells (hashL R r2 (f1 + n) N).toArray 125 (0, 0)) := blk_eq hb19 (by rw [cellsU_size, HRl]; exact hashL_state hs1)
      refine gX (gS (Yk.nilCheck T0 (gS (Yk.fieldAt sha6_fo125_2 rfl (gS (Yk.storeC (i := 72) (v := NI 0) rfl rfl hb19 (by rw [hashL_length HRl hr2l]; omega) sha6_isz3 rfl rfl fun w41 hb42 hg43 hs44 => ?_))))))
      have hG : Laid w41 := Laid.kept hG hg43 hh
      have hgr : w.grownBy w41 (some g) := grownBy_trans hgr hg43 (fun _ e => .inl e)
      clear hb19
      have hb19 := hb42; clear hb42
      have hl45 := bl hb19
      have hb19 : w41.heap[g]? = some (.cells (hashL R r2 0 N).toArray 125 (0, 0)) := blk_eq hb19 (hashL_setFill HRl hr2l)
      have hr28 := hr28.keep hx35
      have hr28 := RB.kept hr28 hg39 (.inr hap30)
      have hr28 := RB.kept hr28 hg43 (.inr hap30)
      refine gK (And.intro ⟨m + n, R, r2, 0, v27, T0, T6, T1, hG, hgr, (show RB _ _ _ from (by rw [← List.drop_drop]; exact hr28)), blk_eq hb19 (rfl), by omega, by rw [← htk]; exact hatF, by rw [← htk]; exact hfF, hap30, trivial⟩ ?_)
      show sliceLen (ρ33 1) < sliceLen (ρ9 1)
      rw [T1, q1]
      have q3 := hr28.sliceLen
      have q4 := ql1
      rw [q3, q4]
      simp only [List.length_drop]
      omega
    have hatP : Sha.At ((p ++ c.take m) ++ X) s1 r2 := by rw [hr2, ← hxl, hf1]; exact hat1.put X (by omega)
    have hfP : f1 + n = ((p ++ c.take m) ++ X).length % 64 := by rw [List.length_append]; omega
    refine gK (And.intro ⟨m + n, s1, r2, f1 + n, v27, T0, T6, rfl, hG, hgr, (show RB _ _ _ from (by rw [← List.drop_drop]; exact hr28)), blk_eq hb19 (rfl), by omega, by rw [← htk]; exact hatP, by rw [← htk]; exact hfP, hap30, trivial⟩ ?_)
    show sliceLen (v27) < sliceLen (ρ9 1)
    rw [q1]
    have q3 := hr28.sliceLen
    have q4 := ql1
    rw [q3, q4]
    simp only [List.length_drop]
    omega
  have hcF := hc1'
  refine rt0 rfl ?_
  have hml : m = c.length := by have := hcF; simp at this; omega
  subst hml
  refine ⟨rfl, ⟨s1, r1, by simpa using hat1, ?_⟩, hgr⟩
  have e1 : f1 = (p ++ c).length % 64 := by simpa using hf1
  have e2 : N = (p ++ c).length := by rw [← hN, List.length_append]
  rw [← e1, ← e2]
  exact hb0l
open Go.RowKit
set_option maxRecDepth 100000
theorem hashL_one (s : List UInt32) (r : List UInt8) (f n : Nat) : ∀ v ∈ (hashL s r f n).toArray.toList, v.oneCell' = true := by
 intro v hv
 simp [hashL, Lib.byteCells] at hv
 rcases hv with ⟨_, _, rfl⟩ | ⟨_, _, rfl⟩ | rfl | rfl <;> rfl
namespace Sha
def outs (s : List UInt32) (i : Nat) : List UInt8 := (out s).take (4 * i) ++ List.replicate (32 - 4 * i) 0
theorem out_length : ∀ s : List UInt32, (out s).length = 4 * s.length
 | [] => rfl
 | x :: s => by
  have := out_length s
  unfold out at *
  rw [List.flatMap_cons, List.length_append, this]
  simp
  omega
theorem outs_length (s : List UInt32) (hs : s.length = 8) (i : Nat) (hi : i ≤ 8) : (outs s i).length = 32 := by
 unfold outs
 rw [List.length_append, List.length_take, List.length_replicate, out_length, hs]
 omega
theorem outs_all (s : List UInt32) (hs : s.length = 8) : outs s 8 = out s := by
 unfold outs
 rw [List.take_of_length_le (by rw [out_length, hs]; exact Nat.le_refl _)]
 simp
theorem outs_step (s : List UInt32) (hs : s.length = 8) (i : Nat) (hi : i < 8) :
  ((((outs s i).set (4 * i) (s.getD i 0 >>> 24).toUInt8).set (4 * i + 1) (s.getD i 0 >>> 16).toUInt8).set (4 * i + 2) (s.getD i 0 >>> 8).toUInt8).set (4 * i + 3) (s.getD i 0).toUInt8 = outs s (i + 1) := by
 match s, hs with
 | [a, b, c, d, e, f, g, h], _ =>
  have : i = 0 ∨ i = 1 ∨ i = 2 ∨ i = 3 ∨ i = 4 ∨ i = 5 ∨ i = 6 ∨ i = 7 := by omega
  rcases this with rfl | rfl | rfl | rfl | rfl | rfl | rfl | rfl <;> rfl
theorem sum_length (p : List UInt8) : (sum p).length = 32 := by
 unfold sum
 rw [out_length, blocks_length _ _ _ rfl]
end Sha
theorem sha7_isz125 : (Tryd.prog.info? 125).map (·.size) = some 74 := by kernel_rfl
theorem sha7_isz38 : (Tryd.prog.info? 38).map (·.size) = some 32 := by kernel_rfl
theorem sha7_al38 {d : Option Tmp} {ty : TypeId} {pos : String} {af : Array Edge} {gd : Option (Nat × Bool)} (σ : Operand → Value) (w : World) : (execOp σ ⟨d, .alloc 38, ty, pos, af, gd⟩).run Tryd.prog w = .ok (.value (PQ w.heap.size 0)) (w.alloc (.cells (Lib.byteCells (List.replicate 32 0)).toArray 38)) := by kernel_rfl
theorem sha7_ty76 : Tryd.prog.underlying 76 = some (.pointer 125) := by kernel_rfl
theorem sha7_ty125 : ∃ fs, Tryd.prog.underlying 125 = some (.struct fs) := struct_of (by kernel_rfl)
theorem sha7_al125 {d : Option Tmp} {ty : TypeId} {pos : String} {af : Array Edge} {gd : Option (Nat × Bool)} (σ : Operand → Value) (w : World) : (execOp σ ⟨d, .alloc 125, ty, pos, af, gd⟩).run Tryd.prog w = .ok (.value (PQ w.heap.size 0)) (w.alloc (.cells (hashL (List.replicate 8 0) (List.replicate 64 0) 0 0).toArray 125)) := by kernel_rfl
theorem sha7_l1_24 (z : Int) (w : World) : (Instr.buildSlice 24 1 #[(0, .int .u8 z)]).run Tryd.prog w = .ok (.slice (some ⟨w.heap.size, 0, none⟩) 1 1) (w.alloc (.cells #[.int .u8 z] 5)) := by kernel_rfl
theorem sha7_fo125_3 : FieldOff Tryd.prog 125 3 73 := fun b o w => by simp [go_sem]
theorem sha7_ty3 : Tryd.prog.underlying 3 = some (.int .i64) := by kernel_rfl
theorem sha7_ty24 : Tryd.prog.underlying 24 = some (.slice 5) := by kernel_rfl
theorem sha7_inf5 : (Tryd.prog.info? 5).map (fun i => (i.zero, i.size, i.bytes)) = some (some (.int .u8 0), 1, 1) := by kernel_rfl
theorem sha7_ty95 : Tryd.prog.underlying 95 = some (.int .u64) := by kernel_rfl
theorem sha7_ty5 : Tryd.prog.underlying 5 = some (.int .u8) := by kernel_rfl
theorem sha7_pl39 : Plain Tryd.prog 39 := fun _ _ => by kernel_rfl
theorem sha7_fo125_0 : FieldOff Tryd.prog 125 0 0 := fun b o w => by simp [go_sem]
theorem sha7_ty88 : Tryd.prog.underlying 88 = some (.array 8 87) := by kernel_rfl
theorem sha7_isz88 : (Tryd.prog.info? 88).map (·.size) = some 8 := by kernel_rfl
theorem sha7_ty87 : Tryd.prog.underlying 87 = some (.int .u32) := by kernel_rfl
theorem sha7_sz87 : ∀ w' : World, (sizeOf 87).run Tryd.prog w' = .ok 1 w' := fun _ => by kernel_rfl
theorem sha7_ty38 : Tryd.prog.underlying 38 = some (.array 32 5) := by kernel_rfl
theorem sha7_sz5 : ∀ w' : World, (sizeOf 5).run Tryd.prog w' = .ok 1 w' := fun _ => by kernel_rfl
theorem sha7_isz5 : (Tryd.prog.info? 5).map (·.size) = some 1 := by kernel_rfl
theorem sumAt_any (w : World) (hG : Laid w) (g : Nat) (p : List UInt8) (hH : HashAt w g p) (hp : p.length < 1152921504606846976) :
  Calls Tryd.prog 40 #[PQ g 0] w fun e w' => e = .returned (AB (Sha.sum p)) ∧ Ext w w' := by
 obtain ⟨s, r, hat, hb0⟩ := hH
 have hs := hat.slen
 have hr := hat.len
 obtain ⟨f, hf⟩ : ∃ f, f = p.length % 64 := ⟨_, rfl⟩
 obtain ⟨N, hN⟩ : ∃ N, p.length = N := ⟨_, rfl⟩
 rw [← hf, hN] at hb0
 have hw2 : 1 < w.heap.size := hG.two
 refine gG (args := [PQ g 0]) Tryd.func40 rfl 85 rfl rfl ?_
 have hE := Ext.refl w
 refine gS (Yk.alloc sha7_al38 fun n2 w3 hn4 hb5 hx6 hs7 => ?_)
 have hlt8 := lte (bl hb0) hn4
 have hb9 := hb5; clear hb5
 have hl10 : n2 < w3.heap.size := by omega
 have hb0 := eb hx6 hb0
 refine gS (Yk.eqlNil sha7_ty76 rfl (cF rfl (gS (Yk.nilCheck rfl (gS (Yk.loadAll rfl hb0 (sha7_ty125).choose_spec rfl (by rw [List.size_toArray, hashL_length hs hr]; exact sha7_isz125) (gS (Yk.alloc sha7_al125 fun n14 w15 hn16 hb17 hx18 hs19 => ?_))))))))
 have hA20 := Ext.refl w3
 have hE := hE.trans hx6
 have hz22 := hE.size
 have hlt23 := lte (bl hb0) hn16
 have hlt24 := lte (bl hb9) hn16
 have hb25 := hb17; clear hb17
 have hl26 : n14 < w15.heap.size := by omega
 refine gS (Yk.storeAll (vr (PQ n14 0) rfl) (vr (.agg (hashL s r f N).toArray) rfl) hb25 (by rw [List.size_toArray, List.size_toArray, hashL_length hs hr]; rfl) (by rw [List.size_toArray, hashL_length hs hr]; exact sha7_isz125) (hashL_one s r f N) fun w27 hb28 hg29 hs30 => ?_)
 have hb0 := eb hx18 hb0
 have hb0 := kb hg29 hb0 (by omega)
 have hE := hE.trans hx18
 have hE := row_fresh hE hg29 (Nat.le_trans hz22 (by omega))
 have hb9 := eb hx18 hb9
 have hb9 := kb hg29 hb9 (by omega)
 have hA20 := hA20.trans hx18
 have hA20 := row_fresh hA20 hg29 (Nat.le_trans (Nat.le_refl _) (by omega))
 clear hb25
 have hb25 := hb28; clear hb28
 have hl31 := bl hb25
 refine gS (Yk.lit1 (b := 128) sha7_l1_24 (vr (B8 (128)) rfl) fun v33 w34 hN35 => ?_)
 have hA36 := Ext.refl w27
 have hz39 := hE.size
 have hz40 := hA20.size
 have hap41 : OB v33 g := own_older hN35.own (bl hb0)
 have hap42 : OB v33 n2 := own_older hN35.own (bl hb9)
 have hap43 : OB v33 n14 := own_older hN35.own (bl hb25)
 have ho44 := hN35.own
 have hb0 := eb hN35.ext hb0
 have hE := hE.trans hN35.ext
 have hb9 := eb hN35.ext hb9
 have hA20 := hA20.trans hN35.ext
 have hb25 := eb hN35.ext hb25
 have hA36 := hA36.trans hN35.ext
 refine gL (fun (ρ : Slots) (wz : World) => ∃ k : Nat, ∃ v4 : Value, ρ 0 = (PQ g 0 : Value) ∧ ρ 2 = (PQ n2 0 : Value) ∧ ρ 3 = (PQ n14 0 : Value) ∧ ρ 11 = (.bool (false) : Value) ∧ ρ 4 = (v4 : Value) ∧ wz.heap[g]? = some (.cells (hashL s r f N).toArray 125 (0, 0)) ∧ Ext w wz ∧ wz.heap[n2]? = some (.cells (Lib.byteCells (List.replicate 32 0)).toArray 38 (0, 0)) ∧ Ext w3 wz ∧ wz.heap[n14]? = some (.cells (hashL s r f N).toArray 125 (0, 0)) ∧ Ext w27 wz ∧ wz.ownsRow w27.heap.size 5 1 v4 (128 :: List.replicate k 0 : List UInt8).length (Lib.byteCells (128 :: List.replicate k 0)) ∧ (k ≤ (119 - N % 64) % 64) ∧ (OB v4 g) ∧ (OB v4 n2) ∧ (OB v4 n14) ∧ True) (fun ρ _ => 65 - sliceLen (ρ 4)) ⟨0, v33, rfl, rfl, rfl, rfl, rfl, hb0, hE, hb9, hA20, hb25, hA36, own_eq ho44 (rfl), Nat.zero_le _, hap41, hap42, hap43, trivial⟩ ?_
 clear ho44
 clear hb0 hE hb9 hA20 hb25 hA36
 rintro ρ46 w47 ⟨k, v4, T0, T2, T3, T11, T4, hb0, hE, hb9, hA20, hb25, hA36, ho_v4, hk, hap_v4_g, hap_v4_n2, hap_v4_n14, -⟩
 have q4 := T4
 have ql4 := own_sliceLen ho_v4
 refine gS (Yk.nilCheck T0 (gS (Yk.fieldAt sha7_fo125_3 rfl (gS (Yk.cell1 sha7_ty3 rfl rfl (cellAt hb0 (hashL_size hs hr)) (gS (Yk.lenRB sha7_ty24 (RB.of (RB.ofOwn ho_v4) T4) (gS (Yk.bin (xv := NI N) (yv := NI ((128 :: List.replicate k 0 : List UInt8).length)) rfl rfl rfl (i64_add _ _ _ (by simp; omega)) (gS (Yk.bin (xv := NI ((N) + ((128 :: List.replicate k 0 : List UInt8).length))) (yv := NI 64) rfl rfl rfl (i64_rem _ _ _ (by omega)) (gS (Yk.eqI (a := (((N) + ((128 :: List.replicate k 0 : List UInt8).length)) % (64) : Nat)) (b := (56 : Nat)) rfl rfl (k_neq _ _ _ _) ?_)))))))))))))
 refine cD rfl (fun hc1 => ?_) fun hc1 => ?_
 ·refine gS (Yk.lit1 (b := 0) sha7_l1_24 (vr (B8 (0)) rfl) fun v50 w51 hN52 => ?_)
  have hz57 := hE.size
  have hz58 := hA20.size
  have hz59 := hA36.size
  have hap63 : ApartV v4 v50 := apartv_new ho_v4 hN52.own
  have ho65 := hN52.own
  have hA36 := hA36.trans hN52.ext
  have ho_v4 := Stab.own _ _ _ _ _ _ _ _ ho_v4 hN52.ext
  refine gS (Yk.appendRB _ _ w27.heap.size (.int .u8 0) sha7_ty24 sha7_inf5 rfl sha7_ty24 (128 :: List.replicate k 0) ([(0 : UInt8)]) (own_of ho_v4 T4) (RB.of (RB.ofOwn ho65) (vr v50 rfl)) (by simp; omega) hA36.size fun v66 w67 ho68 hg69 => ?_)
  have hg69 : Grew w51 w67 v4 v66 := .eqv T4 hg69
  have hb0 := eb hN52.ext hb0
  have hap70 : OB v66 g := apart_grew hg69 hap_v4_g (bl hb0)
  have hb9 := eb hN52.ext hb9
  have hap71 : OB v66 n2 := apart_grew hg69 hap_v4_n2 (bl hb9)
  have hb25 := eb hN52.ext hb25
  have hap72 : OB v66 n14 := apart_grew hg69 hap_v4_n14 (bl hb25)
  have hb0 := blk_grew hb0 hg69 hap_v4_g
  have hE := hE.trans hN52.ext
  have hE := ext_grew hE hg69 ho_v4 hz39
  have hb9 := blk_grew hb9 hg69 hap_v4_n2
  have hA20 := hA20.trans hN52.ext
  have hA20 := ext_grew hA20 hg69 ho_v4 hz40
  have hb25 := blk_grew hb25 hg69 hap_v4_n14
  have hA36 := ext_grew hA36 hg69 ho_v4 (Nat.le_refl _)
  have ho65 := own_grew ho65 hg69 hap63
  clear ho_v4
  refine gK (And.intro ⟨k + 1, v66, T0, T2, T3, T11, rfl, hb0, hE, hb9, hA20, hb25, hA36, own_eq ho68 (by simp [List.replicate_succ']), by simp at hc1; omega, hap70, hap71, hap72, trivial⟩ ?_)
  show 65 - sliceLen (v66) < 65 - sliceLen (ρ46 4)
  rw [q4]
  have qn := own_sliceLen ho68
  rw [qn, ql4]
  simp
  omega
 refine gS (Yk.nilCheck T0 (gS (Yk.fieldAt sha7_fo125_3 rfl (gS (Yk.cell1 sha7_ty3 rfl rfl (cellAt hb0 (hashL_size hs hr)) (gS (Yk.convI sha7_ty3 sha7_ty95 rfl (wrap_u64 (N) (by omega)) (gS (Yk.bin (xv := .int .u64 ((N : Nat) : Int)) (yv := .int .u64 ((8 : Nat) : Int)) rfl rfl rfl (u64_mul _ _ _ (by omega)) ?_)))))))))
 obtain ⟨Z, hZ⟩ : ∃ Z, Z = (128 : UInt8) :: List.replicate k 0 := ⟨_, rfl⟩
 have ho_v4 : w47.ownsRow w27.heap.size 5 1 v4 (Z : List UInt8).length (Lib.byteCells (Z)) := (hZ.symm : 128 :: List.replicate k 0 = Z) ▸ ho_v4
 have hZl : Z.length = 1 + k := by rw [hZ]; simp; omega
 refine gL (fun (ρ : Slots) (wz : World) => ∃ i : Nat, ∃ v5 : Value, ρ 0 = (PQ g 0 : Value) ∧ ρ 2 = (PQ n2 0 : Value) ∧ ρ 3 = (PQ n14 0 : Value) ∧ ρ 5 = (.int .u64 (((N) * (8) : Nat) : Int) : Value) ∧ ρ 11 = (.bool (false) : Value) ∧ ρ 36 = (NI i : Value) ∧ ρ 4 = (v5 : Value) ∧ wz.heap[g]? = some (.cells (hashL s r f N).toArray 125 (0, 0)) ∧ Ext w wz ∧ wz.heap[n2]? = some (.cells (Lib.byteCells (List.replicate 32 0)).toArray 38 (0, 0)) ∧ Ext w3 wz ∧ wz.heap[n14]? = some (.cells (hashL s r f N).toArray 125 (0, 0)) ∧ Ext w27 wz ∧ wz.ownsRow w27.heap.size 5 1 v5 (Z ++ (Sha.be64 (8 * N)).take i : List UInt8).length (Lib.byteCells (Z ++ (Sha.be64 (8 * N)).take i)) ∧ (i ≤ 8) ∧ (OB v5 g) ∧ (OB v5 n2) ∧ (OB v5 n14) ∧ True) (fun ρ _ => 8 - (intOf (ρ 36)).toNat) ⟨0, v4, T0, T2, T3, rfl, T11, rfl, T4, hb0, hE, hb9, hA20, hb25, hA36, own_eq ho_v4 (by simp), by omega, hap_v4_g, hap_v4_n2, hap_v4_n14, trivial⟩ ?_
 clear ho_v4
 clear hb0 hE hb9 hA20 hb25 hA36
 rintro ρ78 w79 ⟨i, v5, T0, T2, T3, T5, T11, T36, T4, hb0, hE, hb9, hA20, hb25, hA36, ho5, hi, hap_v5_g, hap_v5_n2, hap_v5_n14, -⟩
 have q36 := T36
 have ql4 := own_sliceLen ho5
 refine gS (Yk.eqI (a := (i : Nat)) (b := (8 : Nat)) T36 rfl (k_lss _ _ _ _) ?_)
 refine cD rfl (fun hc2 => ?_) fun hc2 => ?_
 ·refine gS (Yk.bin (xv := NI 8) (yv := NI i) rfl T36 rfl (i64_mul _ _ _ (by omega)) (gS (Yk.bin (xv := NI 56) (yv := NI ((8) * (i))) rfl rfl rfl (i64_sub _ _ _ (by omega) (by omega)) (gS (Yk.bin (xv := .int .u64 (((N) * (8) : Nat) : Int)) (yv := NI ((56) - ((8) * (i)))) T5 rfl rfl (u64_shr _ _ _ _ (by omega)) (gS (Yk.convI sha7_ty95 sha7_ty5 rfl (toByte (((N) * (8)) / 2 ^ ((56) - ((8) * (i))))) (gS (Yk.lit1 (b := UInt8.ofNat (((N) * (8)) / 2 ^ ((56) - ((8) * (i))))) sha7_l1_24 (vr (B8 (UInt8.ofNat (((N) * (8)) / 2 ^ ((56) - ((8) * (i)))))) rfl) fun v84 w85 hN86 => ?_)))))))))
  have hz91 := hE.size
  have hz92 := hA20.size
  have hz93 := hA36.size
  have hap97 : ApartV v5 v84 := apartv_new ho5 hN86.own
  have ho99 := hN86.own
  have hA36 := hA36.trans hN86.ext
  have ho5 := Stab.own _ _ _ _ _ _ _ _ ho5 hN86.ext
  refine gS (Yk.appendRB _ _ w27.heap.size (.int .u8 0) sha7_ty24 sha7_inf5 rfl sha7_ty24 (Z ++ (Sha.be64 (8 * N)).take i) ([(UInt8.ofNat (((N) * (8)) / 2 ^ ((56) - ((8) * (i)))) : UInt8)]) (own_of ho5 T4) (RB.of (RB.ofOwn ho99) (vr v84 rfl)) (by simp [Sha.be64]; omega) hA36.size fun v100 w101 ho102 hg103 => ?_)
  have hg103 : Grew w85 w101 v5 v100 := .eqv T4 hg103
  have hb0 := eb hN86.ext hb0
  have hap104 : OB v100 g := apart_grew hg103 hap_v5_g (bl hb0)
  have hb9 := eb hN86.ext hb9
  have hap105 : OB v100 n2 := apart_grew hg103 hap_v5_n2 (bl hb9)
  have hb25 := eb hN86.ext hb25
  have hap106 : OB v100 n14 := apart_grew hg103 hap_v5_n14 (bl hb25)
  have hb0 := blk_grew hb0 hg103 hap_v5_g
  have hE := hE.trans hN86.ext
  have hE := ext_grew hE hg103 ho5 hz39
  have hb9 := blk_grew hb9 hg103 hap_v5_n2
  have hA20 := hA20.trans hN86.ext
  have hA20 := ext_grew hA20 hg103 ho5 hz40
  have hb25 := blk_grew hb25 hg103 hap_v5_n14
  have hA36 := ext_grew hA36 hg103 ho5 (Nat.le_refl _)
  have ho99 := own_grew ho99 hg103 hap97
  clear ho5
  refine gS (Yk.bin (xv := NI i) (yv := NI 1) T36 rfl rfl (i64_add _ _ _ (by omega)) (gK (And.intro ⟨i + 1, v100, T0, T2, T3, T5, T11, rfl, rfl, hb0, hE, hb9, hA20, hb25, hA36, own_eq ho102 (by rw [Sha.be64_take _ _ hc2, List.append_assoc, Nat.mul_comm N 8]), by omega, hap104, hap105, hap106, trivial⟩ ?_)))
  show 8 - (intOf (NI ((i) + (1)))).toNat < 8 - (intOf (ρ78 36)).toNat
  rw [q36]
  simp only [intOf, Int.toNat_natCast]; omega
 obtain ⟨Q, hQ⟩ : ∃ Q, Q = Z ++ (Sha.be64 (8 * N)).take i := ⟨_, rfl⟩
 have ho5 : w79.ownsRow w27.heap.size 5 1 v5 (Q : List UInt8).length (Lib.byteCells (Q)) := (hQ.symm : Z ++ (Sha.be64 (8 * N)).take i = Q) ▸ ho5
 have hQt : Q = Sha.tail p.length := by simp at hc1; rw [hQ, hZ, show i = 8 by omega, show k = (119 - p.length % 64) % 64 by omega, List.take_of_length_le (by simp [Sha.be64]), ← hN]; simp [Sha.tail]
 have hQl : Q.length ≤ 100 := by rw [hQ]; simp [Sha.be64]; omega
 refine gS (Yk.callA2 sha7_pl39 T3 T4 ((write_any _ (hG.keep hE) n14 (by omega) p ⟨s, r, hat, by rw [← hf, hN]; exact hb25⟩ v5 Q (RB.ofOwn ho5) hap_v5_n14 (by omega)).mono ?_))
 rintro e w111 ⟨rfl, ⟨s2, r2, hat2, hb3⟩, hg110⟩
 refine ⟨_, rfl, ?_⟩
 have hb0 := kb hg110 hb0 (by omega)
 have hE := row_fresh hE hg110 (Nat.le_trans hz22 (by omega))
 have hb9 := kb hg110 hb9 (by omega)
 have hA20 := row_fresh hA20 hg110 (Nat.le_trans (Nat.le_refl _) (by omega))
 clear hA36
 have ho5 := own_kept ho5 hg110 hap_v5_n14
 clear hb25
 have hs2 := hat2.slen
 have hr2 := hat2.len
 refine gS (Yk.alloc sha7_al38 fun n113 w114 hn115 hb116 hx117 hs118 => ?_)
 have hA119 := Ext.refl w111
 have hz122 := hE.size
 have hz123 := hA20.size
 have hlt124 := lte (bl hb0) hn115
 have hlt125 := lte (bl hb9) hn115
 have hlt126 := lte (bl hb3) hn115
 have hap127 : OB v5 n113 := own_newer ho5 (by omega)
 have hb128 := hb116; clear hb116
 have hl129 : n113 < w114.heap.size := by omega
 have hb0 := eb hx117 hb0
 have hE := hE.trans hx117
 have hb9 := eb hx117 hb9
 have hA20 := hA20.trans hx117
 have ho5 := Stab.own _ _ _ _ _ _ _ _ ho5 hx117
 have hb3 := eb hx117 hb3
 have hA119 := hA119.trans hx117
 refine gS (Yk.fieldAt sha7_fo125_0 T3 (gS (Yk.loadPart (cs := s2.map fun x => U x) rfl (range_state hb3) sha7_ty88 rfl (by rw [List.length_map, hs2]; exact sha7_isz88) (gL (fun (ρ : Slots) (wz : World) => ∃ j : Nat, ρ 0 = (PQ g 0 : Value) ∧ ρ 2 = (PQ n2 0 : Value) ∧ ρ 3 = (PQ n14 0 : Value) ∧ ρ 4 = (v5 : Value) ∧ ρ 5 = (.int .u64 (((N) * (8) : Nat) : Int) : Value) ∧ ρ 7 = (PQ n113 0 : Value) ∧ ρ 11 = (.bool (false) : Value) ∧ ρ 36 = (NI i : Value) ∧ ρ 52 = (.agg (s2.map fun x => U x).toArray : Value) ∧ ρ 53 = (NI j : Value) ∧ wz.heap[g]? = some (.cells (hashL s r f N).toArray 125 (0, 0)) ∧ Ext w wz ∧ wz.heap[n2]? = some (.cells (Lib.byteCells (List.replicate 32 0)).toArray 38 (0, 0)) ∧ Ext w3 wz ∧ wz.ownsRow w27.heap.size 5 1 v5 (Q : List UInt8).length (Lib.byteCells (Q)) ∧ wz.heap[n14]? = some (.cells (hashL s2 r2 ((p ++ Q).length % 64) (p ++ Q).length).toArray 125 (0, 0)) ∧ Ext w111 wz ∧ wz.heap[n113]? = some (.cells (Lib.byteCells (Sha.outs s2 j)).toArray 38 (0, 0)) ∧ (j ≤ 8) ∧ True) (fun ρ _ => 8 - (intOf (ρ 53)).toNat) ⟨0, T0, T2, T3, T4, T5, rfl, T11, T36, rfl, rfl, hb0, hE, hb9, hA20, ho5, hb3, hA119, blk_eq hb128 (rfl), by omega, trivial⟩ ?_))))
 clear hb128
 clear hb0 hE hb9 hA20 ho5 hb3 hA119
 rintro ρ132 w133 ⟨j, T0, T2, T3, T4, T5, T7, T11, T36, T52, T53, hb0, hE, hb9, hA20, ho5, hb3, hA119, hb128l, hj, -⟩
 have q53 := T53
 refine gS (Yk.eqI (a := (j : Nat)) (b := (8 : Nat)) T53 rfl (k_lss _ _ _ _) ?_)
 refine cD rfl (fun hc3 => ?_) fun hc3 => ?_
 ·refine gS (Yk.idxU (l := s2) (i := j) sha7_ty88 sha7_ty87 rfl sha7_sz87 T52 T53 (by omega) (hs2) (gS (Yk.bin (xv := NI 4) (yv := NI j) rfl T53 rfl (i64_mul _ _ _ (by omega)) (gS (Yk.bin (xv := NI 4) (yv := NI j) rfl T53 rfl (i64_mul _ _ _ (by omega)) (gS (Yk.bin (xv := NI ((4) * (j))) (yv := NI 1) rfl rfl rfl (i64_add _ _ _ (by omega)) (gS (Yk.bin (xv := NI 4) (yv := NI j) rfl T53 rfl (i64_mul _ _ _ (by omega)) (gS (Yk.bin (xv := NI ((4) * (j))) (yv := NI 2) rfl rfl rfl (i64_add _ _ _ (by omega)) (gS (Yk.bin (xv := NI 4) (yv := NI j) rfl T53 rfl (i64_mul _ _ _ (by omega)) (gS (Yk.bin (xv := NI ((4) * (j))) (yv := NI 3) rfl rfl rfl (i64_add _ _ _ (by omega)) (gS (Yk.bin rfl rfl rfl (u_shr _ _ _ 24 (by decide)) (gS (Yk.narrow sha7_ty87 sha7_ty5 rfl (gS (Yk.bin rfl rfl rfl (u_shr _ _ _ 16 (by decide)) (gS (Yk.narrow sha7_ty87 sha7_ty5 rfl (gS (Yk.bin rfl rfl rfl (u_shr _ _ _ 8 (by decide)) (gS (Yk.narrow sha7_ty87 sha7_ty5 rfl (gS (Yk.narrow sha7_ty87 sha7_ty5 rfl (gS (Yk.atArr0 (i := (4) * (j)) sha7_ty38 sha7_sz5 T7 rfl (by omega) ?_)))))))))))))))))))))))))))))))
  refine gS (Yk.storeB8 (i := (4) * (j)) (v := ((s2.getD (j) 0) >>> 24).toUInt8) rfl rfl hb128l (by rw [Sha.outs_length _ hs2 _ (by omega)]; omega) sha7_isz5 fun w138 hb139 hg140 hs141 => ?_)
  have hb0 := kb hg140 hb0 (by omega)
  have hE := row_fresh hE hg140 (Nat.le_trans hz122 (by omega))
  have hb9 := kb hg140 hb9 (by omega)
  have hA20 := row_fresh hA20 hg140 (Nat.le_trans hz123 (by omega))
  have ho5 := own_kept ho5 hg140 hap127
  have hb3 := kb hg140 hb3 (by omega)
  have hA119 := row_fresh hA119 hg140 (Nat.le_trans (Nat.le_refl _) (by omega))
  clear hb128l
  have hb128l := hb139; clear hb139
  have hl142 := bl hb128l
  refine gS (Yk.atArr0 (i := ((4) * (j)) + (1)) sha7_ty38 sha7_sz5 T7 rfl (by omega) (gS (Yk.storeB8 (i := ((4) * (j)) + (1)) (v := ((s2.getD (j) 0) >>> 16).toUInt8) rfl rfl hb128l (by rw [List.length_set, Sha.outs_length _ hs2 _ (by omega)]; omega) sha7_isz5 fun w143 hb144 hg145 hs146 => ?_)))
  have hb0 := kb hg145 hb0 (by omega)
  have hE := row_fresh hE hg145 (Nat.le_trans hz122 (by omega))
  have hb9 := kb hg145 hb9 (by omega)
  have hA20 := row_fresh hA20 hg145 (Nat.le_trans hz123 (by omega))
  have ho5 := own_kept ho5 hg145 hap127
  have hb3 := kb hg145 hb3 (by omega)
  have hA119 := row_fresh hA119 hg145 (Nat.le_trans (Nat.le_refl _) (by omega))
  clear hb128l
  have hb128l := hb144; clear hb144
  have hl147 := bl hb128l
  refine gS (Yk.atArr0 (i := ((4) * (j)) + (2)) sha7_ty38 sha7_sz5 T7 rfl (by omega) (gS (Yk.storeB8 (i := ((4) * (j)) + (2)) (v := ((s2.getD (j) 0) >>> 8).toUInt8) rfl rfl hb128l (by rw [List.length_set, List.length_set, Sha.outs_length _ hs2 _ (by omega)]; omega) sha7_isz5 fun w148 hb149 hg150 hs151 => ?_)))
  have hb0 := kb hg150 hb0 (by omega)
  have hE := row_fresh hE hg150 (Nat.le_trans hz122 (by omega))
  have hb9 := kb hg150 hb9 (by omega)
  have hA20 := row_fresh hA20 hg150 (Nat.le_trans hz123 (by omega))
  have ho5 := own_kept ho5 hg150 hap127
  have hb3 := kb hg150 hb3 (by omega)
  have hA119 := row_fresh hA119 hg150 (Nat.le_trans (Nat.le_refl _) (by omega))
  clear hb128l
  have hb128l := hb149; clear hb149
  have hl152 := bl hb128l
  refine gS (Yk.atArr0 (i := ((4) * (j)) + (3)) sha7_ty38 sha7_sz5 T7 rfl (by omega) (gS (Yk.storeB8 (i := ((4) * (j)) + (3)) (v := (s2.getD (j) 0).toUInt8) rfl rfl hb128l (by rw [List.length_set, List.length_set, List.length_set, Sha.outs_length _ hs2 _ (by omega)]; omega) sha7_isz5 fun w153 hb154 hg155 hs156 => ?_)))
  have hb0 := kb hg155 hb0 (by omega)
  have hE := row_fresh hE hg155 (Nat.le_trans hz122 (by omega))
  have hb9 := kb hg155 hb9 (by omega)
  have hA20 := row_fresh hA20 hg155 (Nat.le_trans hz123 (by omega))
  have ho5 := own_kept ho5 hg155 hap127
  have hb3 := kb hg155 hb3 (by omega)
  have hA119 := row_fresh hA119 hg155 (Nat.le_trans (Nat.le_refl _) (by omega))
  clear hb128l
  have hb128l := hb154; clear hb154
  have hl157 := bl hb128l
  refine gS (Yk.bin (xv := NI j) (yv := NI 1) T53 rfl rfl (i64_add _ _ _ (by omega)) (gK (And.intro ⟨j + 1, T0, T2, T3, T4, T5, T7, T11, T36, T52, rfl, hb0, hE, hb9, hA20, ho5, hb3, hA119, blk_eq hb128l (congrArg Lib.byteCells (Sha.outs_step s2 hs2 j hc3)), by omega, trivial⟩ ?_)))
  show 8 - (intOf (NI ((j) + (1)))).toNat < 8 - (intOf (ρ132 53)).toNat
  rw [q53]
  simp only [intOf, Int.toNat_natCast]; omega
 refine gS (Yk.loadAll T7 hb128l sha7_ty38 rfl (by rw [List.size_toArray, Lib.byteCells_length, Sha.outs_length _ hs2 _ (by omega)]; exact sha7_isz38) (gS (Yk.storeAll T2 (vr (AB (Sha.outs s2 j)) rfl) hb9 (by rw [List.size_toArray, Lib.byteCells_length, Sha.outs_length _ hs2 _ (by omega)]; rfl) (by rw [List.size_toArray, Lib.byteCells_length, Sha.outs_length _ hs2 _ (by omega)]; exact sha7_isz38) (byteCells_one _) fun w159 hb160 hg161 hs162 => ?_)))
 have hb0 := kb hg161 hb0 (by omega)
 have hE := row_fresh hE hg161 (Nat.le_trans (Nat.le_refl _) (by omega))
 clear hA20
 have ho5 := own_kept ho5 hg161 hap_v5_n2
 have hb3 := kb hg161 hb3 (by omega)
 clear hA119
 have hb128l := kb hg161 hb128l (by omega)
 clear hb9
 have hb9 := hb160; clear hb160
 have hl163 := bl hb9
 refine rg1 rfl (ResF.row T2 hb9 sha7_ty38 rfl (by rw [List.size_toArray, Lib.byteCells_length, Sha.outs_length _ hs2 _ (by omega)]; exact sha7_isz38)) ?_
 refine ⟨?_, hE⟩
 have e : Sha.outs s2 j = Sha.sum p := by rw [show j = 8 by omega, Sha.outs_all s2 hs2, hat2.state, hQt]; rfl
 rw [e]

open Go.RowKit
set_option maxRecDepth 100000
theorem HashAt.other {w w' : World} {g b : Nat} {p : List UInt8} (h : HashAt w g p) (hg : w.grownBy w' (some b)) (hne : g ≠ b) : HashAt w' g p := by
 obtain ⟨s, r, h1, h2⟩ := h
 exact ⟨s, r, h1, (hg.block g (bl h2) (by simpa using hne)).trans h2⟩
theorem flatten_take (ls : List (List UInt8)) (i : Nat) (hi : i < ls.length) : (ls.take (i + 1)).flatten = (ls.take i).flatten ++ ls.getD i [] := by
 rw [List.take_succ_eq_append_getElem hi, List.flatten_append]
 simp [hi]
theorem flatten_take_le (ls : List (List UInt8)) (i : Nat) (hi : i < ls.length) : (ls.take i).flatten.length + (ls.getD i []).length ≤ ls.flatten.length := by
 have h1 := flatten_take ls i hi
 have h2 : ls.flatten = (ls.take (i + 1)).flatten ++ (ls.drop (i + 1)).flatten := by rw [← List.flatten_append, List.take_append_drop]
 rw [h2, h1]
 simp only [List.length_append]
 omega
theorem sha8_ty76 : Tryd.prog.underlying 76 = some (.pointer 125) := by kernel_rfl
theorem sha8_fo125_3 : FieldOff Tryd.prog 125 3 73 := fun b o w => by simp [go_sem]
theorem sha8_ty3 : Tryd.prog.underlying 3 = some (.int .i64) := by kernel_rfl
theorem sha8_ty24 : Tryd.prog.underlying 24 = some (.slice 5) := by kernel_rfl
theorem sha8_isz3 : (Tryd.prog.info? 3).map (·.size) = some 1 := by kernel_rfl
theorem sha8_isz38 : (Tryd.prog.info? 38).map (·.size) = some 32 := by kernel_rfl
theorem sha8_al38 {d : Option Tmp} {ty : TypeId} {pos : String} {af : Array Edge} {gd : Option (Nat × Bool)} (σ : Operand → Value) (w : World) : (execOp σ ⟨d, .alloc 38, ty, pos, af, gd⟩).run Tryd.prog w = .ok (.value (PQ w.heap.size 0)) (w.alloc (.cells (Lib.byteCells (List.replicate 32 0)).toArray 38)) := by kernel_rfl
theorem sha8_pl38 : Plain Tryd.prog 38 := fun _ _ => by kernel_rfl
theorem sha8_ty75 : Tryd.prog.underlying 75 = some (.slice 24) := by kernel_rfl
theorem sha8_sz24 : ∀ w' : World, (sizeOf 24).run Tryd.prog w' = .ok 1 w' := fun _ => by kernel_rfl
theorem sha8_pl39 : Plain Tryd.prog 39 := fun _ _ => by kernel_rfl
theorem sha8_pl40 : Plain Tryd.prog 40 := fun _ _ => by kernel_rfl
theorem sha8_ty38 : Tryd.prog.underlying 38 = some (.array 32 5) := by kernel_rfl
theorem writeEmpty_any (w : World) (g : Nat) (p : List UInt8) (hH : HashAt w g p) (v : Value) (hc : RB w v []) (hb : p.length < 4611686018427387904) :
  Calls Tryd.prog 39 #[PQ g 0, v] w fun e w' => e = .returned (.tuple #[]) ∧ HashAt w' g p ∧ w.grownBy w' (some g) := by
 obtain ⟨s, r, hat, hb0⟩ := hH
 have hs := hat.slen
 have hr := hat.len
 obtain ⟨f, hf⟩ : ∃ f, f = p.length % 64 := ⟨_, rfl⟩
 rw [← hf] at hb0
 have hgr : w.grownBy w (some g) := World.grownBy.refl _ _
 refine gG (args := [PQ g 0, v]) Tryd.func39 rfl 60 rfl rfl (gS (Yk.eqlNil sha8_ty76 rfl (cF rfl (gS (Yk.nilCheck rfl (gS (Yk.fieldAt sha8_fo125_3 rfl (gS (Yk.cell1 sha8_ty3 rfl rfl (cellAt hb0 (hashL_size hs hr)) (gS (Yk.lenRB sha8_ty24 (RB.of hc rfl) (gS (Yk.bin (xv := NI p.length) (yv := NI ((([] : List UInt8) : List UInt8).length)) rfl rfl rfl (i64_add _ _ _ (by simp; omega)) (gS (Yk.nilCheck rfl (gS (Yk.fieldAt sha8_fo125_3 rfl (gS (Yk.storeC (i := 73) (v := NI ((p.length) + ((([] : List UInt8) : List UInt8).length))) rfl rfl hb0 (by rw [hashL_length hs hr]; omega) sha8_isz3 rfl rfl fun w4 hb5 hg6 hs7 => ?_)))))))))))))))))))
 have hc : RB w4 v ([] : List UInt8) := RB.nilAny hc
 have hgr : w.grownBy w4 (some g) := grownBy_trans hgr hg6 (fun _ e => .inl e)
 clear hb0
 have hb0 := hb5; clear hb5
 have hl8 := bl hb0
 have hb0 : w4.heap[g]? = some (.cells (hashL s r f p.length).toArray 125 (0, 0)) := blk_eq hb0 (hashL_setSize hs hr)
 refine gL (fun (ρ : Slots) (wz : World) => ρ 0 = (PQ g 0 : Value) ∧ ρ 6 = (.bool (false) : Value) ∧ ρ 1 = (v : Value) ∧ RB wz v ([] : List UInt8) ∧ w.grownBy wz (some g) ∧ wz.heap[g]? = some (.cells (hashL s r f p.length).toArray 125 (0, 0)) ∧ True) (fun ρ _ => 0) ⟨rfl, rfl, rfl, hc, hgr, hb0, trivial⟩ ?_
 clear hc hgr hb0
 rintro ρ9 w10 ⟨T0, T6, T1, hc, hgr, hb0, -⟩
 refine gS (Yk.lenRB sha8_ty24 (RB.of hc T1) (gS (Yk.eqI (a := ((([] : List UInt8) : List UInt8).length : Nat)) (b := (0 : Nat)) rfl rfl (k_gtr _ _ _ _) (cF ((rfl).trans (congrArg Value.bool (decide_eq_false (by simp)))) (rt0 rfl ?_)))))
 exact ⟨rfl, ⟨s, r, hat, by rw [← hf]; exact hb0⟩, hgr⟩

theorem write_all (w : World) (hG : Laid w) (g : Nat) (hh : 1 < g) (p : List UInt8) (hH : HashAt w g p) (v : Value) (c : List UInt8) (hc : RB w v c) (hv : 0 < c.length → v.ownBlock ≠ some g) (hb : p.length + c.length < 4611686018427387904) :
  Calls Tryd.prog 39 #[PQ g 0, v] w fun e w' => e = .returned (.tuple #[]) ∧ HashAt w' g (p ++ c) ∧ w.grownBy w' (some g) := by
 by_cases h0 : 0 < c.length
 ·exact write_any w hG g hh p hH v c hc (hv h0) hb
 ·have : c = [] := List.eq_nil_of_length_eq_zero (by omega)
  subst this
  rw [List.append_nil]
  exact writeEmpty_any w g p hH v hc (by simpa using hb)

theorem sum_any (w : World) (hG : Laid w) (v : Value) (ls : List (List UInt8)) (hls : RBs w v ls) (hb : ls.flatten.length < 1152921504606846976) (hlen : ls.length < 1152921504606846976) :
    Calls Tryd.prog 17 #[v] w fun e w' => e = .returned (AB (Sha.sum ls.flatten)) ∧ Ext w w' := by
 have hw2 : 1 < w.heap.size := hG.two
 refine gG (args := [v]) Tryd.func17 rfl 19 rfl rfl ?_
 have hE := Ext.refl w
 refine gS (Yk.alloc sha8_al38 fun n2 w3 hn4 hb5 hx6 hs7 => ?_)
 have hb8 := hb5; clear hb5
 have hl9 : n2 < w3.heap.size := by omega
 have hE := hE.trans hx6
 refine gS (Yk.callA0 sha8_pl38  ((new_any _ (hG.keep hE)).mono ?_))
 rintro e w14 ⟨gH, rfl, hn13, hH12, hx11⟩
 refine ⟨_, rfl, ?_⟩
 have hA15 := Ext.refl w3
 have hz17 := hE.size
 have hlt18 : n2 < gH := by have := (bl hb8); omega
 have hE := hE.trans hx11
 have hb8 := eb hx11 hb8
 have hA15 := hA15.trans hx11
 refine gS (Yk.lenRBs sha8_ty75 (RBs.of (hls.keep hE) rfl) (gL (fun (ρ : Slots) (wz : World) => ∃ i : Nat, ρ 0 = (v : Value) ∧ ρ 2 = (PQ n2 0 : Value) ∧ ρ 3 = (PQ gH 0 : Value) ∧ ρ 7 = (v : Value) ∧ ρ 8 = (NI ls.length : Value) ∧ ρ 9 = (NI i : Value) ∧ Ext w wz ∧ wz.heap[n2]? = some (.cells (Lib.byteCells (List.replicate 32 0)).toArray 38 (0, 0)) ∧ Ext w3 wz ∧ HashAt wz gH ((ls.take i).flatten) ∧ (i ≤ ls.length) ∧ True) (fun ρ _ => ls.length - (intOf (ρ 9)).toNat) ⟨0, rfl, rfl, rfl, rfl, rfl, rfl, hE, hb8, hA15, by simpa using hH12, Nat.zero_le _, trivial⟩ ?_))
 clear hH12
 clear hE hb8
 rintro ρ21 w22 ⟨i, T0, T2, T3, T7, T8, T9, hE, hb8, hA15, hHi, hi, -⟩
 have q9 := T9
 refine gS (Yk.eqI (a := (i : Nat)) (b := (ls.length : Nat)) T9 T8 (k_lss _ _ _ _) ?_)
 refine cD rfl (fun hi3 => ?_) fun hi3 => ?_
 ·refine gS (Yk.atRBs0 (ls := ls) (i := i) hE sha8_ty75 sha8_sz24 hls T7 T9 (hi3) fun v27 u28 hp29 hr30 => (gS (Yk.loadC sha8_ty24 rfl (PCell.of hp29 rfl) ?_)))
  clear hp29
  refine gS (Yk.callA2 sha8_pl39 T3 rfl ((write_all _ (hG.keep hE) gH (by omega) ((ls.take i).flatten) hHi u28 (ls.getD (i) []) (hr30.keep hE) (fun h0 hb => by have := RB.lt hr30 h0 hb; omega) (by have := flatten_take_le ls i hi3; omega)).mono ?_))
  rintro e w33 ⟨rfl, hH31, hg32⟩
  refine ⟨_, rfl, ?_⟩
  clear hHi
  have hE := row_fresh hE hg32 (Nat.le_trans hz17 hn13)
  have hb8 := kb hg32 hb8 (by omega)
  have hA15 := row_fresh hA15 hg32 (Nat.le_trans (Nat.le_refl _) hn13)
  refine gS (Yk.bin (xv := NI i) (yv := NI 1) T9 rfl rfl (i64_add _ _ _ (by have := hlen; omega)) (gK (And.intro ⟨i + 1, T0, T2, T3, T7, T8, rfl, hE, hb8, hA15, (show HashAt _ _ _ from by rw [flatten_take ls i hi3]; exact hH31), by omega, trivial⟩ ?_)))
  show ls.length - (intOf (NI ((i) + (1)))).toNat < ls.length - (intOf (ρ21 9)).toNat
  rw [q9]
  simp only [intOf, Int.toNat_natCast]; omega
 have hfl : (ls.take i).flatten = ls.flatten := by rw [List.take_of_length_le (by omega)]
 have hfl2 := congrArg List.length hfl
 refine gS (Yk.callA1 sha8_pl40 T3 ((sumAt_any _ (hG.keep hE) gH ((ls.take i).flatten) hHi (by omega)).mono ?_))
 rintro e w36 ⟨rfl, hx35⟩
 refine ⟨_, rfl, ?_⟩
 have hb8 := eb hx35 hb8
 refine gS (Yk.storeAll T2 (vr (AB (Sha.sum ((ls.take i).flatten))) rfl) hb8 (by rw [List.size_toArray, Lib.byteCells_length, Sha.sum_length]; rfl) (by rw [List.size_toArray, Lib.byteCells_length, Sha.sum_length]; exact sha8_isz38) (byteCells_one _) fun w37 hb38 hg39 hs40 => ?_)
 clear hA15
 have hHi := hHi.keep hx35
 have hHi := HashAt.other hHi hg39 (by omega)
 clear hb8
 have hb8 := hb38; clear hb38
 have hl41 := bl hb8
 refine rg1 rfl (ResF.row T2 hb8 sha8_ty38 rfl (by rw [List.size_toArray, Lib.byteCells_length, Sha.sum_length]; exact sha8_isz38)) ?_
 rw [hfl]
 have hE := hE.trans hx35
 have hE := row_fresh hE hg39 (Nat.le_trans (Nat.le_refl _) (by omega))
 exact ⟨rfl, hE⟩
open Go.RowKit
set_option maxRecDepth 100000
namespace Sha
end Sha
open Go.RowKit
structure Pt where
  v : Value
  bytes : Bs
  base : Int
def dPt : Pt := ⟨.slice none 0 0, [], 0⟩
def partC (p : Pt) : List Value := [p.v, .int .i64 p.base]
def PartsOk (w : World) (ps : List Pt) : Prop := ∀ p ∈ ps, RB w p.v p.bytes ∧ -9223372036854775808 ≤ p.base ∧ p.base ≤ 9223372036854775807
theorem PartsOk.keep {w w' : World} {ps : List Pt} (h : PartsOk w ps) (k : Ext w w') : PartsOk w' ps := fun p hp => ⟨(h p hp).1.keep k, (h p hp).2⟩
theorem partC_one {p : Pt} (h : p.v.cells = #[p.v] ∧ p.v.oneCell' = true) : ∀ u ∈ partC p, u.oneCell' = true := by
  intro u hu
  simp only [partC, List.mem_cons, List.not_mem_nil, or_false] at hu
  rcases hu with rfl | rfl
  · exact h.2
  · rfl
structure BS where
  b : Bs
  ids : List Bs
  places : List Nat
  depths : List Nat
  total : Nat
def textB (s : Bs) : Bs := Lib.uvarint s.length ++ s
def depthB (p : Pt) (s : BS) : Nat := if p.base < 0 then 0 else s.depths.getD p.base.toNat 0 + 1
def bnext (ps : List Pt) (p : Pt) (s : BS) : BS :=
  { b := if p.base < 0 then s.b ++ [0] ++ textB p.bytes else s.b ++ [1] ++ s.ids.getD p.base.toNat [] ++ textB (makeP (ps.getD p.base.toNat dPt).bytes p.bytes)
    ids := s.ids ++ [Sha.sum p.bytes], places := s.places ++ [s.b.length], depths := s.depths ++ [depthB p s], total := s.total + p.bytes.length }
def pstep (ps : List Pt) (i : Nat) (s : BS) : Except Nat BS :=
  if (ps.getD i dPt).base < -1 ∨ (i : Int) ≤ (ps.getD i dPt).base then .error 1
  else if Sha.sum (ps.getD i dPt).bytes ∈ s.ids then .error 11
  else if 50 < depthB (ps.getD i dPt) s then .error 17
  else .ok (bnext ps (ps.getD i dPt) s)
def bgo (ps : List Pt) : Nat → Except Nat BS
  | 0 => .ok ⟨80 :: Lib.uvarint ps.length, [], [], [], 0⟩
  | i + 1 => match bgo ps i with
    | .error e => .error e
    | .ok s => pstep ps i s
theorem bgo_err {ps : List Pt} {e : Nat} : ∀ {i : Nat} (_ : bgo ps i = .error e) (k : Nat), bgo ps (i + k) = .error e
  | _, h, 0 => h
  | i, h, k + 1 => by
    show (match bgo ps (i + k) with | .error e => _ | .ok s => _) = _
    rw [bgo_err h k]
theorem bgo_step {ps : List Pt} {i : Nat} {s : BS} (h : bgo ps i = .ok s) : bgo ps (i + 1) = pstep ps i s := by
  show (match bgo ps i with | .error e => _ | .ok s => _) = _
  rw [h]
def placesG (s : BS) (id : Bs) : Option Nat := (s.ids.zip s.places).lookup id
def LightP (ps : List Pt) : Prop := ps.length ≤ 60 ∧ ∀ p ∈ ps, p.bytes.length ≤ 200
structure BOk (i : Nat) (s : BS) : Prop where
  ids : s.ids.length = i
  places : s.places.length = i
  depths : s.depths.length = i
  len : ∀ id ∈ s.ids, id.length = 32
  b : s.b.length ≤ 10 + 500 * i
  pl : ∀ p ∈ s.places, p ≤ 10 + 500 * i
  dp : ∀ d ∈ s.depths, d ≤ 50
  total : s.total ≤ 200 * i
theorem uv3 {n : Nat} (h : n < 16384) : (Lib.uvarint n).length ≤ 2 := by
  by_cases h1 : n < 128
  · rw [Lib.uvarint_small h1]; simp
  · rw [Lib.uvarint_big (by omega), Lib.uvarint_small (by omega)]; simp
theorem lookup_zip_none {α β : Type} [BEq α] [LawfulBEq α] : ∀ (l : List α) (m : List β) (x : α), x ∉ l → (l.zip m).lookup x = none
  | [], _, _, _ => by simp
  | _ :: _, [], _, _ => by simp
  | a :: l, b :: m, x, h => by
    simp only [List.mem_cons, not_or] at h
    rw [List.zip_cons_cons, List.lookup_cons, lookup_zip_none l m x h.2]
    have : (x == a) = false := by simpa using h.1
    rw [this]
theorem lookup_zip_some {α β : Type} [BEq α] [LawfulBEq α] : ∀ (l : List α) (m : List β) (x : α), l.length = m.length → x ∈ l → ∃ y, (l.zip m).lookup x = some y ∧ y ∈ m
  | [], _, _, _, h => by simp at h
  | _ :: _, [], _, h, _ => by simp at h
  | a :: l, b :: m, x, hl, h => by
    rw [List.zip_cons_cons, List.lookup_cons]
    by_cases e : x = a
    · subst e
      exact ⟨b, by simp, by simp⟩
    · have : (x == a) = false := by simpa using e
      rw [this]
      obtain ⟨y, h1, h2⟩ := lookup_zip_some l m x (by simpa using hl) ((List.mem_cons.1 h).resolve_left e)
      exact ⟨y, h1, by simp [h2]⟩
theorem lookup_zip_snoc {α β : Type} [BEq α] [LawfulBEq α] [DecidableEq α] : ∀ (l : List α) (m : List β) (a : α) (b : β), l.length = m.length → a ∉ l → (fun x => ((l ++ [a]).zip (m ++ [b])).lookup x) = updM (fun x => (l.zip m).lookup x) a (some b)
  | [], [], a, b, _, _ => by
    funext x
    unfold updM
    simp only [List.nil_append, List.zip_cons_cons, List.zip_nil_left, List.lookup_cons, List.lookup_nil]
    by_cases e : x = a
    · simp [e]
    · have : (x == a) = false := by simpa using e
      simp [e, this]
  | [], _ :: _, _, _, h, _ => by simp at h
  | _ :: _, [], _, _, h, _ => by simp at h
  | c :: l, d :: m, a, b, hl, h => by
    simp only [List.mem_cons, not_or] at h
    have ih := lookup_zip_snoc l m a b (by simpa using hl) h.2
    funext x
    have ihx := congrFun ih x
    unfold updM at ihx ⊢
    simp only [List.cons_append, List.zip_cons_cons, List.lookup_cons, ihx]
    by_cases e : x = a
    · subst e
      have : (x == c) = false := by simpa using h.1
      simp [this]
    · simp [e]
theorem placesG_next {ps : List Pt} {p : Pt} {i : Nat} {s : BS} (h : BOk i s) (hn : Sha.sum p.bytes ∉ s.ids) : placesG (bnext ps p s) = updM (placesG s) (Sha.sum p.bytes) (some s.b.length) := by
  have := lookup_zip_snoc s.ids s.places (Sha.sum p.bytes) s.b.length (by rw [h.ids, h.places]) hn
  exact this
theorem BOk.next {ps : List Pt} {i : Nat} {s : BS} (hL : LightP ps) (h : BOk i s) (hi : i < ps.length) {s' : BS} (hs : pstep ps i s = Except.ok s') : BOk (i + 1) s' := by
  unfold pstep at hs
  split at hs
  · cases hs
  · split at hs
    · cases hs
    · split at hs
      · cases hs
      · rename_i h1 h2 h3
        cases hs
        have hp := hL.2 _ (getD_mem dPt hi)
        refine ⟨by simp [bnext, h.ids], by simp [bnext, h.places], by simp [bnext, h.depths], ?_, ?_, ?_, ?_, ?_⟩
        · intro id hid
          simp only [bnext, List.mem_append, List.mem_singleton] at hid
          rcases hid with hid | rfl
          · exact h.len id hid
          · exact Sha.sum_length _
        · have hb := h.b
          have hu := uv3 (n := (ps.getD i dPt).bytes.length) (by omega)
          simp only [bnext]
          split
          · simp only [List.length_append, List.length_cons, List.length_nil, textB]
            omega
          · rename_i hbase
            have hb1 : (ps.getD i dPt).base.toNat < s.ids.length := by rw [h.ids]; omega
            have h32 := h.len _ (getD_mem [] hb1)
            have hq := hL.2 _ (getD_mem dPt (l := ps) (i := (ps.getD i dPt).base.toNat) (by rw [h.ids] at hb1; omega))
            have hm := makeP_len (ps.getD (ps.getD i dPt).base.toNat dPt).bytes (ps.getD i dPt).bytes (by omega) (by omega)
            have hu2 := uv3 (n := (makeP (ps.getD (ps.getD i dPt).base.toNat dPt).bytes (ps.getD i dPt).bytes).length) (by omega)
            simp only [List.length_append, List.length_cons, List.length_nil, textB, h32]
            omega
        · intro q hq
          have hb := h.b
          simp only [bnext, List.mem_append, List.mem_singleton] at hq
          rcases hq with hq | rfl
          · have := h.pl q hq; omega
          · omega
        · intro q hq
          simp only [bnext, List.mem_append, List.mem_singleton] at hq
          rcases hq with hq | rfl
          · exact h.dp q hq
          · omega
        · have ht := h.total
          simp only [bnext]
          omega
theorem bgo_ok {ps : List Pt} (hL : LightP ps) : ∀ (i : Nat) (s : BS), i ≤ ps.length → bgo ps i = .ok s → BOk i s
  | 0, s, _, h => by
    cases h
    have := uv3 (n := ps.length) (by have := hL.1; omega)
    exact ⟨rfl, rfl, rfl, by simp, by simp only [List.length_cons]; omega, by simp, by simp, by simp⟩
  | i + 1, s, hi, h => by
    have h' : (match bgo ps i with | .error e => .error e | .ok s => pstep ps i s) = Except.ok s := h
    cases hb : bgo ps i with
    | error e => rw [hb] at h'; cases h'
    | ok s0 =>
      rw [hb] at h'
      exact (bgo_ok hL i s0 (by omega) hb).next hL (by omega) h'
def behindB (s : BS) (at_ : Nat) : Bs := (fanL s.ids).flatMap fourP ++ (sortB s.ids).flatMap (fun id => id ++ fourP ((placesG s id).getD 0)) ++ fourP at_
def buildP (ps : List Pt) : Bs × Nat :=
  match bgo ps ps.length with
  | .error e => ([], e)
  | .ok s => (s.b ++ behindB s s.b.length ++ Sha.sum (s.b ++ behindB s s.b.length), 0)
theorem flat4 (l : List Nat) : (l.flatMap fourP).length = 4 * l.length := by
  induction l with
  | nil => rfl
  | cons a r ih => rw [List.flatMap_cons, List.length_append, ih, fourP_len, List.length_cons]; omega
theorem flat36 (f : Bs → Nat) (l : List Bs) (h : ∀ x ∈ l, x.length = 32) : (l.flatMap fun id => id ++ fourP (f id)).length = 36 * l.length := by
  induction l with
  | nil => rfl
  | cons a r ih =>
    rw [List.flatMap_cons, List.length_append, List.length_append, fourP_len, h a (by simp), ih (fun x hx => h x (by simp [hx])), List.length_cons]
    omega
theorem behindB_len {i : Nat} {s : BS} (h : BOk i s) (a : Nat) : (behindB s a).length = 1028 + 36 * i := by
  unfold behindB
  rw [List.length_append, List.length_append, flat4, fanL_len, flat36 (fun id => (placesG s id).getD 0) _ (fun x hx => h.len x ((sortB_perm _).subset hx)), sortB_len, h.ids, fourP_len]
  omega
open Go.RowKit
set_option maxRecDepth 100000
open Go.WideMaps (KeyLaw)
theorem idKey : KeyLaw Tryd.prog 38 := deep_law_laid (by kernel_rfl) (m := 3) (by decide) (of_decide_eq_true (by kernel_rfl)) (by kernel_rfl) (by kernel_rfl)
theorem idLaw : KL Tryd.prog 38 (fun v => ∃ l, keyOf Tryd.prog 38 v = some l) := KL.ofDeep idKey
theorem id_ok : ∀ id : List UInt8, id.length = 32 → ∃ l, keyOf Tryd.prog 38 (rk id) = some l := fun _ h =>
 keyOf_row (n := 32) (e := 5) Tryd.underlying38 Tryd.underlying5 (by kernel_rfl) (by kernel_rfl) (by kernel_rfl) (of_decide_eq_true (by kernel_rfl)) h
theorem zeroInt : ∀ u : World, (zeroValue 3).run Tryd.prog u = .ok (NI 0) u := fun _ => by kernel_rfl
theorem sum_one (w : World) (hG : Laid w) (v : Value) (l : Bs) (h : RBs w v [l]) (hl : l.length ≤ 1099511627776) :
  Calls Tryd.prog 17 #[v] w fun e w' => e = .returned (AB (Sha.sum l)) ∧ Ext w w' := by
 have := sum_any w hG v [l] h (by simp; omega) (by simp)
 simpa using this
theorem putTextL (w : World) (v : Value) (l : Bs) (hr : RB w v l) (s : Bs) (hl : l.length + s.length + 16 ≤ 140737488355328) :
  Calls Tryd.prog 24 #[v, St s] w fun e w' => ∃ v', e = .returned v' ∧ NewB 5 w w' v' (l ++ textB s) := by
 have := putText_any w v l hr ⟨s.toArray⟩ (by simpa [ByteArray.size] using hl)
 simpa [textB, ByteArray.size, List.append_assoc] using this
theorem buildP_err {ps : List Pt} {i e : Nat} (hi : i < ps.length) (h : bgo ps (i + 1) = .error e) : buildP ps = ([], e) := by
 have := bgo_err h (ps.length - (i + 1))
 rw [show i + 1 + (ps.length - (i + 1)) = ps.length by omega] at this
 unfold buildP
 rw [this]
theorem buildP_ok {ps : List Pt} {s : BS} (h : bgo ps ps.length = .ok s) : buildP ps = (s.b ++ behindB s s.b.length ++ Sha.sum (s.b ++ behindB s s.b.length), 0) := by
 unfold buildP
 rw [h]
theorem take_snocD {α : Type} (l : List α) (i : Nat) (d : α) (h : i < l.length) : l.take (i + 1) = l.take i ++ [l.getD i d] := by rw [List.take_succ_eq_append_getElem h, List.getD_eq_getElem?_getD, List.getElem?_eq_getElem h]; rfl
theorem pk8_isz55 : (Tryd.prog.info? 55).map (·.size) = some 2 := by kernel_rfl
theorem pk8_ty28 : Tryd.prog.underlying 28 = some (.slice 55) := by kernel_rfl
theorem pk8_pl23 : Plain Tryd.prog 23 := fun _ _ => by kernel_rfl
theorem pk8_in3 : (Tryd.prog.info? 3).map (fun i => (i.zero, i.size, i.bytes)) = some (some (.int .i64 0), 1, 8) := by kernel_rfl
theorem pk8_ty54 : Tryd.prog.underlying 54 = some (.slice 3) := by kernel_rfl
theorem pk8_szg55 : ∀ w' : World, (sizeOf 55).run Tryd.prog w' = .ok 2 w' := fun _ => by kernel_rfl
theorem pk8_ty55 : ∃ fs, Tryd.prog.underlying 55 = some (.struct fs) := struct_of (by kernel_rfl)
theorem pk8_al55 {d : Option Tmp} {ty : TypeId} {pos : String} {af : Array Edge} {gd : Option (Nat × Bool)} (σ : Operand → Value) (w : World) : (execOp σ ⟨d, .alloc 55, ty, pos, af, gd⟩).run Tryd.prog w = .ok (.value (PQ w.heap.size 0)) (w.alloc (.cells ([(Value.slice none 0 0), NI 0]).toArray 55)) := by kernel_rfl
theorem pk8_fo55_0 : FieldOff Tryd.prog 55 0 0 := fun b o w => by simp [go_sem]
theorem pk8_ty24 : Tryd.prog.underlying 24 = some (.slice 5) := by kernel_rfl
theorem pk8_fo55_1 : FieldOff Tryd.prog 55 1 1 := fun b o w => by simp [go_sem]
theorem pk8_ty3 : Tryd.prog.underlying 3 = some (.int .i64) := by kernel_rfl
theorem pk8_rows1_75 (ao : Option Addr) (n c : Nat) (w : World) : (Instr.buildSlice 75 1 #[(0, .slice ao n c)]).run Tryd.prog w = .ok (.slice (some ⟨w.heap.size, 0, none⟩) 1 1) (w.alloc (.cells #[.slice ao n c] 24)) := by kernel_rfl
theorem pk8_pl17 : Plain Tryd.prog 17 := fun _ _ => by kernel_rfl
theorem pk8_al38 {d : Option Tmp} {ty : TypeId} {pos : String} {af : Array Edge} {gd : Option (Nat × Bool)} (σ : Operand → Value) (w : World) : (execOp σ ⟨d, .alloc 38, ty, pos, af, gd⟩).run Tryd.prog w = .ok (.value (PQ w.heap.size 0)) (w.alloc (.cells (Lib.byteCells (List.replicate 32 0)).toArray 38)) := by kernel_rfl
theorem pk8_ty38 : Tryd.prog.underlying 38 = some (.array 32 5) := by kernel_rfl
theorem pk8_ty53 : Tryd.prog.underlying 53 = some (.map 38 3) := by kernel_rfl
theorem pk8_sz3 : ∀ w' : World, (sizeOf 3).run Tryd.prog w' = .ok 1 w' := fun _ => by kernel_rfl
theorem pk8_lh47 (c0 c1 c2 c3 c4 c5 c6 c7 c8 c9 c10 c11 c12 c13 c14 c15 c16 c17 c18 c19 c20 c21 c22 c23 c24 c25 c26 c27 c28 c29 c30 c31 : Value) (w : World) : (Instr.buildSlice 47 1 #[(0, .agg #[c0, c1, c2, c3, c4, c5, c6, c7, c8, c9, c10, c11, c12, c13, c14, c15, c16, c17, c18, c19, c20, c21, c22, c23, c24, c25, c26, c27, c28, c29, c30, c31])]).run Tryd.prog w = .ok (.slice (some ⟨w.heap.size, 0, none⟩) 1 1) (w.alloc (.cells #[c0, c1, c2, c3, c4, c5, c6, c7, c8, c9, c10, c11, c12, c13, c14, c15, c16, c17, c18, c19, c20, c21, c22, c23, c24, c25, c26, c27, c28, c29, c30, c31] 38)) := by kernel_rfl
theorem pk8_lg47 : ∀ (cs : Array Value), cs.size = 32 → ∀ w : World, (Instr.buildSlice 47 1 #[(0, .agg cs)]).run Tryd.prog w = .ok (.slice (some ⟨w.heap.size, 0, none⟩) 1 1) (w.alloc (.cells cs 38))
 | ⟨[c0, c1, c2, c3, c4, c5, c6, c7, c8, c9, c10, c11, c12, c13, c14, c15, c16, c17, c18, c19, c20, c21, c22, c23, c24, c25, c26, c27, c28, c29, c30, c31]⟩, _, w => pk8_lh47 c0 c1 c2 c3 c4 c5 c6 c7 c8 c9 c10 c11 c12 c13 c14 c15 c16 c17 c18 c19 c20 c21 c22 c23 c24 c25 c26 c27 c28 c29 c30 c31 w
theorem pk8_ig38 : ∃ z, (Tryd.prog.info? 38).map (fun i => (i.zero, i.size, i.bytes)) = some (some z, 32, 32) ∧ z.cells.size = 32 := info_ex (by kernel_rfl)
theorem pk8_ty47 : Tryd.prog.underlying 47 = some (.slice 38) := by kernel_rfl
theorem pk8_inf5 : (Tryd.prog.info? 5).map (fun i => (i.zero, i.size, i.bytes)) = some (some (.int .u8 0), 1, 1) := by kernel_rfl
theorem pk8_ty5 : Tryd.prog.underlying 5 = some (.int .u8) := by kernel_rfl
theorem pk8_ty9 : Tryd.prog.underlying 9 = some (.string) := by kernel_rfl
theorem pk8_pl24 : Plain Tryd.prog 24 := fun _ _ => by kernel_rfl
theorem pk8_isz3 : (Tryd.prog.info? 3).map (·.size) = some 1 := by kernel_rfl
theorem pk8_szg38 : ∀ w' : World, (sizeOf 38).run Tryd.prog w' = .ok 32 w' := fun _ => by kernel_rfl
theorem pk8_isz38 : (Tryd.prog.info? 38).map (·.size) = some 32 := by kernel_rfl
theorem pk8_sz5 : ∀ w' : World, (sizeOf 5).run Tryd.prog w' = .ok 1 w' := fun _ => by kernel_rfl
theorem pk8_l1_24 (z : Int) (w : World) : (Instr.buildSlice 24 1 #[(0, .int .u8 z)]).run Tryd.prog w = .ok (.slice (some ⟨w.heap.size, 0, none⟩) 1 1) (w.alloc (.cells #[.int .u8 z] 5)) := by kernel_rfl
theorem pk8_pl25 : Plain Tryd.prog 25 := fun _ _ => by kernel_rfl
theorem pk8_pl26 : Plain Tryd.prog 26 := fun _ _ => by kernel_rfl
theorem pk8_ty59 : Tryd.prog.underlying 59 = some (.array 256 3) := by kernel_rfl
theorem pk8_pl27 : Plain Tryd.prog 27 := fun _ _ => by kernel_rfl
theorem pk8_pl28 : Plain Tryd.prog 28 := fun _ _ => by kernel_rfl
set_option maxHeartbeats 1600000
theorem build_own (w : World) (hG : Laid w) (v : Value) (ps : List Pt) (hr : RG 2 partC w v ps) (hps : PartsOk w ps) (hL : LightP ps) :
  Calls Tryd.prog 11 #[v] w fun e w' => ∃ v', e = .returned (.tuple #[v', NI (buildP ps).2]) ∧ w'.ownsRow w.heap.size 5 1 v' (buildP ps).1.length (Lib.byteCells (buildP ps).1) ∧ Ext w w' := by
 have hw2 := hG.two
 have hL1 := hL.1
 refine gG (args := [v]) Tryd.func11 rfl 165 rfl rfl ?_
 have hE := Ext.refl w
 refine gS (Yk.lenRG pk8_ty28 (RG.of hr rfl) (gS (Yk.callA1 pk8_pl23 rfl ((begin_any _ (ps.length) (by omega)).mono ?_))))
 rintro e w6 ⟨v3, rfl, ho4, hx5⟩
 refine ⟨_, rfl, ?_⟩
 refine gS (Yk.mkMap rk NI (fun id : List UInt8 => id.length = 32) fun n8 w9 hn10 hb11 hx12 hs13 => ?_)
 have hE := hE.trans hx5
 have hz16 := hE.size
 have hap17 : OB v3 n8 := own_newer ho4 (by omega)
 have hl18 : n8 < w9.heap.size := by omega
 have hids0 : OG w.heap.size 38 32 Lib.byteCells w9 (Value.slice none 0 0) ([] : List Bs) := OG.nil _ _ _ _ _
 have hap20 : Value.ownBlock (Value.slice none 0 0) ≠ some n8 := fun h => by cases h
 have hap21 : ApartV (Value.slice none 0 0) v3 := fun k h => by cases h
 have hap22 : ApartV v3 (Value.slice none 0 0) := fun k _ h => by cases h
 have hE := hE.trans hx12
 refine gS (Yk.lenRG pk8_ty28 (RG.of (hr.keep hE) rfl) (gS (Yk.makeN 8 pk8_ty54 pk8_in3 rfl rfl (by omega) (by omega) fun n24 w25 hn26 hb27 hx28 hs29 => ?_)))
 have hz33 := hE.size
 have hlt35 := lte hb11.lt hn26
 have ho4 := Stab.own _ _ _ _ _ _ _ _ ho4 hx12
 have hap36 : OB v3 n24 := own_newer ho4 (by omega)
 have hap37 : Value.ownBlock (Value.slice none 0 0) ≠ some n24 := own_newer hids0.2 (by omega)
 have hb38 := hb27; clear hb27
 have hl39 : n24 < w25.heap.size := by omega
 have hE := hE.trans hx28
 have ho4 := Stab.own _ _ _ _ _ _ _ _ ho4 hx28
 have hb11 := hb11.keep hx28
 have hids0 := hids0.keep hx28
 refine gS (Yk.lenRG pk8_ty28 (RG.of (hr.keep hE) rfl) (gL (fun (ρ : Slots) (wz : World) => ∃ i : Nat, ∃ s : BS, ∃ vb : Value, ∃ vi : Value, ρ 0 = (v : Value) ∧ ρ 5 = (.map (some n8) : Value) ∧ ρ 7 = (.slice (some ⟨n24, 0, none⟩) ps.length ps.length : Value) ∧ ρ 28 = (v : Value) ∧ ρ 29 = (NI ps.length : Value) ∧ ρ 30 = (NI i : Value) ∧ ρ 8 = (NI s.total : Value) ∧ ρ 4 = (vb : Value) ∧ ρ 6 = (vi : Value) ∧ Ext w wz ∧ wz.ownsRow w.heap.size 5 1 vb (s.b : List UInt8).length (Lib.byteCells (s.b)) ∧ OG w.heap.size 38 32 (Lib.byteCells) wz vi (s.ids) ∧ MapF rk NI (fun id : List UInt8 => id.length = 32) wz n8 (placesG s) ∧ wz.heap[n24]? = some (.cells ((s.depths ++ List.replicate (ps.length - i) 0).map fun x => NI x).toArray 3 (0, 0)) ∧ (bgo ps i = .ok s) ∧ (i ≤ ps.length) ∧ (OB vb n8) ∧ (ApartV vb vi) ∧ (OB vb n24) ∧ (OB vi n8) ∧ (ApartV vi vb) ∧ (OB vi n24) ∧ True) (fun ρ _ => ps.length - (intOf (ρ 30)).toNat) ⟨0, ⟨80 :: Lib.uvarint ps.length, [], [], [], 0⟩, v3, (Value.slice none 0 0), rfl, rfl, rfl, rfl, rfl, rfl, rfl, rfl, rfl, hE, own_eq ho4 (rfl), og_eq hids0 (rfl), map_eq hb11 (rfl), blk_eq hb38 (rfl), rfl, Nat.zero_le _, hap17, hap22, hap36, hap20, hap21, hap37, trivial⟩ ?_))
 clear ho4
 clear hb11
 clear hids0
 clear hb38
 clear hE
 rintro ρ43 w44 ⟨i, s, vb, vi, T0, T5, T7, T28, T29, T30, T8, T4, T6, hE, hr_vb, hr_vi, hb11l, hb38l, hs, hi, hap_vb_n8, hap_vb_vi, hap_vb_n24, hap_vi_n8, hap_vi_vb, hap_vi_n24, -⟩
 have q30 := T30
 have hB := bgo_ok hL i s hi hs
 have hBi := hB.ids
 have hBp := hB.places
 have hBd := hB.depths
 have hBb := hB.b
 have hBt := hB.total
 obtain ⟨dl, hdl⟩ : ∃ dl, dl = s.depths ++ List.replicate (ps.length - i) 0 := ⟨_, rfl⟩
 have hb38l : w44.heap[n24]? = some (.cells (dl.map fun x => NI x).toArray 3 (0, 0)) := blk_eq hb38l (by rw [hdl])
 have hdll : dl.length = ps.length := by rw [hdl, List.length_append, List.length_replicate]; omega
 have hdg : ∀ m, m < i → dl.getD m 0 = s.depths.getD m 0 := fun m hm => by rw [hdl, List.getD_eq_getElem?_getD, List.getElem?_append_left (by omega), ← List.getD_eq_getElem?_getD]
 refine gS (Yk.eqI (a := (i : Nat)) (b := (ps.length : Nat)) T30 T29 (k_lss _ _ _ _) ?_)
 refine cD rfl (fun hc0 => ?_) fun hc0 => ?_
 ·have hil : i < ps.length := hc0
  obtain ⟨p, hp⟩ : ∃ p, p = ps.getD i dPt := ⟨_, rfl⟩
  have hpm : p ∈ ps := by rw [hp]; exact getD_mem dPt hil
  have hpl := hL.2 p hpm
  have hpb := (hps p hpm).2
  have hpr := (hps p hpm).1
  have hst := bgo_step hs
  unfold pstep at hst
  rw [← hp] at hst
  have hl51 : (partC (ps.getD (i) dPt)).length = 2 := (RG.elem (hr.keep hE) dPt (by omega))
  refine gS (Yk.atRG pk8_ty28 pk8_szg55 (by decide) dPt (RG.of (hr.keep hE) T28) T30 (by omega) fun v49 hp50 => (gS (Yk.loadPR (PR.of hp50 rfl) (pk8_ty55).choose_spec rfl (by rw [hl51]; exact pk8_isz55) (gS (Yk.alloc pk8_al55 fun n52 w53 hn54 hb55 hx56 hs57 => ?_)))))
  have hA58 := Ext.refl w44
  have hz60 := hE.size
  have hlt61 := lte hb11l.lt hn54
  have hlt62 := lte (bl hb38l) hn54
  have hap63 : OB vb n52 := own_newer hr_vb (by omega)
  have hap64 : OB vi n52 := own_newer hr_vi.2 (by omega)
  have hb65 := hb55; clear hb55
  have hl66 : n52 < w53.heap.size := by omega
  refine gS (Yk.storeAll (vr (PQ n52 0) rfl) (vr (.agg (partC (ps.getD (i) dPt)).toArray) rfl) hb65 (by rfl) (by exact pk8_isz55) ((partC_one (RB.one (hps _ (getD_mem dPt hc0)).1))) fun w67 hb68 hg69 hs70 => ?_)
  have hb11l := hb11l.keep hx56
  have hb11l := MapF.other hb11l hg69 (some_ne (by omega))
  clear hb65
  have hb65 := hb68; clear hb68
  have hl71 := bl hb65
  clear hp50
  have hb65 : w67.heap[n52]? = some (.cells ([p.v, .int .i64 (p.base : Int)]).toArray 55 (0, 0)) := blk_eq hb65 (show partC (ps.getD i dPt) = [p.v, .int .i64 (p.base : Int)] by rw [← hp]; rfl)
  by_cases hA : p.base < -1
  ·have hA58 := hA58.trans hx56
   have hA58 := row_fresh hA58 hg69 (Nat.le_trans (Nat.le_refl _) (by omega))
   have hE := hE.trans hA58
   refine gS (Yk.fieldAt pk8_fo55_0 rfl (gS (Yk.cell1 pk8_ty24 rfl rfl (cellAt hb65 rfl) (gS (Yk.lenRB pk8_ty24 (RB.of (hpr.keep hE) rfl) (gS (Yk.eqI (a := ((p.bytes : List UInt8).length : Nat)) (b := (262144 : Nat)) rfl rfl (k_gtr _ _ _ _) ?_)))))))
   refine cD rfl (fun hc1 => ?_) fun hc1 => ?_
   ·exact absurd hc1 (by omega)
   refine gS (Yk.fieldAt pk8_fo55_1 rfl (gS (Yk.cell1 pk8_ty3 rfl rfl (cellAt hb65 rfl) (gS (Yk.eqI rfl rfl (z_lss _ .i64 (p.base : Int) (-1 : Int)) (kT (by omega) (gS (Yk.pickT rfl rfl (cT rfl (rt2 rfl (vr (Value.slice none 0 0) rfl) (vr (NI 1) rfl) ?_))))))))))
   rw [if_pos (by omega)] at hst
   rw [buildP_err (by omega) hst]
   exact ⟨_, rfl, World.ownsRow_nil _ _ _ 1, hE⟩
  by_cases hBq : (i : Int) ≤ p.base
  ·have hA58 := hA58.trans hx56
   have hA58 := row_fresh hA58 hg69 (Nat.le_trans (Nat.le_refl _) (by omega))
   have hE := hE.trans hA58
   refine gS (Yk.fieldAt pk8_fo55_0 rfl (gS (Yk.cell1 pk8_ty24 rfl rfl (cellAt hb65 rfl) (gS (Yk.lenRB pk8_ty24 (RB.of (hpr.keep hE) rfl) (gS (Yk.eqI (a := ((p.bytes : List UInt8).length : Nat)) (b := (262144 : Nat)) rfl rfl (k_gtr _ _ _ _) ?_)))))))
   refine cD rfl (fun hc1 => ?_) fun hc1 => ?_
   ·exact absurd hc1 (by omega)
   refine gS (Yk.fieldAt pk8_fo55_1 rfl (gS (Yk.cell1 pk8_ty3 rfl rfl (cellAt hb65 rfl) (gS (Yk.eqI rfl rfl (z_lss _ .i64 (p.base : Int) (-1 : Int)) (kF (by omega) (gS (Yk.fieldAt pk8_fo55_1 rfl (gS (Yk.cell1 pk8_ty3 rfl rfl (cellAt hb65 rfl) (gS (Yk.eqI rfl T30 (z_geq _ .i64 (p.base : Int) ((i : Nat) : Int)) (kT (by omega) (gS (Yk.pickF rfl rfl (cT rfl (rt2 rfl (vr (Value.slice none 0 0) rfl) (vr (NI 1) rfl) ?_)))))))))))))))))
   rw [if_pos (by omega)] at hst
   rw [buildP_err (by omega) hst]
   exact ⟨_, rfl, World.ownsRow_nil _ _ _ 1, hE⟩
  by_cases hC0 : p.base < 0
  ·have hA58 := hA58.trans hx56
   have hA58 := row_fresh hA58 hg69 (Nat.le_trans (Nat.le_refl _) (by omega))
   have hE := hE.trans hA58
   refine gS (Yk.fieldAt pk8_fo55_0 rfl (gS (Yk.cell1 pk8_ty24 rfl rfl (cellAt hb65 rfl) (gS (Yk.lenRB pk8_ty24 (RB.of (hpr.keep hE) rfl) (gS (Yk.eqI (a := ((p.bytes : List UInt8).length : Nat)) (b := (262144 : Nat)) rfl rfl (k_gtr _ _ _ _) ?_)))))))
   refine cD rfl (fun hc1 => ?_) fun hc1 => ?_
   ·exact absurd hc1 (by omega)
   refine gS (Yk.fieldAt pk8_fo55_1 rfl (gS (Yk.cell1 pk8_ty3 rfl rfl (cellAt hb65 rfl) (gS (Yk.eqI rfl rfl (z_lss _ .i64 (p.base : Int) (-1 : Int)) (kF (by omega) (gS (Yk.fieldAt pk8_fo55_1 rfl (gS (Yk.cell1 pk8_ty3 rfl rfl (cellAt hb65 rfl) (gS (Yk.eqI rfl T30 (z_geq _ .i64 (p.base : Int) ((i : Nat) : Int)) (kF (by omega) (gS (Yk.pickF rfl rfl (cF rfl (gS (Yk.fieldAt pk8_fo55_0 rfl (gS (Yk.cell1 pk8_ty24 rfl rfl (cellAt hb65 rfl) (gS (Yk.rows1 pk8_rows1_75 (RB.of (hpr.keep hE) (vr p.v rfl)) fun v87 w88 hr89 hx90 => ?_))))))))))))))))))))))
   have hE := hE.trans hx90
   refine gS (Yk.callA1 pk8_pl17 rfl ((sum_one _ (hG.keep hE) v87 (p.bytes) hr89 (by omega)).mono ?_))
   rintro e w92 ⟨rfl, hx91⟩
   refine ⟨_, rfl, ?_⟩
   refine gS (Yk.alloc pk8_al38 fun n93 w94 hn95 hb96 hx97 hs98 => ?_)
   have hE := hE.trans hx91
   have hZ1 := hx90.trans hx91
   have hA58 := hA58.trans hZ1
   have hz102 := hE.size
   have hb11l := hb11l.keep hZ1
   have hlt104 := lte hb11l.lt hn95
   have hz103 := hA58.size
   have hb38l := eb hA58 hb38l
   have hlt105 := lte (bl hb38l) hn95
   have hb65 := eb hZ1 hb65
   have hlt106 := lte (bl hb65) hn95
   have hr_vb := Stab.own _ _ _ _ _ _ _ _ hr_vb hA58
   have hap107 : OB vb n93 := own_newer hr_vb (by omega)
   have hr_vi := hr_vi.keep hA58
   have hap108 : OB vi n93 := own_newer hr_vi.2 (by omega)
   have hb109 := hb96; clear hb96
   have hl110 : n93 < w94.heap.size := by omega
   refine gS (Yk.storeAll (vr (PQ n93 0) rfl) (vr (AB (Sha.sum (p.bytes))) rfl) hb109 (by exact idsize (Sha.sum_length _) List.length_replicate) (by exact sizeId_of (Sha.sum_length _)) (byteCells_one _) fun w111 hb112 hg113 hs114 => ?_)
   have hb11l := hb11l.keep hx97
   have hb11l := MapF.other hb11l hg113 (some_ne (by omega))
   clear hb109
   have hb109 := hb112; clear hb112
   have hl115 := bl hb109
   rw [if_neg (by omega)] at hst
   by_cases hin : Sha.sum p.bytes ∈ s.ids
   ·rw [if_pos hin] at hst
    obtain ⟨q, hq, -⟩ := lookup_zip_some s.ids s.places (Sha.sum p.bytes) (by omega) hin
    refine gS (Yk.loadAll rfl hb109 pk8_ty38 rfl (by exact sizeId_of (Sha.sum_length _)) (gS (Yk.lookOkS (ek := rk) (ev := NI) (D := (fun id : List UInt8 => id.length = 32)) idLaw id_ok (fun _ _ => rk_inj) pk8_ty53 (z := NI 0) zeroInt T5 rfl hb11l (Sha.sum_length _) (show placesG s _ = some q from hq) (gS (Yk.extract (vs := [NI q, .bool (true)]) rfl rfl (gS (Yk.extract (vs := [NI q, .bool (true)]) rfl rfl (cT rfl (rt2 rfl (vr (Value.slice none 0 0) rfl) (vr (NI 11) rfl) ?_)))))))))
    rw [buildP_err (by omega) hst]
    have hE := hE.trans hx97
    have hE := row_fresh hE hg113 (Nat.le_trans hz102 (by omega))
    exact ⟨_, rfl, World.ownsRow_nil _ _ _ 1, hE⟩
   rw [if_neg hin] at hst
   have hq := lookup_zip_none s.ids s.places (Sha.sum p.bytes) hin
   have hb65 := eb hx97 hb65
   have hb65 := kb hg113 hb65 (by omega)
   refine gS (Yk.loadAll rfl hb109 pk8_ty38 rfl (by exact sizeId_of (Sha.sum_length _)) (gS (Yk.lookOkN (ek := rk) (ev := NI) (D := (fun id : List UInt8 => id.length = 32)) idLaw id_ok (fun _ _ => rk_inj) pk8_ty53 (z := NI 0) zeroInt T5 rfl hb11l (Sha.sum_length _) (show placesG s _ = none from hq) (gS (Yk.extract (vs := [NI 0, .bool (false)]) rfl rfl (gS (Yk.extract (vs := [NI 0, .bool (false)]) rfl rfl (cF rfl (gS (Yk.fieldAt pk8_fo55_1 rfl (gS (Yk.cell1 pk8_ty3 rfl rfl (cellAt hb65 rfl) (gS (Yk.eqI rfl rfl (z_geq _ .i64 (p.base : Int) ((0 : Nat) : Int)) (kF (by omega) ?_)))))))))))))))
   obtain ⟨d2, hd2⟩ : ∃ d2, d2 = s.depths ++ depthB p s :: List.replicate (ps.length - i - 1) 0 := ⟨_, rfl⟩
   have hb38l := eb hx97 hb38l
   have hb38l := kb hg113 hb38l (by omega)
   have hb38l : w111.heap[n24]? = some (.cells (d2.map fun x => NI x).toArray 3 (0, 0)) := blk_eq hb38l (congrArg (List.map fun x => NI x) (by rw [hd2, hdl, show ps.length - i = (ps.length - i - 1) + 1 by omega]; unfold depthB; rw [if_pos hC0]; rfl))
   have hdv : d2.getD i 0 = depthB p s := by rw [hd2, List.getD_eq_getElem?_getD, List.getElem?_append_right (by omega), hBd, Nat.sub_self]; simp
   have hd2l : d2.length = ps.length := by rw [hd2, List.length_append, List.length_cons, List.length_replicate]; omega
   refine cF rfl (gS (Yk.atSl0 (i := i) pk8_ty54 pk8_sz3 T7 T30 (by omega) (gS (Yk.cell1 pk8_ty3 rfl rfl (cellAt hb38l (nat_at (i := i) (by omega))) (gS (Yk.eqI (a := ((d2).getD (i) 0 : Nat)) (b := (50 : Nat)) rfl rfl (k_gtr _ _ _ _) ?_))))))
   refine cD rfl (fun hc5 => ?_) fun hc5 => ?_
   ·refine rt2 rfl (vr (Value.slice none 0 0) rfl) (vr (NI 17) rfl) ?_
    rw [hdv] at hc5
    rw [if_pos hc5] at hst
    rw [buildP_err (by omega) hst]
    have hE := hE.trans hx97
    have hE := row_fresh hE hg113 (Nat.le_trans hz102 (by omega))
    exact ⟨_, rfl, World.ownsRow_nil _ _ _ 1, hE⟩
   rw [hdv] at hc5
   rw [if_neg hc5] at hst
   have hst3 := hst
   have hr_vb := Stab.own _ _ _ _ _ _ _ _ hr_vb hx97
   have hr_vb := own_kept hr_vb hg113 hap107
   refine gS (Yk.loadAll rfl hb109 pk8_ty38 rfl (by exact sizeId_of (Sha.sum_length _)) (gS (Yk.lenRB pk8_ty24 (RB.of (RB.ofOwn hr_vb) T4) (gS (Yk.putM (ek := rk) (ev := NI) (D := (fun id : List UInt8 => id.length = 32)) (c := (s.b : List UInt8).length) idLaw id_ok pk8_ty53 T5 (vr (AB (Sha.sum (p.bytes))) rfl) (vr (NI ((s.b : List UInt8).length)) rfl) hb11l (Sha.sum_length _) fun w129 hb130 hg131 hs132 => ?_)))))
   clear hb11l
   have hl133 : n8 < w129.heap.size := hb130.lt
   have hb109 := kb hg131 hb109 (by omega)
   refine gS (Yk.loadAll rfl hb109 pk8_ty38 rfl (by exact sizeId_of (Sha.sum_length _)) (gS (Yk.lit1G (a := (Sha.sum (p.bytes))) (enc := Lib.byteCells) (vr (AB (Sha.sum (p.bytes))) rfl) (by rw [Lib.byteCells_length]; exact (Sha.sum_length _)) pk8_lg47 fun v135 w136 hr137 hx138 => ?_)))
   have hE := hE.trans hx97
   have hE := row_fresh hE hg113 (Nat.le_trans hz102 (by omega))
   have hE := row_fresh hE hg131 (Nat.le_trans hz16 (by omega))
   have hE := hE.trans hx138
   have hr_vi := hr_vi.keep hx97
   have hr_vi := OG.kept hr_vi hg113 hap108
   have hr_vi := OG.kept hr_vi hg131 hap_vi_n8
   have hr_vi := hr_vi.keep hx138
   refine gS (Yk.appendRG _ _ w.heap.size _ 32 pk8_ty47 pk8_ig38.choose_spec.1 pk8_ig38.choose_spec.2 pk8_ty47 (s.ids) ([(Sha.sum (p.bytes))]) (OG.of hr_vi T6) (RG.of hr137 (vr v135 rfl)) (fun _ _ => byteCells_one _) (by simp only [List.length_cons, List.length_nil]; omega) (by simp only [List.length_cons, List.length_nil]; omega) hE.size fun v139 w140 ho141 hg142 => ?_)
   have hg142 : Grew w136 w140 vi v139 := .eqv T6 hg142
   have hb130 := hb130.keep hx138
   have hap143 : OB v139 n8 := apart_grew hg142 hap_vi_n8 hb130.lt
   have hr_vb := own_kept hr_vb hg131 hap_vb_n8
   have hr_vb := Stab.own _ _ _ _ _ _ _ _ hr_vb hx138
   have hap144 : ApartV v139 vb := apartv_grew hg142 hap_vi_vb hr_vb
   have hap145 : ApartV vb v139 := fun k h1 h2 => hap144 k h2 h1
   have hb38l := kb hg131 hb38l (by omega)
   have hb38l := eb hx138 hb38l
   have hap146 : OB v139 n24 := apart_grew hg142 hap_vi_n24 (bl hb38l)
   have hb65 := kb hg131 hb65 (by omega)
   have hb65 := eb hx138 hb65
   have hb109 := eb hx138 hb109
   have hE := ext_grew hE hg142 hr_vi.2 (Nat.le_refl _)
   have hr_vb := own_grew hr_vb hg142 hap_vi_vb
   have hb38l := blk_grew hb38l hg142 hap_vi_n24
   have hb65 := blk_grew hb65 hg142 hap64
   have hb109 := blk_grew hb109 hg142 hap108
   have hb130 := MapF.grew hb130 hg142 hap_vi_n8
   clear hr137
   clear hr_vi
   refine gS (Yk.fieldAt pk8_fo55_0 rfl (gS (Yk.cell1 pk8_ty24 rfl rfl (cellAt hb65 rfl) (gS (Yk.lenRB pk8_ty24 (RB.of (hpr.keep hE) rfl) (gS (Yk.bin (xv := NI s.total) (yv := NI ((p.bytes : List UInt8).length)) T8 rfl rfl (i64_add _ _ _ (by omega)) (gS (Yk.fieldAt pk8_fo55_1 rfl (gS (Yk.cell1 pk8_ty3 rfl rfl (cellAt hb65 rfl) (gS (Yk.eqI rfl rfl (z_lss _ .i64 (p.base : Int) ((0 : Nat) : Int)) (kT (by omega) (cT rfl (gR ?_))))))))))))))))
   have hlow153 : ∀ k, Value.ownBlock vb = some k → w.heap.size ≤ k := fun k hk => (hr_vb.lt k hk).1
   have hsz_ : w.heap.size ≤ w140.heap.size := hE.size
   refine wpF_draw_rowsX (Value.ownBlock vb) [2] [0] (fun m => if m = 2 then [0, 1] else []) (fun m => if m = 2 then [0, 1, 2, 6, 7] else []) [fun x w' => RowX w.heap.size w140.heap.size 5 (Value.ownBlock vb) (s.b) x w', fun x w' => RB w' x (([0] : List UInt8)), fun x w' => RowX w.heap.size w140.heap.size 5 (Value.ownBlock vb) ((s.b : List UInt8) ++ (([0] : List UInt8) : List UInt8)) x w', Is (PQ n52 0), Is (p.v), Is (St (p.bytes)), fun x w' => RowX w.heap.size w140.heap.size 5 (Value.ownBlock vb) (((s.b : List UInt8) ++ (([0] : List UInt8) : List UInt8) : List UInt8) ++ textB (p.bytes : List UInt8)) x w', fun x w' => RowX w.heap.size w140.heap.size 5 (Value.ownBlock vb) (((s.b : List UInt8) ++ (([0] : List UInt8) : List UInt8) : List UInt8) ++ textB (p.bytes : List UInt8)) x w'] (by kernel_rfl) [92, 93, 94, 95, 96, 97, 98, 4] (by kernel_rfl) (by kernel_rfl) (by kernel_rfl) (by kernel_rfl) (by kernel_rfl) rfl ⟨(fun _ _ _ h k => ⟨Stab.own _ _ _ _ _ _ _ _ h.1 k, h.2⟩), (fun _ _ _ h k => RB.keep h k), (fun _ _ _ h k => ⟨Stab.own _ _ _ _ _ _ _ _ h.1 k, h.2⟩), Stab.is _, Stab.is _, Stab.is _, (fun _ _ _ h k => ⟨Stab.own _ _ _ _ _ _ _ _ h.1 k, h.2⟩), (fun _ _ _ h k => ⟨Stab.own _ _ _ _ _ _ _ _ h.1 k, h.2⟩), trivial⟩ ⟨⟨.inl rfl, .inl rfl, .inl rfl, .inr (Stab.is _), .inr (Stab.is _), .inr (Stab.is _), .inl rfl, .inl rfl, trivial⟩, trivial⟩ ?hs4025 ?hQ4025
   case hs4025 =>
    refine ⟨?_, ?_, ?_, ?_, ?_, ?_, ?_, ?_, trivial⟩
    ·refine stepN rfl fun σ w1 hC h => ?_
     have hX : Ext w140 w1 := hC
     have hC : BX w140.heap.size (Value.ownBlock vb) w140 w1 := BX.ofExt hX (Nat.le_refl _)
     have e4 := (eqo (h 4 (by decide))).trans T4
     exact Yk.move e4 ⟨Ext.refl _, Stab.own _ _ _ _ _ _ _ _ hr_vb hX, fun k hk => .inl hk⟩
    ·refine stepN rfl fun σ w1 hC h => ?_
     have hC : BX w140.heap.size (Value.ownBlock vb) w140 w1 := hC
     exact Yk.litN (e := 5) ([0] : List UInt8) (by decide) (fun _ _ => by kernel_rfl) fun v w2 hN => ⟨hN.ext, hN.rb⟩
    ·refine stepN rfl fun σ w1 hC h => ?_
     have hC : BX w140.heap.size (Value.ownBlock vb) w140 w1 := hC
     have e92 : (fun x w' => RowX w.heap.size w140.heap.size 5 (Value.ownBlock vb) (s.b) x w') (σ 92) w1 := h 92 (by decide)
     have e93 : (fun x w' => RB w' x (([0] : List UInt8))) (σ 93) w1 := h 93 (by decide)
     exact Yk.appendRB _ _ w.heap.size (.int .u8 0) pk8_ty24 pk8_inf5 rfl pk8_ty24 (s.b) (([0] : List UInt8)) e92.1 e93 (by simp only [List.length_cons, List.length_nil]; omega) (Nat.le_trans hsz_ hC.size) fun v w2 ho hg => ⟨BX.ofGrown hg.by_ hC.size e92.2, ho, fun k hk => (hg.fresh k hk).elim (e92.2 k) (fun x => .inr (Nat.le_trans hC.size x))⟩
    ·refine stepN rfl fun σ w1 hC h => ?_
     have hC : BX w140.heap.size (Value.ownBlock vb) w140 w1 := hC
     have e10 : σ 10 = PQ n52 0 := (eqo (h 10 (by decide))).trans rfl
     exact Yk.fieldAt pk8_fo55_0 e10 ⟨Ext.refl _, rfl⟩
    ·refine stepN rfl fun σ w1 hC h => ?_
     have hC : BX w140.heap.size (Value.ownBlock vb) w140 w1 := hC
     have e95 := eqo (h 95 (by decide))
     exact Yk.cell1 pk8_ty24 rfl e95 (cellAt (BX.blk hC hb65 hap63) (show _ = some (p.v : Value) from rfl)) ⟨Ext.refl _, rfl⟩
    ·refine stepN rfl fun σ w1 hC h => ?_
     have hC : BX w140.heap.size (Value.ownBlock vb) w140 w1 := hC
     have e96 := eqo (h 96 (by decide))
     exact Yk.convRB pk8_ty24 pk8_ty5 pk8_ty9 (RB.of (hpr.keep (ext_bx hE hC (by omega) (fun k hk => by have := hlow153 k hk; omega))) e96) ⟨Ext.refl _, rfl⟩
    ·refine stepN rfl fun σ w1 hC h => ?_
     have hC : BX w140.heap.size (Value.ownBlock vb) w140 w1 := hC
     have e94 : (fun x w' => RowX w.heap.size w140.heap.size 5 (Value.ownBlock vb) ((s.b : List UInt8) ++ (([0] : List UInt8) : List UInt8)) x w') (σ 94) w1 := h 94 (by decide)
     have e97 := eqo (h 97 (by decide))
     refine Yk.callA2 pk8_pl24 rfl e97 ((putTextL _ (σ 94) ((s.b : List UInt8) ++ (([0] : List UInt8) : List UInt8)) (RB.ofOwn e94.1) (p.bytes) (by simp only [List.length_append, List.length_cons, List.length_nil]; omega)).mono ?_)
     rintro e w2 ⟨v, rfl, hN⟩
     exact ⟨_, rfl, hN.ext, ownsRow_base hN.own (Nat.le_trans hsz_ hC.size), fun k hk => .inr (Nat.le_trans hC.size (hN.own.lt k hk).1)⟩
    ·refine stepN rfl fun σ w1 hC h => ?_
     have hC : BX w140.heap.size (Value.ownBlock vb) w140 w1 := hC
     have e98 : (fun x w' => RowX w.heap.size w140.heap.size 5 (Value.ownBlock vb) (((s.b : List UInt8) ++ (([0] : List UInt8) : List UInt8) : List UInt8) ++ textB (p.bytes : List UInt8)) x w') (σ 98) w1 := h 98 (by decide)
     exact Yk.assign rfl ⟨Ext.refl _, e98⟩
   intro ρ154 w155 hx156 he hf
   obtain ⟨-, -, -, -, -, -, -, k4, -⟩ := hf
   obtain ⟨T0, T5, T6, T7, T8, T9, T10, T11, T13, T28, T29, T30, T47, T58, T61, T91, -⟩ := he.hold [(0, _), (5, _), (6, v139), (7, _), (8, NI ((s.total) + ((p.bytes : List UInt8).length))), (9, _), (10, PQ n52 0), (11, PQ n93 0), (13, .bool (false)), (28, _), (29, _), (30, _), (47, .bool (false)), (58, .bool (false)), (61, .bool (false)), (91, .bool (true))] ⟨T0, T5, rfl, T7, rfl, T30, rfl, rfl, rfl, T28, T29, T30, rfl, rfl, rfl, rfl, trivial⟩ rfl
   clear he
   have k4 : (fun x w' => RowX w.heap.size w140.heap.size 5 (Value.ownBlock vb) (((s.b : List UInt8) ++ (([0] : List UInt8) : List UInt8) : List UInt8) ++ textB (p.bytes : List UInt8)) x w') (ρ154 4) w155 := k4
   obtain ⟨v157, T4⟩ : ∃ v, ρ154 4 = v := ⟨_, rfl⟩
   rw [T4] at k4
   have hg158 : Grew w140 w155 vb v157 := ⟨hx156.grown, k4.2⟩
   have ho159 := k4.1; clear k4
   have hap160 : OB v157 n8 := apart_grew hg158 hap_vb_n8 hb130.lt
   have hap161 : OB v157 n24 := apart_grew hg158 hap_vb_n24 (bl hb38l)
   have hap164 : ApartV v157 v139 := apartv_grew hg158 hap145 ho141.2
   have hap165 : ApartV v139 v157 := fun k h1 h2 => hap164 k h2 h1
   have hE := ext_grew hE hg158 hr_vb (Nat.le_refl _)
   have hb38l := blk_grew hb38l hg158 hap_vb_n24
   have hb65 := blk_grew hb65 hg158 hap63
   have hb109 := blk_grew hb109 hg158 hap107
   have hb130 := MapF.grew hb130 hg158 hap_vb_n8
   have ho141 := og_grew ho141 hg158 hap145
   clear hr_vb
   refine gX ?_
   have hbn : (bnext ps p s).b = s.b ++ [0] ++ textB p.bytes := by unfold bnext; simp only; rw [if_pos hC0]
   refine gS (Yk.bin (xv := NI i) (yv := NI 1) T30 rfl rfl (i64_add _ _ _ (by omega)) ?_)
   have hdep : d2 = (bnext ps p s).depths ++ List.replicate (ps.length - (i + 1)) 0 := by rw [hd2]; simp only [bnext, List.append_assoc, List.singleton_append, Nat.sub_sub]
   refine gK (And.intro ⟨i + 1, bnext ps p s, v157, v139, T0, T5, T7, T28, T29, rfl, T8, T4, T6, hE, own_eq ho159 (by rw [hbn]), og_eq ho141 (rfl), map_eq hb130 ((placesG_next hB hin).symm), blk_eq hb38l (congrArg (List.map fun x => NI x) hdep), hst3, by omega, hap160, hap164, hap161, hap143, hap165, hap146, trivial⟩ ?_)
   show ps.length - (intOf (NI ((i) + (1)))).toNat < ps.length - (intOf (ρ43 30)).toNat
   rw [q30]
   simp only [intOf, Int.toNat_natCast]; omega
  have hA58 := hA58.trans hx56
  have hA58 := row_fresh hA58 hg69 (Nat.le_trans (Nat.le_refl _) (by omega))
  have hE := hE.trans hA58
  obtain ⟨m, hm⟩ : ∃ m : Nat, p.base = (m : Int) := ⟨p.base.toNat, by omega⟩
  have hmi : m < i := by omega
  have hb65 : w67.heap[n52]? = some (.cells ([p.v, NI m]).toArray 55 (0, 0)) := blk_eq hb65 (by rw [hm])
  refine gS (Yk.fieldAt pk8_fo55_0 rfl (gS (Yk.cell1 pk8_ty24 rfl rfl (cellAt hb65 rfl) (gS (Yk.lenRB pk8_ty24 (RB.of (hpr.keep hE) rfl) (gS (Yk.eqI (a := ((p.bytes : List UInt8).length : Nat)) (b := (262144 : Nat)) rfl rfl (k_gtr _ _ _ _) ?_)))))))
  refine cD rfl (fun hc1 => ?_) fun hc1 => ?_
  ·exact absurd hc1 (by omega)
  refine gS (Yk.fieldAt pk8_fo55_1 rfl (gS (Yk.cell1 pk8_ty3 rfl rfl (cellAt hb65 rfl) (gS (Yk.eqI rfl rfl (z_lss _ .i64 ((m : Nat) : Int) (-1 : Int)) (kF (by omega) (gS (Yk.fieldAt pk8_fo55_1 rfl (gS (Yk.cell1 pk8_ty3 rfl rfl (cellAt hb65 rfl) (gS (Yk.eqI (a := (m : Nat)) (b := (i : Nat)) rfl T30 (k_geq _ _ _ _) (kF (by omega) (gS (Yk.pickF rfl rfl (cF rfl (gS (Yk.fieldAt pk8_fo55_0 rfl (gS (Yk.cell1 pk8_ty24 rfl rfl (cellAt hb65 rfl) (gS (Yk.rows1 pk8_rows1_75 (RB.of (hpr.keep hE) (vr p.v rfl)) fun v171 w172 hr173 hx174 => ?_))))))))))))))))))))))
  have hE := hE.trans hx174
  refine gS (Yk.callA1 pk8_pl17 rfl ((sum_one _ (hG.keep hE) v171 (p.bytes) hr173 (by omega)).mono ?_))
  rintro e w176 ⟨rfl, hx175⟩
  refine ⟨_, rfl, ?_⟩
  refine gS (Yk.alloc pk8_al38 fun n177 w178 hn179 hb180 hx181 hs182 => ?_)
  have hE := hE.trans hx175
  have hZ2 := hx174.trans hx175
  have hA58 := hA58.trans hZ2
  have hz186 := hE.size
  have hb11l := hb11l.keep hZ2
  have hlt188 := lte hb11l.lt hn179
  have hz187 := hA58.size
  have hb38l := eb hA58 hb38l
  have hlt189 := lte (bl hb38l) hn179
  have hb65 := eb hZ2 hb65
  have hlt190 := lte (bl hb65) hn179
  have hr_vb := Stab.own _ _ _ _ _ _ _ _ hr_vb hA58
  have hap191 : OB vb n177 := own_newer hr_vb (by omega)
  have hr_vi := hr_vi.keep hA58
  have hap192 : OB vi n177 := own_newer hr_vi.2 (by omega)
  have hb193 := hb180; clear hb180
  have hl194 : n177 < w178.heap.size := by omega
  refine gS (Yk.storeAll (vr (PQ n177 0) rfl) (vr (AB (Sha.sum (p.bytes))) rfl) hb193 (by exact idsize (Sha.sum_length _) List.length_replicate) (by exact sizeId_of (Sha.sum_length _)) (byteCells_one _) fun w195 hb196 hg197 hs198 => ?_)
  have hb11l := hb11l.keep hx181
  have hb11l := MapF.other hb11l hg197 (some_ne (by omega))
  clear hb193
  have hb193 := hb196; clear hb196
  have hl199 := bl hb193
  rw [if_neg (by omega)] at hst
  by_cases hin : Sha.sum p.bytes ∈ s.ids
  ·rw [if_pos hin] at hst
   obtain ⟨q, hq, -⟩ := lookup_zip_some s.ids s.places (Sha.sum p.bytes) (by omega) hin
   refine gS (Yk.loadAll rfl hb193 pk8_ty38 rfl (by exact sizeId_of (Sha.sum_length _)) (gS (Yk.lookOkS (ek := rk) (ev := NI) (D := (fun id : List UInt8 => id.length = 32)) idLaw id_ok (fun _ _ => rk_inj) pk8_ty53 (z := NI 0) zeroInt T5 rfl hb11l (Sha.sum_length _) (show placesG s _ = some q from hq) (gS (Yk.extract (vs := [NI q, .bool (true)]) rfl rfl (gS (Yk.extract (vs := [NI q, .bool (true)]) rfl rfl (cT rfl (rt2 rfl (vr (Value.slice none 0 0) rfl) (vr (NI 11) rfl) ?_)))))))))
   rw [buildP_err (by omega) hst]
   have hE := hE.trans hx181
   have hE := row_fresh hE hg197 (Nat.le_trans hz186 (by omega))
   exact ⟨_, rfl, World.ownsRow_nil _ _ _ 1, hE⟩
  rw [if_neg hin] at hst
  have hq := lookup_zip_none s.ids s.places (Sha.sum p.bytes) hin
  have hb38l := eb hx181 hb38l
  have hb38l := kb hg197 hb38l (by omega)
  have hb65 := eb hx181 hb65
  have hb65 := kb hg197 hb65 (by omega)
  refine gS (Yk.loadAll rfl hb193 pk8_ty38 rfl (by exact sizeId_of (Sha.sum_length _)) (gS (Yk.lookOkN (ek := rk) (ev := NI) (D := (fun id : List UInt8 => id.length = 32)) idLaw id_ok (fun _ _ => rk_inj) pk8_ty53 (z := NI 0) zeroInt T5 rfl hb11l (Sha.sum_length _) (show placesG s _ = none from hq) (gS (Yk.extract (vs := [NI 0, .bool (false)]) rfl rfl (gS (Yk.extract (vs := [NI 0, .bool (false)]) rfl rfl (cF rfl (gS (Yk.fieldAt pk8_fo55_1 rfl (gS (Yk.cell1 pk8_ty3 rfl rfl (cellAt hb65 rfl) (gS (Yk.eqI (a := (m : Nat)) (b := (0 : Nat)) rfl rfl (k_geq _ _ _ _) (kT (Nat.zero_le _) (cT rfl (gS (Yk.fieldAt pk8_fo55_1 rfl (gS (Yk.cell1 pk8_ty3 rfl rfl (cellAt hb65 rfl) (gS (Yk.atSl0 (i := m) pk8_ty54 pk8_sz3 T7 rfl (by omega) (gS (Yk.cell1 pk8_ty3 rfl rfl (cellAt hb38l (nat_at (i := m) (by omega))) (gS (Yk.bin (xv := NI ((dl).getD (m) 0)) (yv := NI 1) rfl rfl rfl (i64_add _ _ _ (by have := hB.dp _ (getD_mem 0 (l := s.depths) (i := m) (by omega)); rw [hdg m hmi]; omega)) (gS (Yk.atSl0 (i := i) pk8_ty54 pk8_sz3 T7 T30 (by omega) (gS (Yk.storeN (i := i) (v := ((dl).getD (m) 0) + (1)) rfl rfl hb38l (by omega) pk8_isz3 fun w209 hb210 hg211 hs212 => ?_))))))))))))))))))))))))))))))
  have hb11l := MapF.other hb11l hg211 (some_ne (by omega))
  clear hb38l
  have hb38l := hb210; clear hb210
  have hl213 := bl hb38l
  obtain ⟨d2, hd2⟩ : ∃ d2, d2 = s.depths ++ depthB p s :: List.replicate (ps.length - i - 1) 0 := ⟨_, rfl⟩
  have hb38l : w209.heap[n24]? = some (.cells (d2.map fun x => NI x).toArray 3 (0, 0)) := blk_eq hb38l (congrArg (List.map fun x => NI x) (by rw [hd2, hdg m hmi, hdl, List.set_append_right _ _ (by omega), hBd, Nat.sub_self, show ps.length - i = (ps.length - i - 1) + 1 by omega]; unfold depthB; rw [if_neg hC0, hm, Int.toNat_natCast]; rfl))
  have hdv : d2.getD i 0 = depthB p s := by rw [hd2, List.getD_eq_getElem?_getD, List.getElem?_append_right (by omega), hBd, Nat.sub_self]; simp
  have hd2l : d2.length = ps.length := by rw [hd2, List.length_append, List.length_cons, List.length_replicate]; omega
  refine gS (Yk.atSl0 (i := i) pk8_ty54 pk8_sz3 T7 T30 (by omega) (gS (Yk.cell1 pk8_ty3 rfl rfl (cellAt hb38l (nat_at (i := i) (by omega))) (gS (Yk.eqI (a := ((d2).getD (i) 0 : Nat)) (b := (50 : Nat)) rfl rfl (k_gtr _ _ _ _) ?_)))))
  refine cD rfl (fun hc5 => ?_) fun hc5 => ?_
  ·refine rt2 rfl (vr (Value.slice none 0 0) rfl) (vr (NI 17) rfl) ?_
   rw [hdv] at hc5
   rw [if_pos hc5] at hst
   rw [buildP_err (by omega) hst]
   have hE := hE.trans hx181
   have hE := row_fresh hE hg197 (Nat.le_trans hz186 (by omega))
   have hE := row_fresh hE hg211 (Nat.le_trans hz33 (by omega))
   exact ⟨_, rfl, World.ownsRow_nil _ _ _ 1, hE⟩
  rw [hdv] at hc5
  rw [if_neg hc5] at hst
  have hst3 := hst
  have hr_vb := Stab.own _ _ _ _ _ _ _ _ hr_vb hx181
  have hr_vb := own_kept hr_vb hg197 hap191
  have hr_vb := own_kept hr_vb hg211 hap_vb_n24
  have hb193 := kb hg211 hb193 (by omega)
  refine gS (Yk.loadAll rfl hb193 pk8_ty38 rfl (by exact sizeId_of (Sha.sum_length _)) (gS (Yk.lenRB pk8_ty24 (RB.of (RB.ofOwn hr_vb) T4) (gS (Yk.putM (ek := rk) (ev := NI) (D := (fun id : List UInt8 => id.length = 32)) (c := (s.b : List UInt8).length) idLaw id_ok pk8_ty53 T5 (vr (AB (Sha.sum (p.bytes))) rfl) (vr (NI ((s.b : List UInt8).length)) rfl) hb11l (Sha.sum_length _) fun w218 hb219 hg220 hs221 => ?_)))))
  clear hb11l
  have hl222 : n8 < w218.heap.size := hb219.lt
  have hb193 := kb hg220 hb193 (by omega)
  refine gS (Yk.loadAll rfl hb193 pk8_ty38 rfl (by exact sizeId_of (Sha.sum_length _)) (gS (Yk.lit1G (a := (Sha.sum (p.bytes))) (enc := Lib.byteCells) (vr (AB (Sha.sum (p.bytes))) rfl) (by rw [Lib.byteCells_length]; exact (Sha.sum_length _)) pk8_lg47 fun v224 w225 hr226 hx227 => ?_)))
  have hE := hE.trans hx181
  have hE := row_fresh hE hg197 (Nat.le_trans hz186 (by omega))
  have hE := row_fresh hE hg211 (Nat.le_trans hz33 (by omega))
  have hE := row_fresh hE hg220 (Nat.le_trans hz16 (by omega))
  have hE := hE.trans hx227
  have hr_vi := hr_vi.keep hx181
  have hr_vi := OG.kept hr_vi hg197 hap192
  have hr_vi := OG.kept hr_vi hg211 hap_vi_n24
  have hr_vi := OG.kept hr_vi hg220 hap_vi_n8
  have hr_vi := hr_vi.keep hx227
  refine gS (Yk.appendRG _ _ w.heap.size _ 32 pk8_ty47 pk8_ig38.choose_spec.1 pk8_ig38.choose_spec.2 pk8_ty47 (s.ids) ([(Sha.sum (p.bytes))]) (OG.of hr_vi T6) (RG.of hr226 (vr v224 rfl)) (fun _ _ => byteCells_one _) (by simp only [List.length_cons, List.length_nil]; omega) (by simp only [List.length_cons, List.length_nil]; omega) hE.size fun v228 w229 ho230 hg231 => ?_)
  have hg231 : Grew w225 w229 vi v228 := .eqv T6 hg231
  have hb219 := hb219.keep hx227
  have hap232 : OB v228 n8 := apart_grew hg231 hap_vi_n8 hb219.lt
  have hr_vb := own_kept hr_vb hg220 hap_vb_n8
  have hr_vb := Stab.own _ _ _ _ _ _ _ _ hr_vb hx227
  have hap233 : ApartV v228 vb := apartv_grew hg231 hap_vi_vb hr_vb
  have hap234 : ApartV vb v228 := fun k h1 h2 => hap233 k h2 h1
  have hb38l := kb hg220 hb38l (by omega)
  have hb38l := eb hx227 hb38l
  have hap235 : OB v228 n24 := apart_grew hg231 hap_vi_n24 (bl hb38l)
  have hb65 := kb hg211 hb65 (by omega)
  have hb65 := kb hg220 hb65 (by omega)
  have hb65 := eb hx227 hb65
  have hb193 := eb hx227 hb193
  have hE := ext_grew hE hg231 hr_vi.2 (Nat.le_refl _)
  have hr_vb := own_grew hr_vb hg231 hap_vi_vb
  have hb65 := blk_grew hb65 hg231 hap64
  have hb193 := blk_grew hb193 hg231 hap192
  have hb38l := blk_grew hb38l hg231 hap_vi_n24
  have hb219 := MapF.grew hb219 hg231 hap_vi_n8
  clear hr226
  clear hr_vi
  refine gS (Yk.fieldAt pk8_fo55_0 rfl (gS (Yk.cell1 pk8_ty24 rfl rfl (cellAt hb65 rfl) (gS (Yk.lenRB pk8_ty24 (RB.of (hpr.keep hE) rfl) (gS (Yk.bin (xv := NI s.total) (yv := NI ((p.bytes : List UInt8).length)) T8 rfl rfl (i64_add _ _ _ (by omega)) (gS (Yk.fieldAt pk8_fo55_1 rfl (gS (Yk.cell1 pk8_ty3 rfl rfl (cellAt hb65 rfl) (gS (Yk.eqI (a := (m : Nat)) (b := (0 : Nat)) rfl rfl (k_lss _ _ _ _) (kF (by omega) ?_))))))))))))))
  have hm32 : (s.ids.getD m []).length = 32 := hB.len _ (getD_mem [] (by omega))
  have hpq := (hps _ (getD_mem dPt (l := ps) (i := m) (by omega))).1
  have hql := hL.2 _ (getD_mem dPt (l := ps) (i := m) (by omega))
  have hmk := makeP_len (ps.getD m dPt).bytes p.bytes (by omega) (by omega)
  refine cF rfl (gS (Yk.fieldAt pk8_fo55_1 rfl (gS (Yk.cell1 pk8_ty3 rfl rfl (cellAt hb65 rfl) ?_))))
  have hl244 : (Lib.byteCells (((s.ids) ++ [(Sha.sum (p.bytes))]).getD (m) ([] : List UInt8))).length = 32 := (RG.elem (RG.ofOwn ho230) ([] : List UInt8) (by rw [List.length_append]; omega))
  refine gS (Yk.atRG pk8_ty47 pk8_szg38 (by decide) ([] : List UInt8) (RG.of (RG.ofOwn ho230) rfl) rfl (by rw [List.length_append]; omega) fun v242 hp243 => (gS (Yk.loadPR (PR.of hp243 rfl) pk8_ty38 rfl (by rw [hl244]; exact pk8_isz38) (gS (Yk.alloc pk8_al38 fun n245 w246 hn247 hb248 hx249 hs250 => ?_)))))
  have hA251 := Ext.refl w229
  have hz253 := hE.size
  have hlt254 := lte (bl hb65) hn247
  have hlt255 := lte (bl hb193) hn247
  have hlt256 := lte (bl hb38l) hn247
  have hlt257 := lte hb219.lt hn247
  have hap258 : OB vb n245 := own_newer hr_vb (by omega)
  have hap259 : OB v228 n245 := own_newer ho230.2 (by omega)
  have hb260 := hb248; clear hb248
  have hl261 : n245 < w246.heap.size := by omega
  refine gS (Yk.storeAll (vr (PQ n245 0) rfl) (vr (AB (((s.ids) ++ [(Sha.sum (p.bytes))]).getD (m) ([] : List UInt8))) rfl) hb260 (by exact idsize (bytes_len32 (hl244)) List.length_replicate) (by exact sizeId_of (bytes_len32 (hl244))) (byteCells_one _) fun w262 hb263 hg264 hs265 => ?_)
  have hb219 := hb219.keep hx249
  have hb219 := MapF.other hb219 hg264 (some_ne (by omega))
  clear hb260
  have hb260 := hb263; clear hb263
  have hl266 := bl hb260
  clear hp243
  have hb260 : w262.heap[n245]? = some (.cells (Lib.byteCells (s.ids.getD m [])).toArray 38 (0, 0)) := blk_eq hb260 (congrArg Lib.byteCells (by rw [List.getD_eq_getElem?_getD, List.getElem?_append_left (by omega), ← List.getD_eq_getElem?_getD]))
  refine gM0 [0, 3, 1, 2, 4, 5] [1, 2, 4, 5] [3] fun w268 hx269 => (yp (Yk.sliceArr pk8_ty38 pk8_sz5 rfl zz) (yC (Yk.lit1 (b := 1) pk8_l1_24 (vr (B8 (1)) rfl) fun v270 w271 hN272 => ?_)))
  have hA251 := hA251.trans hx249
  have hA251 := row_fresh hA251 hg264 (Nat.le_trans (Nat.le_refl _) (by omega))
  have hA251 := hA251.trans hx269
  have hE := hE.trans hA251
  have hz276 := hE.size
  have hz277 := hA251.size
  have hb65 := eb hA251 hb65
  have hb193 := eb hA251 hb193
  have hb38l := eb hA251 hb38l
  have hb219 := hb219.keep hx269
  have hb260 := eb hx269 hb260
  have hr_vb := Stab.own _ _ _ _ _ _ _ _ hr_vb hA251
  have hap283 : ApartV vb v270 := apartv_new hr_vb hN272.own
  have ho230 := ho230.keep hx249
  have ho230 := OG.kept ho230 hg264 hap259
  have ho230 := ho230.keep hx269
  have ho287 := hN272.own
  have hE := hE.trans hN272.ext
  have hr_vb := Stab.own _ _ _ _ _ _ _ _ hr_vb hN272.ext
  refine yC (Yk.appendRB _ _ w.heap.size (.int .u8 0) pk8_ty24 pk8_inf5 rfl pk8_ty24 (s.b) ([(1 : UInt8)]) (own_of hr_vb T4) (RB.of (RB.ofOwn ho287) (vr v270 rfl)) (by simp only [List.length_cons, List.length_nil]; omega) hE.size fun v288 w289 ho290 hg291 => ?_)
  have hg291 : Grew w271 w289 vb v288 := .eqv T4 hg291
  have hb219 := hb219.keep hN272.ext
  have hap292 : OB v288 n8 := apart_grew hg291 hap_vb_n8 hb219.lt
  have hb38l := eb hN272.ext hb38l
  have hap293 : OB v288 n24 := apart_grew hg291 hap_vb_n24 (bl hb38l)
  have hb65 := eb hN272.ext hb65
  have hap294 : OB v288 n52 := apart_grew hg291 hap63 (bl hb65)
  have hb193 := eb hN272.ext hb193
  have hap295 : OB v288 n177 := apart_grew hg291 hap191 (bl hb193)
  have ho230 := ho230.keep hN272.ext
  have hap296 : ApartV v288 v228 := apartv_grew hg291 hap234 ho230.2
  have hb260 := eb hN272.ext hb260
  have hap298 : OB v288 n245 := apart_grew hg291 hap258 (bl hb260)
  have hap299 : ApartV v288 v270 := apartv_grew hg291 hap283 ho287
  have hE := ext_grew hE hg291 hr_vb (Nat.le_refl _)
  have hb65 := blk_grew hb65 hg291 hap63
  have hb193 := blk_grew hb193 hg291 hap191
  have hb38l := blk_grew hb38l hg291 hap_vb_n24
  have hb219 := MapF.grew hb219 hg291 hap_vb_n8
  have ho230 := og_grew ho230 hg291 hap234
  have hb260 := blk_grew hb260 hg291 hap258
  have ho287 := own_grew ho287 hg291 hap283
  clear hr_vb
  refine yC (Yk.appendRB _ _ w.heap.size (.int .u8 0) pk8_ty24 pk8_inf5 rfl pk8_ty24 (s.b ++ [(1 : UInt8)]) (s.ids.getD m []) (own_of ho290 (vr v288 rfl)) (RB.of (RB.ofBlkN hb260 hm32 (by decide)) (vr (.slice (some ⟨n245, 0, none⟩) 32 32) rfl)) (by simp only [List.length_append, List.length_cons, List.length_nil, hm32]; omega) hE.size fun v301 w302 ho303 hg304 => ?_)
  have hg304 : Grew w289 w302 v288 v301 := hg304
  have hap305 : OB v301 n8 := apart_grew hg304 hap292 hb219.lt
  have hap306 : OB v301 n24 := apart_grew hg304 hap293 (bl hb38l)
  have hap307 : OB v301 n52 := apart_grew hg304 hap294 (bl hb65)
  have hap308 : OB v301 n177 := apart_grew hg304 hap295 (bl hb193)
  have hap309 : ApartV v301 v228 := apartv_grew hg304 hap296 ho230.2
  have hap311 : OB v301 n245 := apart_grew hg304 hap298 (bl hb260)
  have hap312 : ApartV v301 v270 := apartv_grew hg304 hap299 ho287
  have hE := ext_grew hE hg304 ho290 (Nat.le_refl _)
  have hb65 := blk_grew hb65 hg304 hap294
  have hb193 := blk_grew hb193 hg304 hap295
  have hb38l := blk_grew hb38l hg304 hap293
  have hb219 := MapF.grew hb219 hg304 hap292
  have ho230 := og_grew ho230 hg304 hap296
  have hb260 := blk_grew hb260 hg304 hap298
  have ho287 := own_grew ho287 hg304 hap299
  clear ho290
  refine yC (Yk.assign rfl (gR ?_))
  have hlow314 : ∀ k, Value.ownBlock v301 = some k → w.heap.size ≤ k := fun k hk => (ho303.lt k hk).1
  have hsz_ : w.heap.size ≤ w302.heap.size := hE.size
  refine wpF_draw_rowsX (Value.ownBlock v301) [] [0] (fun m => []) (fun m => []) [fun x w' => RowX w.heap.size w302.heap.size 5 (Value.ownBlock v301) (s.b ++ [(1 : UInt8)] ++ s.ids.getD m []) x w', Is (v), Is (PQ n52 1), Is (NI m), fun x w' => PR (partC (ps.getD (m) dPt)) x w', fun x w' => PR (((partC (ps.getD (m) dPt)).drop 0).take 1) x w', Is ((ps.getD (m) dPt).v), Is (PQ n52 0), Is (p.v), fun x w' => RB w' x (makeP ((ps.getD m dPt).bytes) (p.bytes)), Is (St (makeP ((ps.getD m dPt).bytes) (p.bytes))), fun x w' => RowX w.heap.size w302.heap.size 5 (Value.ownBlock v301) ((s.b ++ [(1 : UInt8)] ++ s.ids.getD m [] : List UInt8) ++ textB (makeP ((ps.getD m dPt).bytes) (p.bytes) : List UInt8)) x w', fun x w' => RowX w.heap.size w302.heap.size 5 (Value.ownBlock v301) ((s.b ++ [(1 : UInt8)] ++ s.ids.getD m [] : List UInt8) ++ textB (makeP ((ps.getD m dPt).bytes) (p.bytes) : List UInt8)) x w'] (by kernel_rfl) [109, 110, 111, 112, 113, 114, 115, 116, 117, 118, 119, 120, 4] (by kernel_rfl) (by kernel_rfl) (by kernel_rfl) (by kernel_rfl) (by kernel_rfl) rfl ⟨(fun _ _ _ h k => ⟨Stab.own _ _ _ _ _ _ _ _ h.1 k, h.2⟩), Stab.is _, Stab.is _, Stab.is _, (fun _ _ _ h k => PR.keep h k), (fun _ _ _ h k => PR.keep h k), Stab.is _, Stab.is _, Stab.is _, (fun _ _ _ h k => RB.keep h k), Stab.is _, (fun _ _ _ h k => ⟨Stab.own _ _ _ _ _ _ _ _ h.1 k, h.2⟩), (fun _ _ _ h k => ⟨Stab.own _ _ _ _ _ _ _ _ h.1 k, h.2⟩), trivial⟩ trivial ?hs5028 ?hQ5028
  case hs5028 =>
   refine ⟨?_, ?_, ?_, ?_, ?_, ?_, ?_, ?_, ?_, ?_, ?_, ?_, ?_, trivial⟩
   ·refine stepN rfl fun σ w1 hC h => ?_
    have hX : Ext w302 w1 := hC
    have hC : BX w302.heap.size (Value.ownBlock v301) w302 w1 := BX.ofExt hX (Nat.le_refl _)
    have e4 : σ 4 = v301 := (eqo (h 4 (by decide))).trans rfl
    exact Yk.move e4 ⟨Ext.refl _, Stab.own _ _ _ _ _ _ _ _ ho303 hX, fun k hk => .inl hk⟩
   ·refine stepN rfl fun σ w1 hC h => ?_
    have hC : BX w302.heap.size (Value.ownBlock v301) w302 w1 := hC
    have e0 := (eqo (h 0 (by decide))).trans T0
    exact Yk.move e0 ⟨Ext.refl _, rfl⟩
   ·refine stepN rfl fun σ w1 hC h => ?_
    have hC : BX w302.heap.size (Value.ownBlock v301) w302 w1 := hC
    have e10 : σ 10 = PQ n52 0 := (eqo (h 10 (by decide))).trans rfl
    exact Yk.fieldAt pk8_fo55_1 e10 ⟨Ext.refl _, rfl⟩
   ·refine stepN rfl fun σ w1 hC h => ?_
    have hC : BX w302.heap.size (Value.ownBlock v301) w302 w1 := hC
    have e111 := eqo (h 111 (by decide))
    exact Yk.cell1 pk8_ty3 rfl e111 (cellAt (BX.blk hC hb65 hap307) (show _ = some (NI m : Value) from rfl)) ⟨Ext.refl _, rfl⟩
   ·refine stepN rfl fun σ w1 hC h => ?_
    have hC : BX w302.heap.size (Value.ownBlock v301) w302 w1 := hC
    have e110 := eqo (h 110 (by decide))
    have e112 := eqo (h 112 (by decide))
    exact Yk.atRG pk8_ty28 pk8_szg55 (by decide) dPt (RG.of (hr.keep (ext_bx hE hC (by omega) (fun k hk => by have := hlow314 k hk; omega))) e110) e112 (by omega) fun v h => ⟨Ext.refl _, h⟩
   ·refine stepN rfl fun σ w1 hC h => ?_
    have hC : BX w302.heap.size (Value.ownBlock v301) w302 w1 := hC
    have e113 : (fun x w' => PR (partC (ps.getD (m) dPt)) x w') (σ 113) w1 := h 113 (by decide)
    exact Yk.fieldPR (n := 1) pk8_fo55_0 e113 fun v h => ⟨Ext.refl _, h⟩
   ·refine stepN rfl fun σ w1 hC h => ?_
    have hC : BX w302.heap.size (Value.ownBlock v301) w302 w1 := hC
    have e114 : (fun x w' => PR (((partC (ps.getD (m) dPt)).drop 0).take 1) x w') (σ 114) w1 := h 114 (by decide)
    exact Yk.loadC pk8_ty24 rfl (PR.cell e114 (show _ = some ((ps.getD (m) dPt).v : Value) from rfl)) ⟨Ext.refl _, rfl⟩
   ·refine stepN rfl fun σ w1 hC h => ?_
    have hC : BX w302.heap.size (Value.ownBlock v301) w302 w1 := hC
    have e10 : σ 10 = PQ n52 0 := (eqo (h 10 (by decide))).trans rfl
    exact Yk.fieldAt pk8_fo55_0 e10 ⟨Ext.refl _, rfl⟩
   ·refine stepN rfl fun σ w1 hC h => ?_
    have hC : BX w302.heap.size (Value.ownBlock v301) w302 w1 := hC
    have e116 := eqo (h 116 (by decide))
    exact Yk.cell1 pk8_ty24 rfl e116 (cellAt (BX.blk hC hb65 hap307) (show _ = some (p.v : Value) from rfl)) ⟨Ext.refl _, rfl⟩
   ·refine stepN rfl fun σ w1 hC h => ?_
    have hC : BX w302.heap.size (Value.ownBlock v301) w302 w1 := hC
    have e115 := eqo (h 115 (by decide))
    have e117 := eqo (h 117 (by decide))
    refine Yk.callA2 pk8_pl25 e115 e117 ((make_any _ ((ps.getD (m) dPt).v) (p.v) ((ps.getD m dPt).bytes) (p.bytes) (hpq.keep (ext_bx hE hC (by omega) (fun k hk => by have := hlow314 k hk; omega))) (hpr.keep (ext_bx hE hC (by omega) (fun k hk => by have := hlow314 k hk; omega))) (by omega) (by omega)).mono ?_)
    rintro e w2 ⟨_, rfl, hx, ho⟩
    exact ⟨_, rfl, hx, RB.ofOwn ho⟩
   ·refine stepN rfl fun σ w1 hC h => ?_
    have hC : BX w302.heap.size (Value.ownBlock v301) w302 w1 := hC
    have e118 : (fun x w' => RB w' x (makeP ((ps.getD m dPt).bytes) (p.bytes))) (σ 118) w1 := h 118 (by decide)
    exact Yk.convRB pk8_ty24 pk8_ty5 pk8_ty9 e118 ⟨Ext.refl _, rfl⟩
   ·refine stepN rfl fun σ w1 hC h => ?_
    have hC : BX w302.heap.size (Value.ownBlock v301) w302 w1 := hC
    have e109 : (fun x w' => RowX w.heap.size w302.heap.size 5 (Value.ownBlock v301) (s.b ++ [(1 : UInt8)] ++ s.ids.getD m []) x w') (σ 109) w1 := h 109 (by decide)
    have e119 := eqo (h 119 (by decide))
    refine Yk.callA2 pk8_pl24 rfl e119 ((putTextL _ (σ 109) (s.b ++ [(1 : UInt8)] ++ s.ids.getD m []) (RB.ofOwn e109.1) (makeP ((ps.getD m dPt).bytes) (p.bytes)) (by simp only [List.length_append, List.length_cons, List.length_nil, hm32]; omega)).mono ?_)
    rintro e w2 ⟨v, rfl, hN⟩
    exact ⟨_, rfl, hN.ext, ownsRow_base hN.own (Nat.le_trans hsz_ hC.size), fun k hk => .inr (Nat.le_trans hC.size (hN.own.lt k hk).1)⟩
   ·refine stepN rfl fun σ w1 hC h => ?_
    have hC : BX w302.heap.size (Value.ownBlock v301) w302 w1 := hC
    have e120 : (fun x w' => RowX w.heap.size w302.heap.size 5 (Value.ownBlock v301) ((s.b ++ [(1 : UInt8)] ++ s.ids.getD m [] : List UInt8) ++ textB (makeP ((ps.getD m dPt).bytes) (p.bytes) : List UInt8)) x w') (σ 120) w1 := h 120 (by decide)
    exact Yk.assign rfl ⟨Ext.refl _, e120⟩
  intro ρ315 w316 hx317 he hf
  obtain ⟨-, -, -, -, -, -, -, -, -, -, -, -, k4, -⟩ := hf
  obtain ⟨T0, T5, T6, T7, T8, T9, T10, T11, T13, T14, T28, T29, T30, T47, T58, T61, T91, -⟩ := he.hold [(0, _), (5, _), (6, v228), (7, _), (8, NI ((s.total) + ((p.bytes : List UInt8).length))), (9, _), (10, PQ n52 0), (11, PQ n177 0), (13, .bool (false)), (14, PQ n245 0), (28, _), (29, _), (30, _), (47, .bool (false)), (58, .bool (false)), (61, .bool (true)), (91, .bool (false))] ⟨T0, T5, rfl, T7, rfl, T30, rfl, rfl, rfl, rfl, T28, T29, T30, rfl, rfl, rfl, rfl, trivial⟩ rfl
  clear he
  have k4 : (fun x w' => RowX w.heap.size w302.heap.size 5 (Value.ownBlock v301) ((s.b ++ [(1 : UInt8)] ++ s.ids.getD m [] : List UInt8) ++ textB (makeP ((ps.getD m dPt).bytes) (p.bytes) : List UInt8)) x w') (ρ315 4) w316 := k4
  obtain ⟨v318, T4⟩ : ∃ v, ρ315 4 = v := ⟨_, rfl⟩
  rw [T4] at k4
  have hg319 : Grew w302 w316 v301 v318 := ⟨hx317.grown, k4.2⟩
  have ho320 := k4.1; clear k4
  have hap321 : OB v318 n8 := apart_grew hg319 hap305 hb219.lt
  have hap322 : OB v318 n24 := apart_grew hg319 hap306 (bl hb38l)
  have hap325 : ApartV v318 v228 := apartv_grew hg319 hap309 ho230.2
  have hap326 : ApartV v228 v318 := fun k h1 h2 => hap325 k h2 h1
  have hE := ext_grew hE hg319 ho303 (Nat.le_refl _)
  have hb65 := blk_grew hb65 hg319 hap307
  have hb193 := blk_grew hb193 hg319 hap308
  have hb38l := blk_grew hb38l hg319 hap306
  have hb219 := MapF.grew hb219 hg319 hap305
  have ho230 := og_grew ho230 hg319 hap309
  have hb260 := blk_grew hb260 hg319 hap311
  have ho287 := own_grew ho287 hg319 hap312
  clear ho303
  refine gX ?_
  have hbn : (bnext ps p s).b = s.b ++ [1] ++ s.ids.getD m [] ++ textB (makeP (ps.getD m dPt).bytes p.bytes) := by unfold bnext; simp only; rw [if_neg hC0, hm, Int.toNat_natCast]
  refine gS (Yk.bin (xv := NI i) (yv := NI 1) T30 rfl rfl (i64_add _ _ _ (by omega)) ?_)
  have hdep : d2 = (bnext ps p s).depths ++ List.replicate (ps.length - (i + 1)) 0 := by rw [hd2]; simp only [bnext, List.append_assoc, List.singleton_append, Nat.sub_sub]
  refine gK (And.intro ⟨i + 1, bnext ps p s, v318, v228, T0, T5, T7, T28, T29, rfl, T8, T4, T6, hE, own_eq ho320 (by rw [hbn]), og_eq ho230 (rfl), map_eq hb219 ((placesG_next hB hin).symm), blk_eq hb38l (congrArg (List.map fun x => NI x) hdep), hst3, by omega, hap321, hap325, hap322, hap232, hap326, hap235, trivial⟩ ?_)
  show ps.length - (intOf (NI ((i) + (1)))).toNat < ps.length - (intOf (ρ43 30)).toNat
  rw [q30]
  simp only [intOf, Int.toNat_natCast]; omega
 have hie : i = ps.length := by omega
 have hfl := fanL_len s.ids
 have hsl := sortB_len s.ids
 refine gS (Yk.lenRB pk8_ty24 (RB.of (RB.ofOwn hr_vb) T4) (gS (Yk.callA1 pk8_pl26 T6 ((fan_any _ vi (s.ids) (RG.ofOwn hr_vi)).mono ?_))))
 rintro e w334 ⟨rfl, hx333⟩
 refine ⟨_, rfl, ?_⟩
 have hE := hE.trans hx333
 have hr_vb := Stab.own _ _ _ _ _ _ _ _ hr_vb hx333
 have hr_vi := hr_vi.keep hx333
 have hb11l := hb11l.keep hx333
 have hb38l := eb hx333 hb38l
 refine gL (fun (ρ : Slots) (wz : World) => ∃ c : Nat, ∃ vc : Value, ρ 0 = (v : Value) ∧ ρ 5 = (.map (some n8) : Value) ∧ ρ 6 = (vi : Value) ∧ ρ 7 = (.slice (some ⟨n24, 0, none⟩) ps.length ps.length : Value) ∧ ρ 8 = (NI s.total : Value) ∧ ρ 15 = (NI ((s.b : List UInt8).length) : Value) ∧ ρ 28 = (v : Value) ∧ ρ 29 = (NI ps.length : Value) ∧ ρ 30 = (NI i : Value) ∧ ρ 125 = (.agg ((fanL (s.ids)).map fun x => NI x).toArray : Value) ∧ ρ 126 = (NI c : Value) ∧ ρ 4 = (vc : Value) ∧ Ext w wz ∧ OG w.heap.size 38 32 (Lib.byteCells) wz vi (s.ids) ∧ MapF rk NI (fun id : List UInt8 => id.length = 32) wz n8 (placesG s) ∧ wz.heap[n24]? = some (.cells (dl.map fun x => NI x).toArray 3 (0, 0)) ∧ wz.ownsRow w.heap.size 5 1 vc (s.b ++ ((fanL s.ids).take c).flatMap fourP : List UInt8).length (Lib.byteCells (s.b ++ ((fanL s.ids).take c).flatMap fourP)) ∧ (c ≤ 256) ∧ (OB vc n8) ∧ (ApartV vc vi) ∧ (OB vc n24) ∧ True) (fun ρ _ => 256 - (intOf (ρ 126)).toNat) ⟨0, vb, T0, T5, T6, T7, T8, rfl, T28, T29, T30, rfl, rfl, T4, hE, hr_vi, hb11l, hb38l, own_eq hr_vb (by simp), by omega, hap_vb_n8, hap_vb_vi, hap_vb_n24, trivial⟩ ?_
 clear hr_vb
 clear hE hr_vi hb11l hb38l
 rintro ρ335 w336 ⟨c, vc, T0, T5, T6, T7, T8, T15, T28, T29, T30, T125, T126, T4, hE, hr_vi, hb11l, hb38l, hr_vc, hcl, hap_vc_n8, hap_vc_vi, hap_vc_n24, -⟩
 have q126 := T126
 have hbl : (s.b ++ ((fanL s.ids).take c).flatMap fourP).length ≤ 40000 := by rw [List.length_append, flat4, List.length_take]; omega
 have hfc := fanL_le s.ids c
 refine gS (Yk.eqI (a := (c : Nat)) (b := (256 : Nat)) T126 rfl (k_lss _ _ _ _) ?_)
 refine cD rfl (fun hc7 => ?_) fun hc7 => ?_
 ·refine gS (Yk.idxN (l := fanL (s.ids)) (i := c) pk8_ty59 pk8_ty3 rfl pk8_sz3 T125 T126 (by omega) (by rw [hfl]) (gS (Yk.callA2 pk8_pl27 T4 rfl ((four_any w _ hE vc (s.b ++ ((fanL s.ids).take c).flatMap fourP) ((fanL (s.ids)).getD (c) 0) (by have := fanL_le s.ids c; omega) (by omega) hr_vc).mono ?_))))
  rintro e w344 ⟨v341, rfl, ho342, hg343⟩
  refine ⟨_, rfl, ?_⟩
  have hap345 : OB v341 n8 := apart_grew hg343 hap_vc_n8 hb11l.lt
  have hap346 : ApartV v341 vi := apartv_grew hg343 hap_vc_vi hr_vi.2
  have hap348 : OB v341 n24 := apart_grew hg343 hap_vc_n24 (bl hb38l)
  have hE := ext_grew hE hg343 hr_vc (Nat.le_refl _)
  have hr_vi := og_grew hr_vi hg343 hap_vc_vi
  have hb11l := MapF.grew hb11l hg343 hap_vc_n8
  have hb38l := blk_grew hb38l hg343 hap_vc_n24
  clear hr_vc
  refine gS (Yk.bin (xv := NI c) (yv := NI 1) T126 rfl rfl (i64_add _ _ _ (by omega)) (gK (And.intro ⟨c + 1, v341, T0, T5, T6, T7, T8, T15, T28, T29, T30, T125, rfl, rfl, hE, hr_vi, hb11l, hb38l, own_eq ho342 (by rw [take_snocD (fanL s.ids) c 0 (by rw [hfl]; omega), List.flatMap_append, List.flatMap_cons, List.flatMap_nil, List.append_nil, List.append_assoc]), by omega, hap345, hap346, hap348, trivial⟩ ?_)))
  show 256 - (intOf (NI ((c) + (1)))).toNat < 256 - (intOf (ρ335 126)).toNat
  rw [q126]
  simp only [intOf, Int.toNat_natCast]; omega
 refine gS (Yk.callA1 pk8_pl28 T6 ((sort_any _ vi (s.ids) (by omega) (RG.ofOwn hr_vi)).mono ?_))
 rintro e w354 ⟨v351, rfl, hr352, hx353⟩
 refine ⟨_, rfl, ?_⟩
 have hz357 := hE.size
 have hap360 : ApartV vc v351 := apartv_new hr_vc hr352.2
 have hE := hE.trans hx353
 have hr_vi := hr_vi.keep hx353
 have hb11l := hb11l.keep hx353
 have hb38l := eb hx353 hb38l
 have hr_vc := Stab.own _ _ _ _ _ _ _ _ hr_vc hx353
 refine gS (Yk.lenRG pk8_ty47 (RG.of (RG.ofOwn hr352) rfl) (gL (fun (ρ : Slots) (wz : World) => ∃ j : Nat, ∃ ve : Value, ρ 0 = (v : Value) ∧ ρ 5 = (.map (some n8) : Value) ∧ ρ 6 = (vi : Value) ∧ ρ 7 = (.slice (some ⟨n24, 0, none⟩) ps.length ps.length : Value) ∧ ρ 8 = (NI s.total : Value) ∧ ρ 15 = (NI ((s.b : List UInt8).length) : Value) ∧ ρ 28 = (v : Value) ∧ ρ 29 = (NI ps.length : Value) ∧ ρ 30 = (NI i : Value) ∧ ρ 125 = (.agg ((fanL (s.ids)).map fun x => NI x).toArray : Value) ∧ ρ 126 = (NI c : Value) ∧ ρ 134 = (v351 : Value) ∧ ρ 135 = (NI (((sortB (s.ids))).length) : Value) ∧ ρ 136 = (NI j : Value) ∧ ρ 4 = (ve : Value) ∧ Ext w wz ∧ OG w.heap.size 38 32 (Lib.byteCells) wz vi (s.ids) ∧ MapF rk NI (fun id : List UInt8 => id.length = 32) wz n8 (placesG s) ∧ wz.heap[n24]? = some (.cells (dl.map fun x => NI x).toArray 3 (0, 0)) ∧ OG w336.heap.size 38 32 Lib.byteCells wz v351 (sortB (s.ids)) ∧ wz.ownsRow w.heap.size 5 1 ve (s.b ++ (fanL s.ids).flatMap fourP ++ ((sortB s.ids).take j).flatMap (fun id => id ++ fourP ((placesG s id).getD 0)) : List UInt8).length (Lib.byteCells (s.b ++ (fanL s.ids).flatMap fourP ++ ((sortB s.ids).take j).flatMap (fun id => id ++ fourP ((placesG s id).getD 0)))) ∧ (j ≤ s.ids.length) ∧ (OB ve n8) ∧ (ApartV ve vi) ∧ (OB ve n24) ∧ (ApartV ve v351) ∧ True) (fun ρ _ => s.ids.length - (intOf (ρ 136)).toNat) ⟨0, vc, T0, T5, T6, T7, T8, T15, T28, T29, T30, T125, T126, rfl, rfl, rfl, T4, hE, hr_vi, hb11l, hb38l, hr352, own_eq hr_vc (by rw [show c = 256 by omega, List.take_of_length_le (by rw [hfl]; omega)]; simp), by omega, hap_vc_n8, hap_vc_vi, hap_vc_n24, hap360, trivial⟩ ?_))
 clear hr_vc
 clear hE hr_vi hb11l hb38l hr352
 rintro ρ362 w363 ⟨j, ve, T0, T5, T6, T7, T8, T15, T28, T29, T30, T125, T126, T134, T135, T136, T4, hE, hr_vi, hb11l, hb38l, hr352, hr_ve, hjl, hap_ve_n8, hap_ve_vi, hap_ve_n24, hap_ve_v351, -⟩
 have q136 := T136
 have hbl2 : (s.b ++ (fanL s.ids).flatMap fourP ++ ((sortB s.ids).take j).flatMap (fun id => id ++ fourP ((placesG s id).getD 0))).length ≤ 60000 := by rw [List.length_append, List.length_append, flat4, hfl, flat36 (fun id => (placesG s id).getD 0) _ (fun x hx => hB.len x ((sortB_perm _).subset (List.mem_of_mem_take hx))), List.length_take]; omega
 refine gS (Yk.eqI (a := (j : Nat)) (b := (((sortB (s.ids))).length : Nat)) T136 T135 (k_lss _ _ _ _) ?_)
 refine cD rfl (fun hc8 => ?_) fun hc8 => ?_
 ·have hx32 : ((sortB s.ids).getD j []).length = 32 := hB.len _ ((sortB_perm _).subset (getD_mem [] (by omega)))
  obtain ⟨q2, hq2, hqm⟩ : ∃ q, placesG s ((sortB s.ids).getD j []) = some q ∧ q ∈ s.places := lookup_zip_some s.ids s.places _ (by omega) ((sortB_perm _).subset (getD_mem [] (by omega)))
  have hq2l := hB.pl q2 hqm
  have hl370 : (Lib.byteCells (((sortB (s.ids))).getD (j) ([] : List UInt8))).length = 32 := (RG.elem (RG.ofOwn hr352) ([] : List UInt8) (by omega))
  refine gS (Yk.atRG pk8_ty47 pk8_szg38 (by decide) ([] : List UInt8) (RG.of (RG.ofOwn hr352) T134) T136 (by omega) fun v368 hp369 => (gS (Yk.loadPR (PR.of hp369 rfl) pk8_ty38 rfl (by rw [hl370]; exact pk8_isz38) (gS (Yk.alloc pk8_al38 fun n371 w372 hn373 hb374 hx375 hs376 => ?_)))))
  have hA377 := Ext.refl w363
  have hz379 := hE.size
  have hlt380 := lte hb11l.lt hn373
  have hlt381 := lte (bl hb38l) hn373
  have hap384 : OB ve n371 := own_newer hr_ve (by omega)
  have hap382 : OB vi n371 := own_newer hr_vi.2 (by omega)
  have hap383 : OB v351 n371 := own_newer hr352.2 (by omega)
  have hb385 := hb374; clear hb374
  have hl386 : n371 < w372.heap.size := by omega
  refine gS (Yk.storeAll (vr (PQ n371 0) rfl) (vr (AB (((sortB (s.ids))).getD (j) ([] : List UInt8))) rfl) hb385 (by exact idsize (bytes_len32 (hl370)) List.length_replicate) (by exact sizeId_of (bytes_len32 (hl370))) (byteCells_one _) fun w387 hb388 hg389 hs390 => ?_)
  have hb11l := hb11l.keep hx375
  have hb11l := MapF.other hb11l hg389 (some_ne (by omega))
  clear hb385
  have hb385 := hb388; clear hb388
  have hl391 := bl hb385
  clear hp369
  refine gM1 [0, 1, 3, 4, 5, 2, 6, 7] [2, 6, 7] [] [4, 5] fun w392 hx393 => ?_
  have hA377 := hA377.trans hx375
  have hA377 := row_fresh hA377 hg389 (Nat.le_trans (Nat.le_refl _) (by omega))
  have hA377 := hA377.trans hx393
  have hE := hE.trans hA377
  have hr_ve := Stab.own _ _ _ _ _ _ _ _ hr_ve hA377
  have hb11l := hb11l.keep hx393
  have hb385 := eb hx393 hb385
  refine m2 (A := fun wz => wz.heap[n371]? = some (.cells (Lib.byteCells (((sortB (s.ids))).getD (j) ([] : List UInt8))).toArray 38 (0, 0))) hb385 (B := fun wz => MapF rk NI (fun id : List UInt8 => id.length = 32) wz n8 (placesG s)) hb11l ?_
  refine ys (Yk.sliceArr pk8_ty38 pk8_sz5 rfl zz) (yf (fun _ ⟨hb385, _, _⟩ => Yk.loadAll rfl hb385 pk8_ty38 rfl (by exact sizeId_of (bytes_len32 (hl370))) zz) (yf (fun _ ⟨_, hb11l, _⟩ => Yk.lookMS (ek := rk) (ev := NI) (D := (fun id : List UInt8 => id.length = 32)) idLaw id_ok (fun _ _ => rk_inj) pk8_ty53 (z := NI 0) zeroInt T5 rfl hb11l (bytes_len32 (hl370)) hq2 zz) (yI (Yk.appendRB _ _ w.heap.size (.int .u8 0) pk8_ty24 pk8_inf5 rfl pk8_ty24 (s.b ++ (fanL s.ids).flatMap fourP ++ ((sortB s.ids).take j).flatMap (fun id => id ++ fourP ((placesG s id).getD 0))) (((sortB (s.ids))).getD (j) ([] : List UInt8)) (own_of hr_ve T4) (RB.of (RB.ofBlkN hb385 (bytes_len32 (hl370)) (by decide)) (vr (.slice (some ⟨n371, 0, none⟩) 32 32) rfl)) (by rw [hx32]; omega) hE.size fun v394 w395 ho396 hg397 => ?_))))
  have hg397 : Grew w392 w395 ve v394 := .eqv T4 hg397
  have hap398 : OB v394 n8 := apart_grew hg397 hap_ve_n8 hb11l.lt
  have hr_vi := hr_vi.keep hx375
  have hr_vi := OG.kept hr_vi hg389 hap382
  have hr_vi := hr_vi.keep hx393
  have hap399 : ApartV v394 vi := apartv_grew hg397 hap_ve_vi hr_vi.2
  have hb38l := eb hA377 hb38l
  have hap401 : OB v394 n24 := apart_grew hg397 hap_ve_n24 (bl hb38l)
  have hr352 := hr352.keep hx375
  have hr352 := OG.kept hr352 hg389 hap383
  have hr352 := hr352.keep hx393
  have hap402 : ApartV v394 v351 := apartv_grew hg397 hap_ve_v351 hr352.2
  have hap404 : OB v394 n371 := apart_grew hg397 hap384 (bl hb385)
  have hE := ext_grew hE hg397 hr_ve (Nat.le_refl _)
  have hr_vi := og_grew hr_vi hg397 hap_ve_vi
  have hb11l := MapF.grew hb11l hg397 hap_ve_n8
  have hb38l := blk_grew hb38l hg397 hap_ve_n24
  have hr352 := og_grew hr352 hg397 hap_ve_v351
  have hb385 := blk_grew hb385 hg397 hap384
  clear hr_ve
  refine ⟨⟨hb385, hb11l, trivial⟩, ?_⟩
  refine yD rfl (Yk.callA2 pk8_pl27 rfl rfl ((four_any w _ hE v394 (s.b ++ (fanL s.ids).flatMap fourP ++ ((sortB s.ids).take j).flatMap (fun id => id ++ fourP ((placesG s id).getD 0)) ++ ((sortB (s.ids))).getD (j) ([] : List UInt8)) (q2) (by omega) (by rw [List.length_append, hx32]; omega) ho396).mono ?_))
  rintro e w408 ⟨v405, rfl, ho406, hg407⟩
  refine ⟨_, rfl, ?_⟩
  have hap409 : OB v405 n8 := apart_grew hg407 hap398 hb11l.lt
  have hap410 : ApartV v405 vi := apartv_grew hg407 hap399 hr_vi.2
  have hap412 : OB v405 n24 := apart_grew hg407 hap401 (bl hb38l)
  have hap413 : ApartV v405 v351 := apartv_grew hg407 hap402 hr352.2
  have hE := ext_grew hE hg407 ho396 (Nat.le_refl _)
  have hr_vi := og_grew hr_vi hg407 hap399
  have hb11l := MapF.grew hb11l hg407 hap398
  have hb38l := blk_grew hb38l hg407 hap401
  have hr352 := og_grew hr352 hg407 hap402
  have hb385 := blk_grew hb385 hg407 hap404
  clear ho396
  refine yD rfl (Yk.assign rfl (gS (Yk.bin (xv := NI j) (yv := NI 1) T136 rfl rfl (i64_add _ _ _ (by omega)) (gK (And.intro ⟨j + 1, v405, T0, T5, T6, T7, T8, T15, T28, T29, T30, T125, T126, T134, T135, rfl, rfl, hE, hr_vi, hb11l, hb38l, hr352, own_eq ho406 (by rw [take_snocD (sortB s.ids) j [] (by rw [hsl]; omega), List.flatMap_append, List.flatMap_cons, List.flatMap_nil, List.append_nil]; simp only [hq2, Option.getD_some, List.append_assoc]), by omega, hap409, hap410, hap412, hap413, trivial⟩ ?_)))))
  show s.ids.length - (intOf (NI ((j) + (1)))).toNat < s.ids.length - (intOf (ρ362 136)).toNat
  rw [q136]
  simp only [intOf, Int.toNat_natCast]; omega
 refine gS (Yk.callA2 pk8_pl27 T4 T15 ((four_any w _ hE ve (s.b ++ (fanL s.ids).flatMap fourP ++ ((sortB s.ids).take j).flatMap (fun id => id ++ fourP ((placesG s id).getD 0))) ((s.b : List UInt8).length) (by omega) (by omega) hr_ve).mono ?_))
 rintro e w420 ⟨v417, rfl, ho418, hg419⟩
 refine ⟨_, rfl, ?_⟩
 have hap421 : OB v417 n8 := apart_grew hg419 hap_ve_n8 hb11l.lt
 have hap422 : ApartV v417 vi := apartv_grew hg419 hap_ve_vi hr_vi.2
 have hap424 : OB v417 n24 := apart_grew hg419 hap_ve_n24 (bl hb38l)
 have hap425 : ApartV v417 v351 := apartv_grew hg419 hap_ve_v351 hr352.2
 have hE := ext_grew hE hg419 hr_ve (Nat.le_refl _)
 have hr_vi := og_grew hr_vi hg419 hap_ve_vi
 have hb11l := MapF.grew hb11l hg419 hap_ve_n8
 have hb38l := blk_grew hb38l hg419 hap_ve_n24
 have hr352 := og_grew hr352 hg419 hap_ve_v351
 clear hr_ve
 obtain ⟨C, hCd⟩ : ∃ C, C = s.b ++ behindB s s.b.length := ⟨_, rfl⟩
 have ho418 : w420.ownsRow w.heap.size 5 1 v417 (C : List UInt8).length (Lib.byteCells (C)) := (by rw [hCd, List.take_of_length_le (by rw [hsl]; omega)]; unfold behindB; simp only [List.append_assoc] : (s.b ++ (fanL s.ids).flatMap fourP ++ ((sortB s.ids).take j).flatMap (fun id => id ++ fourP ((placesG s id).getD 0)) : List UInt8) ++ fourP ((s.b : List UInt8).length) = C) ▸ ho418
 have hCl : C.length ≤ 60000 := by rw [hCd, List.length_append, behindB_len hB]; omega
 refine gS (Yk.rows1 pk8_rows1_75 (RB.of (RB.ofOwn ho418) (vr v417 rfl)) fun v428 w429 hr430 hx431 => ?_)
 have hE := hE.trans hx431
 refine gS (Yk.callA1 pk8_pl17 rfl ((sum_one _ (hG.keep hE) v428 (C) hr430 (by omega)).mono ?_))
 rintro e w433 ⟨rfl, hx432⟩
 refine ⟨_, rfl, ?_⟩
 refine gS (Yk.alloc pk8_al38 fun n434 w435 hn436 hb437 hx438 hs439 => ?_)
 have hA440 := Ext.refl w433
 have hE := hE.trans hx432
 have hz442 := hE.size
 have hZ3 := hx431.trans hx432
 have hb11l := hb11l.keep hZ3
 have hlt443 := lte hb11l.lt hn436
 have hb38l := eb hZ3 hb38l
 have hlt444 := lte (bl hb38l) hn436
 have ho418 := Stab.own _ _ _ _ _ _ _ _ ho418 hZ3
 have hap447 : OB v417 n434 := own_newer ho418 (by omega)
 have hb448 := hb437; clear hb437
 have hl449 : n434 < w435.heap.size := by omega
 refine gS (Yk.storeAll (vr (PQ n434 0) rfl) (vr (AB (Sha.sum (C))) rfl) hb448 (by exact idsize (Sha.sum_length _) List.length_replicate) (by exact sizeId_of (Sha.sum_length _)) (byteCells_one _) fun w450 hb451 hg452 hs453 => ?_)
 have hb11l := hb11l.keep hx438
 have hb11l := MapF.other hb11l hg452 (some_ne (by omega))
 clear hb448
 have hb448 := hb451; clear hb451
 have hl454 := bl hb448
 have hE := hE.trans hx438
 have hE := row_fresh hE hg452 (Nat.le_trans hz442 (by omega))
 have ho418 := Stab.own _ _ _ _ _ _ _ _ ho418 hx438
 have ho418 := own_kept ho418 hg452 hap447
 refine gS (Yk.sliceArr pk8_ty38 pk8_sz5 rfl (gS (Yk.appendRB _ _ w.heap.size (.int .u8 0) pk8_ty24 pk8_inf5 rfl pk8_ty24 (C) (Sha.sum (C)) (own_of ho418 (vr v417 rfl)) (RB.of (RB.ofBlkN hb448 (Sha.sum_length _) (by decide)) (vr (.slice (some ⟨n434, 0, none⟩) 32 32) rfl)) (by rw [Sha.sum_length]; omega) hE.size fun v456 w457 ho458 hg459 => ?_)))
 have hg459 : Grew w450 w457 v417 v456 := hg459
 have hA440 := hA440.trans hx438
 have hA440 := row_fresh hA440 hg452 (Nat.le_trans (Nat.le_refl _) (by omega))
 have hr_vi := hr_vi.keep (hZ3.trans hA440)
 have hb38l := eb hx438 hb38l
 have hb38l := kb hg452 hb38l (by omega)
 have hr352 := hr352.keep (hZ3.trans hA440)
 have hE := ext_grew hE hg459 ho418 (Nat.le_refl _)
 have hr_vi := og_grew hr_vi hg459 hap422
 have hb11l := MapF.grew hb11l hg459 hap421
 have hb38l := blk_grew hb38l hg459 hap424
 have hr352 := og_grew hr352 hg459 hap425
 have hb448 := blk_grew hb448 hg459 hap447
 clear ho418
 refine gS (Yk.lenRB pk8_ty24 (RB.of (RB.ofOwn ho458) rfl) (gS (Yk.eqI (a := ((C ++ Sha.sum (C) : List UInt8).length : Nat)) (b := (1048576 : Nat)) rfl rfl (k_gtr _ _ _ _) (kF (by simp only [List.length_append, Sha.sum_length]; omega) (gS (Yk.eqI (a := (s.total : Nat)) (b := (4194304 : Nat)) T8 rfl (k_gtr _ _ _ _) (kF (by omega) (gS (Yk.pickF rfl rfl (cF rfl (rt2 rfl (vr v456 rfl) (vr (NI 0) rfl) ?_)))))))))))
 rw [buildP_ok (show bgo ps ps.length = .ok s from by rw [← hie]; exact hs)]
 refine ⟨_, rfl, ?_, hE⟩
 have hfin := ownsRow_base ho458 (show w.heap.size ≤ w.heap.size by first | exact Nat.le_refl _ | omega)
 rw [hCd] at hfin
 exact hfin

theorem build_any (w : World) (hG : Laid w) (v : Value) (ps : List Pt) (hr : RG 2 partC w v ps) (hps : PartsOk w ps) (hL : LightP ps) :
  Calls Tryd.prog 11 #[v] w fun e w' => ∃ v', e = .returned (.tuple #[v', NI (buildP ps).2]) ∧ RB w' v' (buildP ps).1 ∧ Ext w w' :=
 (build_own w hG v ps hr hps hL).mono fun _ _ ⟨v', h1, h2, h3⟩ => ⟨v', h1, RB.ofOwn h2, h3⟩
open Go.RowKit
def textP (b : Bs) (a fin : Nat) : Option (Bs × Nat) :=
  match lebDec 0 ((b.take fin).drop a) with
  | none => none
  | some x => if 1048576 < x.1 then none else if (b.take fin).length < a + x.2 + x.1 then none else some (((b.take fin).drop (a + x.2)).take x.1, a + x.2 + x.1)
structure Ent where
  pos : Nat
  based : Bool
  base : Bs
  bytes : Bs
abbrev EntV := Ent × Value
def dEnt : EntV := (⟨0, false, List.replicate 32 0, []⟩, .slice none 0 0)
def entC (x : EntV) : List Value := NI x.1.pos :: .bool x.1.based :: (Lib.byteCells x.1.base ++ [x.2])
def EntsOk (w : World) (xs : List EntV) : Prop := ∀ x ∈ xs, RB w x.2 x.1.bytes ∧ x.1.base.length = 32
theorem EntsOk.keep {w w' : World} {xs : List EntV} (h : EntsOk w xs) (k : Ext w w') : EntsOk w' xs := fun x hx => ⟨(h x hx).1.keep k, (h x hx).2⟩
def NewV (n : Nat) (v : Value) : Prop := ∀ k, v.ownBlock = some k → n ≤ k
theorem NewV.nil (n : Nat) : NewV n (.slice none 0 0) := fun k h => by cases h
def NewM {α : Type} (n : Nat) (M : Bs → Option (α × Value)) : Prop := ∀ id x, M id = some x → NewV n x.2
theorem NewM.none {α : Type} (n : Nat) : NewM (α := α) n (fun _ => .none) := fun _ _ h => by cases h
theorem NewM.put {α : Type} {n : Nat} {M : Bs → Option (α × Value)} (h : NewM n M) (id : Bs) {x : α × Value} (hx : NewV n x.2) : NewM n (updM M id (some x)) := fun a c hc => by
  unfold updM at hc
  split at hc
  · cases hc; exact hx
  · exact h a c hc
theorem NewM.get {n : Nat} {M : Bs → Option EntV} (h : NewM n M) (k : Bs) : NewV n ((M k).getD dEnt).2 := by
  cases e : M k with
  | none => exact NewV.nil n
  | some c => exact h k c e
theorem all_snoc {α : Type} {l : List α} {y : α} {P : α → Prop} (h : ∀ x ∈ l, P x) (hy : P y) : ∀ x ∈ l ++ [y], P x := fun x hx => by
  rcases List.mem_append.1 hx with hx | hx
  · exact h x hx
  · rw [List.mem_singleton.1 hx]; exact hy
theorem entC_len {x : EntV} (h : x.1.base.length = 32) : (entC x).length = 35 := by simp [entC, Lib.byteCells, h]
theorem entC_v {x : EntV} (h : x.1.base.length = 32) : (entC x)[34]? = some x.2 := by
  unfold entC
  rw [List.getElem?_cons_succ, List.getElem?_cons_succ, List.getElem?_append_right (by rw [Lib.byteCells_length, h]; omega), Lib.byteCells_length, h]
  rfl
theorem entC_range {w : World} {g : Nat} {x : EntV} {t : TypeId} {fr : Nat × Nat} (hb : w.heap[g]? = some (.cells (entC x).toArray t fr)) : w.rangeAt g 2 (Lib.byteCells x.1.base) := fun j u hu => by
  refine cellAt hb ?_
  unfold entC
  rw [show 2 + j = j + 1 + 1 by omega, List.getElem?_cons_succ, List.getElem?_cons_succ, List.getElem?_append_left (List.getElem?_eq_some_iff.1 hu).1]
  exact hu
theorem entC_one {x : EntV} (h : x.2.oneCell' = true) : ∀ u ∈ entC x, u.oneCell' = true := by
  intro u hu
  simp only [entC, List.mem_cons, List.mem_append, List.not_mem_nil, or_false] at hu
  rcases hu with rfl | rfl | hu | rfl
  · rfl
  · rfl
  · exact byteCells_one _ u hu
  · exact h
def entOne (b : Bs) (fin pos : Nat) : Option (Ent × Nat) :=
  if pos < fin ∧ (b.getD pos 0).toNat ≤ 1 then
    if b.getD pos 0 = 1 then
      if fin - (pos + 1) < 32 then none
      else (textP b (pos + 33) fin).map fun x => (⟨pos, true, ((b.take fin).drop (pos + 1)).take 32, x.1⟩, x.2)
    else (textP b (pos + 1) fin).map fun x => (⟨pos, false, List.replicate 32 0, x.1⟩, x.2)
  else none
def entGo (b : Bs) (fin first : Nat) : Nat → Option (List Ent × Nat)
  | 0 => some ([], first)
  | i + 1 => (entGo b fin first i).bind fun x => (entOne b fin x.2).map fun y => (x.1 ++ [y.1], y.2)
theorem entGo_none {b : Bs} {fin first i : Nat} (h : entGo b fin first i = none) : ∀ k, entGo b fin first (i + k) = none
  | 0 => h
  | k + 1 => by
    show (entGo b fin first (i + k)).bind _ = none
    rw [entGo_none h k]
    rfl
theorem entGo_step {b : Bs} {fin first i : Nat} {es : List Ent} {p : Nat} (h : entGo b fin first i = some (es, p)) : entGo b fin first (i + 1) = (entOne b fin p).map fun y => (es ++ [y.1], y.2) := by
  show (entGo b fin first i).bind _ = _
  rw [h]
  rfl
def entriesP (b : Bs) (n first fin : Nat) : Option (List Ent) := (entGo b fin first n).bind fun x => if x.2 = fin then some x.1 else none
theorem textP_le {b : Bs} {a fin : Nat} {s : Bs} {n : Nat} (h : textP b a fin = some (s, n)) (ha : a ≤ fin) (hf : fin ≤ b.length) : n ≤ fin ∧ a ≤ n := by
  unfold textP at h
  split at h
  · cases h
  · split at h
    · cases h
    · split at h
      · cases h
      · rename_i h1
        cases h
        rw [List.length_take] at h1
        omega
open Go.RowKit
set_option maxRecDepth 100000
theorem pk10_ty24 : Tryd.prog.underlying 24 = some (.slice 5) := by kernel_rfl
theorem pk10_sz5 : ∀ w' : World, (sizeOf 5).run Tryd.prog w' = .ok 1 w' := fun _ => by kernel_rfl
theorem pk10_pl87 : Plain Tryd.prog 87 := fun _ _ => by kernel_rfl
theorem pk10_pl64 : Plain Tryd.prog 64 := fun _ _ => by kernel_rfl
theorem text_any (w : World) (v : Value) (b : Bs) (hr : RB w v b) (a fin : Nat) (ha : a ≤ fin) (hf : fin ≤ b.length) :
  Calls Tryd.prog 76 #[v, NI a, NI fin] w fun r w' => (∃ x, r = .returned x ∧ ∃ s n, textP b a fin = some (s, n) ∧ x = .tuple #[St s, NI n] ∧ Ext w w') ∨ ∃ ch, r = .panicked ch ∧ textP b a fin = none ∧ ch = [stopE 6] ∧ Ext w w' := by
 refine gG (args := [v, NI a, NI fin]) Tryd.func76 rfl 25 rfl rfl ?_
 have hE := Ext.refl w
 have htk : (b.take fin).length = fin := by rw [List.length_take]; omega
 rcases hd : lebDec 0 ((b.take fin).drop a) with _ | ⟨xn, xk⟩
 ·have hP : textP b a fin = none := by unfold textP; rw [hd]
  refine gS (Yk.sliceHi (xs := b) (n := fin) pk10_ty24 pk10_sz5 rfl (hr.keep hE) rfl (by omega) fun v3 hr4 ha5 => (gS (Yk.callA3 pk10_pl87 rfl rfl rfl ?_)))
  refine ((show Calls _ _ _ _ (fun e w2 => e = .returned (.tuple #[St (([] : List UInt8)), NI 0, NI 6]) ∧ Ext _ w2) from (getText_in _ v3 (b.take (fin)) hr4 a (by omega) 1048576).mono fun e w2 ⟨h1, h2⟩ => by subst h2; subst h1; refine ⟨?_, Ext.refl _⟩; unfold getTextRes; rw [hd]; simp only; rfl)).mono ?_
  rintro e w7 ⟨rfl, hx6⟩
  refine ⟨_, rfl, ?_⟩
  refine gS (Yk.extract (vs := [St (([] : List UInt8)), NI 0, NI 6]) rfl rfl (gS (Yk.extract (vs := [St (([] : List UInt8)), NI 0, NI 6]) rfl rfl (gS (Yk.extract (vs := [St (([] : List UInt8)), NI 0, NI 6]) rfl rfl (gS (Yk.eqI (a := (6 : Nat)) (b := (0 : Nat)) rfl rfl (k_eql _ _ _ _) (gP (Yp.callA2 pk10_pl64 rfl rfl ?_)))))))))
  refine calls_either (need_any _ (decide ((6 : Nat) = (0))) 6) ?_ ?_
  rotate_left
  ·rintro ch w11 ⟨rfl, hb, hx⟩
   refine postP_panic ?_
   have hno := of_decide_eq_false hb
   have hE := hE.trans hx6
   exact .inr ⟨_, rfl, hP, rfl, hE.trans hx⟩
  rintro v_ w13 ⟨rfl, hb9, hx10⟩
  have hn14 := of_decide_eq_true hb9
  refine rt2 rfl (vr (St (([] : List UInt8))) rfl) (vr (NI 0) rfl) ?_
  omega
 by_cases hm : 1048576 < xn
 ·have hP : textP b a fin = none := by unfold textP; rw [hd]; simp only; rw [if_pos hm]
  refine gS (Yk.sliceHi (xs := b) (n := fin) pk10_ty24 pk10_sz5 rfl (hr.keep hE) rfl (by omega) fun v17 hr18 ha19 => (gS (Yk.callA3 pk10_pl87 rfl rfl rfl ?_)))
  refine ((show Calls _ _ _ _ (fun e w2 => e = .returned (.tuple #[St (([] : List UInt8)), NI 0, NI 2]) ∧ Ext _ w2) from (getText_in _ v17 (b.take (fin)) hr18 a (by omega) 1048576).mono fun e w2 ⟨h1, h2⟩ => by subst h2; subst h1; refine ⟨?_, Ext.refl _⟩; unfold getTextRes; rw [hd]; simp only; rw [if_pos (by omega)]; rfl)).mono ?_
  rintro e w21 ⟨rfl, hx20⟩
  refine ⟨_, rfl, ?_⟩
  refine gS (Yk.extract (vs := [St (([] : List UInt8)), NI 0, NI 2]) rfl rfl (gS (Yk.extract (vs := [St (([] : List UInt8)), NI 0, NI 2]) rfl rfl (gS (Yk.extract (vs := [St (([] : List UInt8)), NI 0, NI 2]) rfl rfl (gS (Yk.eqI (a := (2 : Nat)) (b := (0 : Nat)) rfl rfl (k_eql _ _ _ _) (gP (Yp.callA2 pk10_pl64 rfl rfl ?_)))))))))
  refine calls_either (need_any _ (decide ((2 : Nat) = (0))) 6) ?_ ?_
  rotate_left
  ·rintro ch w25 ⟨rfl, hb, hx⟩
   refine postP_panic ?_
   have hno := of_decide_eq_false hb
   have hE := hE.trans hx20
   exact .inr ⟨_, rfl, hP, rfl, hE.trans hx⟩
  rintro v_ w27 ⟨rfl, hb23, hx24⟩
  have hn28 := of_decide_eq_true hb23
  refine rt2 rfl (vr (St (([] : List UInt8))) rfl) (vr (NI 0) rfl) ?_
  omega
 by_cases hl : (b.take fin).length < a + xk + xn
 ·have hP : textP b a fin = none := by unfold textP; rw [hd]; simp only; rw [if_neg hm, if_pos hl]
  refine gS (Yk.sliceHi (xs := b) (n := fin) pk10_ty24 pk10_sz5 rfl (hr.keep hE) rfl (by omega) fun v31 hr32 ha33 => (gS (Yk.callA3 pk10_pl87 rfl rfl rfl ?_)))
  refine ((show Calls _ _ _ _ (fun e w2 => e = .returned (.tuple #[St (([] : List UInt8)), NI 0, NI 6]) ∧ Ext _ w2) from (getText_in _ v31 (b.take (fin)) hr32 a (by omega) 1048576).mono fun e w2 ⟨h1, h2⟩ => by subst h2; subst h1; refine ⟨?_, Ext.refl _⟩; unfold getTextRes; rw [hd]; simp only; rw [if_neg (by omega), if_pos hl]; rfl)).mono ?_
  rintro e w35 ⟨rfl, hx34⟩
  refine ⟨_, rfl, ?_⟩
  refine gS (Yk.extract (vs := [St (([] : List UInt8)), NI 0, NI 6]) rfl rfl (gS (Yk.extract (vs := [St (([] : List UInt8)), NI 0, NI 6]) rfl rfl (gS (Yk.extract (vs := [St (([] : List UInt8)), NI 0, NI 6]) rfl rfl (gS (Yk.eqI (a := (6 : Nat)) (b := (0 : Nat)) rfl rfl (k_eql _ _ _ _) (gP (Yp.callA2 pk10_pl64 rfl rfl ?_)))))))))
  refine calls_either (need_any _ (decide ((6 : Nat) = (0))) 6) ?_ ?_
  rotate_left
  ·rintro ch w39 ⟨rfl, hb, hx⟩
   refine postP_panic ?_
   have hno := of_decide_eq_false hb
   have hE := hE.trans hx34
   exact .inr ⟨_, rfl, hP, rfl, hE.trans hx⟩
  rintro v_ w41 ⟨rfl, hb37, hx38⟩
  have hn42 := of_decide_eq_true hb37
  refine rt2 rfl (vr (St (([] : List UInt8))) rfl) (vr (NI 0) rfl) ?_
  omega
 have hP : textP b a fin = some (((b.take fin).drop (a + xk)).take xn, a + xk + xn) := by unfold textP; rw [hd]; simp only; rw [if_neg hm, if_neg hl]
 refine gS (Yk.sliceHi (xs := b) (n := fin) pk10_ty24 pk10_sz5 rfl (hr.keep hE) rfl (by omega) fun v45 hr46 ha47 => (gS (Yk.callA3 pk10_pl87 rfl rfl rfl ?_)))
 refine ((show Calls _ _ _ _ (fun e w2 => e = .returned (.tuple #[St (((b.take fin).drop (a + xk)).take xn), NI (a + xk + xn), NI 0]) ∧ Ext _ w2) from (getText_in _ v45 (b.take (fin)) hr46 a (by omega) 1048576).mono fun e w2 ⟨h1, h2⟩ => by subst h2; subst h1; refine ⟨?_, Ext.refl _⟩; unfold getTextRes; rw [hd]; simp only; rw [if_neg (by omega), if_neg hl]; rfl)).mono ?_
 rintro e w49 ⟨rfl, hx48⟩
 refine ⟨_, rfl, ?_⟩
 refine gS (Yk.extract (vs := [St (((b.take fin).drop (a + xk)).take xn), NI (a + xk + xn), NI 0]) rfl rfl (gS (Yk.extract (vs := [St (((b.take fin).drop (a + xk)).take xn), NI (a + xk + xn), NI 0]) rfl rfl (gS (Yk.extract (vs := [St (((b.take fin).drop (a + xk)).take xn), NI (a + xk + xn), NI 0]) rfl rfl (gS (Yk.eqI (a := (0 : Nat)) (b := (0 : Nat)) rfl rfl (k_eql _ _ _ _) (gP (Yp.callA2 pk10_pl64 rfl rfl ?_)))))))))
 refine calls_either (need_any _ (decide ((0 : Nat) = (0))) 6) ?_ ?_
 rotate_left
 ·rintro ch w53 ⟨rfl, hb, hx⟩
  refine postP_panic ?_
  have hno := of_decide_eq_false hb
  exact absurd rfl hno
 rintro v_ w55 ⟨rfl, hb51, hx52⟩
 have hn56 := of_decide_eq_true hb51
 refine rt2 rfl (vr (St (((b.take fin).drop (a + xk)).take xn)) rfl) (vr (NI (a + xk + xn)) rfl) ?_
 have hZ1 := hx48.trans hx52
 have hE := hE.trans hZ1
 exact .inl ⟨_, rfl, _, _, hP, rfl, hE⟩
open Go.RowKit
def EntsIn (w : World) (va : Value) (xs : List EntV) : Prop := ∀ x ∈ xs, RB w x.2 x.1.bytes ∧ x.1.base.length = 32 ∧ ∀ k, x.2.ownBlock = some k → k < w.heap.size ∧ va.ownBlock ≠ some k
theorem EntsIn.keep {w w' : World} {va : Value} {xs : List EntV} (h : EntsIn w va xs) (k : Ext w w') : EntsIn w' va xs := fun x hx =>
  ⟨(h x hx).1.keep k, (h x hx).2.1, fun j hj => ⟨Nat.lt_of_lt_of_le ((h x hx).2.2 j hj).1 k.size, ((h x hx).2.2 j hj).2⟩⟩
theorem EntsIn.nil (w : World) (va : Value) : EntsIn w va [] := fun x hx => by cases hx
theorem EntsIn.snoc {w : World} {va : Value} {xs : List EntV} (h : EntsIn w va xs) {x : EntV} (h1 : RB w x.2 x.1.bytes) (h2 : x.1.base.length = 32) (h3 : ∀ k, x.2.ownBlock = some k → k < w.heap.size ∧ va.ownBlock ≠ some k) : EntsIn w va (xs ++ [x]) := fun y hy => by
  rcases List.mem_append.1 hy with hy | hy
  · exact h y hy
  · rw [List.mem_singleton.1 hy]; exact ⟨h1, h2, h3⟩
theorem rb_grewX {w w' : World} {v v' x : Value} {m : List UInt8} (h : RB w x m) (hx : ∀ k, x.ownBlock = some k → v.ownBlock ≠ some k) (gr : Grew w w' v v') : RB w' x m := by
  refine h.kept gr.by_ ?_
  cases hv : x.ownBlock with
  | none => exact .inl rfl
  | some g => exact .inr (fun e => hx g hv (by rw [← e]))
theorem EntsIn.grew {w w' : World} {va va' : Value} {xs : List EntV} (h : EntsIn w va xs) (g : Grew w w' va va') : EntsIn w' va' xs := fun x hx =>
  ⟨rb_grewX (h x hx).1 (fun k hk => ((h x hx).2.2 k hk).2) g, (h x hx).2.1, fun j hj => ⟨Nat.lt_of_lt_of_le ((h x hx).2.2 j hj).1 g.by_.size, fun e => (g.fresh j e).elim (fun q => ((h x hx).2.2 j hj).2 q) (fun q => by have := ((h x hx).2.2 j hj).1; omega)⟩⟩
theorem EntsIn.ok {w : World} {va : Value} {xs : List EntV} (h : EntsIn w va xs) : EntsOk w xs := fun x hx => ⟨(h x hx).1, (h x hx).2.1⟩
section
variable {P : Program} {K : Value → World → Prop} {ρ : Slots} {w : World} {d : Option Tmp} {ty : TypeId} {pos : String} {af : Array Edge} {gd : Option (Nat × Bool)}
theorem Yk.convStr {t e s : TypeId} {u : TypeDesc} (hs : P.underlying s = some u) (ht : P.underlying t = some (.slice e)) (he : P.underlying e = some (.int .u8)) {x : Operand} {l : List UInt8} (hx : evalR ρ x = St l) (hl : l.length ≤ 9223372036854775807)
    (hk : ∀ v w', RB w' v l → Ext w w' → (∀ k, v.ownBlock = some k → w.heap.size ≤ k ∧ k < w'.heap.size) → K v w') : Yk P K ((execOp (evalR ρ) ⟨d, .convert s t x, ty, pos, af, gd⟩).run P w) := by
  have hr := Lib.run_convert_string_bytes (P := P) w s t e ⟨l.toArray⟩ hs ht he
  have hsz : (⟨l.toArray⟩ : ByteArray).size = l.length := by simp [ByteArray.size]
  rw [hsz] at hr
  refine Yk.value (v := .slice (some ⟨w.heap.size, 0, none⟩) l.length (grownCap w l.length 0 e)) (w' := Lib.bytesWorld w e ⟨l.toArray⟩) ?_ (hk _ _ ?_ (Lib.bytesWorld_below w e _) ?_)
  · unfold execOp
    simp only [hx, hr, Sem.run_bind, Sem.run_pure, Result.andThen_ok]
  · refine ⟨by rw [Lib.byteCells_length, Nat.mul_one], _, _, rfl, grownCap_ge w _ _ _, grownCap_le_maxLen w _ _ _ (by simpa [maxLen] using hl), (fun h => by cases h), fun a ha j u hu => ?_⟩
    cases ha
    have hj : j < l.length := by have := (List.getElem?_eq_some_iff.1 hu).1; rwa [Lib.byteCells_length] at this
    have hc := Lib.bytesWorld_cell w e ⟨l.toArray⟩ j (by rw [hsz]; exact hj)
    rw [show (⟨w.heap.size, 0, none⟩ : Addr).add j = ⟨w.heap.size, j, none⟩ by simp [Addr.add]; exact fun h => h.symm]
    rw [hc, ← hu, byte_at hj]
  · intro k hk
    cases hk
    rw [Lib.bytesWorld_size]
    exact ⟨Nat.le_refl _, Nat.lt_succ_self _⟩
theorem entC_mid (p : Nat) (q : Bool) (B s : Bs) (v : Value) : entC (⟨p, q, B, s⟩, v) = [NI p, .bool q] ++ Lib.byteCells B ++ [v] := rfl
theorem Yk.entBase {t' : TypeId} {x y : Operand} {g p : Nat} {q : Bool} {B B' s : Bs} {v : Value} {t : TypeId} (hx : evalR ρ x = .pointer (some ⟨g, 2, none⟩)) (hy : evalR ρ y = .agg (Lib.byteCells B').toArray) (hg : w.heap[g]? = some (.cells (entC (⟨p, q, B, s⟩, v)).toArray t (0, 0))) (hB : B.length = 32) (hB' : B'.length = 32) (hi : (P.info? t').map (·.size) = some 32)
    (hk : ∀ w', w'.heap[g]? = some (.cells (entC (⟨p, q, B', s⟩, v)).toArray t (0, 0)) → w.grownBy w' (some g) → w'.heap.size = w.heap.size → K undef w') : Yk P K ((execOp (evalR ρ) ⟨d, .store t' x y, ty, pos, af, gd⟩).run P w) :=
  Yk.storeMid (a := [NI p, .bool q]) (m := Lib.byteCells B) (z := [v]) hx hy (by rw [← entC_mid]; exact hg) rfl (by rw [Lib.byteCells_length, Lib.byteCells_length, hB, hB']) (by rw [Lib.byteCells_length, hB']; exact hi) (byteCells_one _) hk
theorem entC_setV (p : Nat) (q : Bool) (B s : Bs) (v v' : Value) (hB : B.length = 32) : (entC (⟨p, q, B, s⟩, v)).set 34 v' = entC (⟨p, q, B, s⟩, v') := by
  rw [entC_mid, entC_mid, List.set_append_right _ _ (by simp [Lib.byteCells, hB])]
  congr 1
  simp [Lib.byteCells, hB]
theorem Yk.entVal {t' : TypeId} {x y : Operand} {g p : Nat} {q : Bool} {B s s' : Bs} {v v' : Value} {t : TypeId} (hx : evalR ρ x = .pointer (some ⟨g, 34, none⟩)) (hy : evalR ρ y = v') (hg : w.heap[g]? = some (.cells (entC (⟨p, q, B, s⟩, v)).toArray t (0, 0))) (hB : B.length = 32) (hi : (P.info? t').map (·.size) = some 1) (hr : RB w v' s')
    (hk : ∀ w', w'.heap[g]? = some (.cells (entC (⟨p, q, B, s'⟩, v')).toArray t (0, 0)) → w.grownBy w' (some g) → w'.heap.size = w.heap.size → K undef w') : Yk P K ((execOp (evalR ρ) ⟨d, .store t' x y, ty, pos, af, gd⟩).run P w) :=
  Yk.storeC (i := 34) hx hy hg (by rw [entC_len (x := (⟨p, q, B, s⟩, v)) hB]; decide) hi hr.one.1 hr.one.2 fun w' h1 h2 h3 => hk w' (by rw [entC_setV p q B s v v' hB] at h1; exact h1) h2 h3
end
theorem entC_isz {P : Program} {t : TypeId} {x : EntV} (hi : (P.info? t).map (·.size) = some 35) (h : x.1.base.length = 32) : (P.info? t).map (·.size) = some (entC x).toArray.size := by rw [List.size_toArray, entC_len h]; exact hi
theorem entC_size {x y : EntV} (h : x.1.base.length = 32) (h' : y.1.base.length = 32) : (entC x).toArray.size = (entC y).toArray.size := by rw [List.size_toArray, List.size_toArray, entC_len h, entC_len h']
theorem entOne_in {b : Bs} {fin pos : Nat} (h : pos < fin ∧ (b.getD pos 0).toNat ≤ 1) : entOne b fin pos =
    if b.getD pos 0 = 1 then
      if fin - (pos + 1) < 32 then none
      else (textP b (pos + 33) fin).map fun x => (⟨pos, true, ((b.take fin).drop (pos + 1)).take 32, x.1⟩, x.2)
    else (textP b (pos + 1) fin).map fun x => (⟨pos, false, List.replicate 32 0, x.1⟩, x.2) := if_pos h
theorem textP_len {b : Bs} {a fin : Nat} {s : Bs} {n : Nat} (h : textP b a fin = some (s, n)) (hf : fin ≤ b.length) : s.length ≤ b.length := by
  unfold textP at h
  split at h
  · cases h
  · split at h
    · cases h
    · split at h
      · cases h
      · cases h
        rw [List.length_take, List.length_drop, List.length_take]
        omega
theorem entOne_pos {b : Bs} {fin pos : Nat} {e : Ent} {n : Nat} (h : entOne b fin pos = some (e, n)) (hf : fin ≤ b.length) : n ≤ fin ∧ pos < n := by
  unfold entOne at h
  split at h
  · rename_i hc
    split at h
    · split at h
      · cases h
      · cases ht : textP b (pos + 33) fin with
        | none => rw [ht] at h; cases h
        | some x => rw [ht] at h; cases h; have := textP_le ht (by omega) hf; omega
    · cases ht : textP b (pos + 1) fin with
      | none => rw [ht] at h; cases h
      | some x => rw [ht] at h; cases h; have := textP_le ht (by omega) hf; omega
  · cases h
end Go.Proofs.YtcegdjpdnlaleaaDoor
