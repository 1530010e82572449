/- sha.Hash in memory; laws on rows of any values: a cell stored under a name, a field's address, an array sliced. -/
import Derived.Test.YtcindgknimallaaDoorSha3
import Derived.Test.YtcindgknimallaaDoorShaBlocks
namespace Go.Proofs.YtcindgknimallaaDoor
open Go.RowKit
section
variable {P : Program}
theorem wpList_store1' {ops : Array Oper} {rest : List Oper} {o : Oper} {a : Act} {w : World} {Q : Exit → Act → World → Prop} (hgd : o.guard = none) (ty : TypeId) (x y : Operand) (ho : o.op = .store ty x y)
    (g i : Nat) (hx : a.eval x = .pointer (some ⟨g, i, none⟩)) (v : Value) (hy : a.eval y = v) (cs : List Value) (t : TypeId) (hg : w.heap[g]? = some (.cells cs.toArray t (0, 0))) (hi : i < cs.length) (hinfo : (P.info? ty).map (·.size) = some 1) (hv : v.cells = #[v]) (h1 : v.oneCell' = true)
    (h : ∀ w', w'.heap[g]? = some (.cells (cs.set i v).toArray t (0, 0)) → w.grownBy w' (some g) → w'.heap.size = w.heap.size → wpList P ops Q rest (a.put o.dst undef) w') : wpList P ops Q (o :: rest) a w :=
  wpList_plain hgd fun K hK => by
    have hr := run_store1 (P := P) w g i ty cs t v hg hi hinfo hv h1
    unfold Oper.wp execOp
    simp only [ho, hx, hy, hr, Sem.run_bind, Sem.run_pure, Result.andThen_ok]
    exact hK _ _ (h _ (setRow_heap w g cs.toArray _ t (0, 0) hg) ⟨rfl, rfl, rfl, by simp, fun k _ hk => setRow_other w g k _ (fun e => hk (by rw [e]))⟩ (by simp))
theorem YieldsK.store1 {K : Value → World → Prop} {ty : TypeId} {x y : Operand} {d : Option Tmp} {tt : TypeId} {pos : String} {af : Array Edge} {gd : Option (Nat × Bool)} {ρ : Tmp → Value} {w : World} {g i : Nat} {cs : List Value} {t : TypeId} {v : Value}
    (hx : evalR ρ x = .pointer (some ⟨g, i, none⟩)) (hy : evalR ρ y = v) (hg : w.heap[g]? = some (.cells cs.toArray t (0, 0))) (hi : i < cs.length) (hinfo : (P.info? ty).map (·.size) = some 1) (hv : v.cells = #[v]) (h1 : v.oneCell' = true)
    (hk : K undef (w.setRow g (cs.set i v).toArray)) : YieldsK P K ((execOp (evalR ρ) ⟨d, .store ty x y, tt, pos, af, gd⟩).run P w) := by
  have hr := run_store1 (P := P) w g i ty cs t v hg hi hinfo hv h1
  unfold execOp
  simp only [hx, hy, hr, Sem.run_bind, Result.andThen_ok, Sem.run_pure]
  exact hk
/-- arr[i:], arr[:] of an array by its address. -/
theorem YieldsK.sliceArrL {K : Value → World → Prop} {ρ : Tmp → Value} {t e : TypeId} {n : Nat} (ht : P.underlying t = some (.array n e)) (he : ∀ w' : World, (sizeOf e).run P w' = .ok 1 w') {x lo : Operand} {d : Option Tmp} {ty : TypeId} {pos : String} {af : Array Edge} {gd : Option (Nat × Bool)} {w : World} {b o i : Nat} {k : IntKind}
    (hx : evalR ρ x = .pointer (some ⟨b, o, none⟩)) (hl : evalR ρ lo = .int k (i : Int)) (hi : i < n) (hk : K (.slice (some ⟨b, o + i, none⟩) (n - i) (n - i)) w) : YieldsK P K ((execOp (evalR ρ) ⟨d, .slice t x (some lo) none none, ty, pos, af, gd⟩).run P w) := by
  refine YieldsK.value (v := .slice (some ⟨b, o + i, none⟩) (n - i) (n - i)) (w' := w) ?_ hk
  have hE : P.elem t = e := by simp [Program.elem, ht]
  have hN : P.arrayLen t = n := by simp [Program.arrayLen, ht]
  have hr := run_sliceAt_array_l (P := P) (w := w) (t := t) (a := ⟨b, o, none⟩) (by rw [hE, hN]; exact ht) k (i : Int) (by omega) (by rw [hN]; omega)
  rw [hE, he, hN] at hr
  unfold execOp
  simp only [hx, hl, Option.map_some, Option.map_none, Sem.run_bind, hr, Result.andThen_ok, Sem.run_pure]
  have : n ≠ i := by omega
  simp [slicedAt, this, Addr.add_lit]
theorem YieldsK.sliceArr {K : Value → World → Prop} {ρ : Tmp → Value} {t e : TypeId} {n : Nat} (ht : P.underlying t = some (.array n e)) (he : ∀ w' : World, (sizeOf e).run P w' = .ok 1 w') {x : Operand} {d : Option Tmp} {ty : TypeId} {pos : String} {af : Array Edge} {gd : Option (Nat × Bool)} {w : World} {b o : Nat}
    (hx : evalR ρ x = .pointer (some ⟨b, o, none⟩)) (hk : K (.slice (some ⟨b, o, none⟩) n n) w) : YieldsK P K ((execOp (evalR ρ) ⟨d, .slice t x none none none, ty, pos, af, gd⟩).run P w) := by
  refine YieldsK.value (v := .slice (some ⟨b, o, none⟩) n n) (w' := w) ?_ hk
  have hE : P.elem t = e := by simp [Program.elem, ht]
  have hN : P.arrayLen t = n := by simp [Program.arrayLen, ht]
  have hr := run_sliceAt_array_all (P := P) (w := w) (t := t) (a := ⟨b, o, none⟩) (by rw [hE, hN]; exact ht)
  rw [hE, he, hN] at hr
  unfold execOp
  simp only [hx, Option.map_none, Sem.run_bind, hr, Result.andThen_ok, Sem.run_pure]
  simp [slicedAt, Addr.add_lit]
theorem cell_at {w : World} {b : Nat} {l : List Value} {t : TypeId} {fr : Nat × Nat} (h : w.heap[b]? = some (.cells l.toArray t fr)) {i : Nat} {v : Value} (hi : l[i]? = some v) : w.cell? ⟨b, i, none⟩ = some v := by
  simp [World.cell?, h, hi]
end
/-- The cells of a Hash: the state, the rest, the fill, the size. -/
def hashL (s : List UInt32) (r : List UInt8) (f n : Nat) : List Value := (s.map fun x => U x) ++ (Lib.byteCells r ++ [NI f, NI n])
theorem hashL_length {s : List UInt32} {r : List UInt8} {f n : Nat} (hs : s.length = 8) (hr : r.length = 64) : (hashL s r f n).length = 74 := by
  simp [hashL, Lib.byteCells, hs, hr]
theorem hashL_fill {s : List UInt32} {r : List UInt8} {f n : Nat} (hs : s.length = 8) (hr : r.length = 64) : (hashL s r f n)[72]? = some (NI f) := by
  unfold hashL
  rw [List.getElem?_append_right (by simp [hs]), List.getElem?_append_right (by simp [Lib.byteCells, hs, hr])]
  simp [Lib.byteCells, hs, hr]
theorem hashL_size {s : List UInt32} {r : List UInt8} {f n : Nat} (hs : s.length = 8) (hr : r.length = 64) : (hashL s r f n)[73]? = some (NI n) := by
  unfold hashL
  rw [List.getElem?_append_right (by simp [hs]), List.getElem?_append_right (by simp [Lib.byteCells, hs, hr])]
  simp [Lib.byteCells, hs, hr]
theorem hashL_setFill {s : List UInt32} {r : List UInt8} {f n g : Nat} (hs : s.length = 8) (hr : r.length = 64) : (hashL s r f n).set 72 (NI g) = hashL s r g n := by
  unfold hashL
  rw [List.set_append_right _ _ (by simp [hs]), List.set_append_right _ _ (by simp [Lib.byteCells, hs, hr])]
  simp [Lib.byteCells, hs, hr]
theorem hashL_setSize {s : List UInt32} {r : List UInt8} {f n g : Nat} (hs : s.length = 8) (hr : r.length = 64) : (hashL s r f n).set 73 (NI g) = hashL s r f g := by
  unfold hashL
  rw [List.set_append_right _ _ (by simp [hs]), List.set_append_right _ _ (by simp [Lib.byteCells, hs, hr])]
  simp [Lib.byteCells, hs, hr]
/-- The rest, from 'at' on written over. -/
theorem hashL_rest {s : List UInt32} {r x : List UInt8} {f n at_ : Nat} (hs : s.length = 8) (hr : r.length = 64) (hx : at_ + x.length ≤ 64) :
    (hashL s r f n).take (8 + at_) ++ Lib.byteCells x ++ (hashL s r f n).drop (8 + at_ + x.length) = hashL s (r.take at_ ++ x ++ r.drop (at_ + x.length)) f n := by
  unfold hashL
  have h8 : (s.map fun x => U x).length = 8 := by simp [hs]
  have hb : (Lib.byteCells r).length = 64 := by simp [Lib.byteCells, hr]
  rw [List.take_append, List.drop_append, h8, List.take_of_length_le (by omega), List.drop_of_length_le (l := s.map fun x => U x) (by omega)]
  rw [show 8 + at_ - 8 = at_ by omega, show 8 + at_ + x.length - 8 = at_ + x.length by omega, List.nil_append]
  rw [List.take_append_of_le_length (by omega), List.drop_append_of_le_length (by omega)]
  simp [Lib.byteCells, List.map_take, List.map_drop]
theorem hashL_state {s s' : List UInt32} {r : List UInt8} {f n : Nat} (hs : s.length = 8) : (s'.map fun x => U x) ++ (hashL s r f n).drop 8 = hashL s' r f n := by
  unfold hashL
  rw [List.drop_left' (by simp [hs])]
theorem hashL_get {s : List UInt32} {r : List UInt8} {f n : Nat} {j : Nat} {v : Value} (h : (s.map fun x => U x)[j]? = some v) : (hashL s r f n)[j]? = some v := by
  unfold hashL
  rw [List.getElem?_append_left (List.getElem?_eq_some_iff.1 h).1]
  exact h
theorem range_state {w : World} {g : Nat} {s : List UInt32} {r : List UInt8} {f n : Nat} {t : TypeId} {fr : Nat × Nat} (h : w.heap[g]? = some (.cells (hashL s r f n).toArray t fr)) : w.rangeAt g 0 (s.map fun x => U x) := fun j v hv => by
  rw [Nat.zero_add]
  exact cell_at h (hashL_get hv)
theorem rb_rest {w : World} {g : Nat} {s : List UInt32} {r : List UInt8} {f n : Nat} {t : TypeId} {fr : Nat × Nat} (hs : s.length = 8) (hr : r.length = 64) (h : w.heap[g]? = some (.cells (hashL s r f n).toArray t fr)) : RB w (.slice (some ⟨g, 8, none⟩) 64 64) r := by
  refine ⟨by simp [Lib.byteCells], some ⟨g, 8, none⟩, 64, by rw [hr], by rw [hr]; exact Nat.le_refl _, by decide, fun e => by simp at e, fun a ha j v hv => ?_⟩
  cases ha
  rw [Addr.add_lit]
  refine cell_at h ?_
  unfold hashL
  have h8 : (s.map fun x => U x).length = 8 := by simp [hs]
  rw [List.getElem?_append_right (by omega), h8, show 8 + j - 8 = j by omega, List.getElem?_append_left (List.getElem?_eq_some_iff.1 hv).1]
  exact hv
theorem YieldsK.storeHead {P : Program} {K : Value → World → Prop} {ty : TypeId} {x y : Operand} {d : Option Tmp} {tt : TypeId} {pos : String} {af : Array Edge} {gd : Option (Nat × Bool)} {ρ : Tmp → Value} {w : World} {g : Nat} {cells : Array Value} {cur : List Value} {t : TypeId}
    (hx : evalR ρ x = .pointer (some ⟨g, 0, none⟩)) (hy : evalR ρ y = .agg cells) (hg : w.heap[g]? = some (.cells cur.toArray t (0, 0))) (hs : cells.size ≤ cur.length) (hi : (P.info? ty).map (·.size) = some cells.size) (h1 : ∀ v ∈ cells.toList, v.oneCell' = true)
    (hk : K undef (w.setRow g (cells.toList ++ cur.drop cells.size).toArray)) : YieldsK P K ((execOp (evalR ρ) ⟨d, .store ty x y, tt, pos, af, gd⟩).run P w) := by
  have hst := run_storeCells_at P g 0 t cells.toList 0 cur.toArray w hg (by simpa using hs) h1
  have e : (cur.toArray.toList.take (0 + 0) ++ cells.toList ++ cur.toArray.toList.drop (0 + 0 + cells.toList.length)).toArray = (cells.toList ++ cur.drop cells.size).toArray := by simp
  rw [e] at hst
  cases hq : P.info? ty with
  | none => simp [hq] at hi
  | some i =>
    have hsz : cells.size = i.size := by simp [hq] at hi; omega
    have hr : (Instr.storeAt ty (.pointer (some ⟨g, 0, none⟩)) (.agg cells)).run P w = .ok () (w.setRow g (cells.toList ++ cur.drop cells.size).toArray) := by
      simp [Instr.storeAt, Instr.sureAddr, storeVar, sizeOf, typeInfo, hq, Value.cells, hsz, hst]
    unfold execOp
    simp only [hx, hy, hr, Sem.run_bind, Result.andThen_ok, Sem.run_pure]
    exact hk
theorem Laid.kept {w w' : World} (h : Laid w) {g : Nat} (hg : w.grownBy w' (some g)) (h1 : 1 < g) : Laid w' :=
  ⟨by obtain ⟨t, fr, h2⟩ := h.first; exact ⟨t, fr, (hg.block 0 (Array.getElem?_eq_some_iff.1 h2).1 (by simp; omega)).trans h2⟩, by obtain ⟨t, fr, h2⟩ := h.words; exact ⟨t, fr, (hg.block 1 (Array.getElem?_eq_some_iff.1 h2).1 (by simp; omega)).trans h2⟩⟩
end Go.Proofs.YtcindgknimallaaDoor
