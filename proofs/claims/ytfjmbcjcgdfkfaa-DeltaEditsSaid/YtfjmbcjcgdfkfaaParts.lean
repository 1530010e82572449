/- Slices of slices of bytes; arrays of bytes held against each other. They hold of any program. -/
import Derived.Test.YtfjmbcjcgdfkfaaOps
import Derived.Test.YtfjmbcjcgdfkfaaIdEq
namespace Go.Proofs.Ytfjmbcjcgdfkfaa
open Go.RowKit
/-- A slice of slices of bytes. -/
def RBs (w : World) (v : Value) (ls : List (List UInt8)) : Prop := ∃ vs : List Value, vs.length = ls.length ∧ Reads w 1 v ls.length vs ∧ ∀ i, i < ls.length → RB w (vs.getD i undef) (ls.getD i [])
theorem Ext.cellX {w w' : World} (h : Ext w w') {a : Addr} {v : Value} (hc : w.cell? a = some v) : w'.cell? a = some v := by
  rw [Below.cell h (World.block_lt_of_cell? w a hc)]
  exact hc
theorem Reads.keep {w w' : World} {z n : Nat} {v : Value} {xs : List Value} (h : Reads w z v n xs) (k : Ext w w') : Reads w' z v n xs := by
  obtain ⟨h1, ao, cap, rfl, h2, h3, h4, h5⟩ := h
  exact ⟨h1, ao, cap, rfl, h2, h3, h4, fun a ha j u hu => Ext.cellX k (h5 a ha j u hu)⟩
theorem RBs.keep {w w' : World} {v : Value} {ls : List (List UInt8)} (h : RBs w v ls) (k : Ext w w') : RBs w' v ls := by
  obtain ⟨vs, h1, h2, h3⟩ := h
  exact ⟨vs, h1, h2.keep k, fun i hi => (h3 i hi).keep k⟩
theorem RBs.nil (w : World) : RBs w (.slice none 0 0) [] := ⟨[], rfl, ⟨rfl, none, 0, rfl, Nat.le_refl _, by simp [maxLen], fun _ => ⟨rfl, rfl⟩, fun a h => by cases h⟩, fun i hi => by simp at hi⟩
theorem RB.nil (w : World) : RB w (.slice none 0 0) [] := ⟨rfl, none, 0, rfl, Nat.le_refl _, by simp [maxLen], fun _ => ⟨rfl, rfl⟩, fun a h => by cases h⟩
theorem RB.nilAny {w w' : World} {v : Value} (h : RB w v []) : RB w' v [] := by
  obtain ⟨h1, ao, cap, rfl, h2, h3, h4, h5⟩ := h
  exact ⟨h1, ao, cap, rfl, h2, h3, h4, fun a ha j u hu => by simp [Lib.byteCells] at hu⟩
theorem RB.lt {w : World} {v : Value} {l : List UInt8} (h : RB w v l) (hl : 0 < l.length) {b : Nat} (hb : v.ownBlock = some b) : b < w.heap.size := by
  obtain ⟨b', off, cap, rfl, -, -, h1, -⟩ := h.open_ hl
  simp [Value.ownBlock] at hb
  omega
theorem RB.slice {w : World} {v : Value} {l : List UInt8} (h : RB w v l) : ∃ ao n c, v = .slice ao n c := by
  obtain ⟨h1, ao, cap, rfl, -⟩ := h
  exact ⟨ao, _, cap, rfl⟩
section
variable {P : Program} {K : Value → World → Prop} {ρ : Slots} {w : World} {d : Option Tmp} {ty : TypeId} {pos : String} {af : Array Edge} {gd : Option (Nat × Bool)}
theorem RBs.of {v x : Value} {l : List (List UInt8)} (h : RBs w v l) (e : x = v) : RBs w x l := by rw [e]; exact h
theorem reads_block {w : World} {b : Nat} {xs : List Value} {t : TypeId} {fr : Nat × Nat} (hb : w.heap[b]? = some (.cells xs.toArray t fr)) (hl : xs.length ≤ maxLen) : Reads w 1 (.slice (some ⟨b, 0, none⟩) xs.length xs.length) xs.length xs :=
  ⟨by simp, _, _, rfl, Nat.le_refl _, hl, fun h => by simp at h, fun a ha j u hu => by
    cases ha
    rw [Addr.add_lit, Nat.zero_add]
    exact cellAt hb hu⟩
theorem YieldsK.rows1 {t e : TypeId} (hr : ∀ (ao : Option Addr) (n c : Nat) (w : World), (Instr.buildSlice t 1 #[(0, .slice ao n c)]).run P w = .ok (.slice (some ⟨w.heap.size, 0, none⟩) 1 1) (w.alloc (.cells #[.slice ao n c] e))) {x : Operand} {l : List UInt8} (hx : RB w (evalR ρ x) l)
    (hk : ∀ v w', RBs w' v [l] → Ext w w' → K v w') : YieldsK P K ((execOp (evalR ρ) ⟨d, .buildSlice t 1 #[(0, x)], ty, pos, af, gd⟩).run P w) := by
  obtain ⟨ao, n, c, hv⟩ := hx.slice
  rw [hv] at hx
  have hr' : (execOp (evalR ρ) ⟨d, .buildSlice t 1 #[(0, x)], ty, pos, af, gd⟩).run P w = .ok (.value (.slice (some ⟨w.heap.size, 0, none⟩) 1 1)) (w.alloc (.cells #[.slice ao n c] e)) := by
    unfold execOp
    simp only [List.map_toArray, List.map_cons, List.map_nil, hv, Sem.run_bind, hr, Result.andThen_ok, Sem.run_pure]
  rw [hr']
  have hE : Ext w (w.alloc (.cells #[.slice ao n c] e)) := (Below.refl _ _).alloc (Nat.le_refl _) _
  refine hk _ _ ⟨[.slice ao n c], rfl, reads_block (xs := [.slice ao n c]) (heap_alloc_new w _) (by simp [maxLen]), fun i hi => ?_⟩ hE
  have : i = 0 := by simp at hi; omega
  subst this
  exact hx.keep hE
theorem YieldsK.rows2 {t e : TypeId} (hr : ∀ (ao : Option Addr) (n c : Nat) (ao' : Option Addr) (n' c' : Nat) (w : World), (Instr.buildSlice t 2 #[(0, .slice ao n c), (1, .slice ao' n' c')]).run P w = .ok (.slice (some ⟨w.heap.size, 0, none⟩) 2 2) (w.alloc (.cells #[.slice ao n c, .slice ao' n' c'] e))) {x y : Operand} {l m : List UInt8} (hx : RB w (evalR ρ x) l) (hy : RB w (evalR ρ y) m)
    (hk : ∀ v w', RBs w' v [l, m] → Ext w w' → K v w') : YieldsK P K ((execOp (evalR ρ) ⟨d, .buildSlice t 2 #[(0, x), (1, y)], ty, pos, af, gd⟩).run P w) := by
  obtain ⟨ao, n, c, hv⟩ := hx.slice
  obtain ⟨ao', n', c', hv'⟩ := hy.slice
  rw [hv] at hx
  rw [hv'] at hy
  have hr' : (execOp (evalR ρ) ⟨d, .buildSlice t 2 #[(0, x), (1, y)], ty, pos, af, gd⟩).run P w = .ok (.value (.slice (some ⟨w.heap.size, 0, none⟩) 2 2)) (w.alloc (.cells #[.slice ao n c, .slice ao' n' c'] e)) := by
    unfold execOp
    simp only [List.map_toArray, List.map_cons, List.map_nil, hv, hv', Sem.run_bind, hr, Result.andThen_ok, Sem.run_pure]
  rw [hr']
  have hE : Ext w (w.alloc (.cells #[.slice ao n c, .slice ao' n' c'] e)) := (Below.refl _ _).alloc (Nat.le_refl _) _
  refine hk _ _ ⟨[.slice ao n c, .slice ao' n' c'], rfl, reads_block (xs := [.slice ao n c, .slice ao' n' c']) (heap_alloc_new w _) (by simp [maxLen]), fun i hi => ?_⟩ hE
  have : i = 0 ∨ i = 1 := by simp at hi; omega
  rcases this with rfl | rfl
  · exact hx.keep hE
  · exact hy.keep hE
/-- The address of a slice of slices' element. -/
theorem YieldsK.atRBs {t e : TypeId} (ht : P.underlying t = some (.slice e)) (he : ∀ w' : World, (sizeOf e).run P w' = .ok 1 w') {x y : Operand} {ls : List (List UInt8)} (h : RBs w (evalR ρ x) ls) {k : IntKind} {i : Nat} (hy : evalR ρ y = .int k (i : Int)) (hi : i < ls.length)
    (hk : ∀ v u, PCell u v w → RB w u (ls.getD i []) → K v w) : YieldsK P K ((execOp (evalR ρ) ⟨d, .indexAddr t x y, ty, pos, af, gd⟩).run P w) := by
  obtain ⟨vs, h1, h2, h3⟩ := h
  have hu := h3 i hi
  obtain ⟨h4, ao, cap, hv, h5, h6, h7, h8⟩ := h2
  cases ao with
  | none => have := (h7 rfl).1; omega
  | some a =>
    obtain ⟨b, o, sp⟩ := a
    have hc := h8 _ rfl i (vs.getD i undef) (by simp [show i < vs.length by omega])
    have h0 := h8 _ rfl 0 (vs.getD 0 undef) (by simp [show 0 < vs.length by omega])
    have hsp : sp = none := by simpa [Addr.add] using World.cell?_spot h0
    subst hsp
    rw [Addr.add_lit] at hc
    exact YieldsK.atSl ht he hv hy hi (hk _ _ ⟨_, rfl, hc⟩ hu)
/-- .. of one that was there ahead. -/
theorem YieldsK.atRBs0 {w0 : World} (E : Ext w0 w) {t e : TypeId} (ht : P.underlying t = some (.slice e)) (he : ∀ w' : World, (sizeOf e).run P w' = .ok 1 w') {x y : Operand} {v0 : Value} {ls : List (List UInt8)} (h : RBs w0 v0 ls) (hx : evalR ρ x = v0) {k : IntKind} {i : Nat} (hy : evalR ρ y = .int k (i : Int)) (hi : i < ls.length)
    (hk : ∀ v u, PCell u v w → RB w0 u (ls.getD i []) → K v w) : YieldsK P K ((execOp (evalR ρ) ⟨d, .indexAddr t x y, ty, pos, af, gd⟩).run P w) := by
  obtain ⟨vs, h1, h2, h3⟩ := h
  have hu := h3 i hi
  obtain ⟨h4, ao, cap, hv, h5, h6, h7, h8⟩ := h2
  cases ao with
  | none => have := (h7 rfl).1; omega
  | some a =>
    obtain ⟨b, o, sp⟩ := a
    have hc := h8 _ rfl i (vs.getD i undef) (by simp [show i < vs.length by omega])
    have h0 := h8 _ rfl 0 (vs.getD 0 undef) (by simp [show 0 < vs.length by omega])
    have hsp : sp = none := by simpa [Addr.add] using World.cell?_spot h0
    subst hsp
    rw [Addr.add_lit] at hc
    exact YieldsK.atSl ht he (hx.trans hv) hy hi (hk _ _ ⟨_, rfl, Ext.cellX E hc⟩ hu)
theorem YieldsK.lenRBs {t e : TypeId} (ht : P.underlying t = some (.slice e)) {x : Operand} {ls : List (List UInt8)} (h : RBs w (evalR ρ x) ls) (hk : K (NI ls.length) w) : YieldsK P K ((execOp (evalR ρ) ⟨d, .call ⟨.builtin .len, #[x], #[t]⟩, ty, pos, af, gd⟩).run P w) := by
  obtain ⟨vs, h1, ⟨h4, ao, cap, hv, -⟩, h3⟩ := h
  exact YieldsK.lenSl ht hv hk
/-- Two arrays of bytes held against each other. -/
theorem YieldsK.eqArr {t e ty2 : TypeId} {n : Nat} (ht : P.underlying t = some (.array n e)) (he : P.underlying e = some (.int .u8)) (hs : ∀ w : World, (sizeOf e).run P w = .ok 1 w) (hg : P.eqGuardType P.depth t = false) {x y : Operand} {l1 l2 : List UInt8} (hx : evalR ρ x = .agg (Lib.byteCells l1).toArray) (hy : evalR ρ y = .agg (Lib.byteCells l2).toArray) (h1 : l1.length = n) (h2 : l2.length = n)
    (hk : K (.bool (decide (l1 = l2))) w) : YieldsK P K ((execOp (evalR ρ) ⟨d, .binOp .eql t x y ty2, ty, pos, af, gd⟩).run P w) :=
  YieldsK.value (run_execEql ht he (hs w) hg h1 h2 hx hy) hk
theorem YieldsK.neArr {t e ty2 : TypeId} {n : Nat} (ht : P.underlying t = some (.array n e)) (he : P.underlying e = some (.int .u8)) (hs : ∀ w : World, (sizeOf e).run P w = .ok 1 w) (hg : P.eqGuardType P.depth t = false) {x y : Operand} {l1 l2 : List UInt8} (hx : evalR ρ x = .agg (Lib.byteCells l1).toArray) (hy : evalR ρ y = .agg (Lib.byteCells l2).toArray) (h1 : l1.length = n) (h2 : l2.length = n)
    (hk : K (.bool (decide (l1 ≠ l2))) w) : YieldsK P K ((execOp (evalR ρ) ⟨d, .binOp .neq t x y ty2, ty, pos, af, gd⟩).run P w) := by
  have he2 : (eqGuard .neq t x y (.agg (Lib.byteCells l1).toArray) (.agg (Lib.byteCells l2).toArray)).run P w = .ok () w := by
    simp [eqGuard, hg]
  have heq : (Op.equal t (.agg (Lib.byteCells l1).toArray) (.agg (Lib.byteCells l2).toArray)).run P w = .ok (decide (l1 = l2)) w := run_eqArray (d := 9998) w ht he (hs w) l1 l2 h1 h2
  have hb : (!decide (l1 = l2)) = decide (l1 ≠ l2) := by simp
  refine YieldsK.value (v := .bool (decide (l1 ≠ l2))) (w' := w) ?_ hk
  unfold execOp
  simp only [hx, hy, Sem.run_bind, he2, Result.andThen_ok, Go.binOp, heq, Sem.run_pure, hb]
/-- []byte("..") of a constant: the row is marked. -/
theorem YieldsK.convMark {t e : TypeId} (ht : P.underlying t = some (.slice e)) (he : P.underlying e = some (.int .u8)) {x : Operand} {v : Value} {b : Nat} {l : List UInt8} (hx : evalR ρ x = v) (ho : w.ownsRow b e 1 v l.length (Lib.byteCells l)) (hl : 0 < l.length)
    (hk : ∀ w', RB w' v l → Grew w w' v v → K v w') : YieldsK P K ((execOp (evalR ρ) ⟨d, .convert t t x, ty, pos, af, gd⟩).run P w) := by
  rcases ho.2 with ⟨rfl, h0⟩ | ⟨g, cap, cur, rfl, hbg, hg, hnc, hcm, hcs, htake⟩
  · omega
  · have hlt : g < w.heap.size := (Array.getElem?_eq_some_iff.1 hg).1
    have hsh : w.shape? g = some (e, cur.size) := by
      unfold World.shape?
      rw [hg]
    have hr : (convert t t (.slice (some ⟨g, 0, none⟩) l.length cap)).run P w = .ok (.slice (some ⟨g, 0, none⟩) l.length cap) (w.freeze ⟨g, cur.size, none⟩ 1) := by
      simp [convert, run_underlying ht, run_underlying he, markStringish, hsh]
    have hold : ∀ k, k ≠ g → (w.freeze ⟨g, cur.size, none⟩ 1).heap[k]? = w.heap[k]? := fun k hk => by
      simp [World.freeze, Array.getElem?_modify, Ne.symm hk]
    have hnew : (w.freeze ⟨g, cur.size, none⟩ 1).heap[g]? = some (.cells cur e (cur.size, cur.size + 1)) := by
      have hg' := hg
      rw [Array.getElem?_eq_some_iff] at hg'
      obtain ⟨h1, h2⟩ := hg'
      simp [World.freeze, Array.getElem?_modify, hg]
    have hsz : (w.freeze ⟨g, cur.size, none⟩ 1).heap.size = w.heap.size := by simp [World.freeze]
    refine YieldsK.value (v := .slice (some ⟨g, 0, none⟩) l.length cap) (w' := w.freeze ⟨g, cur.size, none⟩ 1) ?_ (hk _ ?_ ⟨⟨?_, ?_, ?_, by omega, fun k _ hne => hold k (fun e => hne (by rw [e]; rfl))⟩, fun k h => .inl h⟩)
    · unfold execOp
      simp only [hx, Sem.run_bind, hr, Result.andThen_ok, Sem.run_pure]
    · have hb := RB.ofOwn ho
      obtain ⟨h1, ao, c2, hv, h3, h4, h5, h6⟩ := hb
      simp only [Value.slice.injEq, true_and] at hv
      obtain ⟨rfl, rfl⟩ := hv
      refine ⟨h1, _, _, rfl, h3, h4, h5, fun a ha j u hu => ?_⟩
      have hc := h6 a ha j u hu
      cases ha
      rw [Addr.add_lit] at hc ⊢
      simp only [World.cell?, hg] at hc
      simp only [World.cell?, hnew]
      exact hc
    all_goals simp [World.freeze]
end
end Go.Proofs.Ytfjmbcjcgdfkfaa
