/- What came in, opened: a slice of bytes, a string; what the bound on the bulk gives. -/
import Derived.Test.YtfjmbcjcgdfkfaaBase
import Derived.Test.YtfjmbcjcgdfkfaaRows
import Derived.ProofKit
import Derived.OpenShut
import Derived.ShutString
import Derived.JoinedCond
namespace Go.Proofs.Ytfjmbcjcgdfkfaa
open Go.ChangeShapes Go.WideShapes Go.ChangeAt Go.RowKit
open Go.ChangeMaps (open_string shut_string)

theorem bulk_one {H : Type} (d : DataW H) : 1 ≤ Rows.uptoBulk d := by
  cases d with
  | lit l => cases l <;> simp [Rows.uptoBulk]
  | nil => simp [Rows.uptoBulk]
  | ptr d => simp [Rows.uptoBulk]
  | slice elems spare => simp [Rows.uptoBulk]
  | agg parts => simp [Rows.uptoBulk]
  | iface t d => simp [Rows.uptoBulk]
  | map entries => simp [Rows.uptoBulk]
  | held h => simp [Rows.uptoBulk]
theorem bulk_length {H : Type} (l : List (DataW H)) : l.length ≤ Rows.uptoBulkAll l := by
  induction l with
  | nil => simp [Rows.uptoBulkAll]
  | cons x r ih => have := bulk_one x; simp only [Rows.uptoBulkAll, List.length_cons]; omega
theorem bulk_slice {H : Type} (elems spare : List (DataW H)) : elems.length + spare.length + 1 ≤ Rows.uptoBulk (.slice elems spare) := by
  have h1 := bulk_length elems
  have h2 := bulk_length spare
  simp only [Rows.uptoBulk]
  omega
theorem bulk_string {H : Type} (s : ByteArray) : Rows.uptoBulk (DataW.lit (H := H) (.string s.data.toList)) = s.size + 1 := by
  have e : s.data.toList.length = s.size := by rw [Array.length_toList]; rfl
  simp [Rows.uptoBulk, e]
theorem bulk_bound {H : Type} {l : List (DataW H)} (hk : Rows.uptoSmall H l = true) : Rows.uptoBulkAll l ≤ 1048576 := of_decide_eq_true hk

/-- A row of numbers of eight bits reads as bytes. -/
theorem rb_of_ints {w : World} {a : Addr} {len cap : Nat} {zs : List Int} (hl : len ≤ cap) (hm : cap ≤ maxLen) (hz : len ≤ zs.length) (hc : ∀ i, i < zs.length → w.cell? (a.add i) = some (.int .u8 (zs.getD i 0))) (hw : ∀ n ∈ zs, (Lit.int .u8 n).wf = true) :
    RB w (.slice (some a) len cap) ((zs.take len).map fun n => UInt8.ofNat n.toNat) := by
  have hlen : ((zs.take len).map fun n => UInt8.ofNat n.toNat).length = len := by simp; omega
  refine ⟨by rw [Lib.byteCells_length, hlen, Nat.mul_one], some a, cap, by rw [hlen], by omega, hm, (fun h => by cases h), fun a' ha j u hu => ?_⟩
  cases ha
  have hj : j < len := by
    have := (List.getElem?_eq_some_iff.1 hu).1
    rw [Lib.byteCells_length, hlen] at this
    exact this
  have hjz : j < zs.length := by omega
  have hwf := hw zs[j] (List.getElem_mem hjz)
  have hb : 0 ≤ zs[j] ∧ zs[j] ≤ 255 := by simpa [Lit.wf, IntKind.min, IntKind.max, IntKind.signed, IntKind.bits] using hwf
  rw [hc j hjz]
  simp [Lib.byteCells, hj, hjz] at hu
  rw [← hu]
  congr 1
  simp [List.getD, hjz]
  omega

section
variable {H : Type} {enc : TypeId × Value → H} {P : Program} {W : World}
/-- A slice of bytes that came in. -/
theorem open_bytes {t e : TypeId} {r : Reach} {b0 : Nat} {v : Value} {d : DataW H} {ps : List MemPlace} (ht : P.underlying t = some (.slice e)) (he : P.underlying e = some (.int .u8)) (hc : P.cellsOf e = 1)
    (hval : Value.okWide P W r b0 t v) (hd : DataW.Trod enc P W 0 (fun _ => true) true t v d ps) : ∃ l, RB W v l ∧ l.length + 1 ≤ Rows.uptoBulk d ∧ ∀ x ∈ ps, x.block < W.heap.size := by
  obtain ⟨a0, len0, cap0, rfl⟩ := okWide_slice ht hval
  obtain ⟨fuel, hf⟩ := hd
  have hlt := DataW.trod_lt fuel _ _ _ hf
  rcases open_ints ht he hc hf with ⟨hcs, hx⟩ | ⟨x, l, c, zs, hcs, _, hl, hm, hz, hx, hcell, hwz⟩
  · simp [Value.cells] at hcs
    obtain ⟨rfl, rfl, rfl⟩ := hcs
    exact ⟨[], ⟨rfl, none, 0, rfl, Nat.le_refl _, by simp [maxLen], fun _ => ⟨rfl, rfl⟩, fun a h => by cases h⟩, by have := bulk_one d; simpa using this, hlt⟩
  · simp [Value.cells] at hcs
    obtain ⟨rfl, rfl, rfl⟩ := hcs
    simp at hz
    refine ⟨_, rb_of_ints hl hm (by omega) hcell hwz, ?_, hlt⟩
    have hd' : d = _ := congrArg Prod.fst hx
    rw [hd']
    have := bulk_slice (H := H) (lits .u8 (zs.take len0)) (lits .u8 (zs.drop len0))
    simp [lits] at this ⊢
    omega
/-- The cells of a slice of bytes that came in. -/
theorem open_bytesC {t e : TypeId} {fuel : Nat} {cs : List Value} {x : DataW H × List MemPlace} (ht : P.underlying t = some (.slice e)) (he : P.underlying e = some (.int .u8)) (hc : P.cellsOf e = 1)
    (hf : DataW.trod enc P W 0 (fun _ => true) true fuel t cs = some x) : ∃ c l, cs = [c] ∧ RB W c l ∧ l.length + 1 ≤ Rows.uptoBulk x.1 := by
  rcases open_ints ht he hc hf with ⟨hcs, hx⟩ | ⟨a, l, c, zs, hcs, _, hl, hm, hz, hx, hcell, hwz⟩
  · exact ⟨_, [], hcs, ⟨rfl, none, 0, rfl, Nat.le_refl _, by simp [maxLen], fun _ => ⟨rfl, rfl⟩, fun a h => by cases h⟩, by have := bulk_one x.1; simpa using this⟩
  · simp at hz
    refine ⟨_, _, hcs, rb_of_ints hl hm (by omega) hcell hwz, ?_⟩
    rw [hx]
    have := bulk_slice (H := H) (lits .u8 (zs.take l)) (lits .u8 (zs.drop l))
    simp [lits] at this ⊢
    omega
/-- The cells of an array of bytes that came in. -/
theorem open_idC {t e : TypeId} {n fuel : Nat} {cs : List Value} {x : DataW H × List MemPlace} (ht : P.underlying t = some (.array n e)) (he : P.underlying e = some (.int .u8)) (hc : P.cellsOf e = 1) (hn : P.cellsOf t = n)
    (hf : DataW.trod enc P W 0 (fun _ => true) true fuel t cs = some x) : ∃ l : List UInt8, l.length = n ∧ cs = Lib.byteCells l := by
  obtain ⟨xs, m, rfl, rfl, hlen, hxs, hel⟩ := DataW.trod_array ht hf
  rw [hc] at hel
  have hcell : ∀ i, (hi : i < n) → ∃ b : UInt8, cs[i]? = some (.int .u8 (b.toNat : Int)) := fun i hi => by
    have h1 := hel i hi
    have hx : xs[i]? = some (xs[i]'(by omega)) := List.getElem?_eq_getElem (by omega)
    rw [hx] at h1
    obtain ⟨a, e0, _, wa⟩ := DataW.trod_int he h1
    have hb : 0 ≤ a ∧ a ≤ 255 := by simpa [Lit.wf, IntKind.min, IntKind.max, IntKind.signed, IntKind.bits] using wa
    refine ⟨UInt8.ofNat a.toNat, ?_⟩
    have h2 : ((cs.drop (i * 1)).take 1)[0]? = some (.int .u8 a) := by rw [e0]; rfl
    simp at h2
    rw [h2]
    congr 2
    simp
    omega
  refine ⟨(List.range n).map fun i => if h : i < n then Classical.choose (hcell i h) else 0, by simp, ?_⟩
  apply List.ext_getElem?
  intro i
  by_cases hi : i < n
  · have := Classical.choose_spec (hcell i hi)
    rw [this]
    simp [Lib.byteCells, hi]
  · rw [List.getElem?_eq_none (by omega), List.getElem?_eq_none (by simp [Lib.byteCells]; omega)]
/-- An id that came in. -/
theorem open_id {r : Reach} {b0 : Nat} {t e : TypeId} {n : Nat} {v : Value} {d : DataW H} {ps : List MemPlace} (ht : P.underlying t = some (.array n e)) (he : P.underlying e = some (.int .u8)) (hc : P.cellsOf e = 1) (hn : P.cellsOf t = n)
    (hval : Value.okWide P W r b0 t v) (hd : DataW.Trod enc P W 0 (fun _ => true) true t v d ps) : ∃ l : List UInt8, l.length = n ∧ v = .agg (Lib.byteCells l).toArray ∧ ∀ x ∈ ps, x.block < W.heap.size := by
  obtain ⟨fuel, hf⟩ := hd
  have hlt := DataW.trod_lt fuel _ _ _ hf
  obtain ⟨l, hl, hcs⟩ := open_idC ht he hc hn hf
  obtain ⟨cs, rfl, _⟩ : ∃ cs, v = .agg cs ∧ cs.size = P.cellsOf t := by
    simp only [Value.okWide, ht] at hval
    obtain ⟨cs, h1, h2, _⟩ := hval
    exact ⟨cs, h1, h2⟩
  simp [Value.cells] at hcs
  exact ⟨l, hl, by rw [← hcs], hlt⟩
end
theorem own : ownKnob Try.prog.godebug = none := by kernel_rfl
theorem laidOut : laidOutB Try.prog = true := by kernel_rfl
end Go.Proofs.Ytfjmbcjcgdfkfaa
