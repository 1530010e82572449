/- Part 1 of what stands behind these statements: laws and walks of the functions that are reached. Conditions: those that each theorem names. -/
import Derived.WalkKit
import Derived.WalkLawsBesides
import Derived.WalkSpells
import Derived.Deep.AppendSrc
import Derived.Lib.Hide
import Derived.Lib.VarintMem
import Derived.ProofKit
import Derived.OpenShut
import Derived.ShutString
import Derived.JoinedCond
import Derived.Lib.Walk
import Derived.Sort.Walk0
import Derived.Orders
import Derived.Below
import Derived.Laws.IdiomStrings
import Derived.Deep.MidRow
import Derived.Scope
import Derived.Laws.Rows
import Derived.DeepKeys4
import Derived.MapKept
import Derived.WideKeyEntry
import Derived.Maps.Own
import Derived.Maps.OwnSet
import Derived.Maps.Range
import Derived.Sort.KeysCollected
import Derived.Laws.StructEq
import Derived.Lib.EndianBits
import Derived.Recover
import Derived.Laws.IdiomRangeMap
import Derived.Lib.Varint
import Derived.Lib.Bytealg
import Derived.Lib.ConvBytes
import Derived.Lib.AtoiErrMem
import Derived.Shelf.SlMaps.Clone
import Derived.Shelf.SlIter.Nil
import Derived.Shelf.SortM.Plain
import Derived.Shelf.SortM.SortNone
import Derived.Laws.Small
import Derived.Lib.Builder
import Derived.Shelf.Strings.Builder1
import Derived.Lib.AppendZerosOnto
import Derived.Lib.Overlaps
import Derived.Shelf.Small.Strs
import Derived.Laws.Externs
import Derived.Deep.DeepHandedRow
import Derived.Lib.LaidTab
import Derived.Stop.LaidErr
import Derived.Deep.Slices
import Derived.Test.YtejpjjhkjdpeaaaDoorRows
import Derived.Test.YtejpjjhkjdpeaaaDoorProg
set_option linter.unusedVariables false
set_option linter.unusedSimpArgs false
namespace Go.Proofs.YtejpjjhkjdpeaaaDoor
open Go.RowKit
/-! Short names for what stands in the walks again and again. -/
abbrev PQ (b o : Nat) : Value := .pointer (some ⟨b, o, none⟩)
abbrev St (l : List UInt8) : Value := .string ⟨l.toArray⟩
abbrev AB (l : List UInt8) : Value := .agg (Lib.byteCells l).toArray
abbrev OB (v : Value) (g : Nat) : Prop := v.ownBlock ≠ some g
theorem eqo {x v : Value} (h : x = v) : x = v := h
theorem lte {a b n : Nat} (h : a < b) (e : b = n) : a < n := e ▸ h
theorem vr {x : Value} (y : Value) (h : x = y) : x = y := h
theorem bl {α : Type} {xs : Array α} {i : Nat} {o : α} (h : xs[i]? = some o) : i < xs.size := (Array.getElem?_eq_some_iff.1 h).1
theorem kb {w w' : World} {g n : Nat} {o : Obj} (hg : w.grownBy w' (some g)) (hb : w.heap[n]? = some o) (h : n ≠ g) : w'.heap[n]? = some o := (hg.block n (bl hb) (fun e => h (Option.some.inj e))).trans hb

structure Grew (w w' : World) (v v' : Value) : Prop where
  by_ : w.grownBy w' v.ownBlock
  fresh : ∀ k, v'.ownBlock = some k → v.ownBlock = some k ∨ w.heap.size ≤ k

theorem grownBy_trans {w w1 w2 : World} {r r1 : Option Nat} (h : w.grownBy w1 r) (k : w1.grownBy w2 r1) (hr : ∀ b, r1 = some b → r = some b ∨ w.heap.size ≤ b) : w.grownBy w2 r := by
  refine ⟨k.os.trans h.os, k.tape.trans h.tape, k.output.trans h.output, Nat.le_trans h.size k.size, fun i hi hne => ?_⟩
  have h1 := h.size
  rw [k.block i (by omega) (fun e => (hr i e.symm).elim (fun h2 => hne h2.symm) (fun h2 => by omega)), h.block i hi hne]

theorem Grew.eqv {w w' : World} {x v v' : Value} (e : x = v) (h : Grew w w' x v') : Grew w w' v v' := e ▸ h
theorem Grew.refl (w : World) (v : Value) : Grew w w v v := ⟨World.grownBy.refl _ _, fun _ h => .inl h⟩
theorem Grew.alloc {w w1 : World} {v v1 : Value} (h : Grew w w1 v v1) (o : Obj) : Grew w (w1.alloc o) v v1 :=
  ⟨grownBy_trans h.by_ (World.grownBy_alloc _ o none) (fun _ e => by cases e), h.fresh⟩
theorem Grew.drew {w w1 : World} {v v1 : Value} (h : Grew w w1 v v1) : Grew w w1.drew v v1 :=
  ⟨⟨h.by_.os, h.by_.tape, h.by_.output, h.by_.size, h.by_.block⟩, h.fresh⟩
theorem Grew.below {B : Nat} {w w1 : World} {v v1 : Value} (h : Grew w w1 v v1) (hB : B ≤ w.heap.size) (hv : ∀ k, v.ownBlock = some k → B ≤ k) : Below B w w1 :=
  (Below.refl B w).grown h.by_ hB hv

section
variable {P : Program} (w : World)
theorem run_append_src (base : Nat) (t tx ty e : TypeId) (i : TypeInfo) (z : Value) (size bytes : Nat) (ht : P.underlying t = some (.slice e)) (hi : P.info? e = some i) (hz : i.zero = some z)
    (hsize : i.size = size) (hby : i.bytes = bytes) (hzs : z.cells.size = size)
    (v : Value) (n : Nat) (xs : List Value) (hown : w.ownsRow base e size v n xs)
    (x : Value) (m : Nat) (news : List Value) (hs : Src P size tx x m news w)
    (h63 : n + m ≤ maxLen) (hbytes : (n + m) * bytes ≤ 140737488355328) (hbase : base ≤ w.heap.size) :
    ∃ v' w', (Builtin.append_ #[t, tx] ty #[v, x]).run P w = .ok v' w' ∧ w'.ownsRow base e size v' (n + m) (xs ++ news) ∧ Grew w w' v v' := by
  subst hsize
  subst hby
  have hsmall : n + m ≤ 9223372036854775807 := by simp only [maxLen] at h63; omega
  have hl := hs.newsLen
  have hlen : (xs ++ news).length = (n + m) * i.size := by rw [List.length_append, hown.1, hl, Nat.add_mul]
  have grown : ∀ (old : Nat), old < n + m →
      (w.drew.alloc (.cells ((xs ++ news).toArray ++ Builtin.zeroCells z.cells (grownCap w (n + m) old e - (n + m))) e)).ownsRow base e i.size
        (.slice (some ⟨w.heap.size, 0, none⟩) (n + m) (grownCap w (n + m) old e)) (n + m) (xs ++ news) ∧
      Grew w (w.drew.alloc (.cells ((xs ++ news).toArray ++ Builtin.zeroCells z.cells (grownCap w (n + m) old e - (n + m))) e)) v (.slice (some ⟨w.heap.size, 0, none⟩) (n + m) (grownCap w (n + m) old e)) := by
    intro old ho
    have hge := grownCap_ge w (n + m) old e
    have hcm : grownCap w (n + m) old e ≤ maxLen := grownCap_le_maxLen w (n + m) old e h63
    refine ⟨⟨hlen, .inr ⟨w.heap.size, _, _, rfl, hbase, heap_alloc_new w.drew _, hge, hcm, ?_, ?_⟩⟩, ⟨⟨rfl, rfl, rfl, by simp, fun _ hk _ => heap_alloc_old w.drew _ hk⟩, ?_⟩⟩
    · simp only [Array.size_append, List.size_toArray, size_zeroCells, hzs, hlen, ← Nat.add_mul]
      congr 1
      omega
    · simp only [Array.toList_append]
      rw [← hlen]
      exact List.take_left
    · intro k hk
      simp [Value.ownBlock] at hk
      exact .inr (by omega)
  rcases hown.2 with ⟨rfl, rfl⟩ | ⟨g, cap, cur, rfl, hbg, hg, hnc, hcm, hcs, htake⟩
  · have hx : xs = [] := List.eq_nil_of_length_eq_zero (by simpa using hown.1)
    subst hx
    by_cases hm : m = 0
    · subst hm
      have hn : news = [] := List.eq_nil_of_length_eq_zero (by simpa using hl)
      subst hn
      refine ⟨.slice none 0 0, w, ?_, World.ownsRow_nil w base e i.size, Grew.refl _ _⟩
      have hc := hs.cells
      have hle := hs.len
      rcases hs.kind with ⟨e', hk⟩ | hk <;> simp [Builtin.append_, run_underlying ht, run_underlying hk, sizeOf, typeInfo, hi, hle, hc]
    · have hgr := grown 0 (by omega)
      have hr := run_append_grow_src (P := P) w t tx ty e i z ht hi hz none 0 0 [] (run_firstCells_none w.drew i.size 0 0 0) x m news hs (by omega) (by omega)
        (growslice_fits (by omega) hbytes)
      exact ⟨_, _, hr, hgr.1, hgr.2⟩
  · by_cases hroom : n + m ≤ cap
    · have hfit : n * i.size + news.length ≤ cur.size := by rw [hl, hcs, ← Nat.add_mul]; exact Nat.mul_le_mul_right _ hroom
      have hst := run_storeCells_at P g (n * i.size) e news 0 cur w hg (by simpa using hfit) hs.one
      simp only [Nat.add_zero] at hst
      have hr : (Builtin.append_ #[t, tx] ty #[.slice (some ⟨g, 0, none⟩) n cap, x]).run P w = .ok (.slice (some ⟨g, 0, none⟩) (n + m) cap) (w.setRow g (cur.toList.take (n * i.size) ++ news ++ cur.toList.drop (n * i.size + news.length)).toArray) := by
        rcases hs.kind with ⟨e', hk⟩ | hk <;> simp [Builtin.append_, run_underlying ht, run_underlying hk, sizeOf, typeInfo, hi, hs.len, hroom, hs.cells, Addr.add_lit, hst]
      refine ⟨_, _, hr, ⟨hlen, .inr ⟨g, cap, _, rfl, hbg, setRow_heap w g cur _ e _ hg, hroom, hcm, ?_, ?_⟩⟩, ⟨⟨rfl, rfl, rfl, by simp, fun k _ hk => setRow_other w g k _ (fun e => hk (by simp [Value.ownBlock, e]))⟩, fun k hk => .inl hk⟩⟩
      · simp only [List.size_toArray, List.length_append, List.length_take, List.length_drop, Array.length_toList]
        omega
      · rw [htake, ← hlen]
        exact List.take_left
    · have holds : ∀ j u, xs[j]? = some u → w.cell? ((⟨g, 0, none⟩ : Addr).add j) = some u := hown.cells (g := g) rfl
      have hgr := grown cap (by omega)
      have hr := run_append_grow_src (P := P) w t tx ty e i z ht hi hz (some ⟨g, 0, none⟩) n cap xs (run_firstCells_some w.drew i.size n ⟨g, 0, none⟩ n cap xs hown.1 (by simpa using holds)) x m news hs (by omega) (by omega)
        (growslice_fits (by omega) hbytes)
      exact ⟨_, _, hr, hgr.1, hgr.2⟩

end
theorem ownsRow_base {w : World} {b b' : Nat} {e : TypeId} {size : Nat} {v : Value} {n : Nat} {xs : List Value} (h : w.ownsRow b e size v n xs) (hb : b' ≤ b) : w.ownsRow b' e size v n xs :=
  ⟨h.1, h.2.imp (fun x => x) (fun ⟨g, cap, cur, e1, e2, r⟩ => ⟨g, cap, cur, e1, Nat.le_trans hb e2, r⟩)⟩

def Reads (w : World) (size : Nat) (v : Value) (n : Nat) (xs : List Value) : Prop :=
  xs.length = n * size ∧ ∃ ao cap, v = .slice ao n cap ∧ n ≤ cap ∧ cap ≤ maxLen ∧ (ao = none → n = 0 ∧ cap = 0) ∧ ∀ a, ao = some a → ∀ j u, xs[j]? = some u → w.cell? (a.add j) = some u

def RB (w : World) (v : Value) (l : List UInt8) : Prop := Reads w 1 v l.length (Lib.byteCells l)

theorem byteCells_one (l : List UInt8) : ∀ u ∈ Lib.byteCells l, u.oneCell' = true := by
  intro u hu
  obtain ⟨_, _, rfl⟩ := List.mem_map.1 hu
  rfl

theorem RB.src {P : Program} {tx e' : TypeId} (hk : P.underlying tx = some (.slice e')) {w : World} {v : Value} {l : List UInt8} (h : RB w v l) : Src P 1 tx v l.length (Lib.byteCells l) w := by
  obtain ⟨h1, ao, cap, rfl, h2, h3, h4, h5⟩ := h
  cases ao with
  | none =>
    obtain ⟨h6, rfl⟩ := h4 rfl
    have : l = [] := List.eq_nil_of_length_eq_zero h6
    subst this
    exact Src.ofNil w hk 0
  | some a => exact Src.ofSlice w hk a _ cap _ h1 (h5 a rfl) (byteCells_one l)
theorem RB.below {B : Nat} {w w' : World} {v : Value} {l : List UInt8} (h : RB w v l) (hb : Below B w w') (hB : B = w.heap.size) : RB w' v l := by
  obtain ⟨h1, ao, cap, rfl, h2, h3, h4, h5⟩ := h
  refine ⟨h1, ao, cap, rfl, h2, h3, h4, fun a ha j u hu => ?_⟩
  have := h5 a ha j u hu
  exact (hb.cell (by have := World.block_lt_of_cell? w _ this; omega)).trans this
theorem RB.ofOwn {w : World} {base : Nat} {e : TypeId} {v : Value} {l : List UInt8} (h : w.ownsRow base e 1 v l.length (Lib.byteCells l)) : RB w v l := by
  refine ⟨h.1, ?_⟩
  have h' := h
  rcases h.2 with ⟨rfl, h0⟩ | ⟨g, cap, cur, rfl, hbg, hg, hnc, hcm, hcs, htake⟩
  · exact ⟨none, 0, by rw [h0], by omega, by simp [maxLen], fun _ => ⟨h0, rfl⟩, fun a ha => by cases ha⟩
  · exact ⟨some ⟨g, 0, none⟩, cap, rfl, hnc, hcm, (fun h => by cases h), (fun a ha j u hu => by cases ha; exact h'.cells rfl j u hu)⟩

structure NewB (e : TypeId) (w w' : World) (v : Value) (l : List UInt8) : Prop where
  own : w'.ownsRow w.heap.size e 1 v l.length (Lib.byteCells l)
  by_ : w.grownBy w' none
theorem NewB.below {e : TypeId} {w w' : World} {v : Value} {l : List UInt8} (h : NewB e w w' v l) : Below w.heap.size w w' :=
  (Below.refl _ _).grown h.by_ (Nat.le_refl _) (fun k hk => by cases hk)
theorem RB.keep {w w' : World} {v : Value} {l : List UInt8} (h : RB w v l) (hb : Below w.heap.size w w') : RB w' v l := h.below hb rfl
open Go.ChangeShapes Go.WideShapes Go.ChangeAt Go.RowKit
open Go.ChangeMaps (open_string shut_string)
theorem bulk_one {H : Type} (d : DataW H) : 1 ≤ Rows.uptoBulk d := by
  cases d with
  | lit l => cases l <;> simp [Rows.uptoBulk]
  | nil => simp [Rows.uptoBulk]
  | ptr d => simp [Rows.uptoBulk]
  | slice elems spare => simp [Rows.uptoBulk]
  | agg parts => simp [Rows.uptoBulk]
  | iface t d => simp [Rows.uptoBulk]
  | map entries => simp [Rows.uptoBulk]
  | held h => simp [Rows.uptoBulk]
theorem bulk_length {H : Type} (l : List (DataW H)) : l.length ≤ Rows.uptoBulkAll l := by
  induction l with
  | nil => simp [Rows.uptoBulkAll]
  | cons x r ih => have := bulk_one x; simp only [Rows.uptoBulkAll, List.length_cons]; omega
theorem bulk_slice {H : Type} (elems spare : List (DataW H)) : elems.length + spare.length + 1 ≤ Rows.uptoBulk (.slice elems spare) := by
  have h1 := bulk_length elems
  have h2 := bulk_length spare
  simp only [Rows.uptoBulk]
  omega
theorem rb_of_ints {w : World} {a : Addr} {len cap : Nat} {zs : List Int} (hl : len ≤ cap) (hm : cap ≤ maxLen) (hz : len ≤ zs.length) (hc : ∀ i, i < zs.length → w.cell? (a.add i) = some (.int .u8 (zs.getD i 0))) (hw : ∀ n ∈ zs, (Lit.int .u8 n).wf = true) :
    RB w (.slice (some a) len cap) ((zs.take len).map fun n => UInt8.ofNat n.toNat) := by
  have hlen : ((zs.take len).map fun n => UInt8.ofNat n.toNat).length = len := by simp; omega
  refine ⟨by rw [Lib.byteCells_length, hlen, Nat.mul_one], some a, cap, by rw [hlen], by omega, hm, (fun h => by cases h), fun a' ha j u hu => ?_⟩
  cases ha
  have hj : j < len := by
    have := (List.getElem?_eq_some_iff.1 hu).1
    rw [Lib.byteCells_length, hlen] at this
    exact this
  have hjz : j < zs.length := by omega
  have hwf := hw zs[j] (List.getElem_mem hjz)
  have hb : 0 ≤ zs[j] ∧ zs[j] ≤ 255 := by simpa [Lit.wf, IntKind.min, IntKind.max, IntKind.signed, IntKind.bits] using hwf
  rw [hc j hjz]
  simp [Lib.byteCells, hj, hjz] at hu
  rw [← hu]
  congr 1
  simp [List.getD, hjz]
  omega

section
variable {H : Type} {enc : TypeId × Value → H} {P : Program} {W : World}
theorem open_bytes {t e : TypeId} {r : Reach} {b0 : Nat} {v : Value} {d : DataW H} {ps : List MemPlace} (ht : P.underlying t = some (.slice e)) (he : P.underlying e = some (.int .u8)) (hc : P.cellsOf e = 1)
    (hval : Value.okWide P W r b0 t v) (hd : DataW.Trod enc P W 0 (fun _ => true) true t v d ps) : ∃ l, RB W v l ∧ l.length + 1 ≤ Rows.uptoBulk d ∧ ∀ x ∈ ps, x.block < W.heap.size := by
  obtain ⟨a0, len0, cap0, rfl⟩ := okWide_slice ht hval
  obtain ⟨fuel, hf⟩ := hd
  have hlt := DataW.trod_lt fuel _ _ _ hf
  rcases open_ints ht he hc hf with ⟨hcs, hx⟩ | ⟨x, l, c, zs, hcs, _, hl, hm, hz, hx, hcell, hwz⟩
  · simp [Value.cells] at hcs
    obtain ⟨rfl, rfl, rfl⟩ := hcs
    exact ⟨[], ⟨rfl, none, 0, rfl, Nat.le_refl _, by simp [maxLen], fun _ => ⟨rfl, rfl⟩, fun a h => by cases h⟩, by have := bulk_one d; simpa using this, hlt⟩
  · simp [Value.cells] at hcs
    obtain ⟨rfl, rfl, rfl⟩ := hcs
    simp at hz
    refine ⟨_, rb_of_ints hl hm (by omega) hcell hwz, ?_, hlt⟩
    have hd' : d = _ := congrArg Prod.fst hx
    rw [hd']
    have := bulk_slice (H := H) (lits .u8 (zs.take len0)) (lits .u8 (zs.drop len0))
    simp [lits] at this ⊢
    omega
theorem open_bytesC {t e : TypeId} {fuel : Nat} {cs : List Value} {x : DataW H × List MemPlace} (ht : P.underlying t = some (.slice e)) (he : P.underlying e = some (.int .u8)) (hc : P.cellsOf e = 1)
    (hf : DataW.trod enc P W 0 (fun _ => true) true fuel t cs = some x) : ∃ c l, cs = [c] ∧ RB W c l ∧ l.length + 1 ≤ Rows.uptoBulk x.1 := by
  rcases open_ints ht he hc hf with ⟨hcs, hx⟩ | ⟨a, l, c, zs, hcs, _, hl, hm, hz, hx, hcell, hwz⟩
  · exact ⟨_, [], hcs, ⟨rfl, none, 0, rfl, Nat.le_refl _, by simp [maxLen], fun _ => ⟨rfl, rfl⟩, fun a h => by cases h⟩, by have := bulk_one x.1; simpa using this⟩
  · simp at hz
    refine ⟨_, _, hcs, rb_of_ints hl hm (by omega) hcell hwz, ?_⟩
    rw [hx]
    have := bulk_slice (H := H) (lits .u8 (zs.take l)) (lits .u8 (zs.drop l))
    simp [lits] at this ⊢
    omega
end
theorem own : ownKnob Tryd.prog.godebug = none := by kernel_rfl
theorem laidOut : laidOutB Tryd.prog = true := by kernel_rfl
open Go.RowKit
abbrev Dir := List (List UInt8 × Nat)
def lookD : Dir → List UInt8 → Option Nat
  | [], _ => none
  | e :: r, s => if e.1 = s then some e.2 else lookD r s
theorem look_cons (e : List UInt8 × Nat) (r : Dir) (s : List UInt8) : lookD (e :: r) s = if e.1 = s then some e.2 else lookD r s := rfl
def woD (l : Dir) (s : List UInt8) : Dir := l.filter fun e => !decide (e.1 = s)
def insD (l : Dir) (s : List UInt8) (k : Nat) : Dir := l.takeWhile (fun e => Op.bytesLess e.1 s) ++ (s, k) :: l.dropWhile (fun e => Op.bytesLess e.1 s)
structure ActD where
  frm : List UInt8
  to : List UInt8
  file : Nat
def turnD (l : Dir) (a : ActD) : Dir := if a.to.length = 0 then woD l a.frm else insD (woD (woD l a.frm) a.to) a.to a.file
def SortD (l : Dir) : Prop := l.Pairwise fun a b => Op.bytesLess a.1 b.1 = true
theorem bl_trans {a b c : List UInt8} (h : Op.bytesLess a b = true) (k : Op.bytesLess b c = true) : Op.bytesLess a c = true := by
  rw [bytesLess_eq, decide_eq_true_eq] at *
  exact List.lt_trans h k
theorem bl_irrefl (a : List UInt8) : Op.bytesLess a a = false := by
  rw [bytesLess_eq]
  exact decide_eq_false (List.lt_irrefl a)
theorem bl_total {a b : List UInt8} (h : Op.bytesLess a b = false) (hne : b ≠ a) : Op.bytesLess b a = true := by
  rw [bytesLess_eq, decide_eq_false_iff_not] at h
  rw [bytesLess_eq, decide_eq_true_eq]
  have h : b ≤ a := h
  rcases List.le_total a b with h2 | h2
  · exact absurd (List.le_antisymm h h2) hne
  · exact Classical.byContradiction fun hn => hne (List.le_antisymm h hn)
theorem look_none {l : Dir} {s : List UInt8} : lookD l s = none ↔ ∀ e ∈ l, e.1 ≠ s := by
  induction l with
  | nil => simp [lookD]
  | cons e r ih =>
    rw [look_cons]
    by_cases h : e.1 = s
    · simp [h]
    · simp [h, ih]
theorem look_mem {l : Dir} {s : List UInt8} {k : Nat} (h : lookD l s = some k) : (s, k) ∈ l := by
  induction l with
  | nil => cases h
  | cons e r ih =>
    rw [look_cons] at h
    split at h
    · rename_i he
      cases h
      rw [← he]
      exact List.mem_cons_self
    · exact List.mem_cons_of_mem _ (ih h)
theorem look_of {l : Dir} (hs : SortD l) {e : List UInt8 × Nat} (h : e ∈ l) : lookD l e.1 = some e.2 := by
  induction l with
  | nil => cases h
  | cons x r ih =>
    obtain ⟨h1, h2⟩ := List.pairwise_cons.1 hs
    rw [look_cons]
    rcases List.mem_cons.1 h with rfl | h
    · exact if_pos rfl
    · have := h1 e h
      rw [if_neg (fun he => by rw [he, bl_irrefl] at this; cases this)]
      exact ih h2 h
theorem look_app {l r : Dir} {s : List UInt8} : lookD (l ++ r) s = (lookD l s).or (lookD r s) := by
  induction l with
  | nil => rfl
  | cons e l ih =>
    rw [List.cons_append, look_cons, look_cons]
    by_cases h : e.1 = s
    · rw [if_pos h, if_pos h]; rfl
    · rw [if_neg h, if_neg h]; exact ih
theorem look_wo (l : Dir) (s t : List UInt8) : lookD (woD l s) t = if t = s then none else lookD l t := by
  induction l with
  | nil => simp [woD, lookD]
  | cons e r ih =>
    unfold woD at ih ⊢
    by_cases h : e.1 = s
    · rw [List.filter_cons_of_neg (by simp [h]), ih]
      split
      · rfl
      · rename_i ht
        rw [look_cons, if_neg (fun he => ht (he.symm.trans h))]
    · rw [List.filter_cons_of_pos (by simp [h])]
      rw [look_cons, look_cons]
      by_cases he : e.1 = t
      · rw [if_pos he, if_pos he, if_neg (fun ht => h (he.trans ht))]
      · rw [if_neg he, if_neg he]
        exact ih
theorem look_ins {l : Dir} {s : List UInt8} (k : Nat) (h : lookD l s = none) (t : List UInt8) : lookD (insD l s k) t = if t = s then some k else lookD l t := by
  have hl : l = l.takeWhile (fun e => Op.bytesLess e.1 s) ++ l.dropWhile (fun e => Op.bytesLess e.1 s) := (List.takeWhile_append_dropWhile).symm
  have hn := h
  rw [hl, look_app] at hn
  unfold insD
  rw [look_app]
  rw [look_cons]
  simp only
  by_cases ht : t = s
  · subst ht
    rw [if_pos rfl, if_pos rfl]
    cases h2 : lookD (l.takeWhile fun e => Op.bytesLess e.1 t) t with
    | none => rfl
    | some x => rw [h2] at hn; cases hn
  · rw [if_neg (fun e => ht e.symm), if_neg ht]
    conv => rhs; rw [hl, look_app]
theorem sort_wo {l : Dir} (h : SortD l) (s : List UInt8) : SortD (woD l s) := List.Pairwise.sublist (List.filter_sublist) h
theorem drop_ge {l : Dir} {s : List UInt8} (hs : SortD l) (h : lookD l s = none) : ∀ e ∈ l.dropWhile (fun e => Op.bytesLess e.1 s), Op.bytesLess s e.1 = true := by
  induction l with
  | nil => intro e he; cases he
  | cons x r ih =>
    obtain ⟨h1, h2⟩ := List.pairwise_cons.1 hs
    have h3 := look_none.1 h
    intro e he
    by_cases hx : Op.bytesLess x.1 s = true
    · rw [List.dropWhile_cons, if_pos hx] at he
      exact ih h2 (look_none.2 fun y hy => h3 y (List.mem_cons_of_mem _ hy)) e he
    · rw [List.dropWhile_cons, if_neg hx] at he
      have hxs := bl_total (Bool.eq_false_iff.2 hx) (fun q => h3 x List.mem_cons_self q.symm)
      rcases List.mem_cons.1 he with rfl | he
      · exact hxs
      · exact bl_trans hxs (h1 e he)
theorem take_lt {l : Dir} {s : List UInt8} : ∀ e ∈ l.takeWhile (fun e => Op.bytesLess e.1 s), Op.bytesLess e.1 s = true := by
  induction l with
  | nil => intro e he; cases he
  | cons x r ih =>
    intro e he
    by_cases hx : Op.bytesLess x.1 s = true
    · rw [List.takeWhile_cons, if_pos hx] at he
      rcases List.mem_cons.1 he with rfl | he
      · exact hx
      · exact ih e he
    · rw [List.takeWhile_cons, if_neg hx] at he
      cases he
theorem sort_ins {l : Dir} {s : List UInt8} (k : Nat) (hs : SortD l) (h : lookD l s = none) : SortD (insD l s k) := by
  unfold insD SortD
  have h1 := drop_ge hs h
  have h2 := take_lt (l := l) (s := s)
  rw [List.pairwise_append]
  refine ⟨hs.sublist (List.takeWhile_sublist _), List.pairwise_cons.2 ⟨fun e he => h1 e he, hs.sublist (List.dropWhile_sublist _)⟩, fun a ha b hb => ?_⟩
  rcases List.mem_cons.1 hb with rfl | hb
  · exact h2 a ha
  · exact bl_trans (h2 a ha) (h1 b hb)
theorem look_wo2 (l : Dir) (a b : List UInt8) : lookD (woD (woD l a) b) b = none := by rw [look_wo, if_pos rfl]
theorem look_turn (l : Dir) (a : ActD) (t : List UInt8) : lookD (turnD l a) t = if a.to.length = 0 then (if t = a.frm then none else lookD l t) else if t = a.to then some a.file else if t = a.frm then none else lookD l t := by
  unfold turnD
  by_cases h : a.to.length = 0
  · rw [if_pos h, if_pos h, look_wo]
  · rw [if_neg h, if_neg h, look_ins _ (look_wo2 _ _ _)]
    by_cases ht : t = a.to
    · rw [if_pos ht, if_pos ht]
    · rw [if_neg ht, if_neg ht, look_wo, if_neg ht, look_wo]
theorem sort_turn {l : Dir} (h : SortD l) (a : ActD) : SortD (turnD l a) := by
  unfold turnD
  split
  · exact sort_wo h _
  · exact sort_ins _ (sort_wo (sort_wo h _) _) (look_wo2 _ _ _)
theorem wo_len (l : Dir) (s : List UInt8) : (woD l s).length ≤ l.length := List.length_filter_le _ _
theorem ins_len (l : Dir) (s : List UInt8) (k : Nat) : (insD l s k).length = l.length + 1 := by
  unfold insD
  have h : (l.takeWhile (fun e => Op.bytesLess e.1 s) ++ l.dropWhile (fun e => Op.bytesLess e.1 s)).length = l.length := by rw [List.takeWhile_append_dropWhile]
  rw [List.length_append] at h
  rw [List.length_append, List.length_cons]
  omega
theorem turn_len (l : Dir) (a : ActD) : (turnD l a).length ≤ l.length + 1 := by
  have h1 := wo_len l a.frm
  have h2 := wo_len (woD l a.frm) a.to
  unfold turnD
  split
  · omega
  · rw [ins_len]; omega
theorem wo_mem {l : Dir} {s : List UInt8} {e : List UInt8 × Nat} (h : e ∈ woD l s) : e ∈ l := (List.mem_filter.1 h).1
theorem ins_mem {l : Dir} {s : List UInt8} {k : Nat} {e : List UInt8 × Nat} (h : e ∈ insD l s k) : e ∈ l ∨ e = (s, k) := by
  unfold insD at h
  rcases List.mem_append.1 h with h | h
  · exact .inl ((List.takeWhile_sublist _).subset h)
  · rcases List.mem_cons.1 h with h | h
    · exact .inr h
    · exact .inl ((List.dropWhile_sublist _).subset h)
theorem turn_mem {l : Dir} {a : ActD} {e : List UInt8 × Nat} (h : e ∈ turnD l a) : e ∈ l ∨ (a.to.length ≠ 0 ∧ e = (a.to, a.file)) := by
  unfold turnD at h
  split at h
  · exact .inl (wo_mem h)
  · rename_i hn
    rcases ins_mem h with h | h
    · exact .inl (wo_mem (wo_mem h))
    · exact .inr ⟨hn, h⟩
structure Dsk where
  quota : Nat
  files : List (List UInt8 × Nat)
  now : Dir
  kept : Dir
  acts : List ActD
  refused : Nat
  arm : Nat
  down : Bool
def mayD (s : List UInt8) : Bool := decide (1 ≤ s.length) && decide (s.length ≤ 80)
def readyD (d : Dsk) (a b : List UInt8) : Nat := if d.down = true then 9 else if mayD a = true ∧ mayD b = true then 0 else 10
def fileD (d : Dsk) (k : Nat) : List UInt8 × Nat := d.files.getD k ([], 0)
def usedD (d : Dsk) : Nat := (d.now.map fun e => (fileD d e.2).1.length).sum
def armD (d : Dsk) : Dsk × Bool := if d.arm = 0 then (d, false) else ({ d with arm := d.arm - 1, down := decide (d.arm - 1 = 0) }, decide (d.arm - 1 = 0))
def turnedD (d : Dsk) (a : ActD) : Dsk := { d with now := turnD d.now a, acts := d.acts ++ [a] }
def addD (d : Dsk) (s b : List UInt8) : Dsk :=
  match lookD d.now s with
  | some k => { d with files := d.files.set k ((fileD d k).1 ++ b, (fileD d k).2) }
  | none => { turnedD d ⟨[], s, d.files.length⟩ with files := d.files ++ [(b, 0)] }
def appendD (d : Dsk) (s b : List UInt8) : Dsk × Nat :=
  if readyD d s s ≠ 0 then (d, readyD d s s)
  else if d.quota < usedD d + b.length then ({ d with refused := d.refused + 1 }, 8)
  else if (armD d).2 = true then ((armD d).1, 9) else (addD (armD d).1 s b, 0)
def hasD (d : Dsk) (a b : List UInt8) : Except Nat Nat := if readyD d a b ≠ 0 then .error (readyD d a b) else match lookD d.now a with | some k => .ok k | none => .error 4
def doD (d : Dsk) (f : Dsk → Dsk) : Dsk × Nat := if (armD d).2 = true then ((armD d).1, 9) else (f (armD d).1, 0)
def syncD (d : Dsk) (s : List UInt8) : Dsk × Nat :=
  match hasD d s s with
  | .error e => (d, e)
  | .ok k => doD d fun d => { d with files := d.files.set k ((fileD d k).1, (fileD d k).1.length), kept := d.now, acts := [] }
def dropD (d : Dsk) (s : List UInt8) : Dsk × Nat :=
  match hasD d s s with
  | .error e => (d, e)
  | .ok k => doD d fun d => turnedD d ⟨s, [], k⟩
def readD (d : Dsk) (s : List UInt8) : List UInt8 × Nat :=
  match hasD d s s with
  | .error e => ([], e)
  | .ok k => ((fileD d k).1, 0)
def listD (d : Dsk) : List (List UInt8) := if d.down = true then [] else d.now.map Prod.fst
def fateD (l : List Int) (i n : Nat) : Nat := if i < l.length then (Int.emod (l.getD i 0) ((n : Nat) : Int)).toNat else 0
def leftD (d : Dsk) (l : List Int) : Dir := (d.acts.take (fateD l 0 (d.acts.length + 1))).foldl turnD d.kept
def cutD (d : Dsk) (l : List Int) (i : Nat) (k : Nat) : List UInt8 × Nat :=
  let n := (fileD d k).2 + fateD l (i + 1) ((fileD d k).1.length - (fileD d k).2 + 1)
  ((fileD d k).1.take n, n)
def numD (l : Dir) : Dir := l.mapIdx fun i e => (e.1, i)
def crashD (d : Dsk) (l : List Int) : Dsk :=
  { quota := d.quota, files := (leftD d l).mapIdx (fun i e => cutD d l i e.2), now := numD (leftD d l), kept := numD (leftD d l), acts := [], refused := d.refused, arm := 0, down := false }
open Go.RowKit
abbrev Fact := Value → World → Prop
def Is (v : Value) : Fact := fun x _ => x = v
def evalR (ρ : Tmp → Value) : Operand → Value
  | .tmp t => ρ t
  | .const v => v
  | .global g => .pointer (some ⟨g, 0, none⟩)
  | .func f => .func (.func f) #[] #[]
theorem evalR_eq (a : Act) : evalR (fun t => a.tmps.getD t undef) = a.eval := by
  funext x
  cases x <;> rfl
def Yk (P : Program) (K : Value → World → Prop) : Result Next → Prop
  | .ok (.value v) w => K v w
  | .ok .skip w => K undef w
  | .ok (.enter f args) w => Calls P f args w fun e w' => ∃ v, e = .returned v ∧ K v w'
  | _ => False
def writer (l : List Oper) (t : Tmp) : Nat → Option Nat
  | 0 => none
  | n + 1 => if (l[n]?.bind (·.dst)) = some t then some n else writer l t n
def LookFact (l : List Oper) (Φ : Nat → Fact) (T : Array Value) (n : Nat) (t : Tmp) (x : Value) (w : World) : Prop :=
  match writer l t n with
  | none => x = T.getD t undef
  | some k => Φ k x w
def wantedR (l : List Oper) (o : Oper) (ρ : Tmp → Value) : Bool :=
  match o.guard with
  | none => true
  | some (g, want) => match (l[g]?).bind (·.dst) with
    | some t => (match ρ t with | .bool b => b == want | _ => false)
    | none => false
def StepOk (P : Program) (l : List Oper) (C : Nat → World → Prop) (R : Nat → World → World → Prop) (Φ : Nat → Fact) (T : Array Value) (n : Nat) (o : Oper) : Prop :=
  ∀ (ρ : Tmp → Value) (w : World), C n w → (∀ t ∈ o.looksAt l.toArray, LookFact l Φ T n t (ρ t) w) →
    if wantedR l o ρ = true then Yk P (fun v w' => R n w w' ∧ Φ n v w') ((execOp (evalR ρ) o).run P w) else Φ n undef w
def StepsOk (P : Program) (l : List Oper) (C : Nat → World → Prop) (R : Nat → World → World → Prop) (Φ : Nat → Fact) (T : Array Value) : Nat → List Oper → Prop
  | _, [] => True
  | n, o :: r => StepOk P l C R Φ T n o ∧ StepsOk P l C R Φ T (n + 1) r
theorem StepsOk.get {P : Program} {l : List Oper} {C : Nat → World → Prop} {R : Nat → World → World → Prop} {Φ : Nat → Fact} {T : Array Value} :
    ∀ (r : List Oper) (n : Nat), StepsOk P l C R Φ T n r → ∀ k o, r[k]? = some o → StepOk P l C R Φ T (n + k) o
  | [], _, _, k, o, h => by simp at h
  | x :: r, n, h, 0, o, hk => by simp at hk; subst hk; exact h.1
  | x :: r, n, h, k + 1, o, hk => by
    have := StepsOk.get r (n + 1) h.2 k o (by simpa using hk)
    rwa [show n + (k + 1) = n + 1 + k by omega]

/-! ### The edges' closure, as bits -/
def maskOf (acc : List Nat) (o : Oper) : Nat :=
  o.after.toList.foldl (fun s e => if Region.binds .any e then s ||| 2 ^ e.on ||| acc.getD e.on 0 else s) 0
def masks : List Oper → List Nat → List Nat
  | [], acc => acc
  | o :: r, acc => masks r (acc ++ [maskOf acc o])
theorem maskFold (acc : List Nat) (k : Nat) : ∀ (es : List Edge) (s : Nat), (es.foldl (fun s e => if Region.binds .any e then s ||| 2 ^ e.on ||| acc.getD e.on 0 else s) s).testBit k = true →
    s.testBit k = true ∨ ∃ e ∈ es, Region.binds .any e = true ∧ (e.on = k ∨ (acc.getD e.on 0).testBit k = true)
  | [], s, h => .inl h
  | e :: es, s, h => by
    rw [List.foldl_cons] at h
    rcases maskFold acc k es _ h with h1 | ⟨e', he', hb, hx⟩
    · by_cases hb : Region.binds .any e = true
      · rw [if_pos hb] at h1
        simp only [Nat.testBit_or, Bool.or_eq_true] at h1
        rcases h1 with (h1 | h1) | h1
        · exact .inl h1
        · rw [Nat.testBit_two_pow] at h1
          exact .inr ⟨e, by simp, hb, .inl (by simpa using h1)⟩
        · exact .inr ⟨e, by simp, hb, .inr h1⟩
      · rw [if_neg hb] at h1
        exact .inl h1
    · exact .inr ⟨e', by simp [he'], hb, hx⟩
theorem maskOf_spec {acc : List Nat} {o : Oper} {k : Nat} (h : (maskOf acc o).testBit k = true) :
    ∃ e ∈ o.after, Region.binds .any e = true ∧ (e.on = k ∨ (acc.getD e.on 0).testBit k = true) := by
  rcases maskFold acc k _ _ h with h1 | ⟨e, he, hb, hx⟩
  · simp at h1
  · exact ⟨e, by simpa using he, hb, hx⟩
theorem masks_at (l : List Oper) : ∀ (r : List Oper) (acc : List Nat), acc.length + r.length = l.length → (∀ j, r[j]? = l[acc.length + j]?) →
    (∀ i o k, i < acc.length → l[i]? = some o → (acc.getD i 0).testBit k = true → ∃ e ∈ o.after, Region.binds .any e = true ∧ (e.on = k ∨ (e.on < i ∧ (acc.getD e.on 0).testBit k = true))) →
    ∀ i o k, l[i]? = some o → ((masks r acc).getD i 0).testBit k = true → ∃ e ∈ o.after, Region.binds .any e = true ∧ (e.on = k ∨ (e.on < i ∧ ((masks r acc).getD e.on 0).testBit k = true))
  | [], acc, hl, _, hacc, i, o, k, hi, h => by
    have : i < l.length := (List.getElem?_eq_some_iff.1 hi).1
    exact hacc i o k (by simp at hl; omega) hi h
  | x :: r, acc, hl, hr, hacc, i, o, k, hi, h => by
    rw [masks] at h ⊢
    refine masks_at l r (acc ++ [maskOf acc x]) (by simp at hl ⊢; omega) (fun j => by have := hr (j + 1); simp at this ⊢; rw [this]; congr 1; omega) ?_ i o k hi h
    intro i o k hlt ho ht
    have keep : ∀ j, j < acc.length → (acc ++ [maskOf acc x]).getD j 0 = acc.getD j 0 := fun j hj => by
      simp [List.getD, List.getElem?_append_left hj]
    simp at hlt
    by_cases hia : i < acc.length
    · rw [keep i hia] at ht
      obtain ⟨e, he, hb, hx⟩ := hacc i o k hia ho ht
      exact ⟨e, he, hb, hx.imp id (fun h2 => ⟨h2.1, by rw [keep _ (by omega)]; exact h2.2⟩)⟩
    · have hie : i = acc.length := by omega
      subst hie
      have hx0 : x = o := by
        have := hr 0
        simp [ho] at this
        exact this
      subst hx0
      have e1 : (acc ++ [maskOf acc x]).getD acc.length 0 = maskOf acc x := by simp [List.getD]
      rw [e1] at ht
      obtain ⟨e, he, hb, hx⟩ := maskOf_spec ht
      refine ⟨e, he, hb, hx.imp id (fun h2 => ?_)⟩
      by_cases hl : e.on < acc.length
      · exact ⟨hl, by rw [keep _ hl]; exact h2⟩
      · simp [List.getD, List.getElem?_eq_none (show acc.length ≤ e.on by omega)] at h2

def slotsOf (l : List Oper) (o : Oper) : List Tmp := o.dst.toList ++ o.looksAt l.toArray
def goodB (l : List Oper) (size : Nat) : Bool :=
  let m := masks l []
  l.zipIdx.all fun (o, j) =>
    (o.after.all fun e => !Region.binds .any e || e.on < j) &&
    (match o.dst with | some d => decide (d < size) | none => true) &&
    l.zipIdx.all fun (p, i) => decide (j ≤ i) || ((match p.dst with | some d => !(slotsOf l o).contains d | none => true) && (match o.dst with | some d => !(slotsOf l p).contains d | none => true)) || (m.getD j 0).testBit i
structure Good (l : List Oper) (size : Nat) : Prop where
  back : ∀ (j : Nat) (o : Oper), l[j]? = some o → ∀ e ∈ o.after, Region.binds .any e = true → e.on < j
  room : ∀ (j : Nat) (o : Oper) (d : Tmp), l[j]? = some o → o.dst = some d → d < size
  tied : ∀ (j : Nat) (o : Oper) (i : Nat) (p : Oper) (d : Tmp), l[j]? = some o → l[i]? = some p → i < j → (p.dst = some d ∧ d ∈ slotsOf l o ∨ o.dst = some d ∧ d ∈ slotsOf l p) → ((masks l []).getD j 0).testBit i = true
theorem good_of {l : List Oper} {size : Nat} (h : goodB l size = true) : Good l size := by
  unfold goodB at h
  simp only [List.all_eq_true] at h
  have hz : ∀ j o, l[j]? = some o → (o, j) ∈ l.zipIdx := fun j o ho => by
    rw [List.mem_zipIdx_iff_getElem?]
    exact ho
  refine ⟨fun j o ho e he hb => ?_, fun j o d ho hd => ?_, fun j o i p d ho hp hij hx => ?_⟩
  · have := h _ (hz j o ho)
    simp only [Bool.and_eq_true] at this
    have h2 := Array.all_eq_true_iff_forall_mem.1 this.1.1 e he
    simpa [hb] using h2
  · have := h _ (hz j o ho)
    simp only [Bool.and_eq_true, hd] at this
    simpa using this.1.2
  · have := h _ (hz j o ho)
    simp only [Bool.and_eq_true, List.all_eq_true] at this
    have h2 := this.2 _ (hz i p hp)
    simp only [Bool.or_eq_true, decide_eq_true_eq, Bool.and_eq_true] at h2
    rcases h2 with (h2 | h2) | h2
    · omega
    · exfalso
      rcases hx with ⟨h3, h4⟩ | ⟨h3, h4⟩
      · have h5 := h2.1
        rw [h3] at h5
        simp at h5
        exact h5 h4
      · have h5 := h2.2
        rw [h3] at h5
        simp at h5
        exact h5 h4
    · exact h2

def killB (l : List Oper) (kill : Nat → List Nat) : Bool :=
  let m := masks l []
  l.zipIdx.all fun (o, j) => (List.range l.length).all fun n => decide (n = j) || (kill n).all fun k => (m.getD n 0).testBit j || (o.looksAt l.toArray).all fun t => writer l t j != some k
theorem kill_of {l : List Oper} {kill : Nat → List Nat} (h : killB l kill = true) (j n k : Nat) (o : Oper) (t : Tmp) (ho : l[j]? = some o) (hn : n < l.length) (hne : n ≠ j) (hk : k ∈ kill n) (ht : t ∈ o.looksAt l.toArray) (hw : writer l t j = some k) : ((masks l []).getD n 0).testBit j = true := by
  unfold killB at h
  simp only [List.all_eq_true] at h
  have h1 := h (o, j) (by rw [List.mem_zipIdx_iff_getElem?]; exact ho) n (by simpa using hn)
  simp only [Bool.or_eq_true, decide_eq_true_eq, hne, false_or, List.all_eq_true] at h1
  rcases h1 k hk with h2 | h2
  · exact h2
  · have := h2 t ht
    simp [hw] at this

section
variable {P : Program} {l : List Oper} {kill : Nat → List Nat} {C : Nat → World → Prop} {E : Array Bool → World → Prop} {R : Nat → World → World → Prop} {Φ : Nat → Fact} {a0 : Act}
def On (listed : Array Bool) (i : Nat) : Prop := listed.getD i false = true
theorem On.lt {listed : Array Bool} {i : Nat} (h : On listed i) : i < listed.size := by
  unfold On at h
  rcases Nat.lt_or_ge i listed.size with h' | h'
  · exact h'
  · simp [Array.getElem?_eq_none h'] at h
theorem on_set {listed : Array Bool} {i j : Nat} (hi : i < listed.size) : On (listed.setIfInBounds i true) j ↔ j = i ∨ On listed j := by
  unfold On
  by_cases h : i = j
  · subst h; simp [hi]
  · simp [Array.getElem?_setIfInBounds_ne h, Ne.symm h]
structure Inv (l : List Oper) (kill : Nat → List Nat) (C : Nat → World → Prop) (E : Array Bool → World → Prop) (Φ : Nat → Fact) (a0 : Act) (listed : Array Bool) (a : Act) (w : World) : Prop where
  size : listed.size = l.length
  closed : ∀ i o, l[i]? = some o → On listed i → ∀ e ∈ o.after, Region.binds .any e = true → On listed e.on
  defers : a.defers = a0.defers
  tmps : a.tmps.size = a0.tmps.size
  cls : ∀ n, n < l.length → ¬ On listed n → C n w
  ecl : E listed w
  old : ∀ t, (∀ k o, l[k]? = some o → o.dst = some t → ¬ On listed k) → a.tmps.getD t undef = a0.tmps.getD t undef
  new : ∀ t k o, l[k]? = some o → o.dst = some t → On listed k → (∀ k' o', k < k' → l[k']? = some o' → o'.dst = some t → ¬ On listed k') → (∀ n, On listed n → k ∉ kill n) → Φ k (a.tmps.getD t undef) w
theorem Inv.mask {listed : Array Bool} {a : Act} {w : World} (h : Inv l kill C E Φ a0 listed a w) :
    ∀ (i k : Nat), On listed i → ((masks l []).getD i 0).testBit k = true → On listed k := by
  intro i
  induction i using Nat.strongRecOn with
  | _ i ih =>
    intro k hi hk
    have hlt : i < l.length := by have := hi.lt; rw [h.size] at this; exact this
    have ho : l[i]? = some l[i] := List.getElem?_eq_getElem hlt
    obtain ⟨e, he, hb, hx⟩ := masks_at l l [] (by simp) (by simp) (fun i o k hi => by simp at hi) i l[i] k ho hk
    have hon := h.closed i _ ho hi e he hb
    rcases hx with rfl | ⟨hlt2, ht⟩
    · exact hon
    · exact ih e.on hlt2 k hon ht
theorem Inv.maskReady {listed : Array Bool} {a : Act} {w : World} (h : Inv l kill C E Φ a0 listed a w) {i : Nat} {o : Oper} (ho : l[i]? = some o)
    (hall : ∀ e ∈ o.after, Region.binds .any e = true → On listed e.on) {k : Nat} (hk : ((masks l []).getD i 0).testBit k = true) : On listed k := by
  obtain ⟨e, he, hb, hx⟩ := masks_at l l [] (by simp) (by simp) (fun i o k hi => by simp at hi) i o k ho hk
  have hon := hall e he hb
  rcases hx with rfl | ⟨_, ht⟩
  · exact hon
  · exact h.mask _ _ hon ht
theorem writer_none {t : Tmp} : ∀ (n : Nat), writer l t n = none → ∀ (k : Nat) (o : Oper), k < n → l[k]? = some o → o.dst ≠ some t
  | 0, _, k, o, hk, _ => by omega
  | n + 1, h, k, o, hk, ho => by
    unfold writer at h
    split at h
    · cases h
    · rename_i hne
      by_cases hkn : k = n
      · subst hkn; intro hd; simp [ho, hd] at hne
      · exact writer_none n h k o (by omega) ho
theorem writer_some {t : Tmp} {k : Nat} : ∀ (n : Nat), writer l t n = some k → k < n ∧ (∃ o, l[k]? = some o ∧ o.dst = some t) ∧ ∀ (k' : Nat) (o' : Oper), k < k' → k' < n → l[k']? = some o' → o'.dst ≠ some t
  | 0, h => by cases h
  | n + 1, h => by
    unfold writer at h
    split at h
    · rename_i he
      have hkn : n = k := Option.some.inj h
      subst hkn
      refine ⟨by omega, ?_, fun k' o' h1 h2 => by omega⟩
      cases ho : l[n]? with
      | none => simp [ho] at he
      | some o => exact ⟨o, rfl, by simpa [ho] using he⟩
    · rename_i hne
      obtain ⟨h1, h2, h3⟩ := writer_some n h
      refine ⟨by omega, h2, fun k' o' hk hk' ho' hd => ?_⟩
      by_cases he : k' = n
      · subst he; simp [ho', hd] at hne
      · exact h3 k' o' hk (by omega) ho' hd
theorem Inv.look (g : Good l a0.tmps.size) (hkl : killB l kill = true) {listed : Array Bool} {a : Act} {w : World} (h : Inv l kill C E Φ a0 listed a w) {i : Nat} {o : Oper} (ho : l[i]? = some o) (hi : ¬ On listed i)
    (hall : ∀ e ∈ o.after, Region.binds .any e = true → On listed e.on) (t : Tmp) (ht : t ∈ o.looksAt l.toArray) : LookFact l Φ a0.tmps i t (a.tmps.getD t undef) w := by
  have hlate : ∀ k o', i ≤ k → l[k]? = some o' → o'.dst = some t → ¬ On listed k := fun k o' hk ho' hd hon => by
    by_cases he : k = i
    · subst he; exact hi hon
    · exact hi (h.mask k i hon (g.tied k o' i o t ho' ho (by omega) (.inr ⟨hd, List.mem_append_right _ ht⟩)))
  unfold LookFact
  split
  · rename_i hw
    refine h.old t fun k o' ho' hd hon => ?_
    by_cases hk : k < i
    · exact writer_none _ hw k o' hk ho' hd
    · exact hlate k o' (by omega) ho' hd hon
  · rename_i k hw
    obtain ⟨hk, ⟨ok, hok, hdk⟩, hno⟩ := writer_some _ hw
    refine h.new t k ok hok hdk (h.maskReady ho hall (g.tied i o k ok t ho hok hk (.inl ⟨hdk, List.mem_append_right _ ht⟩))) (fun k' o' hkk ho' hd => ?_) (fun n hon hkn => ?_)
    · by_cases hki : k' < i
      · exact absurd hd (hno k' o' hkk hki ho')
      · exact hlate k' o' (by omega) ho' hd
    · have hne : n ≠ i := fun e => hi (e ▸ hon)
      exact hi (h.mask n i hon (kill_of hkl i n k o t ho (by have := hon.lt; rw [h.size] at this; exact this) hne hkn ht hw))
theorem Inv.put (g : Good l a0.tmps.size) (hC : ∀ n m, n < l.length → m < l.length → n ≠ m → ((masks l []).getD n 0).testBit m = false → ∀ w w', C m w → R n w w' → C m w') (hE : ∀ n listed w w', n < l.length → listed.size = l.length → ¬ On listed n → (∀ i k, On listed i ∨ i = n → ((masks l []).getD i 0).testBit k = true → On listed k) → E listed w → R n w w' → E (listed.setIfInBounds n true) w') (hΦ : ∀ n i, n < l.length → i < l.length → i ∉ kill n → i ≠ n → ((masks l []).getD i 0).testBit n = false → ∀ v w w', Φ i v w → R n w w' → Φ i v w') {listed : Array Bool} {a : Act} {w : World} (h : Inv l kill C E Φ a0 listed a w) {i : Nat} {o : Oper} (ho : l[i]? = some o) (hi : ¬ On listed i)
    (hall : ∀ e ∈ o.after, Region.binds .any e = true → On listed e.on) {v : Value} {w' : World} (hR : R i w w') (hv : Φ i v w') : Inv l kill C E Φ a0 (listed.setIfInBounds i true) (a.put o.dst v) w' := by
  have hil : i < listed.size := by rw [h.size]; exact (List.getElem?_eq_some_iff.1 ho).1
  have hget : ∀ t, o.dst ≠ some t → (a.put o.dst v).tmps.getD t undef = a.tmps.getD t undef := fun t ht => by
    cases hd : o.dst with
    | none => rfl
    | some d =>
      have hne : d ≠ t := fun e => ht (by rw [hd, e])
      simp [Act.put, Array.getElem?_setIfInBounds_ne hne]
  have hilen : i < l.length := (List.getElem?_eq_some_iff.1 ho).1
  refine ⟨by simpa using h.size, fun j oj hj hon e he hb => ?_, ?_, ?_, fun m hm hno => ?_, hE i listed w w' hilen h.size hi (fun j k hj hk => hj.elim (fun hj => h.mask j k hj hk) (fun hj => by subst hj; exact h.maskReady ho hall hk)) h.ecl hR, fun t ht => ?_, fun t k ok hk hd hon hlast hkl => ?_⟩
  · rcases (on_set hil).1 hon with rfl | hon
    · obtain rfl : o = oj := by rw [ho] at hj; exact Option.some.inj hj
      exact (on_set hil).2 (.inr (hall e he hb))
    · exact (on_set hil).2 (.inr (h.closed j oj hj hon e he hb))
  · cases hd : o.dst <;> exact h.defers
  · cases hd : o.dst with
    | none => exact h.tmps
    | some d => simpa [Act.put] using h.tmps
  · have hnm : i ≠ m := fun e => hno ((on_set hil).2 (.inl e.symm))
    have hoff : ¬ On listed m := fun h' => hno ((on_set hil).2 (.inr h'))
    refine hC i m hilen hm hnm ?_ _ _ (h.cls m hm hoff) hR
    cases hb : ((masks l []).getD i 0).testBit m with
    | false => rfl
    | true => exact absurd (h.maskReady ho hall hb) hoff
  · have hne : o.dst ≠ some t := fun hd => ht i o ho hd ((on_set hil).2 (.inl rfl))
    rw [hget t hne]
    exact h.old t fun k ok hk hd hon => ht k ok hk hd ((on_set hil).2 (.inr hon))
  · by_cases hdt : o.dst = some t
    · by_cases hki : k = i
      · subst hki
        have hroom := g.room k o t ho hdt
        have : (a.put o.dst v).tmps.getD t undef = v := by
          rw [hdt]
          simp [Act.put, h.tmps, hroom]
        rw [this]
        exact hv
      · exfalso
        rcases (on_set hil).1 hon with he | hon
        · exact hki he
        · rcases Nat.lt_or_gt_of_ne hki with hlt | hgt
          · exact hlast i o hlt ho hdt ((on_set hil).2 (.inl rfl))
          · exact hi (h.mask k i hon (g.tied k ok i o t hk ho hgt (.inl ⟨hdt, List.mem_append_left _ (by simp [hd])⟩)))
    · have hki : k ≠ i := fun e => by subst e; rw [ho] at hk; cases hk; exact hdt hd
      rw [hget t hdt]
      have hkon : On listed k := ((on_set hil).1 hon).resolve_left hki
      have hmf : ((masks l []).getD k 0).testBit i = false := by
        cases hb : ((masks l []).getD k 0).testBit i with
        | false => rfl
        | true => exact absurd (h.mask k i hkon hb) hi
      refine hΦ i k (List.getElem?_eq_some_iff.1 ho).1 (List.getElem?_eq_some_iff.1 hk).1 (hkl i ((on_set hil).2 (.inl rfl))) hki hmf _ _ _ (h.new t k ok hk hd (((on_set hil).1 hon).resolve_left hki) (fun k' o' hkk ho' hd' hon' => ?_) (fun n hn => hkl n ((on_set hil).2 (.inr hn)))) hR
      exact hlast k' o' hkk ho' hd' ((on_set hil).2 (.inr hon'))

theorem wanted_eq (a : Act) (o : Oper) : wantedR l o (fun t => a.tmps.getD t undef) = Region.wanted o (yielded l.toArray a.tmps) := by
  unfold wantedR Region.wanted yielded
  cases hg : o.guard with
  | none => rfl
  | some gw =>
    obtain ⟨g, want⟩ := gw
    simp only [List.getElem?_toArray]
    cases hd : (l[g]?).bind (·.dst) with
    | none => simp
    | some t =>
      simp only [Option.bind_some]
      cases hx : a.tmps[t]? with
      | none => simp [Array.getD_eq_getD_getElem?, hx, undef]
      | some x => cases x <;> simp [Array.getD_eq_getD_getElem?, hx]

theorem Inv.step (g : Good l a0.tmps.size) (hkl : killB l kill = true) (hC : ∀ n m, n < l.length → m < l.length → n ≠ m → ((masks l []).getD n 0).testBit m = false → ∀ w w', C m w → R n w w' → C m w') (hE : ∀ n listed w w', n < l.length → listed.size = l.length → ¬ On listed n → (∀ i k, On listed i ∨ i = n → ((masks l []).getD i 0).testBit k = true → On listed k) → E listed w → R n w w' → E (listed.setIfInBounds n true) w') (hΦ : ∀ n i, n < l.length → i < l.length → i ∉ kill n → i ≠ n → ((masks l []).getD i 0).testBit n = false → ∀ v w w', Φ i v w → R n w w' → Φ i v w') (hRr : ∀ n o w, l[n]? = some o → o.guard.isSome = true → R n w w) {listed : Array Bool} {a : Act} {w : World} (h : Inv l kill C E Φ a0 listed a w) {i : Nat} {o : Oper} (ho : l[i]? = some o) (hi : ¬ On listed i)
    (hall : ∀ e ∈ o.after, Region.binds .any e = true → On listed e.on) (hs : StepOk P l C R Φ a0.tmps i o) {K : Act → World → Prop} {Q : Exit → Act → World → Prop}
    (hK : ∀ a' w', Inv l kill C E Φ a0 (listed.setIfInBounds i true) a' w' → K a' w') : wpOp P l.toArray Q i K a w := by
  have hst := hs (fun t => a.tmps.getD t undef) w (h.cls i (List.getElem?_eq_some_iff.1 ho).1 hi) (fun t ht => h.look g hkl ho hi hall t ht)
  rw [wanted_eq, evalR_eq] at hst
  unfold wpOp
  simp only [List.getElem?_toArray, ho]
  by_cases hw : Region.wanted o (yielded l.toArray a.tmps) = true
  · rw [if_pos hw] at hst ⊢
    refine .inl ?_
    unfold Oper.wp
    generalize (execOp a.eval o).run P w = r at hst ⊢
    cases r with
    | halt x w' => exact hst.elim
    | ok n w' =>
      cases n <;> simp only [Yk] at hst <;> simp only [Oper.upon]
      case value v => exact hK _ _ (h.put g hC hE hΦ ho hi hall hst.1 hst.2)
      case skip => exact hK _ _ (h.put g hC hE hΦ ho hi hall hst.1 hst.2)
      case enter f args =>
        refine hst.mono fun e w'' hx => ?_
        obtain ⟨v, rfl, h1, h2⟩ := hx
        exact hK _ _ (h.put g hC hE hΦ ho hi hall h1 h2)
  · rw [if_neg hw] at hst ⊢
    have hgs : o.guard.isSome = true := by
      cases hgo : o.guard with
      | none => exact absurd (by unfold Region.wanted; rw [hgo]) hw
      | some x => rfl
    exact hK _ _ (h.put g hC hE hΦ ho hi hall (hRr i o w ho hgs) hst)

theorem count_set : ∀ (L : List Bool) (i : Nat), L[i]? = some false → ((L.set i true).filter (!·)).length + 1 = (L.filter (!·)).length
  | [], i, h => by simp at h
  | x :: L, 0, h => by simp at h; subst h; simp
  | x :: L, i + 1, h => by
    have ih := count_set L i (by simpa using h)
    cases x <;> simp <;> omega
theorem count_zero : ∀ (L : List Bool), (L.filter (!·)).length = 0 → ∀ i : Nat, i < L.length → L[i]? = some true
  | [], _, i, h => by simp at h
  | x :: L, h0, i, h => by
    cases x
    · simp at h0
    · cases i with
      | zero => rfl
      | succ i =>
        rw [List.getElem?_cons_succ]
        exact count_zero L (by simpa using h0) i (by simpa using h)

theorem anyInv (g : Good l a0.tmps.size) (hkl : killB l kill = true) (hC : ∀ n m, n < l.length → m < l.length → n ≠ m → ((masks l []).getD n 0).testBit m = false → ∀ w w', C m w → R n w w' → C m w') (hE : ∀ n listed w w', n < l.length → listed.size = l.length → ¬ On listed n → (∀ i k, On listed i ∨ i = n → ((masks l []).getD i 0).testBit k = true → On listed k) → E listed w → R n w w' → E (listed.setIfInBounds n true) w') (hΦ : ∀ n i, n < l.length → i < l.length → i ∉ kill n → i ≠ n → ((masks l []).getD i 0).testBit n = false → ∀ v w w', Φ i v w → R n w w' → Φ i v w') (hRr : ∀ n o w, l[n]? = some o → o.guard.isSome = true → R n w w) (hs : StepsOk P l C R Φ a0.tmps 0 l) {Q : Exit → Act → World → Prop}
    (hQ : ∀ listed a' w', (∀ i, i < l.length → On listed i) → Inv l kill C E Φ a0 listed a' w' → Q .normal a' w') :
    ∀ (fuel : Nat) (listed : Array Bool) (a : Act) (w : World), (listed.toList.filter (!·)).length = fuel → Inv l kill C E Φ a0 listed a w → wpAny P .any l.toArray Q fuel listed a w := by
  have full : ∀ (listed : Array Bool) (a : Act) (w : World), Inv l kill C E Φ a0 listed a w → Region.ready .any l.toArray listed = [] → ∀ i, i < l.length → On listed i := by
    intro listed a w h hr i
    induction i using Nat.strongRecOn with
    | _ i ih =>
      intro hi
      refine Classical.byContradiction fun hno => ?_
      have ho : l[i]? = some l[i] := List.getElem?_eq_getElem hi
      have : i ∈ Region.ready .any l.toArray listed := by
        refine mem_ready.2 ⟨?_, l[i], by rw [List.getElem?_toArray]; exact ho, fun e he hb => ?_⟩
        · have hi' : i < listed.size := by rw [h.size]; exact hi
          unfold On at hno
          simp [hi'] at hno ⊢
          exact hno
        · have hlt := g.back i _ ho e he hb
          exact ih e.on hlt (by omega)
      rw [hr] at this
      cases this
  intro fuel
  induction fuel with
  | zero =>
    intro listed a w hf h
    have hon : ∀ i, i < l.length → On listed i := fun i hi => by
      have := count_zero _ hf i (by rw [Array.length_toList, h.size]; exact hi)
      unfold On
      simp at this
      simp [this]
    have hr : Region.ready .any l.toArray listed = [] := by
      cases hr : Region.ready .any l.toArray listed with
      | nil => rfl
      | cons x xs =>
        exfalso
        have hm : x ∈ Region.ready .any l.toArray listed := by rw [hr]; simp
        obtain ⟨h1, o, ho, _⟩ := mem_ready.1 hm
        have hx : x < l.length := by simpa using (Array.getElem?_eq_some_iff.1 ho).1
        have h2 := hon x hx
        have hx' : x < listed.size := h2.lt
        unfold On at h2
        simp [hx'] at h1 h2
        rw [h1] at h2
        cases h2
    exact ⟨hr, hQ _ _ _ hon h⟩
  | succ fuel ih =>
    intro listed a w hf h
    refine ⟨fun hr => hQ _ _ _ (full listed a w h hr) h, fun i hi => ?_⟩
    obtain ⟨h1, o, ho, hall⟩ := mem_ready.1 hi
    have ho' : l[i]? = some o := by simpa using ho
    have hil : i < listed.size := by rw [h.size]; exact (List.getElem?_eq_some_iff.1 ho').1
    have hno : ¬ On listed i := by
      unfold On
      simp [hil] at h1 ⊢
      exact h1
    have hst := hs.get l 0 i o ho'
    rw [Nat.zero_add] at hst
    refine h.step g hkl hC hE hΦ hRr ho' hno (fun e he hb => hall e he hb) hst fun a' w' h' => ih _ _ _ ?_ h'
    rw [Array.toList_setIfInBounds]
    have := count_set listed.toList i (by
      simp [hil] at h1
      simp [hil, h1])
    omega

def slotsW (l : List Oper) : List Tmp := (l.filterMap (·.dst)).eraseDups
def wrote (T : Array Value) (ds : List Tmp) (u : Tmp → Value) : Array Value := ds.foldl (fun T d => T.setIfInBounds d (u d)) T
theorem wrote_size (u : Tmp → Value) : ∀ (ds : List Tmp) (T : Array Value), (wrote T ds u).size = T.size
  | [], T => rfl
  | d :: ds, T => by unfold wrote; rw [List.foldl_cons]; exact (wrote_size u ds _).trans (by simp)
theorem wrote_get (u : Tmp → Value) (t : Tmp) : ∀ (ds : List Tmp) (T : Array Value), t < T.size → (wrote T ds u).getD t undef = if t ∈ ds then u t else T.getD t undef
  | [], T, _ => by simp [wrote]
  | d :: ds, T, ht => by
    have ih := wrote_get u t ds (T.setIfInBounds d (u d)) (by simpa using ht)
    unfold wrote at ih ⊢
    rw [List.foldl_cons, ih]
    by_cases h1 : t ∈ ds
    · simp [h1]
    · by_cases h2 : t = d
      · subst h2; simp [h1, ht]
      · simp [h1, h2, Array.getElem?_setIfInBounds_ne (Ne.symm h2)]
def EndFacts (l : List Oper) (kill : Nat → List Nat) (Φ : Nat → Fact) (u : Tmp → Value) (w : World) : List Tmp → Prop
  | [] => True
  | d :: ds => (match writer l d l.length with | some k => if (List.range l.length).all (fun n => !(kill n).contains k) = true then Φ k (u d) w else True | none => True) ∧ EndFacts l kill Φ u w ds
theorem endFacts_of {u : Tmp → Value} {w : World} (h : ∀ d k, writer l d l.length = some k → (List.range l.length).all (fun n => !(kill n).contains k) = true → Φ k (u d) w) : ∀ ds, EndFacts l kill Φ u w ds
  | [] => trivial
  | d :: ds => ⟨by split; (split; (exact h d _ ‹_› ‹_›); trivial); trivial, endFacts_of h ds⟩

theorem endInv (T : Array Value) (df : List Deferred) {Q : Exit → Act → World → Prop} (ds : List Tmp) (hds : slotsW l = ds)
    (hQ : ∀ (u : Tmp → Value) listed w', (∀ i, i < l.length → On listed i) → E listed w' → EndFacts l kill Φ u w' ds → Q .normal { tmps := wrote T ds u, defers := df } w') :
    ∀ listed a' w', (∀ i, i < l.length → On listed i) → Inv l kill C E Φ { tmps := T, defers := df } listed a' w' → Q .normal a' w' := by
  intro listed a' w' hon h
  have hw : ∀ d k, writer l d l.length = some k → (List.range l.length).all (fun n => !(kill n).contains k) = true → Φ k (a'.tmps.getD d undef) w' := fun d k hk hall => by
    obtain ⟨h1, ⟨o, ho, hd⟩, h3⟩ := writer_some _ hk
    refine h.new d k o ho hd (hon k h1) (fun k' o' hkk ho' hd' _ => h3 k' o' hkk (List.getElem?_eq_some_iff.1 ho').1 ho' hd') (fun n hn hkn => ?_)
    have hnl : n < l.length := by have := hn.lt; rw [h.size] at this; exact this
    have := List.all_eq_true.1 hall n (by simpa using hnl)
    simp at this
    exact this hkn
  have hq := hQ (fun t => a'.tmps.getD t undef) listed w' hon h.ecl (endFacts_of hw ds)
  have he : a' = { tmps := wrote T ds (fun t => a'.tmps.getD t undef), defers := df } := by
    have h1 : a'.tmps = wrote T ds (fun t => a'.tmps.getD t undef) := by
      apply Array.ext (by rw [wrote_size]; exact h.tmps)
      intro t ht1 ht2
      have ht3 : t < T.size := by rw [wrote_size] at ht2; exact ht2
      have hx := wrote_get (fun t => a'.tmps.getD t undef) t ds T ht3
      have e0 : ∀ (A : Array Value) (ht : t < A.size), A.getD t undef = A[t] := fun A ht => by
        rw [Array.getD_eq_getD_getElem?, Array.getElem?_eq_getElem ht, Option.getD_some]
      rw [e0 _ ht2] at hx
      by_cases hn : t ∈ ds
      · rw [if_pos hn, e0 _ ht1] at hx
        exact hx.symm
      · rw [if_neg hn, e0 _ ht3] at hx
        have ho : a'.tmps.getD t undef = T.getD t undef := h.old t fun k o ho hd _ => hn (by
          rw [← hds]
          unfold slotsW
          rw [List.mem_eraseDups, List.mem_filterMap]
          exact ⟨o, List.mem_of_getElem? ho, hd⟩)
        rw [e0 _ ht1, e0 _ ht3] at ho
        exact ho.trans hx.symm
    have h2 := h.defers
    cases a'
    simp only at h1 h2
    subst h2
    rw [← h1]
  rw [he]
  exact hq
theorem wp_region_core (kill : Nat → List Nat) (C : Nat → World → Prop) (E : Array Bool → World → Prop) (R : Nat → World → World → Prop) (Φ : Nat → Fact) {id : Nat} {Q : Exit → Act → World → Prop} {w : World} (hm : P.follows .mixedOrders = true) (T : Array Value) (df : List Deferred)
    (hg : goodB l T.size = true) (hkl : killB l kill = true) (ds : List Tmp) (hds : slotsW l = ds) (hC : ∀ n m, n < l.length → m < l.length → n ≠ m → ((masks l []).getD n 0).testBit m = false → ∀ w w', C m w → R n w w' → C m w') (hE : ∀ n listed w w', n < l.length → listed.size = l.length → ¬ On listed n → (∀ i k, On listed i ∨ i = n → ((masks l []).getD i 0).testBit k = true → On listed k) → E listed w → R n w w' → E (listed.setIfInBounds n true) w') (hΦ : ∀ n i, n < l.length → i < l.length → i ∉ kill n → i ≠ n → ((masks l []).getD i 0).testBit n = false → ∀ v w w', Φ i v w → R n w w' → Φ i v w') (hRr : ∀ n o w, l[n]? = some o → o.guard.isSome = true → R n w w)
    (h0 : ∀ n, n < l.length → C n { w with drawn := w.drawn + 1 }) (h1 : E (Array.replicate l.toArray.size false) { w with drawn := w.drawn + 1 })
    (hs : StepsOk P l C R Φ T 0 l)
    (hQ : ∀ (u : Tmp → Value) listed w', (∀ i, i < l.length → On listed i) → E listed w' → EndFacts l kill Φ u w' ds → Q .normal { tmps := wrote T ds u, defers := df } w') : (Code.region id l.toArray true).wp P Q { tmps := T, defers := df } w := by
  have g := good_of hg
  refine wp_region_any hm (anyInv (a0 := { tmps := T, defers := df }) g hkl hC hE hΦ hRr hs (fun listed a' w' hon h => ?_) _ _ _ _ (by simp) ?_)
  · exact endInv T df ds hds hQ listed a' w' hon h
  · have hno : ∀ i, ¬ On (Array.replicate l.toArray.size false) i := fun i h => by
      unfold On at h
      rw [Array.getD_eq_getD_getElem?, Array.getElem?_replicate] at h
      split at h <;> simp at h
    exact ⟨Array.size_replicate, fun i o _ h => absurd h (hno i), rfl, rfl, fun n hn _ => h0 n hn, h1, fun t _ => rfl, fun t k o _ _ h => absurd h (hno k)⟩
theorem wp_region_facts (kill : Nat → List Nat) (C : World → Prop) (R : Nat → World → World → Prop) (Φ : Nat → Fact) {id : Nat} {Q : Exit → Act → World → Prop} {w : World} (hm : P.follows .mixedOrders = true) (T : Array Value) (df : List Deferred)
    (hg : goodB l T.size = true) (hkl : killB l kill = true) (ds : List Tmp) (hds : slotsW l = ds) (hC : ∀ n w w', C w → R n w w' → C w') (hΦ : ∀ n i, n < l.length → i < l.length → i ∉ kill n → i ≠ n → ((masks l []).getD i 0).testBit n = false → ∀ v w w', Φ i v w → R n w w' → Φ i v w') (hRr : ∀ n o w, l[n]? = some o → o.guard.isSome = true → R n w w) (h0 : C { w with drawn := w.drawn + 1 })
    (hs : StepsOk P l (fun _ => C) R Φ T 0 l)
    (hQ : ∀ (u : Tmp → Value) w', C w' → EndFacts l kill Φ u w' ds → Q .normal { tmps := wrote T ds u, defers := df } w') : (Code.region id l.toArray true).wp P Q { tmps := T, defers := df } w :=
  wp_region_core kill (fun _ => C) (fun _ => C) R Φ hm T df hg hkl ds hds (fun n _ _ _ _ _ => hC n) (fun n _ w w' _ _ _ _ => hC n w w') hΦ hRr (fun _ _ => h0) h0 hs (fun u _ w' _ => hQ u w')
theorem Yk.value {K : Value → World → Prop} {r : Result Next} {v : Value} {w' : World} (hr : r = .ok (.value v) w') (h : K v w') : Yk P K r := by rw [hr]; exact h
theorem Yk.enter {K : Value → World → Prop} {r : Result Next} {f : FuncId} {args : Array Value} {w' : World} (hr : r = .ok (.enter f args) w') (h : Calls P f args w' fun e w'' => ∃ v, e = .returned v ∧ K v w'') : Yk P K r := by rw [hr]; exact h
end
def Plain (P : Program) (f : FuncId) : Prop := ∀ xs w, (callFunc f xs).run P w = .ok (.enter f xs) w
theorem run_execCall {P : Program} {f : FuncId} (hp : Plain P f) (ρ : Operand → Value) (args : List Operand) (at_ : Array TypeId) (dst : Option Tmp) (ty : TypeId) (pos : String) (af : Array Edge) (gd : Option (Nat × Bool)) (w : World)
    (hρ : ρ (.func f) = .func (.func f) #[] #[]) : (execOp ρ ⟨dst, .call ⟨.value (.func f), args.toArray, at_⟩, ty, pos, af, gd⟩).run P w = .ok (.enter f (args.map ρ).toArray) w := by
  simp [execOp, resolve, invoke, Deferred.ofValue, hρ, hp _ w]
theorem Yk.call {P : Program} {K : Value → World → Prop} {f : FuncId} (hp : Plain P f) {ρ : Tmp → Value} {args : List Operand} {at_ : Array TypeId} {dst : Option Tmp} {ty : TypeId} {pos : String} {af : Array Edge} {gd : Option (Nat × Bool)} {w : World}
    (h : Calls P f (args.map (evalR ρ)).toArray w fun e w'' => ∃ v, e = .returned v ∧ K v w'') : Yk P K ((execOp (evalR ρ) ⟨dst, .call ⟨.value (.func f), args.toArray, at_⟩, ty, pos, af, gd⟩).run P w) :=
  Yk.enter (run_execCall hp (evalR ρ) args at_ dst ty pos af gd w rfl) h

def Stab (R : World → World → Prop) (φ : Fact) : Prop := ∀ v w w', φ v w → R w w' → φ v w'
theorem Stab.is {R : World → World → Prop} (v : Value) : Stab R (Is v) := fun _ _ _ h _ => h
theorem Stab.any {R : World → World → Prop} : Stab R (fun _ _ => True) := fun _ _ _ _ _ => trivial
def AllStab (R : World → World → Prop) : List Fact → Prop
  | [] => True
  | φ :: r => Stab R φ ∧ AllStab R r
theorem si2 {R : World → World → Prop} {v0 v1 : Value} {Φs : List Fact} (h : AllStab R Φs) : AllStab R (Is v0 :: Is v1 :: Φs) := ⟨Stab.is _, Stab.is _, h⟩
theorem si3 {R : World → World → Prop} {v0 v1 v2 : Value} {Φs : List Fact} (h : AllStab R Φs) : AllStab R (Is v0 :: Is v1 :: Is v2 :: Φs) := ⟨Stab.is _, Stab.is _, Stab.is _, h⟩
theorem si4 {R : World → World → Prop} {v0 v1 v2 v3 : Value} {Φs : List Fact} (h : AllStab R Φs) : AllStab R (Is v0 :: Is v1 :: Is v2 :: Is v3 :: Φs) := ⟨Stab.is _, Stab.is _, Stab.is _, Stab.is _, h⟩
theorem si5 {R : World → World → Prop} {v0 v1 v2 v3 v4 : Value} {Φs : List Fact} (h : AllStab R Φs) : AllStab R (Is v0 :: Is v1 :: Is v2 :: Is v3 :: Is v4 :: Φs) := ⟨Stab.is _, Stab.is _, Stab.is _, Stab.is _, Stab.is _, h⟩
theorem si6 {R : World → World → Prop} {v0 v1 v2 v3 v4 v5 : Value} {Φs : List Fact} (h : AllStab R Φs) : AllStab R (Is v0 :: Is v1 :: Is v2 :: Is v3 :: Is v4 :: Is v5 :: Φs) := ⟨Stab.is _, Stab.is _, Stab.is _, Stab.is _, Stab.is _, Stab.is _, h⟩
theorem si7 {R : World → World → Prop} {v0 v1 v2 v3 v4 v5 v6 : Value} {Φs : List Fact} (h : AllStab R Φs) : AllStab R (Is v0 :: Is v1 :: Is v2 :: Is v3 :: Is v4 :: Is v5 :: Is v6 :: Φs) := ⟨Stab.is _, Stab.is _, Stab.is _, Stab.is _, Stab.is _, Stab.is _, Stab.is _, h⟩
theorem si8 {R : World → World → Prop} {v0 v1 v2 v3 v4 v5 v6 v7 : Value} {Φs : List Fact} (h : AllStab R Φs) : AllStab R (Is v0 :: Is v1 :: Is v2 :: Is v3 :: Is v4 :: Is v5 :: Is v6 :: Is v7 :: Φs) := ⟨Stab.is _, Stab.is _, Stab.is _, Stab.is _, Stab.is _, Stab.is _, Stab.is _, Stab.is _, h⟩
theorem si9 {R : World → World → Prop} {v0 v1 v2 v3 v4 v5 v6 v7 v8 : Value} {Φs : List Fact} (h : AllStab R Φs) : AllStab R (Is v0 :: Is v1 :: Is v2 :: Is v3 :: Is v4 :: Is v5 :: Is v6 :: Is v7 :: Is v8 :: Φs) := ⟨Stab.is _, Stab.is _, Stab.is _, Stab.is _, Stab.is _, Stab.is _, Stab.is _, Stab.is _, Stab.is _, h⟩
theorem si10 {R : World → World → Prop} {v0 v1 v2 v3 v4 v5 v6 v7 v8 v9 : Value} {Φs : List Fact} (h : AllStab R Φs) : AllStab R (Is v0 :: Is v1 :: Is v2 :: Is v3 :: Is v4 :: Is v5 :: Is v6 :: Is v7 :: Is v8 :: Is v9 :: Φs) := ⟨Stab.is _, Stab.is _, Stab.is _, Stab.is _, Stab.is _, Stab.is _, Stab.is _, Stab.is _, Stab.is _, Stab.is _, h⟩
theorem si12 {R : World → World → Prop} {v0 v1 v2 v3 v4 v5 v6 v7 v8 v9 v10 v11 : Value} {Φs : List Fact} (h : AllStab R Φs) : AllStab R (Is v0 :: Is v1 :: Is v2 :: Is v3 :: Is v4 :: Is v5 :: Is v6 :: Is v7 :: Is v8 :: Is v9 :: Is v10 :: Is v11 :: Φs) := ⟨Stab.is _, Stab.is _, Stab.is _, Stab.is _, Stab.is _, Stab.is _, Stab.is _, Stab.is _, Stab.is _, Stab.is _, Stab.is _, Stab.is _, h⟩
theorem AllStab.get {R : World → World → Prop} : ∀ (Φs : List Fact), AllStab R Φs → ∀ i, Stab R (Φs.getD i (fun _ _ => True))
  | [], _, i => by simpa using Stab.any
  | φ :: r, h, 0 => h.1
  | φ :: r, h, i + 1 => by simpa using AllStab.get r h.2 i
def facts (Φs : List Fact) (i : Nat) : Fact := Φs.getD i (fun _ _ => True)
def Ext (w w' : World) : Prop := Below w.heap.size w w'
theorem Ext.refl (w : World) : Ext w w := Below.refl _ _
theorem Ext.trans {a b c : World} (h : Ext a b) (k : Ext b c) : Ext a c := Below.trans h (k.mono h.size)

theorem wp_region_ext {P : Program} {l : List Oper} (Φs : List Fact) {id : Nat} {Q : Exit → Act → World → Prop} {w : World} (hm : P.follows .mixedOrders = true) (T : Array Value) (df : List Deferred)
    (hg : goodB l T.size = true) (ds : List Tmp) (hds : slotsW l = ds) (hst : AllStab Ext Φs) (hs : StepsOk P l (fun _ => Ext w) (fun _ => Ext) (facts Φs) T 0 l)
    (hQ : ∀ (u : Tmp → Value) w', Ext w w' → EndFacts l (fun _ => []) (facts Φs) u w' ds → Q .normal { tmps := wrote T ds u, defers := df } w') : (Code.region id l.toArray true).wp P Q { tmps := T, defers := df } w :=
  wp_region_facts (fun _ => []) (Ext w) (fun _ => Ext) (facts Φs) hm T df hg
    (by unfold killB; simp) ds hds (fun _ _ _ h k => h.trans k) (fun _ i _ _ _ _ _ => hst.get Φs i) (fun _ _ w _ _ => Ext.refl w) (Below.refl _ _).drew hs hQ
def lastB (l : List Oper) (n : Nat) : Bool := l.length == n + 1 && (List.range n).all fun m => ((masks l []).getD n 0).testBit m
theorem lastB_iff {l : List Oper} {n : Nat} (h : lastB l n = true) : l.length = n + 1 ∧ ∀ m, m < n → ((masks l []).getD n 0).testBit m = true := by
  unfold lastB at h
  simp only [Bool.and_eq_true, beq_iff_eq, List.all_eq_true, List.mem_range] at h
  exact h
theorem On.not_replicate {n i : Nat} : ¬ On (Array.replicate n false) i := fun h => by
  unfold On at h
  rw [Array.getD_eq_getD_getElem?, Array.getElem?_replicate] at h
  split at h <;> simp at h
open Classical in
theorem lastE {l : List Oper} {n : Nat} (hn : lastB l n = true) {S : World → World → Prop} {w : World} (k : Nat) (listed : Array Bool) (w1 w' : World) (hk : k < l.length) (hsz : listed.size = l.length) (hoff : ¬ On listed k)
    (hm : ∀ i j, On listed i ∨ i = k → ((masks l []).getD i 0).testBit j = true → On listed j) (hE : if On listed n then ∃ w2, Ext w w2 ∧ S w2 w1 else Ext w w1) (hR : (if k = n then S else Ext) w1 w') :
    if On (listed.setIfInBounds k true) n then ∃ w2, Ext w w2 ∧ S w2 w' else Ext w w' := by
  obtain ⟨hl, hb⟩ := lastB_iff hn
  by_cases hkn : k = n
  · subst hkn
    rw [if_neg hoff] at hE
    rw [if_pos rfl] at hR
    by_cases h : On (listed.setIfInBounds k true) k
    · rw [if_pos h]; exact ⟨_, hE, hR⟩
    · exact absurd ((on_set (by omega)).2 (.inl rfl)) h
  · have hno : ¬ On listed n := fun h => hoff (hm n k (.inl h) (hb k (by omega)))
    rw [if_neg hno] at hE
    rw [if_neg hkn] at hR
    rw [if_neg]
    · exact hE.trans hR
    · intro h
      exact ((on_set (by omega)).1 h).elim (fun e => hkn e.symm) hno
open Classical in
theorem wp_region_store {P : Program} {l : List Oper} (n : Nat) (S : World → World → Prop) (Φs : List Fact) {id : Nat} {Q : Exit → Act → World → Prop} {w : World} (hm : P.follows .mixedOrders = true) (T : Array Value) (df : List Deferred)
    (hg : goodB l T.size = true) (hn : lastB l n = true) (ds : List Tmp) (hds : slotsW l = ds) (hSr : (l[n]?.bind (·.guard)) = none) (hst : AllStab Ext Φs) (hsS : AllStab S Φs) (hs : StepsOk P l (fun _ => Ext w) (fun k => if k = n then S else Ext) (facts Φs) T 0 l)
    (hQ : ∀ (u : Tmp → Value) w1 w', Ext w w1 → S w1 w' → EndFacts l (fun _ => []) (facts Φs) u w' ds → Q .normal { tmps := wrote T ds u, defers := df } w') : (Code.region id l.toArray true).wp P Q { tmps := T, defers := df } w := by
  obtain ⟨hl, hb⟩ := lastB_iff hn
  refine wp_region_core (fun _ => []) (fun _ => Ext w) (fun listed w' => if On listed n then ∃ w2, Ext w w2 ∧ S w2 w' else Ext w w') (fun k => if k = n then S else Ext) (facts Φs) hm T df hg (by unfold killB; simp) ds hds
    (fun k m hk hm hne hbit w1 w' hc hr => ?_) (fun k listed w1 w' hk hsz hoff hm hE hR => lastE hn k listed w1 w' hk hsz hoff hm hE hR) (fun k i _ _ _ _ _ v w1 w' => ?_) (fun k o w1 ho hgo => ?_) (fun _ _ => (Below.refl _ _).drew) (by rw [if_neg On.not_replicate]; exact (Below.refl _ _).drew) hs (fun u listed w' hall hE => ?_)
  · by_cases hkn : k = n
    · subst hkn
      rw [hb m (by omega)] at hbit
      cases hbit
    · rw [if_neg hkn] at hr
      exact hc.trans hr
  · by_cases hkn : k = n
    · rw [if_pos hkn]; exact hsS.get Φs i v w1 w'
    · rw [if_neg hkn]; exact hst.get Φs i v w1 w'
  · by_cases hkn : k = n
    · subst hkn; rw [ho] at hSr; simp only [Option.bind_some] at hSr; rw [hSr] at hgo; cases hgo
    · rw [if_neg hkn]; exact Ext.refl w1
  · rw [if_pos (hall n (by omega))] at hE
    obtain ⟨w1, h1, h2⟩ := hE
    exact hQ u w1 w' h1 h2
def midB (l : List Oper) (k : Nat) : Bool := ((List.range k).all fun m => ((masks l []).getD k 0).testBit m) && ((List.range l.length).all fun i => decide (i ≤ k) || ((masks l []).getD i 0).testBit k)
theorem midB_iff {l : List Oper} {k : Nat} (h : midB l k = true) : (∀ m, m < k → ((masks l []).getD k 0).testBit m = true) ∧ ∀ i, k < i → i < l.length → ((masks l []).getD i 0).testBit k = true := by
  unfold midB at h
  simp only [Bool.and_eq_true, List.all_eq_true, List.mem_range, Bool.or_eq_true, decide_eq_true_eq] at h
  exact ⟨h.1, fun i hi hl => (h.2 i hl).resolve_left (by omega)⟩
theorem wp_region_mid {P : Program} {l : List Oper} (k : Nat) (Φs : List Fact) {id : Nat} {Q : Exit → Act → World → Prop} {w : World} (hm : P.follows .mixedOrders = true) (T : Array Value) (df : List Deferred)
    (hg : goodB l T.size = true) (hk : midB l k = true) (ds : List Tmp) (hds : slotsW l = ds) (hst : AllStab Ext Φs) (hsT : AllStab (fun _ _ => True) (Φs.take k)) (hgk : (l[k]?.bind (·.guard)) = none)
    (hs : StepsOk P l (fun m => if m ≤ k then Ext w else fun _ => True) (fun n => if n = k then fun _ _ => True else Ext) (facts Φs) T 0 l)
    (hQ : ∀ (u : Tmp → Value) w', EndFacts l (fun _ => []) (facts Φs) u w' ds → Q .normal { tmps := wrote T ds u, defers := df } w') : (Code.region id l.toArray true).wp P Q { tmps := T, defers := df } w := by
  have hm1 := midB_iff hk
  refine wp_region_core (fun _ => []) (fun m => if m ≤ k then Ext w else fun _ => True) (fun _ _ => True) (fun n => if n = k then fun _ _ => True else Ext) (facts Φs) hm T df hg (by unfold killB; simp) ds hds
    (fun n m hn hm hne hbit w1 w' hc hr => ?_) (fun _ _ _ _ _ _ _ _ _ _ => trivial) (fun n i hn hi _ hine hbit v w1 w' => ?_) (fun n o w1 ho hgo => ?_) (fun n _ => ?_) trivial hs (fun u listed w' _ _ => hQ u w')
  · by_cases hmk : m ≤ k
    · rw [if_pos hmk] at hc ⊢
      by_cases hnk : n = k
      · subst hnk
        rw [hm1.1 m (by omega)] at hbit
        cases hbit
      · rw [if_neg hnk] at hr
        exact hc.trans hr
    · rw [if_neg hmk]
      trivial
  · by_cases hnk : n = k
    · rw [if_pos hnk]
      subst hnk
      by_cases hik : i < n
      · have := hsT.get _ i v w1 w'
        rw [show facts Φs i = (Φs.take n).getD i (fun _ _ => True) by simp [facts, List.getD_eq_getElem?_getD, hik]]
        exact this
      · rw [hm1.2 i (by omega) hi] at hbit
        cases hbit
    · rw [if_neg hnk]; exact hst.get Φs i v w1 w'
  · by_cases hnk : n = k
    · subst hnk; rw [ho] at hgk; simp only [Option.bind_some] at hgk; rw [hgk] at hgo; cases hgo
    · rw [if_neg hnk]; exact Ext.refl w1
  · by_cases hnk : n ≤ k
    · rw [if_pos hnk]; exact (Below.refl _ _).drew
    · rw [if_neg hnk]; trivial
open Go.RowKit
variable {P : Program}
theorem run_conv {w : World} {src dst e : TypeId} (hs : P.underlying src = some (.slice e)) (he : P.underlying e = some (.int .u8)) (hd : P.underlying dst = some .string) {v : Value} {l : List UInt8} (h : RB w v l) :
    (convert src dst v).run P w = .ok (.string ⟨l.toArray⟩) w := by
  obtain ⟨h1, ao, cap, rfl, h2, h3, h4, h5⟩ := h
  cases ao with
  | none =>
    obtain ⟨h6, rfl⟩ := h4 rfl
    have : l = [] := List.eq_nil_of_length_eq_zero h6
    subst this
    rw [run_convert_bytes_string w src dst e _ _ _ hs he hd]
    simp [Conv.bytesToString, Sem.run_pure]
    rfl
  | some a => exact run_convert_bytes_back w src dst e a cap l hs he hd (fun j hj => h5 a rfl j _ (by simp [Lib.byteCells, hj]))
theorem bytes_append (a b : List UInt8) : (⟨a.toArray⟩ : ByteArray) ++ ⟨b.toArray⟩ = ⟨(a ++ b).toArray⟩ := by
  apply ByteArray.ext
  rw [ByteArray.data_append]
  simp
theorem Yk.concat {K : Value → World → Prop} {ρ : Tmp → Value} {t ty2 : TypeId} {x y : Operand} {d : Option Tmp} {ty : TypeId} {pos : String} {af : Array Edge} {gd : Option (Nat × Bool)} {w : World} {l1 l2 : List UInt8}
    (hx : evalR ρ x = .string ⟨l1.toArray⟩) (hy : evalR ρ y = .string ⟨l2.toArray⟩) (hb : l1.length + l2.length ≤ 9223372036854775807) (hk : K (.string ⟨(l1 ++ l2).toArray⟩) w) : Yk P K ((execOp (evalR ρ) ⟨d, .binOp .add t x y ty2, ty, pos, af, gd⟩).run P w) := by
  refine Yk.value (v := .string ⟨(l1 ++ l2).toArray⟩) (w' := w) ?_ hk
  have hr := run_string_add_sum (P := P) (w := w) ⟨l1.toArray⟩ ⟨l2.toArray⟩ (show l1.toArray.size + l2.toArray.size ≤ _ from hb)
  rw [bytes_append] at hr
  simp [execOp, hx, hy, eqGuard, binOp, hr]

theorem Yk.append {K : Value → World → Prop} {ρ : Tmp → Value} (s x : Operand) {t tx : TypeId} {d : Option Tmp} {ty : TypeId} {pos : String} {af : Array Edge} {gd : Option (Nat × Bool)} {w : World}
    (base : Nat) (e : TypeId) (z : Value) (size bytes : Nat) (ht : P.underlying t = some (.slice e)) (hi : (P.info? e).map (fun i => (i.zero, i.size, i.bytes)) = some (some z, size, bytes)) (hzs : z.cells.size = size)
    (n : Nat) (xs : List Value) (hown : w.ownsRow base e size (evalR ρ s) n xs) (m : Nat) (news : List Value) (hsrc : Src P size tx (evalR ρ x) m news w)
    (h63 : n + m ≤ maxLen) (hbytes : (n + m) * bytes ≤ 140737488355328) (hbase : base ≤ w.heap.size)
    (h : ∀ v' w', w'.ownsRow base e size v' (n + m) (xs ++ news) → Grew w w' (evalR ρ s) v' → K v' w') :
    Yk P K ((execOp (evalR ρ) ⟨d, .call ⟨.builtin .append, [s, x].toArray, [t, tx].toArray⟩, ty, pos, af, gd⟩).run P w) := by
  obtain ⟨i, hi, hz, hsize, hby⟩ := info_parts hi
  obtain ⟨v', w', hr, h2, h3⟩ := run_append_src (P := P) w base t tx ty e i z size bytes ht hi hz hsize hby hzs (evalR ρ s) n xs hown (evalR ρ x) m news hsrc h63 hbytes hbase
  refine Yk.value (v := v') (w' := w') ?_ (h v' w' h2 h3)
  unfold execOp
  simp only [resolve, invoke, builtin, Sem.run_bind, Sem.run_pure, Result.andThen_ok, List.map_toArray, List.map_cons, List.map_nil, hr]

theorem Ext.grown {w w' : World} (h : Ext w w') : w.grownBy w' none := ⟨h.os, h.tape, h.output, h.size, fun k hk _ => h.block k hk⟩
theorem Ext.of {w w' : World} (h : w.grownBy w' none) : Ext w w' := (Below.refl _ _).grown h (Nat.le_refl _) (fun k hk => by cases hk)
theorem Stab.own (base : Nat) (e : TypeId) (size : Nat) (n : Nat) (xs : List Value) : Stab Ext (fun x w => w.ownsRow base e size x n xs) := fun v _ _ h k => h.kept k.grown (by cases v.ownBlock <;> simp)
theorem NewB.ext {e : TypeId} {w w' : World} {v : Value} {l : List UInt8} (h : NewB e w w' v l) : Ext w w' := h.below

theorem Ext.blk' {w w' : World} (h : Ext w w') {b : Nat} {o : Obj} (hb : w.heap[b]? = some o) : w'.heap[b]? = some o :=
  (h.block b (Array.getElem?_eq_some_iff.1 hb).1).trans hb
theorem eb {w w' : World} (h : Ext w w') {b : Nat} {o : Obj} (hb : w.heap[b]? = some o) : w'.heap[b]? = some o := Ext.blk' h hb
theorem Yk.copyB {K : Value → World → Prop} {ρ : Tmp → Value} (s x : Operand) {dT sT elem : TypeId} {d : Option Tmp} {ty : TypeId} {pos : String} {af : Array Edge} {gd : Option (Nat × Bool)} {w : World}
    (hu : P.underlying dT = some (.slice elem)) (hsz : (P.info? elem).map (·.size) = some 1) {g o dLen dCap : Nat} (hs : evalR ρ s = .slice (some ⟨g, o, none⟩) dLen dCap) {l : List UInt8} (hx : RB w (evalR ρ x) l)
    {cur : Array Value} {t : TypeId} (hg : w.heap[g]? = some (.cells cur t (0, 0))) (hfit : o + Nat.min l.length dLen ≤ cur.size)
    (h : K (goInt (Nat.min l.length dLen)) (w.setRow g (cur.toList.take o ++ Lib.byteCells (l.take dLen) ++ cur.toList.drop (o + Nat.min l.length dLen)).toArray)) :
    Yk P K ((execOp (evalR ρ) ⟨d, .call ⟨.builtin .copy, [s, x].toArray, [dT, sT].toArray⟩, ty, pos, af, gd⟩).run P w) := by
  obtain ⟨h1, ao, cap, hv, h2, h3, h4, h5⟩ := hx
  have hlen : (Lib.byteCells (l.take dLen)).length = Nat.min l.length dLen := by rw [Lib.byteCells_length, List.length_take]; exact Nat.min_comm _ _
  refine Yk.value (v := goInt (Nat.min l.length dLen)) (w' := w.setRow g (cur.toList.take o ++ Lib.byteCells (l.take dLen) ++ cur.toList.drop (o + Nat.min l.length dLen)).toArray) ?_ h
  have hrun : (Builtin.copy_ #[dT, sT] ty #[.slice (some ⟨g, o, none⟩) dLen dCap, .slice ao l.length cap]).run P w = .ok (goInt (Nat.min l.length dLen)) (w.setRow g (cur.toList.take o ++ Lib.byteCells (l.take dLen) ++ cur.toList.drop (o + Nat.min l.length dLen)).toArray) := by
    cases ao with
    | none =>
      obtain ⟨h6, rfl⟩ := h4 rfl
      have : l = [] := List.eq_nil_of_length_eq_zero h6
      subst this
      have hr := run_copy_nil (P := P) w dT sT ty elem ⟨g, o, none⟩ dLen dCap hu (by rw [hsz]; rfl)
      have e : (cur.toList.take o ++ Lib.byteCells ([].take dLen) ++ cur.toList.drop (o + Nat.min ([] : List UInt8).length dLen)).toArray = cur := by
        simp [Lib.byteCells]
      rw [e, setRow_self w g cur t (0, 0) hg]
      simpa using hr
    | some a =>
      have hr := run_copy_row (P := P) w dT sT ty elem g o dLen dCap a l.length cap cur t (Lib.byteCells (l.take dLen)) hu hsz hg hlen (fun j v hj => h5 a rfl j v (by
        have hj' := hj
        simp only [Lib.byteCells, List.map_take, List.getElem?_take] at hj'
        split at hj'
        · exact hj'
        · cases hj')) (by rw [hlen]; exact hfit) (byteCells_one _)
      rw [hlen] at hr
      exact hr
  unfold execOp
  simp only [resolve, invoke, builtin, Sem.run_bind, Sem.run_pure, Result.andThen_ok, List.map_toArray, List.map_cons, List.map_nil, hs, hv, hrun]

/-! ### Whole arrays and structs in blocks of their own -/
theorem run_storeAt_row (w : World) (g : Nat) (ty : TypeId) (cells cur : Array Value) (t : TypeId) (hg : w.heap[g]? = some (.cells cur t (0, 0))) (hs : cells.size = cur.size) (hi : (P.info? ty).map (·.size) = some cells.size) (h1 : ∀ v ∈ cells.toList, v.oneCell' = true) :
    (Instr.storeAt ty (.pointer (some ⟨g, 0, none⟩)) (.agg cells)).run P w = .ok () (w.setRow g cells) := by
  have hst := run_storeCells_at P g 0 t cells.toList 0 cur w hg (by simp [hs]) h1
  have e : (cur.toList.take (0 + 0) ++ cells.toList ++ cur.toList.drop (0 + 0 + cells.toList.length)).toArray = cells := by
    simp
    rw [List.drop_of_length_le (by simp [hs])]
    simp
  rw [e] at hst
  cases hq : P.info? ty with
  | none => simp [hq] at hi
  | some i =>
    have hs : cells.size = i.size := by simp [hq] at hi; omega
    simp [Instr.storeAt, Instr.sureAddr, storeVar, sizeOf, typeInfo, hq, Value.cells, hs, hst]
/-! ### Slices of slices -/
theorem addr_add_add (a : Addr) (m n : Nat) : (a.add m).add n = a.add (m + n) := by
  cases a with
  | mk b o sp =>
    unfold Addr.add
    split <;> split <;> simp_all
    all_goals (try omega)
theorem run_reslice_readsB {t e : TypeId} {size : Nat} (ht : P.underlying t = some (.slice e)) (he : ∀ w' : World, (sizeOf e).run P w' = .ok size w') {w : World} {v : Value} {n : Nat} {xs : List Value} (hr : Reads w size v n xs) (lo hi : Option Value) (l h : Nat) (hlh : l ≤ h) (hn : h ≤ n)
    (hlo : lo = none ∧ l = 0 ∨ ∃ k, lo = some (.int k l)) (hhi : hi = none ∧ h = n ∨ ∃ k, hi = some (.int k h)) :
    ∃ ao c, ((Instr.sliceAt t v lo hi none).run P w = .ok (.slice ao (h - l) c) w ∧ (Value.slice ao (h - l) c).ownBlock = v.ownBlock) ∧ Reads w size (.slice ao (h - l) c) (h - l) ((xs.drop (l * size)).take ((h - l) * size)) := by
  obtain ⟨h1, ao, cap, rfl, h2, h3, h4, h5⟩ := hr
  have hE : P.elem t = e := by simp [Program.elem, ht]
  have ht' : P.underlying t = some (.slice (P.elem t)) := by rw [hE]; exact ht
  refine ⟨if cap = l then ao else ao.map (·.add (l * size)), cap - l, ⟨?_, ?_⟩, ?_, _, _, rfl, by omega, by omega, ?_, ?_⟩
  · rw [run_sliceAt_slice (P := P) w t _ _ _ _ ht']
    have hl' : (l : Int) ≤ (h : Int) := by omega
    have hh' : (h : Int) ≤ (cap : Int) := by omega
    have hn' : (l : Int) ≤ (n : Int) := by omega
    rcases hlo with ⟨rfl, rfl⟩ | ⟨k, rfl⟩ <;> rcases hhi with ⟨rfl, rfl⟩ | ⟨k', rfl⟩
    · rw [run_slice_all (P := P) w t ao h cap ht', hE, he]
      simp [Result.andThen, sliced]
    · rw [run_slice_h (P := P) w t ao n cap ht' k' h (by omega) hh', hE, he]
      simp [Result.andThen, sliced]
    · rw [run_slice_l (P := P) w t ao h cap ht' k l (by omega) hl', hE, he]
      simp [Result.andThen, sliced]
    · rw [run_slice_lh (P := P) w t ao n cap ht' k k' l h (by omega) hl' hh', hE, he]
      simp [Result.andThen, sliced]
  · cases ao with
    | none => simp [Value.ownBlock]
    | some x =>
      split
      · rfl
      · simp only [Option.map_some, Value.ownBlock, Option.some.injEq]
        unfold Addr.add
        split <;> rfl
  · rw [List.length_take, List.length_drop, h1]
    have : (h - l) * size ≤ n * size - l * size := by rw [← Nat.sub_mul]; exact Nat.mul_le_mul_right _ (by omega)
    omega
  · intro hnone
    have : ao = none := by
      cases ao with
      | none => rfl
      | some x => split at hnone <;> simp at hnone
    obtain ⟨h6, h7⟩ := h4 this
    omega
  · intro a ha j u hu
    have hj : j < ((xs.drop (l * size)).take ((h - l) * size)).length := (List.getElem?_eq_some_iff.1 hu).1
    have hj2 : j < (h - l) * size := by rw [List.length_take] at hj; omega
    have hhl : h - l ≠ 0 := fun e => by rw [e] at hj2; simp at hj2
    rw [if_neg (by omega)] at ha
    cases ao with
    | none => simp at ha
    | some x =>
      simp at ha
      subst ha
      rw [addr_add_add]
      refine h5 x rfl _ _ ?_
      rw [List.getElem?_take, if_pos hj2, List.getElem?_drop] at hu
      exact hu
theorem RB.take_drop {w : World} {v : Value} {xs : List UInt8} {l h : Nat} (hn : h ≤ xs.length) (hR : Reads w 1 v (h - l) (((Lib.byteCells xs).drop (l * 1)).take ((h - l) * 1))) : RB w v ((xs.drop l).take (h - l)) := by
  have e1 : ((xs.drop l).take (h - l)).length = h - l := by rw [List.length_take, List.length_drop]; omega
  unfold RB
  rw [e1]
  have e2 : Lib.byteCells ((xs.drop l).take (h - l)) = ((Lib.byteCells xs).drop (l * 1)).take ((h - l) * 1) := by
    simp [Lib.byteCells, List.map_take, List.map_drop]
  rw [e2]
  exact hR
theorem RB.kept {w w' : World} {v : Value} {l : List UInt8} (h : RB w v l) {row : Option Nat} (hg : w.grownBy w' row) (hv : v.ownBlock = none ∨ v.ownBlock ≠ row) : RB w' v l := by
  obtain ⟨h1, ao, cap, rfl, h2, h3, h4, h5⟩ := h
  refine ⟨h1, ao, cap, rfl, h2, h3, h4, fun a ha j u hu => ?_⟩
  have hc := h5 a ha j u hu
  subst ha
  have hlt := World.block_lt_of_cell? w _ hc
  have hbl : (a.add j).block = a.block := by unfold Addr.add; split <;> rfl
  have hne : (some a.block) ≠ row := by
    rcases hv with hv | hv
    · cases hv
    · exact hv
  rw [hbl] at hlt
  rw [World.cell?_of_block (w := w) (by rw [hbl]; exact hg.block a.block hlt hne)]
  exact hc
theorem row_none {w w' : World} (h : w.grownBy w' none) (row : Option Nat) : w.grownBy w' row := ⟨h.os, h.tape, h.output, h.size, fun k hk _ => h.block k hk (by simp)⟩
theorem RB.open_ {w : World} {v : Value} {l : List UInt8} (h : RB w v l) (hl : 0 < l.length) : ∃ b off cap, v = .slice (some ⟨b, off, none⟩) l.length cap ∧ l.length ≤ cap ∧ cap ≤ 9223372036854775807 ∧ b < w.heap.size ∧ ∀ i, i < l.length → w.cell? ⟨b, off + i, none⟩ = some (.int .u8 ((l.getD i 0).toNat : Int)) := by
  obtain ⟨h1, ao, cap, rfl, h2, h3, h4, h5⟩ := h
  cases ao with
  | none => have := (h4 rfl).1; omega
  | some a =>
    obtain ⟨b, off, sp⟩ := a
    have hc : ∀ i, i < l.length → w.cell? ((⟨b, off, sp⟩ : Addr).add i) = some (.int .u8 ((l.getD i 0).toNat : Int)) := fun i hi => h5 _ rfl i _ (by simp [Lib.byteCells, hi])
    have hsp : sp = none := by
      have := hc 0 hl
      simpa [Addr.add] using World.cell?_spot this
    subst hsp
    refine ⟨b, off, cap, rfl, h2, by simpa [maxLen] using h3, World.block_lt_of_cell? w _ (hc 0 hl), fun i hi => ?_⟩
    have := hc i hi
    rwa [Addr.add_lit] at this
open Go.RowKit
abbrev Slots := Tmp → Value
def upd (ρ : Slots) (d : Tmp) (v : Value) : Slots := fun t => cond (Nat.beq t d) v (ρ t)
def updO (ρ : Slots) (d : Option Tmp) (v : Value) : Slots := match d with
  | none => ρ
  | some d => upd ρ d v
structure Fits (n : Nat) (ρ : Slots) (a : Act) : Prop where
  size : a.tmps.size = n
  defers : a.defers = []
  get : ∀ t, a.tmps.getD t undef = ρ t
theorem Fits.eval {n : Nat} {ρ : Slots} {a : Act} (h : Fits n ρ a) : a.eval = evalR ρ := by
  funext x
  cases x with
  | tmp t => exact h.get t
  | _ => rfl
theorem Fits.put {n : Nat} {ρ : Slots} {a : Act} (h : Fits n ρ a) (d : Option Tmp) (hd : ∀ t, d = some t → t < n) (v : Value) : Fits n (updO ρ d v) (a.put d v) := by
  cases d with
  | none => exact h
  | some d =>
    have hdn := hd d rfl
    refine ⟨by simp [Act.put, h.size], h.defers, fun t => ?_⟩
    have hg := h.get t
    simp only [updO, upd, Act.put, Array.getD_eq_getD_getElem?, Array.getElem?_setIfInBounds, h.size] at hg ⊢
    by_cases htd : t = d
    · subst htd
      simp [hdn]
    · have hb : Nat.beq t d = false := by
        cases hb : Nat.beq t d with
        | false => rfl
        | true => exact absurd (Nat.eq_of_beq_eq_true hb) htd
      rw [hb, if_neg (fun e => htd e.symm)]
      exact hg

theorem getD_bool {T : Array Value} {d : Nat} {b : Bool} (h : T.getD d undef = .bool b) : T[d]? = some (.bool b) := by
  rw [Array.getD_eq_getD_getElem?] at h
  cases hx : T[d]? with
  | none => rw [hx] at h; cases h
  | some x => rw [hx] at h; simp at h; rw [h]
abbrev PostF := Exit → Slots → World → Prop
def wpF (P : Program) (n : Nat) (c : Code) (Q : PostF) (ρ : Slots) (w : World) : Prop :=
  ∀ a, Fits n ρ a → c.wp P (fun e a' w' => ∃ ρ', Fits n ρ' a' ∧ Q e ρ' w') a w
def thenF (K : Slots → World → Prop) (Q : PostF) : PostF
  | .normal, ρ, w => K ρ w
  | e, ρ, w => Q e ρ w
def inBlockF (id : Nat) (Q : PostF) : PostF
  | .exit id', ρ, w => if id' = id then Q .normal ρ w else Q (.exit id') ρ w
  | e, ρ, w => Q e ρ w
section
variable {P : Program} {n : Nat} {Q : PostF} {ρ : Slots} {w : World}
theorem wpF_skip (h : Q .normal ρ w) : wpF P n .skip Q ρ w := fun _ ha => wp_skip ⟨ρ, ha, h⟩
theorem wpF_exit {id : Nat} (h : Q (.exit id) ρ w) : wpF P n (.exit id) Q ρ w := fun _ ha => wp_exit ⟨ρ, ha, h⟩
theorem wpF_ret (h : Q .ret ρ w) : wpF P n .ret Q ρ w := fun _ ha => wp_ret ⟨ρ, ha, h⟩
theorem wpF_seq {x y : Code} (h : wpF P n x (thenF (wpF P n y Q) Q) ρ w) : wpF P n (.seq x y) Q ρ w := fun a ha =>
  wp_seq (wp_mono (h a ha) fun e a' w' ⟨ρ', hf, hQ⟩ => by
    cases e with
    | normal => exact hQ a' hf
    | _ => exact ⟨ρ', hf, hQ⟩)
theorem sk {x y : Code} (h : ∀ K : Slots → World → Prop, (∀ ρ w, wpF P n y Q ρ w → K ρ w) → wpF P n x (thenF K Q) ρ w) : wpF P n (.seq x y) Q ρ w := wpF_seq (h _ fun _ _ h => h)
theorem wpF_true {c : Operand} {x y : Code} (hc : evalR ρ c = .bool true) (h : wpF P n x Q ρ w) : wpF P n (.cond c x y) Q ρ w := fun a ha => wp_cond_true (by rw [ha.eval]; exact hc) (h a ha)
theorem wpF_false {c : Operand} {x y : Code} (hc : evalR ρ c = .bool false) (h : wpF P n y Q ρ w) : wpF P n (.cond c x y) Q ρ w := fun a ha => wp_cond_false (by rw [ha.eval]; exact hc) (h a ha)
theorem wpF_cond {c : Operand} {x y : Code} (p : Prop) [Decidable p] (hc : evalR ρ c = .bool (decide p)) (h1 : p → wpF P n x Q ρ w) (h2 : ¬ p → wpF P n y Q ρ w) : wpF P n (.cond c x y) Q ρ w := by
  by_cases hp : p
  · exact wpF_true (by rw [hc, decide_eq_true hp]) (h1 hp)
  · exact wpF_false (by rw [hc, decide_eq_false hp]) (h2 hp)
theorem wpF_condB {c : Operand} {x y : Code} (b : Bool) (hc : evalR ρ c = .bool b) (h1 : b = true → wpF P n x Q ρ w) (h2 : b = false → wpF P n y Q ρ w) : wpF P n (.cond c x y) Q ρ w := by
  cases b
  · exact wpF_false hc (h2 rfl)
  · exact wpF_true hc (h1 rfl)
theorem wpF_block {id : Nat} {c : Code} (h : wpF P n c (inBlockF id Q) ρ w) : wpF P n (.block id c) Q ρ w := fun a ha =>
  wp_block (wp_mono (h a ha) fun e a' w' ⟨ρ', hf, hQ⟩ => by
    cases e with
    | exit id' =>
      simp only [inBlockF] at hQ
      simp only [Exit.inBlock]
      split at hQ
      · rw [if_pos ‹_›]; exact ⟨ρ', hf, hQ⟩
      · rw [if_neg ‹_›]; exact ⟨ρ', hf, hQ⟩
    | _ => exact ⟨ρ', hf, hQ⟩)
theorem wpF_loop {c : Code} (I : Slots → World → Prop) (μ : Slots → World → Nat) (h0 : I ρ w)
    (round : ∀ ρ w, I ρ w → wpF P n c (thenF (fun ρ' w' => I ρ' w' ∧ μ ρ' w' < μ ρ w) Q) ρ w) : wpF P n (.loop c) Q ρ w := by
  intro a ha
  refine wp_loop (fun a w => ∃ ρ, Fits n ρ a ∧ I ρ w) (fun a w => μ (fun t => a.tmps.getD t undef) w) ⟨ρ, ha, h0⟩ ?_
  rintro a w ⟨ρ, hf, hI⟩
  have he : (fun t => a.tmps.getD t undef) = ρ := funext hf.get
  refine wp_mono (round ρ w hI a hf) fun e a' w' ⟨ρ', hf', hQ⟩ => ?_
  cases e with
  | normal => exact ⟨⟨ρ', hf', hQ.1⟩, by rw [he, show (fun t => a'.tmps.getD t undef) = ρ' from funext hf'.get]; exact hQ.2⟩
  | _ => exact ⟨ρ', hf', hQ⟩

/-! ### A region in the order of the text, operation by operation -/
def opsF (P : Program) (ops : Array Oper) (n : Nat) (Q : PostF) (l : List Oper) (ρ : Slots) (w : World) : Prop :=
  ∀ a, Fits n ρ a → wpList P ops (fun e a' w' => ∃ ρ', Fits n ρ' a' ∧ Q e ρ' w') l a w
def roomB (l : List Oper) (n : Nat) : Bool := l.all fun o => match o.dst with | some d => Nat.blt d n | none => true
theorem wt {id : Nat} {l : List Oper} (h : opsF P l.toArray n Q l ρ w) : wpF P n (.region id l.toArray false) Q ρ w := fun a ha => wp_region_lit (h a ha)
theorem oZ {ops : Array Oper} (h : Q .normal ρ w) : opsF P ops n Q [] ρ w := fun _ ha => ⟨ρ, ha, h⟩
theorem oS {ops : Array Oper} {rest : List Oper} {dst : Option Tmp} {op : Op} {ty : TypeId} {pos : String} {af : Array Edge} (hd : (match dst with | some d => Nat.blt d n | none => true) = true)
    (h : Yk P (fun v w' => opsF P ops n Q rest (updO ρ dst v) w') ((execOp (evalR ρ) ⟨dst, op, ty, pos, af, none⟩).run P w)) : opsF P ops n Q (⟨dst, op, ty, pos, af, none⟩ :: rest) ρ w := by
  intro a ha
  have hdn : ∀ t, dst = some t → t < n := fun t ht => by subst ht; exact Nat.le_of_ble_eq_true hd
  refine wpList_plain rfl fun K hK => ?_
  unfold Oper.wp Oper.upon
  rw [ha.eval]
  have hput := fun v => ha.put dst hdn v
  revert h
  generalize (execOp (evalR ρ) ⟨dst, op, ty, pos, af, none⟩).run P w = r
  intro h
  match r, h with
  | .ok (.value v) w', h => exact hK _ _ (h _ (hput v))
  | .ok .skip w', h => exact hK _ _ (h _ (hput undef))
  | .ok (.enter f args) w', h =>
    refine Calls.mono h ?_
    rintro e w'' ⟨v, rfl, hk⟩
    exact hK _ _ (hk _ (hput v))
theorem oY {ops : Array Oper} {rest : List Oper} {dst : Option Tmp} {op : Op} {ty : TypeId} {pos : String} {af : Array Edge} {g : Nat} {want : Bool} {d : Tmp} (hd : (match dst with | some d => Nat.blt d n | none => true) = true) (hg : (ops[g]?).bind (·.dst) = some d) (hv : ρ d = .bool want)
    (h : Yk P (fun v w' => opsF P ops n Q rest (updO ρ dst v) w') ((execOp (evalR ρ) ⟨dst, op, ty, pos, af, some (g, want)⟩).run P w)) : opsF P ops n Q (⟨dst, op, ty, pos, af, some (g, want)⟩ :: rest) ρ w := by
  intro a ha
  have hdn : ∀ t, dst = some t → t < n := fun t ht => by subst ht; exact Nat.le_of_ble_eq_true hd
  have hw : Region.wanted ⟨dst, op, ty, pos, af, some (g, want)⟩ (yielded ops a.tmps) = true := by
    have := getD_bool ((ha.get d).trans hv)
    simp only [Region.wanted, yielded, hg]
    simp [this]
  refine wpList_step fun K hK => ?_
  rw [if_pos hw]
  unfold Oper.wp Oper.upon
  rw [ha.eval]
  have hput := fun v => ha.put dst hdn v
  revert h
  generalize (execOp (evalR ρ) ⟨dst, op, ty, pos, af, some (g, want)⟩).run P w = r
  intro h
  match r, h with
  | .ok (.value v) w', h => exact hK _ _ (h _ (hput v))
  | .ok .skip w', h => exact hK _ _ (h _ (hput undef))
  | .ok (.enter f args) w', h =>
    refine Calls.mono h ?_
    rintro e w'' ⟨v, rfl, hk⟩
    exact hK _ _ (hk _ (hput v))
theorem oN {ops : Array Oper} {rest : List Oper} {o : Oper} {g : Nat} {want b : Bool} {d : Tmp} (hgd : o.guard = some (g, want)) (hd : (match o.dst with | some d => Nat.blt d n | none => true) = true) (hg : (ops[g]?).bind (·.dst) = some d) (hv : ρ d = .bool b) (hb : (b == want) = false)
    (h : opsF P ops n Q rest (updO ρ o.dst undef) w) : opsF P ops n Q (o :: rest) ρ w := by
  intro a ha
  have hdn : ∀ t, o.dst = some t → t < n := fun t ht => by rw [ht] at hd; exact Nat.le_of_ble_eq_true hd
  have hw : Region.wanted o (yielded ops a.tmps) = false := by
    have := getD_bool ((ha.get d).trans hv)
    simp only [Region.wanted, hgd, yielded, hg]
    simpa [this] using hb
  refine wpList_step fun K hK => ?_
  rw [if_neg (by rw [hw]; simp)]
  exact hK _ _ (h _ (ha.put o.dst hdn undef))

/-! ### A region that draws its order, by facts -/
def LookF (l : List Oper) (Φ : Nat → Fact) (ρ : Slots) (n : Nat) (t : Tmp) (x : Value) (w : World) : Prop :=
  match writer l t n with
  | none => x = ρ t
  | some k => Φ k x w
def StepF (P : Program) (l : List Oper) (C : Nat → World → Prop) (R : Nat → World → World → Prop) (Φ : Nat → Fact) (ρ : Slots) (n : Nat) (o : Oper) : Prop :=
  ∀ (σ : Slots) (w : World), C n w → (∀ t ∈ o.looksAt l.toArray, LookF l Φ ρ n t (σ t) w) →
    if wantedR l o σ = true then Yk P (fun v w' => R n w w' ∧ Φ n v w') ((execOp (evalR σ) o).run P w) else Φ n undef w
def StepsF (P : Program) (l : List Oper) (C : Nat → World → Prop) (R : Nat → World → World → Prop) (Φ : Nat → Fact) (ρ : Slots) : Nat → List Oper → Prop
  | _, [] => True
  | n, o :: r => StepF P l C R Φ ρ n o ∧ StepsF P l C R Φ ρ (n + 1) r
theorem StepsF.ok {l : List Oper} {C : Nat → World → Prop} {R : Nat → World → World → Prop} {Φ : Nat → Fact} {T : Array Value} (hT : ∀ t, T.getD t undef = ρ t) : ∀ (r : List Oper) (k : Nat), StepsF P l C R Φ ρ k r → StepsOk P l C R Φ T k r
  | [], _, _ => trivial
  | o :: r, k, h => ⟨fun σ w hC hl => h.1 σ w hC (fun t ht => by
      have := hl t ht
      unfold LookFact at this
      unfold LookF
      split
      · rename_i e; rw [e] at this; rw [← hT]; exact this
      · rename_i e; rw [e] at this; exact this), StepsF.ok hT r (k + 1) h.2⟩
theorem wrote_slots {T : Array Value} (hT : ∀ t, T.getD t undef = ρ t) (ds : List Tmp) (hds : ∀ d ∈ ds, d < T.size) (u : Slots) : ∀ t, (wrote T ds u).getD t undef = if t ∈ ds then u t else ρ t := fun t => by
  by_cases ht : t < T.size
  · rw [wrote_get u t ds T ht, ← hT]
  · have h1 : (wrote T ds u).getD t undef = undef := by
      rw [Array.getD_eq_getD_getElem?, Array.getElem?_eq_none (by rw [wrote_size]; omega), Option.getD_none]
    have h2 : T.getD t undef = undef := by rw [Array.getD_eq_getD_getElem?, Array.getElem?_eq_none (by omega), Option.getD_none]
    rw [h1, if_neg (fun h => ht (hds t h)), ← hT, h2]
theorem good_room {l : List Oper} {n : Nat} (hg : goodB l n = true) (ds : List Tmp) (hds : slotsW l = ds) : ∀ d ∈ ds, d < n := by
  intro d hd
  rw [← hds] at hd
  unfold slotsW at hd
  rw [List.mem_eraseDups, List.mem_filterMap] at hd
  obtain ⟨o, ho, hod⟩ := hd
  obtain ⟨j, hj⟩ := List.getElem?_of_mem ho
  exact (good_of hg).room j o d hj hod
structure EndF (ds : List Tmp) (ρ ρ' : Slots) : Prop where
  old : ∀ t, ds.contains t = false → ρ' t = ρ t
theorem EndF.at_ {ds : List Tmp} {ρ ρ' : Slots} (h : EndF ds ρ ρ') {t : Tmp} {v : Value} (hv : ρ t = v) (ht : ds.contains t = false) : ρ' t = v := (h.old t ht).trans hv
theorem wpF_draw {l : List Oper} (Φs : List Fact) {id : Nat} (hm : P.follows .mixedOrders = true) (ds : List Tmp) (hg : goodB l n = true) (hds : slotsW l = ds) (hst : AllStab Ext Φs) (hs : StepsF P l (fun _ => Ext w) (fun _ => Ext) (facts Φs) ρ 0 l)
    (hQ : ∀ (ρ' : Slots) w', Ext w w' → EndF ds ρ ρ' → EndFacts l (fun _ => []) (facts Φs) ρ' w' ds → Q .normal ρ' w') : wpF P n (.region id l.toArray true) Q ρ w := by
  intro a ha
  obtain ⟨T, df⟩ := a
  have hz : T.size = n := ha.size
  subst hz
  refine wp_region_ext Φs hm T df hg ds hds hst (StepsF.ok ha.get l 0 hs) fun u w' hE hf => ?_
  have hw := wrote_slots ha.get ds (good_room hg ds hds) u
  refine ⟨fun t => if t ∈ ds then u t else ρ t, ⟨by rw [wrote_size], ha.defers, hw⟩, hQ _ w' hE ⟨fun t ht => if_neg (by simpa using ht)⟩ ?_⟩
  have key : ∀ es : List Tmp, (∀ d ∈ es, d ∈ ds) → EndFacts l (fun _ => []) (facts Φs) u w' es → EndFacts l (fun _ => []) (facts Φs) (fun t => if t ∈ ds then u t else ρ t) w' es := by
    intro es
    induction es with
    | nil => exact fun _ _ => trivial
    | cons d es ih =>
      intro hm h
      refine ⟨?_, ih (fun x hx => hm x (by simp [hx])) h.2⟩
      have := h.1
      simp only [if_pos (hm d (by simp))]
      exact this
  exact key ds (fun _ h => h) hf
theorem wpF_draw_store {l : List Oper} (k : Nat) (S : World → World → Prop) (Φs : List Fact) {id : Nat} (hm : P.follows .mixedOrders = true) (ds : List Tmp) (hg : goodB l n = true) (hn : lastB l k = true) (hds : slotsW l = ds) (hSr : (l[k]?.bind (·.guard)) = none) (hst : AllStab Ext Φs) (hsS : AllStab S Φs) (hs : StepsF P l (fun _ => Ext w) (fun m => if m = k then S else Ext) (facts Φs) ρ 0 l)
    (hQ : ∀ (ρ' : Slots) w1 w', Ext w w1 → S w1 w' → EndF ds ρ ρ' → EndFacts l (fun _ => []) (facts Φs) ρ' w' ds → Q .normal ρ' w') : wpF P n (.region id l.toArray true) Q ρ w := by
  intro a ha
  obtain ⟨T, df⟩ := a
  have hz : T.size = n := ha.size
  subst hz
  refine wp_region_store k S Φs hm T df hg hn ds hds hSr hst hsS (StepsF.ok ha.get l 0 hs) fun u w1 w' hE hS hf => ?_
  have hw := wrote_slots ha.get ds (good_room hg ds hds) u
  refine ⟨fun t => if t ∈ ds then u t else ρ t, ⟨by rw [wrote_size], ha.defers, hw⟩, hQ _ w1 w' hE hS ⟨fun t ht => if_neg (by simpa using ht)⟩ ?_⟩
  have key : ∀ es : List Tmp, (∀ d ∈ es, d ∈ ds) → EndFacts l (fun _ => []) (facts Φs) u w' es → EndFacts l (fun _ => []) (facts Φs) (fun t => if t ∈ ds then u t else ρ t) w' es := by
    intro es
    induction es with
    | nil => exact fun _ _ => trivial
    | cons d es ih =>
      intro hm h
      refine ⟨?_, ih (fun x hx => hm x (by simp [hx])) h.2⟩
      have := h.1
      simp only [if_pos (hm d (by simp))]
      exact this
  exact key ds (fun _ h => h) hf
def AllStabX (S : World → World → Prop) (ks : List Nat) : Nat → List Fact → Prop
  | _, [] => True
  | i, φ :: r => (ks.contains i = true ∨ Stab S φ) ∧ AllStabX S ks (i + 1) r
theorem AllStabX.get {S : World → World → Prop} {ks : List Nat} : ∀ (Φs : List Fact) (j : Nat), AllStabX S ks j Φs → ∀ i, j + i ∉ ks → Stab S (Φs.getD i (fun _ _ => True))
  | [], _, _, i, _ => by simpa using Stab.any
  | φ :: r, j, h, 0, hi => by
    rcases h.1 with h1 | h1
    · exact absurd (by simpa using h1) hi
    · simpa using h1
  | φ :: r, j, h, i + 1, hi => by
    simpa using AllStabX.get r (j + 1) h.2 i (by rwa [show j + 1 + i = j + (i + 1) by omega])
open Classical in
theorem wpF_draw_storeK {l : List Oper} (k : Nat) (ks : List Nat) (S : World → World → Prop) (Φs : List Fact) {id : Nat} (hm : P.follows .mixedOrders = true) (ds : List Tmp) (hg : goodB l n = true) (hn : lastB l k = true) (hkl : killB l (fun m => if m = k then ks else []) = true) (hds : slotsW l = ds) (hSr : (l[k]?.bind (·.guard)) = none) (hst : AllStab Ext Φs) (hsS : AllStabX S ks 0 Φs) (hs : StepsF P l (fun _ => Ext w) (fun m => if m = k then S else Ext) (facts Φs) ρ 0 l)
    (hQ : ∀ (ρ' : Slots) w1 w', Ext w w1 → S w1 w' → EndF ds ρ ρ' → EndFacts l (fun m => if m = k then ks else []) (facts Φs) ρ' w' ds → Q .normal ρ' w') : wpF P n (.region id l.toArray true) Q ρ w := by
  intro a ha
  obtain ⟨T, df⟩ := a
  have hz : T.size = n := ha.size
  subst hz
  obtain ⟨hl, hb⟩ := lastB_iff hn
  refine wp_region_core (fun m => if m = k then ks else []) (fun _ => Ext w) (fun listed w' => if On listed k then ∃ w2, Ext w w2 ∧ S w2 w' else Ext w w') (fun m => if m = k then S else Ext) (facts Φs) hm T df hg hkl ds hds
    (fun m i hm' hi hne hbit w1 w' hc hr => ?_) (fun m listed w1 w' hm' hsz hoff hmm hE hR => lastE hn m listed w1 w' hm' hsz hoff hmm hE hR) (fun m i _ _ hi _ _ v w1 w' => ?_) (fun m o w1 ho hgo => ?_) (fun _ _ => (Below.refl _ _).drew) (by rw [if_neg On.not_replicate]; exact (Below.refl _ _).drew) (StepsF.ok ha.get l 0 hs) (fun u listed w' hall hE hf => ?_)
  · by_cases hkn : m = k
    · subst hkn
      rw [hb i (by omega)] at hbit
      cases hbit
    · rw [if_neg hkn] at hr
      exact hc.trans hr
  · by_cases hkn : m = k
    · rw [if_pos hkn] at hi ⊢
      exact hsS.get Φs 0 i (by rwa [Nat.zero_add]) v w1 w'
    · rw [if_neg hkn]; exact hst.get Φs i v w1 w'
  · by_cases hkn : m = k
    · subst hkn; rw [ho] at hSr; simp only [Option.bind_some] at hSr; rw [hSr] at hgo; cases hgo
    · rw [if_neg hkn]; exact Ext.refl w1
  · rw [if_pos (hall k (by omega))] at hE
    obtain ⟨w1, h1, h2⟩ := hE
    have hw := wrote_slots ha.get ds (good_room hg ds hds) u
    refine ⟨fun t => if t ∈ ds then u t else ρ t, ⟨by rw [wrote_size], ha.defers, hw⟩, hQ _ w1 w' h1 h2 ⟨fun t ht => if_neg (by simpa using ht)⟩ ?_⟩
    have key : ∀ es : List Tmp, (∀ d ∈ es, d ∈ ds) → EndFacts l (fun m => if m = k then ks else []) (facts Φs) u w' es → EndFacts l (fun m => if m = k then ks else []) (facts Φs) (fun t => if t ∈ ds then u t else ρ t) w' es := by
      intro es
      induction es with
      | nil => exact fun _ _ => trivial
      | cons d es ih =>
        intro hm h
        refine ⟨?_, ih (fun x hx => hm x (by simp [hx])) h.2⟩
        have := h.1
        simp only [if_pos (hm d (by simp))]
        exact this
    exact key ds (fun _ h => h) hf
theorem wpF_draw_mid {l : List Oper} (k : Nat) (Φs : List Fact) {id : Nat} (hm : P.follows .mixedOrders = true) (ds : List Tmp) (hg : goodB l n = true) (hk : midB l k = true) (hds : slotsW l = ds) (hgk : (l[k]?.bind (·.guard)) = none) (hst : AllStab Ext Φs) (hsT : AllStab (fun _ _ => True) (Φs.take k))
    (hs : StepsF P l (fun m => if m ≤ k then Ext w else fun _ => True) (fun m => if m = k then fun _ _ => True else Ext) (facts Φs) ρ 0 l)
    (hQ : ∀ (ρ' : Slots) w', EndF ds ρ ρ' → EndFacts l (fun _ => []) (facts Φs) ρ' w' ds → Q .normal ρ' w') : wpF P n (.region id l.toArray true) Q ρ w := by
  intro a ha
  obtain ⟨T, df⟩ := a
  have hz : T.size = n := ha.size
  subst hz
  refine wp_region_mid k Φs hm T df hg hk ds hds hst hsT hgk (StepsF.ok ha.get l 0 hs) fun u w' hf => ?_
  have hw := wrote_slots ha.get ds (good_room hg ds hds) u
  refine ⟨fun t => if t ∈ ds then u t else ρ t, ⟨by rw [wrote_size], ha.defers, hw⟩, hQ _ w' ⟨fun t ht => if_neg (by simpa using ht)⟩ ?_⟩
  have key : ∀ es : List Tmp, (∀ d ∈ es, d ∈ ds) → EndFacts l (fun _ => []) (facts Φs) u w' es → EndFacts l (fun _ => []) (facts Φs) (fun t => if t ∈ ds then u t else ρ t) w' es := by
    intro es
    induction es with
    | nil => exact fun _ _ => trivial
    | cons d es ih =>
      intro hm h
      refine ⟨?_, ih (fun x hx => hm x (by simp [hx])) h.2⟩
      have := h.1
      simp only [if_pos (hm d (by simp))]
      exact this
  exact key ds (fun _ h => h) hf
variable {l : List Oper} {Φ : Nat → Fact}
theorem stepN {C : Nat → World → Prop} {R : Nat → World → World → Prop} {k : Nat} {o : Oper} (hg : o.guard = none)
    (h : ∀ σ w, C k w → (∀ t ∈ o.looksAt l.toArray, LookF l Φ ρ k t (σ t) w) → Yk P (fun v w' => R k w w' ∧ Φ k v w') ((execOp (evalR σ) o).run P w)) : StepF P l C R Φ ρ k o := by
  intro σ w hC hl
  have : wantedR l o σ = true := by unfold wantedR; rw [hg]
  rw [if_pos this]
  exact h σ w hC hl
theorem stepY {C : Nat → World → Prop} {R : Nat → World → World → Prop} {k : Nat} {o : Oper} (g : Nat) (want : Bool) (d : Tmp) (hg : o.guard = some (g, want)) (hd : (l[g]?).bind (·.dst) = some d)
    (hv : ∀ x w, LookF l Φ ρ k d x w → x = .bool want)
    (h : ∀ σ w, C k w → (∀ t ∈ o.looksAt l.toArray, LookF l Φ ρ k t (σ t) w) → Yk P (fun v w' => R k w w' ∧ Φ k v w') ((execOp (evalR σ) o).run P w)) : StepF P l C R Φ ρ k o := by
  intro σ w hC hl
  have hin : d ∈ o.looksAt l.toArray := by
    unfold Oper.looksAt
    refine List.mem_append_right _ ?_
    rw [hg]
    simp [hd]
  have : wantedR l o σ = true := by
    unfold wantedR
    rw [hg]
    simp only [hd, hv _ _ (hl d hin)]
    simp
  rw [if_pos this]
  exact h σ w hC hl
theorem stepX {C : Nat → World → Prop} {R : Nat → World → World → Prop} {k : Nat} {o : Oper} (g : Nat) (want : Bool) (d : Tmp) (hg : o.guard = some (g, want)) (hd : (l[g]?).bind (·.dst) = some d)
    (hv : ∀ x w, LookF l Φ ρ k d x w → x ≠ .bool want) (hu : ∀ w, Φ k undef w) : StepF P l C R Φ ρ k o := by
  intro σ w hC hl
  have hin : d ∈ o.looksAt l.toArray := by
    unfold Oper.looksAt
    refine List.mem_append_right _ ?_
    rw [hg]
    simp [hd]
  have : wantedR l o σ = false := by
    unfold wantedR
    rw [hg]
    simp only [hd]
    have h1 := hv _ _ (hl d hin)
    cases hx : σ d <;> simp
    rename_i b
    intro hb
    exact h1 (by rw [hx, hb])
  rw [if_neg (by rw [this]; simp)]
  exact hu w

/-! ### A function is entered; it returns -/
def postF (P : Program) (fn : Func) (R : Ending → World → Prop) : PostF
  | .normal, ρ, w | .ret, ρ, w => ∀ tmps : Array Value, (∀ t, tmps.getD t undef = ρ t) → ∃ v, (results fn tmps).run P w = .ok v w ∧ R (.returned v) w
  | _, _, _ => False
structure Begun (args : List Value) (ρ : Slots) : Prop where
  get : ∀ t, ρ t = args.getD t undef
theorem calls_of_wpF {f : FuncId} {fn : Func} {c : Code} {args : List Value} {R : Ending → World → Prop} (hf : P.funcs[f]? = some fn) (hb : fn.body = some c) (m : Nat) (hm : fn.ntmps = m) (hn : args.length ≤ m)
    (h : ∀ ρ, Begun args ρ → wpF P m c (postF P fn R) ρ w) : Calls P f args.toArray w R := by
  subst hm
  refine calls_of_wp hf hb ?_
  have hget : ∀ t, (args.toArray ++ Array.replicate (fn.ntmps - args.toArray.size) undef).getD t undef = args.getD t undef := fun t => by
    simp only [Array.getD_eq_getD_getElem?, List.getD_eq_getElem?_getD, Array.getElem?_append, List.size_toArray, List.getElem?_toArray]
    by_cases ht : t < args.length
    · rw [if_pos ht]
    · rw [if_neg ht, List.getElem?_eq_none (by omega), Array.getElem?_replicate]
      split <;> rfl
  refine wp_mono (h (fun t => args.getD t undef) ⟨fun _ => rfl⟩ _ ⟨?_, rfl, hget⟩) ?_
  · simp
    omega
  · rintro e a' w' ⟨ρ', hf', hQ⟩
    have fin : (∀ tmps : Array Value, (∀ t, tmps.getD t undef = ρ' t) → ∃ v, (results fn tmps).run P w' = .ok v w' ∧ R (.returned v) w') → a'.defers = [] ∧ ∃ v, (results fn a'.tmps).run P w' = .ok v w' ∧ R (.returned v) w' :=
      fun h => ⟨hf'.defers, h a'.tmps hf'.get⟩
    cases e with
    | normal => exact fin hQ
    | ret => exact fin hQ
    | exit _ => exact hQ.elim
    | goto _ => exact hQ.elim
    | panic _ => exact hQ.elim
    | outgrown => exact hQ.elim
def ResF (P : Program) (ρ : Slots) (w : World) : ResultVar → Value → Prop
  | .tmp t, v => ρ t = v
  | .cell p ty, v => ∃ a, ρ p = .pointer (some a) ∧ (loadVar ty a).run P w = .ok v w
def ResAll (P : Program) (ρ : Slots) (w : World) : List ResultVar → List Value → Prop
  | [], [] => True
  | r :: rs, v :: vs => ResF P ρ w r v ∧ ResAll P ρ w rs vs
  | _, _ => False
def resOf (tmps : Array Value) : ResultVar → Sem Value
  | .tmp t => pure (tmps.getD t undef)
  | .cell a t => do loadVar t (← asAddr (tmps.getD a undef))
theorem results_list {ρ : Slots} {w : World} {tmps : Array Value} (ht : ∀ t, tmps.getD t undef = ρ t) : ∀ (rs : List ResultVar) (vs : List Value), ResAll P ρ w rs vs → (rs.mapM (resOf tmps)).run P w = Result.ok vs w
  | [], [], _ => by simp [Sem.run_pure]
  | [], _ :: _, h => h.elim
  | _ :: _, [], h => h.elim
  | r :: rs, v :: vs, h => by
    have ih := results_list ht rs vs h.2
    have h1 : (resOf tmps r).run P w = .ok v w := by
      have h1 := h.1
      cases r with
      | tmp t =>
        simp only [ResF] at h1
        simp only [resOf, ht, h1, Sem.run_pure]
      | cell p ty =>
        obtain ⟨a, ha, hl⟩ := h1
        simp only [resOf, ht, ha, asAddr, Sem.run_bind, Sem.run_pure, Result.andThen_ok, hl]
    rw [List.mapM_cons, Sem.run_bind, h1]
    simp only [Result.andThen_ok, Sem.run_bind, ih, Sem.run_pure]
def tupled : List Value → Value
  | [v] => v
  | vs => .tuple vs.toArray
theorem results_fn {fn : Func} {rs : List ResultVar} (hrs : fn.results = rs.toArray) {tmps : Array Value} (ht : ∀ t, tmps.getD t undef = ρ t) {vs : List Value} (h : ResAll P ρ w rs vs) :
    (results fn tmps).run P w = .ok (tupled vs) w := by
  have h1 := results_list ht rs vs h
  have he : results fn tmps = (do let vs ← fn.results.mapM (resOf tmps); pure (if h : vs.size = 1 then vs[0] else .tuple vs)) := by
    unfold results
    congr 1
  rw [he, hrs, List.mapM_toArray, Sem.run_bind]
  have hm : ((List.toArray <$> rs.mapM (resOf tmps)) : Sem (Array Value)).run P w = .ok vs.toArray w := by
    show ((rs.mapM (resOf tmps)).bind (fun x => Sem.pure x.toArray)).run P w = _
    rw [show (rs.mapM (resOf tmps)).bind (fun x => Sem.pure x.toArray) = (do let x ← rs.mapM (resOf tmps); pure x.toArray) from rfl, Sem.run_bind, h1]
    rfl
  rw [hm]
  simp only [Result.andThen_ok, Sem.run_pure]
  match vs with
  | [] => rfl
  | [v] => rfl
  | _ :: _ :: _ => simp [tupled]
theorem postF_ret {fn : Func} {R : Ending → World → Prop} (rs : List ResultVar) (hrs : fn.results = rs.toArray) (vs : List Value) (v : Value) (hv : tupled vs = v) (h : ResAll P ρ w rs vs) (hR : R (.returned v) w) : postF P fn R .ret ρ w :=
  fun _ ht => ⟨_, results_fn hrs ht h, by rw [hv]; exact hR⟩
theorem postF_end {fn : Func} {R : Ending → World → Prop} (rs : List ResultVar) (hrs : fn.results = rs.toArray) (vs : List Value) (v : Value) (hv : tupled vs = v) (h : ResAll P ρ w rs vs) (hR : R (.returned v) w) : postF P fn R .normal ρ w :=
  fun _ ht => ⟨_, results_fn hrs ht h, by rw [hv]; exact hR⟩
theorem ResF.row {p : Tmp} {ty : TypeId} {g : Nat} {t : TypeId} {cs : Array Value} {fr : Nat × Nat} {d : TypeDesc} (hp : ρ p = .pointer (some ⟨g, 0, none⟩)) (hg : w.heap[g]? = some (.cells cs t fr))
    (hu : P.underlying ty = some d) (hd : (match d with | .struct _ | .array _ _ => true | _ => false) = true) (hi : (P.info? ty).map (·.size) = some cs.size) : ResF P ρ w (.cell p ty) (.agg cs) :=
  ⟨_, hp, run_loadVar_row w g t ty cs fr d hg hu hd hi⟩
end
open Go.RowKit
variable {P : Program}
abbrev U (x : UInt32) : Value := .int .u32 (x.toNat : Int)
abbrev NI (n : Nat) : Value := .int .i64 (n : Int)
abbrev B8 (x : UInt8) : Value := .int .u8 (x.toNat : Int)

theorem u32_wrap (n : Nat) : IntKind.u32.wrap (n : Int) = ((n % 4294967296 : Nat) : Int) := by
  simp [IntKind.wrap, IntKind.bits, IntKind.signed]
theorem u8_wrap (n : Nat) : IntKind.u8.wrap (n : Int) = ((n % 256 : Nat) : Int) := by
  simp [IntKind.wrap, IntKind.bits, IntKind.signed]
theorem u_ofInt (a : UInt32) : BitVec.ofInt 32 (a.toNat : Int) = a.toBitVec := by
  rw [BitVec.ofInt_natCast]
  exact BitVec.ofNat_toNat 32 a.toBitVec |>.trans (by simp)
theorem u_add (t : TypeId) (a b : UInt32) : Go.binOp .add t (U a) (U b) = pure (U (a + b)) := by
  unfold Go.binOp
  simp only [ne_eq, not_true_eq_false, if_false, Op.intArith]
  rw [← Int.natCast_add, u32_wrap]
  simp [U, UInt32.toNat_add]
theorem u_xor (t : TypeId) (a b : UInt32) : Go.binOp .xor t (U a) (U b) = pure (U (a ^^^ b)) := by
  unfold Go.binOp
  simp only [ne_eq, not_true_eq_false, if_false, Op.intBits, IntKind.bits, u_ofInt]
  rw [u32_wrap, Nat.mod_eq_of_lt (BitVec.isLt _)]
  rfl
theorem u_and (t : TypeId) (a b : UInt32) : Go.binOp .and t (U a) (U b) = pure (U (a &&& b)) := by
  unfold Go.binOp
  simp only [ne_eq, not_true_eq_false, if_false, Op.intBits, IntKind.bits, u_ofInt]
  rw [u32_wrap, Nat.mod_eq_of_lt (BitVec.isLt _)]
  rfl
theorem u_or (t : TypeId) (a b : UInt32) : Go.binOp .or t (U a) (U b) = pure (U (a ||| b)) := by
  unfold Go.binOp
  simp only [ne_eq, not_true_eq_false, if_false, Op.intBits, IntKind.bits, u_ofInt]
  rw [u32_wrap, Nat.mod_eq_of_lt (BitVec.isLt _)]
  rfl
theorem u_not (a : UInt32) : Go.Op.unary .xor (U a) = pure (U (~~~a)) := by
  unfold Go.Op.unary
  have h : BitVec.ofInt 32 (IntKind.u32.max) = BitVec.allOnes 32 := by decide
  simp only [IntKind.signed, Bool.false_eq_true, if_false, Op.intBits, IntKind.bits, u_ofInt, h]
  rw [u32_wrap, Nat.mod_eq_of_lt (BitVec.isLt _)]
  simp only [U]
  have h2 : BitVec.allOnes 32 ^^^ a.toBitVec = ~~~a.toBitVec := BitVec.allOnes_xor
  exact congrArg (fun z : BitVec 32 => (pure (Value.int .u32 (z.toNat : Int)) : Sem Value)) h2
theorem u_shl (t : TypeId) (a : UInt32) (k : IntKind) (n : Nat) (hn : n < 32) : Go.binOp .shl t (U a) (.int k (n : Int)) = pure (U (a <<< UInt32.ofNat n)) := by
  unfold Go.binOp
  simp only [Op.shift, IntKind.bits]
  rw [if_neg (by omega), Int.toNat_natCast, Nat.min_eq_left (by omega)]
  have : (a.toNat : Int) * 2 ^ n = ((a.toNat * 2 ^ n : Nat) : Int) := by simp
  rw [this, u32_wrap]
  simp only [U]
  congr 2
  simp [UInt32.toNat_shiftLeft, Nat.shiftLeft_eq, Nat.mod_eq_of_lt (show n < 4294967296 by omega), Nat.mod_eq_of_lt hn]
theorem u_shr (t : TypeId) (a : UInt32) (k : IntKind) (n : Nat) (hn : n < 32) : Go.binOp .shr t (U a) (.int k (n : Int)) = pure (U (a >>> UInt32.ofNat n)) := by
  unfold Go.binOp
  simp only [Op.shift, IntKind.bits]
  rw [if_neg (by omega), Int.toNat_natCast, Nat.min_eq_left (by omega)]
  have : (a.toNat : Int).fdiv (2 ^ n) = ((a.toNat / 2 ^ n : Nat) : Int) := by
    rw [show (2 ^ n : Int) = ((2 ^ n : Nat) : Int) by simp, Int.fdiv_eq_ediv_of_nonneg _ (Int.natCast_nonneg _)]
    rfl
  rw [this]
  simp only [U]
  congr 2
  simp [UInt32.toNat_shiftRight, Nat.shiftRight_eq_div_pow, Nat.mod_eq_of_lt (show n < 4294967296 by omega), Nat.mod_eq_of_lt hn]
theorem run_bin {op : BinOp} {t ty2 : TypeId} {x y : Operand} {d : Option Tmp} {ty : TypeId} {pos : String} {af : Array Edge} {gd : Option (Nat × Bool)} {ρ : Operand → Value} {xv yv v : Value} {w : World}
    (hx : ρ x = xv) (hy : ρ y = yv) (hne : (op matches .eql | .neq) = false) (hr : Go.binOp op t xv yv = pure v) : (execOp ρ ⟨d, .binOp op t x y ty2, ty, pos, af, gd⟩).run P w = .ok (.value v) w := by
  have hg : eqGuard op t x y xv yv = pure () := by
    unfold eqGuard
    cases op <;> first | rfl | cases hne
  unfold execOp
  simp only [hx, hy, hg, hr, Sem.run_bind, Sem.run_pure, Result.andThen_ok]
theorem Yk.bin {K : Value → World → Prop} {op : BinOp} {t ty2 : TypeId} {x y : Operand} {d : Option Tmp} {ty : TypeId} {pos : String} {af : Array Edge} {gd : Option (Nat × Bool)} {ρ : Tmp → Value} {xv yv v : Value} {w : World}
    (hx : evalR ρ x = xv) (hy : evalR ρ y = yv) (hne : (op matches .eql | .neq) = false) (hr : Go.binOp op t xv yv = pure v) (hk : K v w) : Yk P K ((execOp (evalR ρ) ⟨d, .binOp op t x y ty2, ty, pos, af, gd⟩).run P w) :=
  Yk.value (run_bin hx hy hne hr) hk
theorem Yk.not32 {K : Value → World → Prop} {t : TypeId} {x : Operand} {d : Option Tmp} {ty : TypeId} {pos : String} {af : Array Edge} {gd : Option (Nat × Bool)} {ρ : Tmp → Value} {a : UInt32} {w : World}
    (hx : evalR ρ x = U a) (hk : K (U (~~~a)) w) : Yk P K ((execOp (evalR ρ) ⟨d, .unOp .xor t x, ty, pos, af, gd⟩).run P w) := by
  refine Yk.value (v := U (~~~a)) (w' := w) ?_ hk
  unfold execOp
  simp only [hx, u_not]
  simp
theorem Yk.wide {K : Value → World → Prop} {src dst : TypeId} {x : Operand} {d : Option Tmp} {ty : TypeId} {pos : String} {af : Array Edge} {gd : Option (Nat × Bool)} {ρ : Tmp → Value} {a : UInt8} {w : World}
    (hs : P.underlying src = some (.int .u8)) (hd : P.underlying dst = some (.int .u32)) (hx : evalR ρ x = B8 a) (hk : K (U a.toUInt32) w) : Yk P K ((execOp (evalR ρ) ⟨d, .convert src dst x, ty, pos, af, gd⟩).run P w) := by
  refine Yk.value (v := U a.toUInt32) (w' := w) ?_ hk
  unfold execOp
  simp only [hx, convert, Sem.run_bind, run_underlying hs, run_underlying hd, Result.andThen_ok, Conv.intToInt, Sem.run_pure]
  rw [u32_wrap, Nat.mod_eq_of_lt (by have := a.toNat_lt; omega)]
  simp [U]
theorem Yk.narrow {K : Value → World → Prop} {src dst : TypeId} {x : Operand} {d : Option Tmp} {ty : TypeId} {pos : String} {af : Array Edge} {gd : Option (Nat × Bool)} {ρ : Tmp → Value} {a : UInt32} {w : World}
    (hs : P.underlying src = some (.int .u32)) (hd : P.underlying dst = some (.int .u8)) (hx : evalR ρ x = U a) (hk : K (B8 a.toUInt8) w) : Yk P K ((execOp (evalR ρ) ⟨d, .convert src dst x, ty, pos, af, gd⟩).run P w) := by
  refine Yk.value (v := B8 a.toUInt8) (w' := w) ?_ hk
  unfold execOp
  simp only [hx, convert, Sem.run_bind, run_underlying hs, run_underlying hd, Result.andThen_ok, Conv.intToInt, Sem.run_pure]
  rw [u8_wrap]
  simp [B8]
theorem run_at_arr {t e : TypeId} {n : Nat} (ht : P.underlying t = some (.array n e)) (he : ∀ w' : World, (sizeOf e).run P w' = .ok 1 w') {x y : Operand} {d : Option Tmp} {ty : TypeId} {pos : String} {af : Array Edge} {gd : Option (Nat × Bool)} {ρ : Operand → Value} {w : World} {b o i : Nat} {k : IntKind}
    (hx : ρ x = .pointer (some ⟨b, o, none⟩)) (hy : ρ y = .int k (i : Int)) (hi : i < n) : (execOp ρ ⟨d, .indexAddr t x y, ty, pos, af, gd⟩).run P w = .ok (.value (.pointer (some ⟨b, o + i, none⟩))) w := by
  have hE : P.elem t = e := by simp [Program.elem, ht]
  have hN : P.arrayLen t = n := by simp [Program.arrayLen, ht]
  have hr := run_indexAt_array (P := P) w t ⟨b, o, none⟩ k (i : Int) (by rw [hE, hN]; exact ht)
  rw [if_pos (by rw [hN]; omega), hE, he] at hr
  unfold execOp
  simp only [hx, hy, Sem.run_bind, hr, Result.andThen_ok, Sem.run_pure]
  simp [Addr.add_lit]
theorem Yk.atArr {K : Value → World → Prop} {t e : TypeId} {n : Nat} (ht : P.underlying t = some (.array n e)) (he : ∀ w' : World, (sizeOf e).run P w' = .ok 1 w') {x y : Operand} {d : Option Tmp} {ty : TypeId} {pos : String} {af : Array Edge} {gd : Option (Nat × Bool)} {ρ : Tmp → Value} {w : World} {b o i : Nat} {k : IntKind}
    (hx : evalR ρ x = .pointer (some ⟨b, o, none⟩)) (hy : evalR ρ y = .int k (i : Int)) (hi : i < n) (hk : K (.pointer (some ⟨b, o + i, none⟩)) w) : Yk P K ((execOp (evalR ρ) ⟨d, .indexAddr t x y, ty, pos, af, gd⟩).run P w) :=
  Yk.value (run_at_arr ht he hx hy hi) hk
theorem Yk.atSl {K : Value → World → Prop} {t e : TypeId} (ht : P.underlying t = some (.slice e)) (he : ∀ w' : World, (sizeOf e).run P w' = .ok 1 w') {x y : Operand} {d : Option Tmp} {ty : TypeId} {pos : String} {af : Array Edge} {gd : Option (Nat × Bool)} {ρ : Tmp → Value} {w : World} {b o i n c : Nat} {k : IntKind}
    (hx : evalR ρ x = .slice (some ⟨b, o, none⟩) n c) (hy : evalR ρ y = .int k (i : Int)) (hi : i < n) (hk : K (.pointer (some ⟨b, o + i, none⟩)) w) : Yk P K ((execOp (evalR ρ) ⟨d, .indexAddr t x y, ty, pos, af, gd⟩).run P w) := by
  refine Yk.value (v := .pointer (some ⟨b, o + i, none⟩)) (w' := w) ?_ hk
  have hE : P.elem t = e := by simp [Program.elem, ht]
  have hr := run_indexAt_slice (P := P) w t ⟨b, o, none⟩ n c k (i : Int) (by rw [hE]; exact ht)
  rw [if_pos (by omega), hE, he] at hr
  unfold execOp
  simp only [hx, hy, Sem.run_bind, hr, Result.andThen_ok, Sem.run_pure]
  simp [Addr.add_lit]
theorem run_cell1 {ty : TypeId} {desc : TypeDesc} (hu : P.underlying ty = some desc) (hd : (match desc with | .struct _ | .array _ _ => false | _ => true) = true) {x : Operand} {d : Option Tmp} {tt : TypeId} {pos : String} {af : Array Edge} {gd : Option (Nat × Bool)} {ρ : Operand → Value} {w : World} {a : Addr} {v : Value}
    (hx : ρ x = .pointer (some a)) (hc : w.cell? a = some v) : (execOp ρ ⟨d, .load ty x, tt, pos, af, gd⟩).run P w = .ok (.value v) w := by
  have hl : (Instr.loadAt ty (.pointer (some a))).run P w = .ok v w := by
    have hagg : (isAgg ty).run P w = .ok false w := by
      unfold isAgg
      rw [Sem.run_bind, run_underlying hu w]
      cases desc <;> simp_all
    simp [Instr.loadAt, Instr.sureAddr, loadVar, hagg, hc]
  unfold execOp
  simp only [hx, Sem.run_bind, hl, Result.andThen_ok, Sem.run_pure]
theorem Yk.cell1 {K : Value → World → Prop} {ty : TypeId} {desc : TypeDesc} (hu : P.underlying ty = some desc) (hd : (match desc with | .struct _ | .array _ _ => false | _ => true) = true) {x : Operand} {d : Option Tmp} {tt : TypeId} {pos : String} {af : Array Edge} {gd : Option (Nat × Bool)} {ρ : Tmp → Value} {w : World} {a : Addr} {v : Value}
    (hx : evalR ρ x = .pointer (some a)) (hc : w.cell? a = some v) (hk : K v w) : Yk P K ((execOp (evalR ρ) ⟨d, .load ty x, tt, pos, af, gd⟩).run P w) :=
  Yk.value (run_cell1 hu hd hx hc) hk

open Go.RowKit
section
variable {P : Program} {K : Value → World → Prop} {ρ : Slots} {w : World} {d : Option Tmp} {ty : TypeId} {pos : String} {af : Array Edge} {gd : Option (Nat × Bool)}
theorem Yk.move {x : Operand} {v : Value} (hx : evalR ρ x = v) (hk : K v w) : Yk P K ((execOp (evalR ρ) ⟨d, .move x, ty, pos, af, gd⟩).run P w) := by
  subst hx; exact hk
theorem Yk.assign {x : Operand} {v : Value} (hx : evalR ρ x = v) (hk : K v w) : Yk P K ((execOp (evalR ρ) ⟨d, .assign x, ty, pos, af, gd⟩).run P w) := by
  subst hx; exact hk
theorem Yk.pickT {c x y : Operand} {v : Value} (hc : evalR ρ c = .bool true) (hx : evalR ρ x = v) (hk : K v w) : Yk P K ((execOp (evalR ρ) ⟨d, .pick c x y, ty, pos, af, gd⟩).run P w) := by
  subst hx
  unfold execOp
  simp only [hc, asBool, Sem.run_bind, Sem.run_pure, Result.andThen_ok, if_true]
  exact hk
theorem Yk.pickF {c x y : Operand} {v : Value} (hc : evalR ρ c = .bool false) (hx : evalR ρ y = v) (hk : K v w) : Yk P K ((execOp (evalR ρ) ⟨d, .pick c x y, ty, pos, af, gd⟩).run P w) := by
  subst hx
  unfold execOp
  simp only [hc, asBool, Sem.run_bind, Sem.run_pure, Result.andThen_ok, Bool.false_eq_true, if_false]
  exact hk
theorem Yk.nilCheck {x : Operand} {a : Addr} (hx : evalR ρ x = .pointer (some a)) (hk : K (.pointer (some a)) w) : Yk P K ((execOp (evalR ρ) ⟨d, .nilCheck x, ty, pos, af, gd⟩).run P w) := by
  unfold execOp
  simp only [hx]
  exact hk
def FieldOff (P : Program) (s : TypeId) (f off : Nat) : Prop := ∀ (b o : Nat) (w : World), (Instr.fieldAt s (.pointer (some ⟨b, o, none⟩)) f).run P w = .ok (.pointer (some ⟨b, o + off, none⟩)) w
theorem Yk.fieldAt {s : TypeId} {f off b o : Nat} (hf : FieldOff P s f off) {x : Operand} (hx : evalR ρ x = .pointer (some ⟨b, o, none⟩)) (hk : K (.pointer (some ⟨b, o + off, none⟩)) w) : Yk P K ((execOp (evalR ρ) ⟨d, .fieldAddr s x f, ty, pos, af, gd⟩).run P w) := by
  unfold execOp
  simp only [hx, Sem.run_bind, hf b o w, Result.andThen_ok, Sem.run_pure]
  exact hk
theorem Yk.alloc {e : TypeId} {cs : Array Value} (hz : ∀ (σ : Operand → Value) (w : World), (execOp σ ⟨d, .alloc e, ty, pos, af, gd⟩).run P w = .ok (.value (.pointer (some ⟨w.heap.size, 0, none⟩))) (w.alloc (.cells cs e)))
    (hk : ∀ n w', w.heap.size = n → w'.heap[n]? = some (.cells cs e (0, 0)) → Ext w w' → w'.heap.size = n + 1 → K (.pointer (some ⟨n, 0, none⟩)) w') : Yk P K ((execOp (evalR ρ) ⟨d, .alloc e, ty, pos, af, gd⟩).run P w) := by
  rw [hz]
  exact hk _ _ rfl (heap_alloc_new w _) ((Below.refl _ _).alloc (Nat.le_refl _) _) (by simp)
theorem Yk.box {e : TypeId} {x : Operand} {cs : Array Value} (hx : evalR ρ x = .agg cs)
    (hk : ∀ n w', w.heap.size = n → w'.heap[n]? = some (.cells cs e (0, 0)) → Ext w w' → w'.heap.size = n + 1 → K (.pointer (some ⟨n, 0, none⟩)) w') : Yk P K ((execOp (evalR ρ) ⟨d, .box e x, ty, pos, af, gd⟩).run P w) := by
  have hr : (execOp (evalR ρ) ⟨d, .box e x, ty, pos, af, gd⟩).run P w = .ok (.value (.pointer (some ⟨w.heap.size, 0, none⟩))) (w.alloc (.cells cs e)) := by
    show ((Instr.box e (evalR ρ x)).run P w).andThen (fun v w => Result.ok (Next.value v) w) = _
    rw [hx]
    rfl
  rw [hr]
  exact hk _ _ rfl (heap_alloc_new w _) ((Below.refl _ _).alloc (Nat.le_refl _) _) (by simp)
theorem Yk.lenRB {t e : TypeId} (ht : P.underlying t = some (.slice e)) {x : Operand} {l : List UInt8} (h : RB w (evalR ρ x) l) (hk : K (NI l.length) w) : Yk P K ((execOp (evalR ρ) ⟨d, .call ⟨.builtin .len, #[x], #[t]⟩, ty, pos, af, gd⟩).run P w) := by
  obtain ⟨h1, ao, cap, hv, h2, h3, h4, h5⟩ := h
  refine Yk.value (v := NI l.length) (w' := w) ?_ hk
  unfold execOp
  simp [resolve, invoke, builtin, Builtin.len_, hv, run_underlying ht, goInt]
theorem Yk.lenSl {t e : TypeId} (ht : P.underlying t = some (.slice e)) {x : Operand} {ao : Option Addr} {n c : Nat} (hx : evalR ρ x = .slice ao n c) (hk : K (NI n) w) : Yk P K ((execOp (evalR ρ) ⟨d, .call ⟨.builtin .len, #[x], #[t]⟩, ty, pos, af, gd⟩).run P w) := by
  refine Yk.value (v := NI n) (w' := w) ?_ hk
  unfold execOp
  simp [resolve, invoke, builtin, Builtin.len_, hx, run_underlying ht, goInt]
theorem Yk.lenStr {t : TypeId} (ht : P.underlying t = some .string) {x : Operand} {s : ByteArray} (hx : evalR ρ x = .string s) (hk : K (NI s.size) w) : Yk P K ((execOp (evalR ρ) ⟨d, .call ⟨.builtin .len, #[x], #[t]⟩, ty, pos, af, gd⟩).run P w) := by
  refine Yk.value (v := NI s.size) (w' := w) ?_ hk
  unfold execOp
  simp [resolve, invoke, builtin, Builtin.len_, hx, run_underlying ht, goInt]
def PCell (v : Value) : Fact := fun x w => ∃ a, x = .pointer (some a) ∧ w.cell? a = some v
theorem Stab.pcell (v : Value) : Stab Ext (PCell v) := fun _ _ _ ⟨a, hx, hc⟩ h => ⟨a, hx, by rw [Below.cell h (World.block_lt_of_cell? _ a hc)]; exact hc⟩
theorem Yk.atRB {t e : TypeId} (ht : P.underlying t = some (.slice e)) (he : ∀ w' : World, (sizeOf e).run P w' = .ok 1 w') {x y : Operand} {l : List UInt8} (h : RB w (evalR ρ x) l) {k : IntKind} {i : Nat} (hy : evalR ρ y = .int k (i : Int)) (hi : i < l.length)
    (hk : ∀ v, PCell (B8 (l.getD i 0)) v w → K v w) : Yk P K ((execOp (evalR ρ) ⟨d, .indexAddr t x y, ty, pos, af, gd⟩).run P w) := by
  obtain ⟨b, off, cap, hv, h1, h2, h3, h4⟩ := h.open_ (by omega)
  exact Yk.atSl ht he hv hy hi (hk _ ⟨_, rfl, h4 i hi⟩)
theorem Yk.loadC {t : TypeId} {desc : TypeDesc} (hu : P.underlying t = some desc) (hd : (match desc with | .struct _ | .array _ _ => false | _ => true) = true) {x : Operand} {v : Value} (hx : PCell v (evalR ρ x) w) (hk : K v w) : Yk P K ((execOp (evalR ρ) ⟨d, .load t x, ty, pos, af, gd⟩).run P w) := by
  obtain ⟨a, ha, hc⟩ := hx
  exact Yk.cell1 hu hd ha hc hk
theorem Yk.eqI {op : BinOp} {t ty2 : TypeId} {x y : Operand} {k : IntKind} {a b : Int} {v : Value} (hx : evalR ρ x = .int k a) (hy : evalR ρ y = .int k b) (hr : Go.binOp op t (.int k a) (.int k b) = pure v) (hk : K v w) : Yk P K ((execOp (evalR ρ) ⟨d, .binOp op t x y ty2, ty, pos, af, gd⟩).run P w) := by
  have hg : eqGuard op t x y (.int k a) (.int k b) = pure () := by
    unfold eqGuard
    cases op <;> rfl
  refine Yk.value (v := v) (w' := w) ?_ hk
  unfold execOp
  simp only [hx, hy, hg, hr, Sem.run_bind, Sem.run_pure, Result.andThen_ok]
theorem Yk.notB {t : TypeId} {x : Operand} {b : Bool} (hx : evalR ρ x = .bool b) (hk : K (.bool (!b)) w) : Yk P K ((execOp (evalR ρ) ⟨d, .unOp .not t x, ty, pos, af, gd⟩).run P w) := by
  refine Yk.value (v := .bool (!b)) (w' := w) ?_ hk
  unfold execOp
  simp [hx, Op.unary]
theorem Yk.run {o : Oper} {v : Value} (hr : (execOp (evalR ρ) o).run P w = .ok (.value v) w) (hk : K v w) : Yk P K ((execOp (evalR ρ) o).run P w) := by rw [hr]; exact hk
theorem convI {src dst : TypeId} {ks kd : IntKind} (hs : P.underlying src = some (.int ks)) (hd : P.underlying dst = some (.int kd)) (a : Int) (w : World) : (convert src dst (.int ks a)).run P w = .ok (.int kd (kd.wrap a)) w := by
  simp only [convert, Sem.run_bind, run_underlying hs, run_underlying hd, Result.andThen_ok, Conv.intToInt, Sem.run_pure]
theorem Yk.convI {src dst : TypeId} {ks kd : IntKind} (hs : P.underlying src = some (.int ks)) (hd : P.underlying dst = some (.int kd)) {x : Operand} {a b : Int} (hx : evalR ρ x = .int ks a) (hb : kd.wrap a = b) (hk : K (.int kd b) w) : Yk P K ((execOp (evalR ρ) ⟨d, .convert src dst x, ty, pos, af, gd⟩).run P w) := by
  refine Yk.value (v := .int kd b) (w' := w) ?_ hk
  have := Go.Proofs.YtejpjjhkjdpeaaaDoor.convI (P := P) hs hd a w
  unfold execOp
  simp only [hx, Sem.run_bind, this, Result.andThen_ok, Sem.run_pure, hb]
theorem Yk.appendRB (s x : Operand) {t tx e e' : TypeId} (base : Nat) (z : Value) (ht : P.underlying t = some (.slice e)) (hi : (P.info? e).map (fun i => (i.zero, i.size, i.bytes)) = some (some z, 1, 1)) (hzs : z.cells.size = 1) (hu : P.underlying tx = some (.slice e'))
    (l m : List UInt8) (hown : w.ownsRow base e 1 (evalR ρ s) l.length (Lib.byteCells l)) (hsrc : RB w (evalR ρ x) m) (hb : l.length + m.length ≤ 140737488355328) (hbase : base ≤ w.heap.size)
    (h : ∀ v' w', w'.ownsRow base e 1 v' (l ++ m).length (Lib.byteCells (l ++ m)) → Grew w w' (evalR ρ s) v' → K v' w') : Yk P K ((execOp (evalR ρ) ⟨d, .call ⟨.builtin .append, #[s, x], #[t, tx]⟩, ty, pos, af, gd⟩).run P w) :=
  Yk.append s x base e z 1 1 ht hi hzs l.length (Lib.byteCells l) hown m.length (Lib.byteCells m) (hsrc.src hu) (by unfold maxLen; omega) (by omega) hbase fun v' w' ho g => h v' w' (by rw [List.length_append, Lib.byteCells_append]; exact ho) g
theorem newB_lit (w : World) (e : TypeId) (l : List UInt8) (hl : l.length ≤ 9223372036854775807) : NewB e w (w.alloc (.cells (Lib.byteCells l).toArray e)) (.slice (some ⟨w.heap.size, 0, none⟩) l.length l.length) l :=
  ⟨⟨by rw [Lib.byteCells_length]; simp, .inr ⟨w.heap.size, l.length, (Lib.byteCells l).toArray, rfl, Nat.le_refl _, heap_alloc_new w _, Nat.le_refl _, hl, by simp [Lib.byteCells_length], by rw [show l.length * 1 = (Lib.byteCells l).length by rw [Lib.byteCells_length]; simp]; exact List.take_length⟩⟩, World.grownBy_alloc _ _ none⟩
theorem Yk.callA {f : FuncId} (hp : Plain P f) {args : Array Operand} {at_ : Array TypeId} (vs : List Value) (hv : args.toList.map (evalR ρ) = vs)
    (h : Calls P f vs.toArray w fun e w' => ∃ v, e = .returned v ∧ K v w') : Yk P K ((execOp (evalR ρ) ⟨d, .call ⟨.value (.func f), args, at_⟩, ty, pos, af, gd⟩).run P w) := by
  subst hv
  have := Yk.call (P := P) (K := K) hp (ρ := ρ) (args := args.toList) (at_ := at_) (dst := d) (ty := ty) (pos := pos) (af := af) (gd := gd) (w := w) h
  simpa using this
theorem Yk.callA0 {f : FuncId} (hp : Plain P f) {at_ : Array TypeId}
    (h : Calls P f #[] w fun e w' => ∃ v, e = .returned v ∧ K v w') : Yk P K ((execOp (evalR ρ) ⟨d, .call ⟨.value (.func f), #[], at_⟩, ty, pos, af, gd⟩).run P w) :=
  Yk.callA hp [] (by simp) h
theorem Yk.callA1 {f : FuncId} (hp : Plain P f) {x0 : Operand} {v0 : Value} {at_ : Array TypeId} (h0 : evalR ρ x0 = v0)
    (h : Calls P f #[v0] w fun e w' => ∃ v, e = .returned v ∧ K v w') : Yk P K ((execOp (evalR ρ) ⟨d, .call ⟨.value (.func f), #[x0], at_⟩, ty, pos, af, gd⟩).run P w) :=
  Yk.callA hp [v0] (by simp [h0]) h
theorem Yk.callA2 {f : FuncId} (hp : Plain P f) {x0 x1 : Operand} {v0 v1 : Value} {at_ : Array TypeId} (h0 : evalR ρ x0 = v0) (h1 : evalR ρ x1 = v1)
    (h : Calls P f #[v0, v1] w fun e w' => ∃ v, e = .returned v ∧ K v w') : Yk P K ((execOp (evalR ρ) ⟨d, .call ⟨.value (.func f), #[x0, x1], at_⟩, ty, pos, af, gd⟩).run P w) :=
  Yk.callA hp [v0, v1] (by simp [h0, h1]) h
theorem Yk.callA3 {f : FuncId} (hp : Plain P f) {x0 x1 x2 : Operand} {v0 v1 v2 : Value} {at_ : Array TypeId} (h0 : evalR ρ x0 = v0) (h1 : evalR ρ x1 = v1) (h2 : evalR ρ x2 = v2)
    (h : Calls P f #[v0, v1, v2] w fun e w' => ∃ v, e = .returned v ∧ K v w') : Yk P K ((execOp (evalR ρ) ⟨d, .call ⟨.value (.func f), #[x0, x1, x2], at_⟩, ty, pos, af, gd⟩).run P w) :=
  Yk.callA hp [v0, v1, v2] (by simp [h0, h1, h2]) h
theorem Yk.convRB {src dst e : TypeId} (hs : P.underlying src = some (.slice e)) (he : P.underlying e = some (.int .u8)) (hd : P.underlying dst = some .string) {x : Operand} {l : List UInt8}
    (h : RB w (evalR ρ x) l) (hk : K (.string ⟨l.toArray⟩) w) : Yk P K ((execOp (evalR ρ) ⟨d, .convert src dst x, ty, pos, af, gd⟩).run P w) := by
  have hr := run_conv (P := P) hs he hd h
  refine Yk.value (v := .string ⟨l.toArray⟩) (w' := w) ?_ hk
  unfold execOp
  simp only [Sem.run_bind, hr, Result.andThen_ok, Sem.run_pure]
theorem RB.of {v x : Value} {l : List UInt8} (h : RB w v l) (e : x = v) : RB w x l := by rw [e]; exact h
theorem PCell.of {v x y : Value} (h : PCell v x w) (e : y = x) : PCell v y w := by rw [e]; exact h
theorem own_of {v x : Value} {b : Nat} {e : TypeId} {z n : Nat} {xs : List Value} (h : w.ownsRow b e z v n xs) (e' : x = v) : w.ownsRow b e z x n xs := by rw [e']; exact h
theorem oM {Q : PostF} {ops : Array Oper} {n : Nat} {rest : List Oper} {dst : Option Tmp} {x : Operand} {ty : TypeId} {pos : String} {af : Array Edge} (hd : (match dst with | some d => Nat.blt d n | none => true) = true) (h : opsF P ops n Q rest (updO ρ dst (evalR ρ x)) w) : opsF P ops n Q (⟨dst, .move x, ty, pos, af, none⟩ :: rest) ρ w := oS hd (Yk.move rfl h)
theorem oA {Q : PostF} {ops : Array Oper} {n : Nat} {rest : List Oper} {dst : Option Tmp} {x : Operand} {ty : TypeId} {pos : String} {af : Array Edge} (hd : (match dst with | some d => Nat.blt d n | none => true) = true) (h : opsF P ops n Q rest (updO ρ dst (evalR ρ x)) w) : opsF P ops n Q (⟨dst, .assign x, ty, pos, af, none⟩ :: rest) ρ w := oS hd (Yk.assign rfl h)
def Holds (ρ : Slots) : List (Nat × Value) → Prop
  | [] => True
  | (t, v) :: r => ρ t = v ∧ Holds ρ r
theorem EndF.hold {ds : List Tmp} {ρ ρ' : Slots} (h : EndF ds ρ ρ') : ∀ (l : List (Nat × Value)) (_ : Holds ρ l) (_ : (l.all fun p => !ds.contains p.1) = true), Holds ρ' l
  | [], _, _ => trivial
  | (t, v) :: r, hl, hd => by
    rw [List.all_cons, Bool.and_eq_true] at hd
    exact ⟨h.at_ hl.1 (by simpa using hd.1), EndF.hold h r hl.2 hd.2⟩
theorem frame_named {Q : PostF} {e : Exit} (l : List (Nat × Value)) (hF : Holds ρ l) (h : ∀ ρ', Holds ρ' l → Q e ρ' w) : Q e ρ w := h ρ hF
theorem oL_ {Q : PostF} {ops : Array Oper} {n : Nat} (l : List (Nat × Value)) (hF : Holds ρ l) (h : ∀ ρ', Holds ρ' l → Q .normal ρ' w) : opsF P ops n Q [] ρ w := oZ (h ρ hF)
theorem ext_grew {w0 w w' : World} {v v' : Value} {b : Nat} {e : TypeId} {z n : Nat} {xs : List Value} (h : Ext w0 w) (g : Grew w w' v v') (ho : w.ownsRow b e z v n xs) (hb : w0.heap.size ≤ b) : Ext w0 w' :=
  Below.grown h g.by_ h.size (fun k hk => Nat.le_trans hb (ho.lt k hk).1)
theorem blk_grew {w w' : World} {v v' : Value} {g : Nat} {o : Obj} (h : w.heap[g]? = some o) (gr : Grew w w' v v') (hne : v.ownBlock ≠ some g) : w'.heap[g]? = some o :=
  (gr.by_.block g (Array.getElem?_eq_some_iff.1 h).1 (fun e => hne e.symm)).trans h
theorem own_older {w : World} {v : Value} {b : Nat} {e : TypeId} {z n : Nat} {xs : List Value} {g : Nat} (ho : w.ownsRow b e z v n xs) (hg : g < b) : v.ownBlock ≠ some g := fun h => by have := (ho.lt g h).1; omega
theorem own_newer {w : World} {v : Value} {b : Nat} {e : TypeId} {z n : Nat} {xs : List Value} {g : Nat} (ho : w.ownsRow b e z v n xs) (hg : w.heap.size ≤ g) : v.ownBlock ≠ some g := fun h => by have := (ho.lt g h).2; omega
theorem apart_grew {w w' : World} {v v' : Value} {g : Nat} (gr : Grew w w' v v') (h : v.ownBlock ≠ some g) (hg : g < w.heap.size) : v'.ownBlock ≠ some g := fun h' => by
  rcases gr.fresh g h' with h1 | h1
  · exact h h1
  · omega
theorem own_kept {w w' : World} {v : Value} {b : Nat} {e : TypeId} {z n : Nat} {xs : List Value} {g : Nat} (ho : w.ownsRow b e z v n xs) (h : w.grownBy w' (some g)) (hne : v.ownBlock ≠ some g) : w'.ownsRow b e z v n xs :=
  ho.kept h (.inr hne)
theorem Yk.lit1 {t e : TypeId} (hr : ∀ (z : Int) (w : World), (Instr.buildSlice t 1 #[(0, .int .u8 z)]).run P w = .ok (.slice (some ⟨w.heap.size, 0, none⟩) 1 1) (w.alloc (.cells #[.int .u8 z] e))) {x : Operand} {b : UInt8} (hx : evalR ρ x = B8 b)
    (hk : ∀ v w', NewB e w w' v [b] → K v w') : Yk P K ((execOp (evalR ρ) ⟨d, .buildSlice t 1 #[(0, x)], ty, pos, af, gd⟩).run P w) := by
  have hr' : (execOp (evalR ρ) ⟨d, .buildSlice t 1 #[(0, x)], ty, pos, af, gd⟩).run P w = .ok (.value (.slice (some ⟨w.heap.size, 0, none⟩) 1 1)) (w.alloc (.cells #[B8 b] e)) := by
    have := hr (b.toNat : Int) w
    unfold execOp
    simp only [List.map_toArray, List.map_cons, List.map_nil, hx, Sem.run_bind]
    rw [this]
    rfl
  rw [hr']
  exact hk _ _ (newB_lit w e [b] (by simp))
theorem Yk.lit0 {t e : TypeId} (hr : ∀ (w : World), (Instr.buildSlice t 0 #[]).run P w = .ok (.slice (some ⟨w.heap.size, 0, none⟩) 0 0) (w.alloc (.cells #[] e)))
    (hk : ∀ v w', NewB e w w' v [] → K v w') : Yk P K ((execOp (evalR ρ) ⟨d, .buildSlice t 0 #[], ty, pos, af, gd⟩).run P w) := by
  have hr' : (execOp (evalR ρ) ⟨d, .buildSlice t 0 #[], ty, pos, af, gd⟩).run P w = .ok (.value (.slice (some ⟨w.heap.size, 0, none⟩) 0 0)) (w.alloc (.cells #[] e)) := by
    unfold execOp
    simp only [List.map_toArray, List.map_nil, Sem.run_bind, hr, Result.andThen_ok, Sem.run_pure]
  rw [hr']
  exact hk _ _ (newB_lit w e [] (by decide))
theorem Yk.litN {t e : TypeId} {n : Nat} {parts : Array (Nat × Operand)} (l : List UInt8) (hl : l.length ≤ 9223372036854775807) (hr : ∀ (σ : Slots) (w : World), (execOp (evalR σ) ⟨d, .buildSlice t n parts, ty, pos, af, gd⟩).run P w = .ok (.value (.slice (some ⟨w.heap.size, 0, none⟩) l.length l.length)) (w.alloc (.cells (Lib.byteCells l).toArray e)))
    (hk : ∀ v w', NewB e w w' v l → K v w') : Yk P K ((execOp (evalR ρ) ⟨d, .buildSlice t n parts, ty, pos, af, gd⟩).run P w) := by
  rw [hr]
  exact hk _ _ (newB_lit w e l hl)
theorem byte_at {l : List UInt8} {i : Nat} (hi : i < l.length) : (Lib.byteCells l)[i]? = some (B8 (l.getD i 0)) := by simp [Lib.byteCells, hi]
theorem word_at {l : List UInt32} {i : Nat} (hi : i < l.length) : (l.map fun x => U x)[i]? = some (U (l.getD i 0)) := by simp [hi]
theorem byteCells_set (l : List UInt8) (i : Nat) (x : UInt8) : (Lib.byteCells l).set i (B8 x) = Lib.byteCells (l.set i x) := by simp [Lib.byteCells, List.map_set]
theorem cellAt {b : Nat} {l : List Value} {t : TypeId} {fr : Nat × Nat} (h : w.heap[b]? = some (.cells l.toArray t fr)) {i : Nat} {v : Value} (hi : l[i]? = some v) : w.cell? ⟨b, i, none⟩ = some v := by
  simp [World.cell?, h, hi]
theorem Yk.storeC {t' : TypeId} {x y : Operand} {g i : Nat} {cs : List Value} {t : TypeId} {v : Value} (hx : evalR ρ x = .pointer (some ⟨g, i, none⟩)) (hy : evalR ρ y = v) (hg : w.heap[g]? = some (.cells cs.toArray t (0, 0))) (hi : i < cs.length) (hinfo : (P.info? t').map (·.size) = some 1) (hv : v.cells = #[v]) (h1 : v.oneCell' = true)
    (hk : ∀ w', w'.heap[g]? = some (.cells (cs.set i v).toArray t (0, 0)) → w.grownBy w' (some g) → w'.heap.size = w.heap.size → K undef w') : Yk P K ((execOp (evalR ρ) ⟨d, .store t' x y, ty, pos, af, gd⟩).run P w) := by
  have hst := run_storeCells_at P g i t [v] 0 cs.toArray w hg (by simp; omega) (by simpa using h1)
  have e : (cs.toArray.toList.take (i + 0) ++ [v] ++ cs.toArray.toList.drop (i + 0 + [v].length)) = cs.set i v := by
    rw [List.set_eq_take_append_cons_drop, if_pos hi]
    simp
  rw [e] at hst
  have hr : (Instr.storeAt t' (.pointer (some ⟨g, i, none⟩)) v).run P w = .ok () (w.setRow g (cs.set i v).toArray) := by
    cases hq : P.info? t' with
    | none => simp [hq] at hinfo
    | some q =>
      have hs : q.size = 1 := by simp [hq] at hinfo; omega
      simp [Instr.storeAt, Instr.sureAddr, storeVar, sizeOf, typeInfo, hq, hv, hs, hst]
  unfold execOp
  simp only [hx, hy, hr, Sem.run_bind, Result.andThen_ok, Sem.run_pure]
  exact hk _ (setRow_heap w g cs.toArray _ t (0, 0) hg) ⟨rfl, rfl, rfl, by simp, fun k _ hk => setRow_other w g k _ (fun e => hk (by rw [e]))⟩ (by simp)
theorem Yk.storeB8 {t' : TypeId} {x y : Operand} {g i : Nat} {l : List UInt8} {t : TypeId} {v : UInt8} (hx : evalR ρ x = .pointer (some ⟨g, i, none⟩)) (hy : evalR ρ y = B8 v) (hg : w.heap[g]? = some (.cells (Lib.byteCells l).toArray t (0, 0))) (hi : i < l.length) (hinfo : (P.info? t').map (·.size) = some 1)
    (hk : ∀ w', w'.heap[g]? = some (.cells (Lib.byteCells (l.set i v)).toArray t (0, 0)) → w.grownBy w' (some g) → w'.heap.size = w.heap.size → K undef w') : Yk P K ((execOp (evalR ρ) ⟨d, .store t' x y, ty, pos, af, gd⟩).run P w) :=
  Yk.storeC hx hy hg (by rw [Lib.byteCells_length]; exact hi) hinfo rfl rfl fun w' h1 h2 h3 => hk w' (by rw [← byteCells_set]; exact h1) h2 h3
theorem Yk.storeU32 {t' : TypeId} {x y : Operand} {g i : Nat} {l : List UInt32} {t : TypeId} {v : UInt32} (hx : evalR ρ x = .pointer (some ⟨g, i, none⟩)) (hy : evalR ρ y = U v) (hg : w.heap[g]? = some (.cells (l.map fun x => U x).toArray t (0, 0))) (hi : i < l.length) (hinfo : (P.info? t').map (·.size) = some 1)
    (hk : ∀ w', w'.heap[g]? = some (.cells ((l.set i v).map fun x => U x).toArray t (0, 0)) → w.grownBy w' (some g) → w'.heap.size = w.heap.size → K undef w') : Yk P K ((execOp (evalR ρ) ⟨d, .store t' x y, ty, pos, af, gd⟩).run P w) :=
  Yk.storeC hx hy hg (by simpa using hi) hinfo rfl rfl fun w' h1 h2 h3 => hk w' (by rw [List.map_set]; exact h1) h2 h3
theorem Yk.storeAll {t' : TypeId} {x y : Operand} {g : Nat} {cells cur : Array Value} {t : TypeId} (hx : evalR ρ x = .pointer (some ⟨g, 0, none⟩)) (hy : evalR ρ y = .agg cells) (hg : w.heap[g]? = some (.cells cur t (0, 0))) (hs : cells.size = cur.size) (hi : (P.info? t').map (·.size) = some cells.size) (h1 : ∀ v ∈ cells.toList, v.oneCell' = true)
    (hk : ∀ w', w'.heap[g]? = some (.cells cells t (0, 0)) → w.grownBy w' (some g) → w'.heap.size = w.heap.size → K undef w') : Yk P K ((execOp (evalR ρ) ⟨d, .store t' x y, ty, pos, af, gd⟩).run P w) := by
  have hr := run_storeAt_row (P := P) w g t' cells cur t hg hs hi h1
  unfold execOp
  simp only [hx, hy, hr, Sem.run_bind, Result.andThen_ok, Sem.run_pure]
  exact hk _ (setRow_heap w g cur cells t (0, 0) hg) ⟨rfl, rfl, rfl, by simp, fun k _ hk => setRow_other w g k _ (fun e => hk (by rw [e]))⟩ (by simp)
theorem Yk.loadAll {t' : TypeId} {x : Operand} {g : Nat} {cs : Array Value} {t : TypeId} {fr : Nat × Nat} {de : TypeDesc} (hx : evalR ρ x = .pointer (some ⟨g, 0, none⟩)) (hg : w.heap[g]? = some (.cells cs t fr)) (hu : P.underlying t' = some de) (hd : (match de with | .struct _ | .array _ _ => true | _ => false) = true) (hi : (P.info? t').map (·.size) = some cs.size)
    (hk : K (.agg cs) w) : Yk P K ((execOp (evalR ρ) ⟨d, .load t' x, ty, pos, af, gd⟩).run P w) := by
  have hr := run_loadVar_row w g t t' cs fr de hg hu hd hi
  refine Yk.value (v := .agg cs) (w' := w) ?_ hk
  unfold execOp
  simp [hx, Instr.loadAt, Instr.sureAddr, hr]
def sliceLen : Value → Nat
  | .slice _ n _ => n
  | _ => 0
theorem own_sliceLen {b : Nat} {e : TypeId} {z n : Nat} {xs : List Value} {v : Value} (h : w.ownsRow b e z v n xs) : sliceLen v = n := by
  rcases h.2 with ⟨rfl, h0⟩ | ⟨g, cap, cur, rfl, -⟩
  · exact h0.symm
  · rfl
theorem RB.sliceLen {v : Value} {l : List UInt8} (h : RB w v l) : sliceLen v = l.length := by
  obtain ⟨-, ao, cap, rfl, -⟩ := h
  rfl
theorem own_eq {b : Nat} {e : TypeId} {v : Value} {l l' : List UInt8} (h : w.ownsRow b e 1 v l.length (Lib.byteCells l)) (e' : l = l') : w.ownsRow b e 1 v l'.length (Lib.byteCells l') := by rw [← e']; exact h
theorem blk_eq {g : Nat} {l l' : List Value} {t : TypeId} {fr : Nat × Nat} (h : w.heap[g]? = some (.cells l.toArray t fr)) (e : l = l') : w.heap[g]? = some (.cells l'.toArray t fr) := by rw [← e]; exact h
theorem Yk.sliceLo {t e : TypeId} (ht : P.underlying t = some (.slice e)) (he : ∀ w' : World, (sizeOf e).run P w' = .ok 1 w') {x lo : Operand} {v : Value} {xs : List UInt8} (hx : evalR ρ x = v) (h : RB w v xs) {k : IntKind} {l : Nat} (hlo : evalR ρ lo = .int k (l : Int)) (hl : l ≤ xs.length)
    (hk : ∀ v', RB w v' (xs.drop l) → v'.ownBlock = v.ownBlock → K v' w) : Yk P K ((execOp (evalR ρ) ⟨d, .slice t x (some lo) none none, ty, pos, af, gd⟩).run P w) := by
  obtain ⟨ao, c, ⟨hrun, hb⟩, hR⟩ := run_reslice_readsB ht he h (some (.int k l)) none l xs.length hl (Nat.le_refl _) (.inr ⟨k, rfl⟩) (.inl ⟨rfl, rfl⟩)
  have hR' := RB.take_drop (Nat.le_refl _) hR
  rw [List.take_of_length_le (by rw [List.length_drop]; exact Nat.le_refl _)] at hR'
  refine Yk.value (v := .slice ao (xs.length - l) c) (w' := w) ?_ (hk _ hR' hb)
  unfold execOp
  simp only [hx, hlo, Option.map_some, Option.map_none, hrun, Sem.run_bind, Sem.run_pure, Result.andThen_ok]
theorem Yk.sliceHi {t e : TypeId} (ht : P.underlying t = some (.slice e)) (he : ∀ w' : World, (sizeOf e).run P w' = .ok 1 w') {x hi : Operand} {v : Value} {xs : List UInt8} (hx : evalR ρ x = v) (h : RB w v xs) {k : IntKind} {n : Nat} (hhi : evalR ρ hi = .int k (n : Int)) (hn : n ≤ xs.length)
    (hk : ∀ v', RB w v' (xs.take n) → v'.ownBlock = v.ownBlock → K v' w) : Yk P K ((execOp (evalR ρ) ⟨d, .slice t x none (some hi) none, ty, pos, af, gd⟩).run P w) := by
  obtain ⟨ao, c, ⟨hrun, hb⟩, hR⟩ := run_reslice_readsB ht he h none (some (.int k n)) 0 n (Nat.zero_le _) hn (.inl ⟨rfl, rfl⟩) (.inr ⟨k, rfl⟩)
  have hR' := RB.take_drop hn hR
  rw [List.drop_zero, Nat.sub_zero] at hR'
  refine Yk.value (v := .slice ao (n - 0) c) (w' := w) ?_ (hk _ hR' hb)
  unfold execOp
  simp only [hx, hhi, Option.map_some, Option.map_none, hrun, Sem.run_bind, Sem.run_pure, Result.andThen_ok]
theorem Yk.storeHd {t' : TypeId} {x y : Operand} {g : Nat} {cells : Array Value} {cur : List Value} {t : TypeId} (hx : evalR ρ x = .pointer (some ⟨g, 0, none⟩)) (hy : evalR ρ y = .agg cells) (hg : w.heap[g]? = some (.cells cur.toArray t (0, 0))) (hs : cells.size ≤ cur.length) (hi : (P.info? t').map (·.size) = some cells.size) (h1 : ∀ v ∈ cells.toList, v.oneCell' = true)
    (hk : ∀ w', w'.heap[g]? = some (.cells (cells.toList ++ cur.drop cells.size).toArray t (0, 0)) → w.grownBy w' (some g) → w'.heap.size = w.heap.size → K undef w') : Yk P K ((execOp (evalR ρ) ⟨d, .store t' x y, ty, pos, af, gd⟩).run P w) := by
  have hst := run_storeCells_at P g 0 t cells.toList 0 cur.toArray w hg (by simpa using hs) h1
  have e : (cur.toArray.toList.take (0 + 0) ++ cells.toList ++ cur.toArray.toList.drop (0 + 0 + cells.toList.length)).toArray = (cells.toList ++ cur.drop cells.size).toArray := by simp
  rw [e] at hst
  have hr : (Instr.storeAt t' (.pointer (some ⟨g, 0, none⟩)) (.agg cells)).run P w = .ok () (w.setRow g (cells.toList ++ cur.drop cells.size).toArray) := by
    cases hq : P.info? t' with
    | none => simp [hq] at hi
    | some i =>
      have hsz : cells.size = i.size := by simp [hq] at hi; omega
      simp [Instr.storeAt, Instr.sureAddr, storeVar, sizeOf, typeInfo, hq, Value.cells, hsz, hst]
  unfold execOp
  simp only [hx, hy, hr, Sem.run_bind, Result.andThen_ok, Sem.run_pure]
  exact hk _ (setRow_heap w g cur.toArray _ t (0, 0) hg) ⟨rfl, rfl, rfl, by simp, fun k _ hk => setRow_other w g k _ (fun e => hk (by rw [e]))⟩ (by simp)
theorem Yk.loadPart {t' : TypeId} {x : Operand} {g o : Nat} {cs : List Value} {de : TypeDesc} (hx : evalR ρ x = .pointer (some ⟨g, o, none⟩)) (hc : w.rangeAt g o cs) (hu : P.underlying t' = some de) (hd : de.isRow = true) (hi : (P.info? t').map (·.size) = some cs.length)
    (hk : K (.agg cs.toArray) w) : Yk P K ((execOp (evalR ρ) ⟨d, .load t' x, ty, pos, af, gd⟩).run P w) := by
  refine Yk.value (v := .agg cs.toArray) (w' := w) ?_ hk
  simp only [execOp, hx, Sem.run_bind, run_loadAt_mid w g o t' cs de hc hu hd hi, Result.andThen_ok, Sem.run_pure]
section
variable {Q : PostF} {K : Slots → World → Prop}
theorem tN (h : K ρ w) : thenF K Q .normal ρ w := h
theorem thenF_exit {i : Nat} (h : Q (.exit i) ρ w) : thenF K Q (.exit i) ρ w := h
theorem thenF_ret (h : Q .ret ρ w) : thenF K Q .ret ρ w := h
theorem bN {i : Nat} (h : Q .normal ρ w) : inBlockF i Q .normal ρ w := h
theorem inBlockF_ret {i : Nat} (h : Q .ret ρ w) : inBlockF i Q .ret ρ w := h
theorem inBlockF_hit {i : Nat} (h : Q .normal ρ w) : inBlockF i Q (.exit i) ρ w := by
  simp only [inBlockF, if_true]
  exact h
end
theorem Yk.idxA {xType e : TypeId} {n : Nat} (ht : P.underlying xType = some (.array n e)) {de : TypeDesc} (he : P.underlying e = some de) (hd : (match de with | .struct _ | .array _ _ => false | _ => true) = true) (hs : ∀ w' : World, (sizeOf e).run P w' = .ok 1 w') {x y : Operand} {cs : List Value} {v : Value} {i : Nat} {k : IntKind}
    (hx : evalR ρ x = .agg cs.toArray) (hy : evalR ρ y = .int k (i : Int)) (hi : i < n) (hv : cs[i]? = some v) (hk : K v w) : Yk P K ((execOp (evalR ρ) ⟨d, .index xType x y, ty, pos, af, gd⟩).run P w) := by
  have hagg : (isAgg e).run P w = .ok false w := by
    unfold isAgg
    rw [Sem.run_bind, run_underlying he w]
    cases de <;> simp_all
  refine Yk.value (v := v) (w' := w) ?_ hk
  unfold execOp
  simp only [hx, hy, Instr.index, asIntOf, Sem.run_bind, Sem.run_pure, Result.andThen_ok, run_underlying ht]
  rw [if_pos (by omega)]
  simp [hs, part, hagg, hv]
theorem Yk.idxU {xType e : TypeId} {n : Nat} (ht : P.underlying xType = some (.array n e)) {de : TypeDesc} (he : P.underlying e = some de) (hd : (match de with | .struct _ | .array _ _ => false | _ => true) = true) (hs : ∀ w' : World, (sizeOf e).run P w' = .ok 1 w') {x y : Operand} {l : List UInt32} {i : Nat} {k : IntKind}
    (hx : evalR ρ x = .agg (l.map fun x => U x).toArray) (hy : evalR ρ y = .int k (i : Int)) (hi : i < n) (hl : l.length = n) (hk : K (U (l.getD i 0)) w) : Yk P K ((execOp (evalR ρ) ⟨d, .index xType x y, ty, pos, af, gd⟩).run P w) :=
  Yk.idxA ht he hd hs hx hy hi (word_at (by omega)) hk
theorem Yk.idxB {xType e : TypeId} {n : Nat} (ht : P.underlying xType = some (.array n e)) {de : TypeDesc} (he : P.underlying e = some de) (hd : (match de with | .struct _ | .array _ _ => false | _ => true) = true) (hs : ∀ w' : World, (sizeOf e).run P w' = .ok 1 w') {x y : Operand} {l : List UInt8} {i : Nat} {k : IntKind}
    (hx : evalR ρ x = .agg (Lib.byteCells l).toArray) (hy : evalR ρ y = .int k (i : Int)) (hi : i < n) (hl : l.length = n) (hk : K (B8 (l.getD i 0)) w) : Yk P K ((execOp (evalR ρ) ⟨d, .index xType x y, ty, pos, af, gd⟩).run P w) :=
  Yk.idxA ht he hd hs hx hy hi (byte_at (by omega)) hk
theorem struct_of {t : TypeId} (h : (match P.underlying t with | some (.struct _) => true | _ => false) = true) : ∃ fs, P.underlying t = some (.struct fs) := by
  split at h
  · exact ⟨_, ‹_›⟩
  · cases h
theorem Yk.atArr0 {t e : TypeId} {n : Nat} (ht : P.underlying t = some (.array n e)) (he : ∀ w' : World, (sizeOf e).run P w' = .ok 1 w') {x y : Operand} {b i : Nat} {k : IntKind}
    (hx : evalR ρ x = .pointer (some ⟨b, 0, none⟩)) (hy : evalR ρ y = .int k (i : Int)) (hi : i < n) (hk : K (.pointer (some ⟨b, i, none⟩)) w) : Yk P K ((execOp (evalR ρ) ⟨d, .indexAddr t x y, ty, pos, af, gd⟩).run P w) :=
  Yk.atArr ht he hx hy hi (by rw [Nat.zero_add]; exact hk)
theorem run_ptrNil {t e : TypeId} (ht : P.underlying t = some (.pointer e)) (a : Option Addr) (w : World) : (Op.equal t (.pointer a) (.pointer none)).run P w = .ok a.isNone w := by
  unfold Op.equal
  rw [show Op.maxDepth = (Op.maxDepth - 1) + 1 from rfl]
  cases a <;> simp [Op.equalIn, run_underlying ht, Sem.run_bind, Sem.run_pure]
theorem Yk.eqlNil {t e ty2 : TypeId} (ht : P.underlying t = some (.pointer e)) {x : Operand} {a : Option Addr} (hx : evalR ρ x = .pointer a) (hk : K (.bool a.isNone) w) : Yk P K ((execOp (evalR ρ) ⟨d, .binOp .eql t x (.const (.pointer none)) ty2, ty, pos, af, gd⟩).run P w) := by
  have hy : evalR ρ (.const (.pointer none)) = .pointer none := rfl
  refine Yk.value (v := .bool a.isNone) (w' := w) ?_ hk
  have hr := run_ptrNil ht a w
  unfold execOp
  simp only [hx, hy]
  cases a <;> simp [eqGuard, Go.binOp, hr]
theorem Yk.neqNil {t e ty2 : TypeId} (ht : P.underlying t = some (.pointer e)) {x : Operand} {a : Option Addr} (hx : evalR ρ x = .pointer a) (hk : K (.bool !a.isNone) w) : Yk P K ((execOp (evalR ρ) ⟨d, .binOp .neq t x (.const (.pointer none)) ty2, ty, pos, af, gd⟩).run P w) := by
  have hy : evalR ρ (.const (.pointer none)) = .pointer none := rfl
  refine Yk.value (v := .bool !a.isNone) (w' := w) ?_ hk
  have hr := run_ptrNil ht a w
  unfold execOp
  simp only [hx, hy]
  cases a <;> simp [eqGuard, Go.binOp, hr]
theorem row_fresh {w0 w1 w2 : World} {g : Nat} (h0 : Ext w0 w1) (h : w1.grownBy w2 (some g)) (hg : w0.heap.size ≤ g) : Ext w0 w2 :=
  Below.grown h0 h h0.size (fun k hk => by cases hk; exact hg)
end
/-! ### Numbers that are not below 0 -/
section
theorem k_lss (t : TypeId) (k : IntKind) (a b : Nat) : Go.binOp .lss t (.int k (a : Int)) (.int k (b : Int)) = pure (.bool (decide (a < b))) := by
  simp [Go.binOp, Op.intCmp]
theorem k_leq (t : TypeId) (k : IntKind) (a b : Nat) : Go.binOp .leq t (.int k (a : Int)) (.int k (b : Int)) = pure (.bool (decide (a ≤ b))) := by
  simp [Go.binOp, Op.intCmp]
theorem k_gtr (t : TypeId) (k : IntKind) (a b : Nat) : Go.binOp .gtr t (.int k (a : Int)) (.int k (b : Int)) = pure (.bool (decide (b < a))) := by
  simp [Go.binOp, Op.intCmp]
theorem k_geq (t : TypeId) (k : IntKind) (a b : Nat) : Go.binOp .geq t (.int k (a : Int)) (.int k (b : Int)) = pure (.bool (decide (b ≤ a))) := by
  simp [Go.binOp, Op.intCmp]
theorem k_eql (t : TypeId) (k : IntKind) (a b : Nat) : Go.binOp .eql t (.int k (a : Int)) (.int k (b : Int)) = pure (.bool (decide (a = b))) := by
  have : ((a : Int) == (b : Int)) = decide (a = b) := by rw [Bool.eq_iff_iff]; simp; omega
  simp [Go.binOp, Op.intCmp, this]
theorem k_neq (t : TypeId) (k : IntKind) (a b : Nat) : Go.binOp .neq t (.int k (a : Int)) (.int k (b : Int)) = pure (.bool (decide (a ≠ b))) := by
  have : ((a : Int) != (b : Int)) = decide (a ≠ b) := by rw [Bool.eq_iff_iff]; simp; omega
  simp [Go.binOp, Op.intCmp, this]
theorem z_lss (t : TypeId) (k : IntKind) (a b : Int) : Go.binOp .lss t (.int k a) (.int k b) = pure (.bool (decide (a < b))) := by simp [Go.binOp, Op.intCmp]
theorem z_leq (t : TypeId) (k : IntKind) (a b : Int) : Go.binOp .leq t (.int k a) (.int k b) = pure (.bool (decide (a ≤ b))) := by simp [Go.binOp, Op.intCmp]
theorem z_gtr (t : TypeId) (k : IntKind) (a b : Int) : Go.binOp .gtr t (.int k a) (.int k b) = pure (.bool (decide (b < a))) := by simp [Go.binOp, Op.intCmp]
theorem wrap_i64 (n : Nat) (h : n < 9223372036854775808) : IntKind.i64.wrap (n : Int) = (n : Int) := by
  simp only [IntKind.wrap, IntKind.bits, IntKind.signed]
  have : (n : Int) % (2 ^ 64 : Int) = n := by omega
  simp only [this]
  rw [if_neg]
  simp
  omega
theorem i64_add (t : TypeId) (a b : Nat) (h : a + b < 9223372036854775808) : Go.binOp .add t (.int .i64 (a : Int)) (.int .i64 (b : Int)) = pure (.int .i64 ((a + b : Nat) : Int)) := by
  unfold Go.binOp
  simp only [ne_eq, not_true_eq_false, if_false, Op.intArith]
  rw [← Int.natCast_add, wrap_i64 _ h]
theorem i64_mul (t : TypeId) (a b : Nat) (h : a * b < 9223372036854775808) : Go.binOp .mul t (.int .i64 (a : Int)) (.int .i64 (b : Int)) = pure (.int .i64 ((a * b : Nat) : Int)) := by
  unfold Go.binOp
  simp only [ne_eq, not_true_eq_false, if_false, Op.intArith]
  rw [← Int.natCast_mul, wrap_i64 _ h]
theorem i64_sub (t : TypeId) (a b : Nat) (h : a < 9223372036854775808) (hb : b ≤ a) : Go.binOp .sub t (.int .i64 (a : Int)) (.int .i64 (b : Int)) = pure (.int .i64 ((a - b : Nat) : Int)) := by
  unfold Go.binOp
  simp only [ne_eq, not_true_eq_false, if_false, Op.intArith]
  rw [← Int.natCast_sub hb, wrap_i64 _ (by omega)]
theorem i64_quo (t : TypeId) (a b : Nat) (h : a < 9223372036854775808) (hb : 0 < b) : Go.binOp .quo t (.int .i64 (a : Int)) (.int .i64 (b : Int)) = pure (.int .i64 ((a / b : Nat) : Int)) := by
  unfold Go.binOp
  simp only [ne_eq, not_true_eq_false, if_false, Op.intDiv]
  rw [if_neg (by omega), ← Int.ofNat_tdiv, wrap_i64 _ (Nat.lt_of_le_of_lt (Nat.div_le_self a b) h)]
theorem i64_rem (t : TypeId) (a b : Nat) (hb : 0 < b) : Go.binOp .rem t (.int .i64 (a : Int)) (.int .i64 (b : Int)) = pure (.int .i64 ((a % b : Nat) : Int)) := by
  unfold Go.binOp
  simp only [ne_eq, not_true_eq_false, if_false, Op.intDiv]
  rw [if_neg (by omega), ← Int.ofNat_tmod]
theorem i64_shr (t : TypeId) (a : Nat) (j : IntKind) (n : Nat) (hn : n < 64) : Go.binOp .shr t (.int .i64 (a : Int)) (.int j (n : Int)) = pure (.int .i64 ((a / 2 ^ n : Nat) : Int)) := by
  unfold Go.binOp
  simp only [Op.shift, IntKind.bits]
  rw [if_neg (by omega), Int.toNat_natCast, Nat.min_eq_left (by omega)]
  have : (a : Int).fdiv (2 ^ n) = ((a / 2 ^ n : Nat) : Int) := by
    rw [show (2 ^ n : Int) = ((2 ^ n : Nat) : Int) by simp, Int.fdiv_eq_ediv_of_nonneg _ (Int.natCast_nonneg _)]
    rfl
  rw [this]
theorem i64_shl (t : TypeId) (a : Nat) (j : IntKind) (n : Nat) (hn : n < 64) (h : a * 2 ^ n < 9223372036854775808) : Go.binOp .shl t (.int .i64 (a : Int)) (.int j (n : Int)) = pure (.int .i64 ((a * 2 ^ n : Nat) : Int)) := by
  unfold Go.binOp
  simp only [Op.shift, IntKind.bits]
  rw [if_neg (by omega), Int.toNat_natCast, Nat.min_eq_left (by omega)]
  have : (a : Int) * 2 ^ n = ((a * 2 ^ n : Nat) : Int) := by simp
  rw [this, wrap_i64 _ h]
theorem wrap_u64 (n : Nat) (h : n < 18446744073709551616) : IntKind.u64.wrap (n : Int) = (n : Int) := by
  simp only [IntKind.wrap, IntKind.bits, IntKind.signed]
  have : (n : Int) % (2 ^ 64 : Int) = n := by omega
  simp only [this]
  simp
theorem u64_mul (t : TypeId) (a b : Nat) (h : a * b < 18446744073709551616) : Go.binOp .mul t (.int .u64 (a : Int)) (.int .u64 (b : Int)) = pure (.int .u64 ((a * b : Nat) : Int)) := by
  unfold Go.binOp
  simp only [ne_eq, not_true_eq_false, if_false, Op.intArith]
  rw [← Int.natCast_mul, wrap_u64 _ h]
theorem u64_sub (t : TypeId) (a b : Nat) (h : a < 18446744073709551616) (hb : b ≤ a) : Go.binOp .sub t (.int .u64 (a : Int)) (.int .u64 (b : Int)) = pure (.int .u64 ((a - b : Nat) : Int)) := by
  unfold Go.binOp
  simp only [ne_eq, not_true_eq_false, if_false, Op.intArith]
  rw [← Int.natCast_sub hb, wrap_u64 _ (by omega)]
theorem u64_shr (t : TypeId) (a : Nat) (j : IntKind) (n : Nat) (hn : n < 64) : Go.binOp .shr t (.int .u64 (a : Int)) (.int j (n : Int)) = pure (.int .u64 ((a / 2 ^ n : Nat) : Int)) := by
  unfold Go.binOp
  simp only [Op.shift, IntKind.bits]
  rw [if_neg (by omega), Int.toNat_natCast, Nat.min_eq_left (by omega)]
  have : (a : Int).fdiv (2 ^ n) = ((a / 2 ^ n : Nat) : Int) := by
    rw [show (2 ^ n : Int) = ((2 ^ n : Nat) : Int) by simp, Int.fdiv_eq_ediv_of_nonneg _ (Int.natCast_nonneg _)]
    rfl
  rw [this]
theorem wrap_u8 (n : Nat) (h : n < 256) : IntKind.u8.wrap (n : Int) = (n : Int) := by
  simp only [IntKind.wrap, IntKind.bits, IntKind.signed]
  have : (n : Int) % (2 ^ 8 : Int) = n := by omega
  simp only [this]
  simp
theorem u8_shr (t : TypeId) (a : Nat) (j : IntKind) (n : Nat) (hn : n < 8) : Go.binOp .shr t (.int .u8 (a : Int)) (.int j (n : Int)) = pure (.int .u8 ((a / 2 ^ n : Nat) : Int)) := by
  unfold Go.binOp
  simp only [Op.shift, IntKind.bits]
  rw [if_neg (by omega), Int.toNat_natCast, Nat.min_eq_left (by omega)]
  have : (a : Int).fdiv (2 ^ n) = ((a / 2 ^ n : Nat) : Int) := by
    rw [show (2 ^ n : Int) = ((2 ^ n : Nat) : Int) by simp, Int.fdiv_eq_ediv_of_nonneg _ (Int.natCast_nonneg _)]
    rfl
  rw [this]
theorem toByte (n : Nat) : IntKind.u8.wrap (n : Int) = ((UInt8.ofNat n).toNat : Int) := by
  rw [u8_wrap]
  simp
end
open Go.RowKit
open Go.WideMaps (KeyLaw)
structure KL (P : Program) (k : TypeId) (OK : Value → Prop) : Prop where
  check : ∀ (w : World) (em : Bool) {v : Value}, OK v → (Instr.checkKey em 10000 k v).run P w = .ok () w
  find : ∀ (w : World) {x : Value}, OK x → ∀ es : List MapEntry, (∀ e ∈ es, OK e.key) →
    ((Instr.findKey k x es).run P w = .ok none w ∧ ∀ e ∈ es, e.key ≠ x) ∨ ∃ j e, (Instr.findKey k x es).run P w = .ok (some (j, e.val)) w ∧ es[j]? = some e ∧ e.key = x
  stays : ∀ (w : World) {v : Value}, OK v → (Instr.keyThatStays v v).run P w = .ok v w
theorem KL.ofKey {P : Program} {k : TypeId} {d : TypeDesc} (hd : P.underlying k = some d) : KL P k (MapKept.IsKey d) :=
  ⟨fun w em _ h => MapKept.run_checkKey hd h em 9999, fun w x h es he => by
    rcases MapKept.findNow_spec h es 0 he with ⟨h1, h2⟩ | ⟨j, e, h1, h2, h3⟩
    · exact .inl ⟨MapKept.run_findKey hd h1, h2⟩
    · rw [Nat.zero_add] at h1
      exact .inr ⟨j, e, MapKept.run_findKey hd h1, h2, h3⟩, fun w _ h => MapKept.run_keyThatStays h⟩
section
variable {α β : Type} (ek : α → Value) (ev : β → Value) (D : α → Prop)
structure MapIn (G : α → Option β) (es : List MapEntry) : Prop where
  keys : (es.map (·.key)).Nodup
  ent : ∀ e ∈ es, ∃ a y, D a ∧ e.key = ek a ∧ e.val = ev y ∧ G a = some y
  all : ∀ a y, G a = some y → D a ∧ ∃ e ∈ es, e.key = ek a
def MapF (w : World) (b : Nat) (G : α → Option β) : Prop := ∃ es clock, w.heap[b]? = some (.map es.toArray clock) ∧ MapIn ek ev D G es ∧ MapKept.Stamped es.toArray clock
end
theorem stamped_sub {es es' : List MapEntry} {c : Nat} (hs : es'.Sublist es) (h : MapKept.Stamped es.toArray c) : MapKept.Stamped es'.toArray c := by
  obtain ⟨h1, h2, h3⟩ := h
  exact ⟨fun x hx => h1 x (hs.subset hx), (hs.map _).nodup h2, (hs.map _).nodup h3⟩
def updM {α β : Type} [DecidableEq α] (G : α → Option β) (a : α) (y : Option β) (c : α) : Option β := if c = a then y else G c
section
variable {α β : Type} {ek : α → Value} {ev : β → Value} {D : α → Prop} {P : Program} {w w' : World} {b : Nat} {G : α → Option β}
theorem MapF.keep (h : MapF ek ev D w b G) (k : Ext w w') : MapF ek ev D w' b G := by
  obtain ⟨es, c, h2, h3⟩ := h
  exact ⟨es, c, Ext.blk' k h2, h3⟩
theorem MapF.lt (h : MapF ek ev D w b G) : b < w.heap.size := by
  obtain ⟨es, c, h2, h3⟩ := h
  exact (Array.getElem?_eq_some_iff.1 h2).1
theorem MapF.other {r : Option Nat} (h : MapF ek ev D w b G) (k : w.grownBy w' r) (hr : r ≠ some b) : MapF ek ev D w' b G := by
  have hl := h.lt
  obtain ⟨es, c, h2, h3⟩ := h
  exact ⟨es, c, (k.block b hl (fun e => hr e.symm)).trans h2, h3⟩
theorem MapF.made (ek : α → Value) (ev : β → Value) (D : α → Prop) (w : World) : MapF ek ev D (w.alloc (.map #[] 0)) w.heap.size (fun _ => none) :=
  ⟨[], 0, heap_alloc_new w _, ⟨by simp, by simp, fun _ _ h => by cases h⟩, MapKept.stamped_empty 0⟩
section
variable {t K E : TypeId} {OK : Value → Prop} (L : KL P K OK) (hD : ∀ a, D a → OK (ek a)) (hi : ∀ a c, ek a = ek c → a = c) (ht : P.underlying t = some (.map K E))
include L hD hi ht
theorem MapF.look {z : Value} (hz : ∀ u : World, (zeroValue E).run P u = .ok z u) (h : MapF ek ev D w b G) {a : α} (ha : D a) (ok : Bool) :
    (Instr.lookup t (.map (some b)) (ek a) ok).run P w = .ok (if ok then .tuple #[(G a).elim z ev, .bool (G a).isSome] else (G a).elim z ev) w := by
  obtain ⟨es, c, hb, H, hS⟩ := h
  have hkeys : ∀ e ∈ es, OK e.key := fun e he => by
    obtain ⟨q, y, k1, k2, -⟩ := H.ent e he
    rw [k2]
    exact hD q k1
  rcases L.find w (hD a ha) es hkeys with ⟨f1, f2⟩ | ⟨j, e0, f1, f2, f3⟩
  · have hG : G a = none := by
      cases hG : G a with
      | none => rfl
      | some y =>
        obtain ⟨-, e, he, hek⟩ := H.all a y hG
        exact absurd hek (f2 e he)
    cases ok <;> simp [Instr.lookup, run_underlying ht, MapKept.run_getObj_map hb, L.check w _ (hD a ha), f1, hz, Result.andThen, hG]
  · obtain ⟨q, y, k1, k2, k3, k4⟩ := H.ent e0 (List.mem_of_getElem? f2)
    have : q = a := hi _ _ (k2.symm.trans f3)
    subst this
    cases ok <;> simp [Instr.lookup, run_underlying ht, MapKept.run_getObj_map hb, L.check w _ (hD q ha), f1, Result.andThen, k4, k3]
variable [DecidableEq α]
omit hi in
theorem MapF.put (h : MapF ek ev D w b G) {a : α} (ha : D a) (y : β) :
    ∃ w', (Instr.mapUpdate t (.map (some b)) (ek a) (ev y)).run P w = .ok () w' ∧ MapF ek ev D w' b (updM G a (some y)) ∧ w.grownBy w' (some b) ∧ w'.heap.size = w.heap.size := by
  obtain ⟨es, c, hb, H, hS⟩ := h
  have hkeys : ∀ e ∈ es, OK e.key := fun e he => by
    obtain ⟨q, y, k1, k2, -⟩ := H.ent e he
    rw [k2]
    exact hD q k1
  have hblt : b < w.heap.size := (Array.getElem?_eq_some_iff.1 hb).1
  have hgr : ∀ o, w.grownBy { w with heap := w.heap.setIfInBounds b o } (some b) := fun o => ⟨rfl, rfl, rfl, by simp, fun i _ hi => by simp only [Array.getElem?_setIfInBounds]; rw [if_neg (fun e => hi (by rw [e]))]⟩
  have hnew : ∀ o, ({ w with heap := w.heap.setIfInBounds b o } : World).heap[b]? = some o := fun o => by simp [hblt]
  rcases L.find w (hD a ha) es hkeys with ⟨f1, f2⟩ | ⟨j, e0, f1, f2, f3⟩
  · have hnone : ∀ x, G a ≠ some x := fun x hx => by
      obtain ⟨-, e, he, hek⟩ := H.all a x hx
      exact f2 e he hek
    refine ⟨{ w with heap := w.heap.setIfInBounds b (.map (es ++ [({ key := ek a, val := ev y, born := c } : MapEntry)]).toArray (c + 1)) }, ?_, ⟨_, _, hnew _, ⟨?_, ?_, ?_⟩, by have := MapKept.stamped_push hS (key := ek a) (val := ev y) (fun x hx => f2 x (by simpa using hx)); simpa using this⟩, hgr _, by simp⟩
    · simp [Instr.mapUpdate, run_underlying ht, MapKept.run_getObj_map hb, L.check w false (hD a ha), f1, MapKept.run_setObj_map _ hb, Result.andThen]
    · simp only [List.map_append, List.map_cons, List.map_nil]
      refine List.nodup_append.2 ⟨H.keys, by simp, fun x hx z hz e => ?_⟩
      obtain ⟨e1, he1, rfl⟩ := List.mem_map.1 hx
      simp at hz
      exact f2 e1 he1 (e.trans hz)
    · intro e he
      rcases List.mem_append.1 he with h1 | h1
      · obtain ⟨q, z, k1, k2, k3, k4⟩ := H.ent e h1
        refine ⟨q, z, k1, k2, k3, ?_⟩
        unfold updM
        rw [if_neg (fun e1 => f2 e h1 (by rw [k2, e1]))]
        exact k4
      · rw [List.mem_singleton.1 h1]
        exact ⟨a, y, ha, rfl, rfl, by unfold updM; rw [if_pos rfl]⟩
    · intro q z hq
      unfold updM at hq
      split at hq
      · rename_i e1
        subst e1
        exact ⟨ha, _, List.mem_append_right _ (List.mem_singleton.2 rfl), rfl⟩
      · obtain ⟨k1, e, he, hek⟩ := H.all q z hq
        exact ⟨k1, e, List.mem_append_left _ he, hek⟩
  · obtain ⟨q0, y0, k1, k2, k3, k4⟩ := H.ent e0 (List.mem_of_getElem? f2)
    have hjl : j < es.length := (List.getElem?_eq_some_iff.1 f2).1
    have hkeq : (es.modify j fun e => { e with key := ek a, val := ev y }).map (·.key) = es.map (·.key) := by
      rw [Go.ChangeMaps.modify_eq_set _ _ _ _ f2, List.map_set]
      exact Go.WideElems.set_self _ _ _ (by rw [List.getElem?_map, f2]; simp [f3])
    have hj : es.toArray[j]? = some e0 := by simpa using f2
    refine ⟨{ w with heap := w.heap.setIfInBounds b (.map (es.modify j fun e => { e with key := ek a, val := ev y }).toArray c) }, ?_, ⟨_, _, hnew _, ⟨?_, ?_, ?_⟩, by have := MapKept.stamped_modify hS j (fun e => { e with key := ek a, val := ev y }) (fun _ _ => rfl) (fun e _ he => by rw [hj] at he; cases he; exact f3.symm); rwa [List.modify_toArray] at this⟩, hgr _, by simp⟩
    · simp [Instr.mapUpdate, run_underlying ht, MapKept.run_getObj_map hb, L.check w false (hD a ha), f1, f2, f3, L.stays w (hD a ha), MapKept.run_setObj_map _ hb, Result.andThen]
    · rw [hkeq]
      exact H.keys
    · intro e he
      rw [Go.ChangeMaps.modify_eq_set _ _ _ _ f2] at he
      obtain ⟨i, hil, hie⟩ := List.mem_iff_getElem.1 he
      rw [List.getElem_set] at hie
      split at hie
      · subst hie
        exact ⟨a, y, ha, rfl, rfl, by unfold updM; rw [if_pos rfl]⟩
      · rename_i hne
        have hil2 : i < es.length := by simpa using hil
        obtain ⟨q, z, m1, m2, m3, m4⟩ := H.ent e (hie ▸ List.getElem_mem hil2)
        refine ⟨q, z, m1, m2, m3, ?_⟩
        unfold updM
        rw [if_neg ?_]
        · exact m4
        · intro e1
          subst e1
          apply hne
          have hn := H.keys
          have e2 : (es.map (·.key))[j]'(by simpa using hjl) = (es.map (·.key))[i]'(by simpa using hil2) := by
            simp only [List.getElem_map]
            rw [hie, m2, ← f3]
            exact congrArg MapEntry.key (List.getElem?_eq_some_iff.1 f2).2
          exact (List.getElem_inj hn).1 e2
    · intro q z hq
      have hmem : ∀ x, x ∈ es.map (·.key) → ∃ e ∈ (es.modify j fun e => { e with key := ek a, val := ev y }), e.key = x := fun x hx => by
        rw [← hkeq] at hx
        obtain ⟨e, he, rfl⟩ := List.mem_map.1 hx
        exact ⟨e, he, rfl⟩
      unfold updM at hq
      split at hq
      · rename_i e1
        subst e1
        exact ⟨ha, hmem _ (List.mem_map.2 ⟨e0, List.mem_of_getElem? f2, f3⟩)⟩
      · obtain ⟨k1, e, he, hek⟩ := H.all q z hq
        exact ⟨k1, hmem _ (List.mem_map.2 ⟨e, he, hek⟩)⟩
theorem MapF.del {ty : TypeId} (h : MapF ek ev D w b G) {a : α} (ha : D a) :
    ∃ w', (Builtin.delete_ #[t, K] ty #[.map (some b), ek a]).run P w = .ok (.tuple #[]) w' ∧ MapF ek ev D w' b (updM G a none) ∧ w.grownBy w' (some b) ∧ w'.heap.size = w.heap.size := by
  obtain ⟨es, c, hb, H, hS⟩ := h
  have hkeys : ∀ e ∈ es, OK e.key := fun e he => by
    obtain ⟨q, y, k1, k2, -⟩ := H.ent e he
    rw [k2]
    exact hD q k1
  have hblt : b < w.heap.size := (Array.getElem?_eq_some_iff.1 hb).1
  have hgr : ∀ o, w.grownBy { w with heap := w.heap.setIfInBounds b o } (some b) := fun o => ⟨rfl, rfl, rfl, by simp, fun i _ hi => by simp only [Array.getElem?_setIfInBounds]; rw [if_neg (fun e => hi (by rw [e]))]⟩
  have hnew : ∀ o, ({ w with heap := w.heap.setIfInBounds b o } : World).heap[b]? = some o := fun o => by simp [hblt]
  rcases L.find w (hD a ha) es hkeys with ⟨f1, f2⟩ | ⟨j, e0, f1, f2, f3⟩
  · have hG : G a = none := by
      cases hG : G a with
      | none => rfl
      | some y =>
        obtain ⟨-, e, he, hek⟩ := H.all a y hG
        exact absurd hek (f2 e he)
    have hU : updM G a none = G := by
      funext x
      unfold updM
      split
      · rename_i e; rw [e, hG]
      · rfl
    rw [hU]
    refine ⟨{ w with heap := w.heap.setIfInBounds b (.map es.toArray c) }, ?_, ⟨_, _, hnew _, H, hS⟩, hgr _, by simp⟩
    simp [Builtin.delete_, run_underlying ht, MapKept.run_getObj_map hb, L.check w _ (hD a ha), f1, MapKept.run_setObj_map _ hb, Result.andThen]
  · have hjl : j < es.length := (List.getElem?_eq_some_iff.1 f2).1
    have hne : ∀ e ∈ es.eraseIdx j, e.key ≠ ek a := fun e he hk => by
      obtain ⟨i, hil, hie⟩ := List.mem_eraseIdx_iff_getElem.1 he
      obtain ⟨hij, hie⟩ := hie
      have e2 : (es.map (·.key))[j]'(by simpa using hjl) = (es.map (·.key))[i]'(by simpa using hil) := by
        simp only [List.getElem_map]
        rw [hie, hk, ← f3]
        exact congrArg MapEntry.key (List.getElem?_eq_some_iff.1 f2).2
      exact hij ((List.getElem_inj H.keys).1 e2).symm
    refine ⟨{ w with heap := w.heap.setIfInBounds b (.map (es.eraseIdx j).toArray c) }, ?_, ⟨_, _, hnew _, ⟨?_, ?_, ?_⟩, stamped_sub (List.eraseIdx_sublist _ _) hS⟩, hgr _, by simp⟩
    · simp [Builtin.delete_, run_underlying ht, MapKept.run_getObj_map hb, L.check w _ (hD a ha), f1, MapKept.run_setObj_map _ hb, Result.andThen]
    · exact H.keys.sublist ((List.eraseIdx_sublist _ _).map _)
    · intro e he
      obtain ⟨q, z, m1, m2, m3, m4⟩ := H.ent e ((List.eraseIdx_sublist _ _).subset he)
      refine ⟨q, z, m1, m2, m3, ?_⟩
      unfold updM
      rw [if_neg (fun e1 => hne e he (by rw [m2, e1]))]
      exact m4
    · intro q z hq
      unfold updM at hq
      split at hq
      · cases hq
      · rename_i hqa
        obtain ⟨k1, e, he, hek⟩ := H.all q z hq
        refine ⟨k1, e, ?_, hek⟩
        obtain ⟨i, hil, hie⟩ := List.mem_iff_getElem.1 he
        refine List.mem_eraseIdx_iff_getElem.2 ⟨i, hil, fun e1 => ?_, hie⟩
        subst e1
        apply hqa
        refine hi _ _ (hek.symm.trans ?_)
        rw [← f3, ← hie]
        exact congrArg MapEntry.key (List.getElem?_eq_some_iff.1 f2).2
end
end
open Go.RowKit
open Go.WideElems (Fit rd rg rg_of)
open Go.WideShapes (sorted_perm)
open Go.MapKept Go.WideShapes
theorem keysL {es : List MapEntry} : (∀ e ∈ es, ∃ a, e.key = St a) → ∃ ks : List (List UInt8), es.map (·.key) = ks.map St := by
  induction es with
  | nil => intro _; exact ⟨[], rfl⟩
  | cons e r ih =>
    intro h
    obtain ⟨a, ha⟩ := h e List.mem_cons_self
    obtain ⟨ks, hk⟩ := ih fun x hx => h x (List.mem_cons_of_mem _ hx)
    exact ⟨a :: ks, by rw [List.map_cons, List.map_cons, ha, hk]⟩
theorem st_inj {a b : List UInt8} (h : St a = St b) : a = b := by simpa using h
theorem keyOf_st {P : Program} {k : TypeId} (hk : P.underlying k = some .string) {a : List UInt8} (ha : a.length ≤ maxLen) : keyOf P k (St a) = some (.string a) := by
  simp [keyOf, hk, mapKey]
  exact ha
abbrev rNil (_ : Value) : Option (DataW Unit × List MemPlace) := some (.nil, [])
theorem MapF.owns {β : Type} {P : Program} {k : TypeId} (hk : P.underlying k = some .string) {ev : β → Value} {D : List UInt8 → Prop} (hD : ∀ a, D a → a.length ≤ maxLen) {w : World} {b : Nat} {G : List UInt8 → Option β} (h : MapF St ev D w b G) {keys : List (List UInt8)} (hn : keys.Nodup) (hG : ∀ s, (G s).isSome = true ↔ s ∈ keys) (hmax : keys.length ≤ maxLen) :
    ∃ D0 : DataW Unit, w.ownsMap P k rNil b keys.length D0 ∧ (strKeys D0).Perm keys ∧ Maps.size D0 = keys.length := by
  obtain ⟨es, c, hb, H, hS⟩ := h
  obtain ⟨ks, hks⟩ := keysL (es := es) fun e he => by obtain ⟨a, y, -, h2, -, -⟩ := H.ent e he; exact ⟨a, h2⟩
  have hnd : ks.Nodup := by
    have h := H.keys
    rw [hks] at h
    exact List.Pairwise.of_map St (fun a b hne e => hne (by rw [e])) h
  have hmem : ∀ s, s ∈ ks ↔ (G s).isSome = true := fun s => by
    constructor
    · intro hs
      have h1 : St s ∈ es.map (·.key) := by rw [hks]; exact List.mem_map_of_mem hs
      obtain ⟨e, he, hk1⟩ := List.mem_map.1 h1
      obtain ⟨a, y, -, h2, -, h4⟩ := H.ent e he
      obtain rfl : a = s := st_inj (h2.symm.trans hk1)
      rw [h4]; rfl
    · intro hs
      obtain ⟨y, hy⟩ := Option.isSome_iff_exists.1 hs
      obtain ⟨-, e, he, hk1⟩ := H.all s y hy
      have h1 : St s ∈ es.map (·.key) := List.mem_map.2 ⟨e, he, hk1⟩
      rw [hks] at h1
      obtain ⟨a, ha, hk2⟩ := List.mem_map.1 h1
      rwa [← st_inj hk2]
  have hperm : ks.Perm keys := (List.perm_ext_iff_of_nodup hnd hn).2 fun s => (hmem s).trans (hG s)
  have hlen : es.length = keys.length := by
    have h1 := congrArg List.length hks
    rw [List.length_map, List.length_map] at h1
    rw [h1, hperm.length_eq]
  have hrd : ∀ x ∈ es, ∃ a, x.key = St a ∧ rd P k rNil x = some (.string a, .nil) := fun x hx => by
    obtain ⟨a, y, ha, h2, -, -⟩ := H.ent x hx
    exact ⟨a, h2, by unfold Go.WideElems.rd; rw [h2, keyOf_st hk (hD a ha)]; rfl⟩
  have hF : Fit P k rNil es.toArray c := ⟨by rw [List.size_toArray, hlen]; exact hmax, hS, fun x hx => by
    obtain ⟨a, -, h2⟩ := hrd x (by simpa using hx)
    exact ⟨_, h2⟩⟩
  refine ⟨.map ((es.toArray.toList.map (rg P k rNil)).foldr DataW.insert []), ⟨es.toArray, c, hb, hF, by rw [List.size_toArray, hlen]; exact Nat.le_refl _, rfl⟩, ?_, ?_⟩
  · have h1 : (strKeys (.map ((es.toArray.toList.map (rg P k rNil)).foldr DataW.insert []))).Perm ((es.map (rg P k rNil)).map fun p => strOf p.1) := (sorted_perm _).map _
    refine h1.trans ?_
    have h2 : (es.map (rg P k rNil)).map (fun p => strOf p.1) = (es.map (·.key)).map fun v => match v with | .string s => s.data.toList | _ => [] := by
      rw [List.map_map, List.map_map]
      refine List.map_congr_left fun x hx => ?_
      obtain ⟨a, h3, h4⟩ := hrd x hx
      show strOf (rg P k rNil x).1 = _
      rw [rg_of h4]
      simp only [Function.comp, h3, strOf]
    rw [h2, hks, List.map_map]
    have h5 : ks.map ((fun v : Value => match v with | .string s => s.data.toList | _ => []) ∘ St) = ks := by
      conv => rhs; rw [← List.map_id ks]
      exact List.map_congr_left fun a _ => rfl
    rw [h5]
    exact hperm
  · show ((es.toArray.toList.map (rg P k rNil)).foldr DataW.insert []).length = _
    rw [(sorted_perm _).length_eq, List.length_map, hlen]
open Go.RowKit
variable {P : Program}
def eqPlaces (l1 l2 : List UInt8) : List Nat → Bool
  | [] => true
  | i :: r => if l1.getD i 0 = l2.getD i 0 then eqPlaces l1 l2 r else false
theorem eqPlaces_iff (l1 l2 : List UInt8) : ∀ is : List Nat, eqPlaces l1 l2 is = true ↔ ∀ i ∈ is, l1.getD i 0 = l2.getD i 0
  | [] => by simp [eqPlaces]
  | i :: r => by
    have ih := eqPlaces_iff l1 l2 r
    unfold eqPlaces
    split
    · rename_i h
      rw [ih]
      constructor
      · intro h2 j hj
        rcases List.mem_cons.1 hj with rfl | hj
        · exact h
        · exact h2 j hj
      · exact fun h2 j hj => h2 j (List.mem_cons_of_mem _ hj)
    · rename_i h
      constructor
      · intro h2; cases h2
      · intro h2; exact absurd (h2 i (by simp)) h
theorem byte_eq (a b : UInt8) : ((a.toNat : Int) == (b.toNat : Int)) = decide (a = b) := by
  rw [Bool.eq_iff_iff]
  simp
  constructor
  · intro h; exact UInt8.toNat_inj.1 (by omega)
  · intro h; rw [h]
theorem run_eqArray (w : World) {t e : TypeId} {n d : Nat} (ht : P.underlying t = some (.array n e)) (he : P.underlying e = some (.int .u8)) (hs : (sizeOf e).run P w = .ok 1 w) (l1 l2 : List UInt8) (h1 : l1.length = n) (h2 : l2.length = n) :
    (Op.equalIn (d + 1 + 1) t (.agg (Lib.byteCells l1).toArray) (.agg (Lib.byteCells l2).toArray)).run P w = .ok (decide (l1 = l2)) w := by
  have hagg : (isAgg e).run P w = .ok false w := by
    unfold isAgg
    rw [Sem.run_bind, run_underlying he w]
    rfl
  have hpart : ∀ (l : List UInt8) (i : Nat), i < l.length → (part e (Lib.byteCells l).toArray (i * 1)).run P w = .ok (.int .u8 ((l.getD i 0).toNat : Int)) w := fun l i hi => by
    unfold part
    rw [Sem.run_bind, hagg]
    simp [Lib.byteCells, hi, Sem.run_pure]
  have key : ∀ (is : List Nat), (∀ i ∈ is, i < n) → ∀ (f : Nat → (Option Bool × Unit) → Sem (ForInStep ((Option Bool × Unit)))),
      (∀ i r, i < n → (f i r).run P w = if l1.getD i 0 = l2.getD i 0 then .ok (.yield (none, ())) w else .ok (.done (some false, ())) w) →
      ∀ r, r.1 = none → (forIn is r f).run P w = .ok (if eqPlaces l1 l2 is = true then none else some false, ()) w := by
    intro is
    induction is with
    | nil =>
      intro _ f _ r hr
      obtain ⟨a, b⟩ := r
      simp at hr
      subst hr
      simp [eqPlaces, Sem.run_pure]
    | cons i is ih =>
      intro hi f hf r hr
      simp only [List.forIn_cons, Sem.run_bind, hf i r (hi i (by simp))]
      by_cases h : l1.getD i 0 = l2.getD i 0
      · rw [if_pos h]
        simp only [Result.andThen_ok]
        rw [ih (fun j hj => hi j (List.mem_cons_of_mem _ hj)) f hf (none, ()) rfl]
        simp only [eqPlaces, if_pos h]
      · rw [if_neg h]
        simp only [Result.andThen_ok, Sem.run_pure, eqPlaces, if_neg h]
        rfl
  obtain ⟨D, hD⟩ : ∃ D, D = d + 1 := ⟨_, rfl⟩
  rw [← hD]
  simp only [Op.equalIn, Sem.run_bind, run_underlying ht, Result.andThen_ok, hs]
  rw [Std.Legacy.Range.forIn_eq_forIn_range']
  have hsz : ([:n] : Std.Legacy.Range).size = n := by simp [Std.Legacy.Range.size]
  rw [hsz, key (List.range' 0 n 1) (fun i hi => by simpa using hi)]
  · have hiff := eqPlaces_iff l1 l2 (List.range' 0 n 1)
    have hl : l1 = l2 ↔ eqPlaces l1 l2 (List.range' 0 n 1) = true := by
      rw [hiff]
      constructor
      · intro h i _; rw [h]
      · intro h
        apply List.ext_getElem (by omega)
        intro i hi1 hi2
        have := h i (by simp; omega)
        simpa [hi1, hi2] using this
    by_cases h : l1 = l2
    · rw [hl.1 h, decide_eq_true h]
      simp [Sem.run_pure]
    · have h' : eqPlaces l1 l2 (List.range' 0 n 1) = false := by
        cases hb : eqPlaces l1 l2 (List.range' 0 n 1) with
        | false => rfl
        | true => exact absurd (hl.2 hb) h
      rw [h', decide_eq_false h]
      simp [Sem.run_pure]
  · intro i r hi
    simp only [Sem.run_bind, hpart l1 i (by omega), hpart l2 i (by omega), Result.andThen_ok, hD, run_equalIn_int w d e .u8 .u8 _ _ he]
    by_cases h : l1.getD i 0 = l2.getD i 0
    · rw [if_pos h, byte_eq, decide_eq_true h]
      simp [Sem.run_pure]
    · rw [if_neg h, byte_eq, decide_eq_false h]
      simp [Sem.run_pure]
  · rfl
theorem run_eqArrayOp (w : World) {t e : TypeId} {n : Nat} (ht : P.underlying t = some (.array n e)) (he : P.underlying e = some (.int .u8)) (hs : (sizeOf e).run P w = .ok 1 w) (hg : P.eqGuardType P.depth t = false) (l1 l2 : List UInt8) (h1 : l1.length = n) (h2 : l2.length = n) (x y : Operand) :
    (do eqGuard .eql t x y (.agg (Lib.byteCells l1).toArray) (.agg (Lib.byteCells l2).toArray); binOp .eql t (.agg (Lib.byteCells l1).toArray) (.agg (Lib.byteCells l2).toArray) : Sem Value).run P w = .ok (.bool (decide (l1 = l2))) w := by
  have he2 : (eqGuard .eql t x y (.agg (Lib.byteCells l1).toArray) (.agg (Lib.byteCells l2).toArray)).run P w = .ok () w := by
    simp [eqGuard, hg]
  rw [Sem.run_bind, he2, Result.andThen_ok, run_eql_struct, run_eqArray (d := 9998) w ht he hs l1 l2 h1 h2]
  rfl
theorem run_execEql {ρ : Operand → Value} {d : Option Tmp} {x y : Operand} {ty2 tt : TypeId} {pos : String} {af : Array Edge} {gd : Option (Nat × Bool)} {w : World} {t e : TypeId} {n : Nat} (ht : P.underlying t = some (.array n e)) (he : P.underlying e = some (.int .u8)) (hs : (sizeOf e).run P w = .ok 1 w) (hg : P.eqGuardType P.depth t = false) {l1 l2 : List UInt8} (h1 : l1.length = n) (h2 : l2.length = n)
    (hx : ρ x = .agg (Lib.byteCells l1).toArray) (hy : ρ y = .agg (Lib.byteCells l2).toArray) : (execOp ρ ⟨d, .binOp .eql t x y ty2, tt, pos, af, gd⟩).run P w = .ok (.value (.bool (decide (l1 = l2)))) w := by
  have h := run_eqArrayOp (P := P) w ht he hs hg l1 l2 h1 h2 x y
  simp only [execOp, hx, hy]
  rw [Sem.run_bind, h]
  rfl
open Go.RowKit
def RBs (w : World) (v : Value) (ls : List (List UInt8)) : Prop := ∃ vs : List Value, vs.length = ls.length ∧ Reads w 1 v ls.length vs ∧ ∀ i, i < ls.length → RB w (vs.getD i undef) (ls.getD i [])
theorem Ext.cellX {w w' : World} (h : Ext w w') {a : Addr} {v : Value} (hc : w.cell? a = some v) : w'.cell? a = some v := by
  rw [Below.cell h (World.block_lt_of_cell? w a hc)]
  exact hc
theorem Reads.keep {w w' : World} {z n : Nat} {v : Value} {xs : List Value} (h : Reads w z v n xs) (k : Ext w w') : Reads w' z v n xs := by
  obtain ⟨h1, ao, cap, rfl, h2, h3, h4, h5⟩ := h
  exact ⟨h1, ao, cap, rfl, h2, h3, h4, fun a ha j u hu => Ext.cellX k (h5 a ha j u hu)⟩
theorem RBs.keep {w w' : World} {v : Value} {ls : List (List UInt8)} (h : RBs w v ls) (k : Ext w w') : RBs w' v ls := by
  obtain ⟨vs, h1, h2, h3⟩ := h
  exact ⟨vs, h1, h2.keep k, fun i hi => (h3 i hi).keep k⟩
theorem RB.nil (w : World) : RB w (.slice none 0 0) [] := ⟨rfl, none, 0, rfl, Nat.le_refl _, by simp [maxLen], fun _ => ⟨rfl, rfl⟩, fun a h => by cases h⟩
theorem RB.nilAny {w w' : World} {v : Value} (h : RB w v []) : RB w' v [] := by
  obtain ⟨h1, ao, cap, rfl, h2, h3, h4, h5⟩ := h
  exact ⟨h1, ao, cap, rfl, h2, h3, h4, fun a ha j u hu => by simp [Lib.byteCells] at hu⟩
theorem RB.lt {w : World} {v : Value} {l : List UInt8} (h : RB w v l) (hl : 0 < l.length) {b : Nat} (hb : v.ownBlock = some b) : b < w.heap.size := by
  obtain ⟨b', off, cap, rfl, -, -, h1, -⟩ := h.open_ hl
  simp [Value.ownBlock] at hb
  omega
theorem RB.slice {w : World} {v : Value} {l : List UInt8} (h : RB w v l) : ∃ ao n c, v = .slice ao n c := by
  obtain ⟨h1, ao, cap, rfl, -⟩ := h
  exact ⟨ao, _, cap, rfl⟩
section
variable {P : Program} {K : Value → World → Prop} {ρ : Slots} {w : World} {d : Option Tmp} {ty : TypeId} {pos : String} {af : Array Edge} {gd : Option (Nat × Bool)}
theorem RBs.of {v x : Value} {l : List (List UInt8)} (h : RBs w v l) (e : x = v) : RBs w x l := by rw [e]; exact h
theorem reads_block {w : World} {b : Nat} {xs : List Value} {t : TypeId} {fr : Nat × Nat} (hb : w.heap[b]? = some (.cells xs.toArray t fr)) (hl : xs.length ≤ maxLen) : Reads w 1 (.slice (some ⟨b, 0, none⟩) xs.length xs.length) xs.length xs :=
  ⟨by simp, _, _, rfl, Nat.le_refl _, hl, fun h => by simp at h, fun a ha j u hu => by
    cases ha
    rw [Addr.add_lit, Nat.zero_add]
    exact cellAt hb hu⟩
theorem Yk.rows1 {t e : TypeId} (hr : ∀ (ao : Option Addr) (n c : Nat) (w : World), (Instr.buildSlice t 1 #[(0, .slice ao n c)]).run P w = .ok (.slice (some ⟨w.heap.size, 0, none⟩) 1 1) (w.alloc (.cells #[.slice ao n c] e))) {x : Operand} {l : List UInt8} (hx : RB w (evalR ρ x) l)
    (hk : ∀ v w', RBs w' v [l] → Ext w w' → K v w') : Yk P K ((execOp (evalR ρ) ⟨d, .buildSlice t 1 #[(0, x)], ty, pos, af, gd⟩).run P w) := by
  obtain ⟨ao, n, c, hv⟩ := hx.slice
  rw [hv] at hx
  have hr' : (execOp (evalR ρ) ⟨d, .buildSlice t 1 #[(0, x)], ty, pos, af, gd⟩).run P w = .ok (.value (.slice (some ⟨w.heap.size, 0, none⟩) 1 1)) (w.alloc (.cells #[.slice ao n c] e)) := by
    unfold execOp
    simp only [List.map_toArray, List.map_cons, List.map_nil, hv, Sem.run_bind, hr, Result.andThen_ok, Sem.run_pure]
  rw [hr']
  have hE : Ext w (w.alloc (.cells #[.slice ao n c] e)) := (Below.refl _ _).alloc (Nat.le_refl _) _
  refine hk _ _ ⟨[.slice ao n c], rfl, reads_block (xs := [.slice ao n c]) (heap_alloc_new w _) (by simp [maxLen]), fun i hi => ?_⟩ hE
  have : i = 0 := by simp at hi; omega
  subst this
  exact hx.keep hE
theorem Yk.atRBs {t e : TypeId} (ht : P.underlying t = some (.slice e)) (he : ∀ w' : World, (sizeOf e).run P w' = .ok 1 w') {x y : Operand} {ls : List (List UInt8)} (h : RBs w (evalR ρ x) ls) {k : IntKind} {i : Nat} (hy : evalR ρ y = .int k (i : Int)) (hi : i < ls.length)
    (hk : ∀ v u, PCell u v w → RB w u (ls.getD i []) → K v w) : Yk P K ((execOp (evalR ρ) ⟨d, .indexAddr t x y, ty, pos, af, gd⟩).run P w) := by
  obtain ⟨vs, h1, h2, h3⟩ := h
  have hu := h3 i hi
  obtain ⟨h4, ao, cap, hv, h5, h6, h7, h8⟩ := h2
  cases ao with
  | none => have := (h7 rfl).1; omega
  | some a =>
    obtain ⟨b, o, sp⟩ := a
    have hc := h8 _ rfl i (vs.getD i undef) (by simp [show i < vs.length by omega])
    have h0 := h8 _ rfl 0 (vs.getD 0 undef) (by simp [show 0 < vs.length by omega])
    have hsp : sp = none := by simpa [Addr.add] using World.cell?_spot h0
    subst hsp
    rw [Addr.add_lit] at hc
    exact Yk.atSl ht he hv hy hi (hk _ _ ⟨_, rfl, hc⟩ hu)
theorem Yk.atRBs0 {w0 : World} (E : Ext w0 w) {t e : TypeId} (ht : P.underlying t = some (.slice e)) (he : ∀ w' : World, (sizeOf e).run P w' = .ok 1 w') {x y : Operand} {v0 : Value} {ls : List (List UInt8)} (h : RBs w0 v0 ls) (hx : evalR ρ x = v0) {k : IntKind} {i : Nat} (hy : evalR ρ y = .int k (i : Int)) (hi : i < ls.length)
    (hk : ∀ v u, PCell u v w → RB w0 u (ls.getD i []) → K v w) : Yk P K ((execOp (evalR ρ) ⟨d, .indexAddr t x y, ty, pos, af, gd⟩).run P w) := by
  obtain ⟨vs, h1, h2, h3⟩ := h
  have hu := h3 i hi
  obtain ⟨h4, ao, cap, hv, h5, h6, h7, h8⟩ := h2
  cases ao with
  | none => have := (h7 rfl).1; omega
  | some a =>
    obtain ⟨b, o, sp⟩ := a
    have hc := h8 _ rfl i (vs.getD i undef) (by simp [show i < vs.length by omega])
    have h0 := h8 _ rfl 0 (vs.getD 0 undef) (by simp [show 0 < vs.length by omega])
    have hsp : sp = none := by simpa [Addr.add] using World.cell?_spot h0
    subst hsp
    rw [Addr.add_lit] at hc
    exact Yk.atSl ht he (hx.trans hv) hy hi (hk _ _ ⟨_, rfl, Ext.cellX E hc⟩ hu)
theorem Yk.lenRBs {t e : TypeId} (ht : P.underlying t = some (.slice e)) {x : Operand} {ls : List (List UInt8)} (h : RBs w (evalR ρ x) ls) (hk : K (NI ls.length) w) : Yk P K ((execOp (evalR ρ) ⟨d, .call ⟨.builtin .len, #[x], #[t]⟩, ty, pos, af, gd⟩).run P w) := by
  obtain ⟨vs, h1, ⟨h4, ao, cap, hv, -⟩, h3⟩ := h
  exact Yk.lenSl ht hv hk
theorem Yk.eqArr {t e ty2 : TypeId} {n : Nat} (ht : P.underlying t = some (.array n e)) (he : P.underlying e = some (.int .u8)) (hs : ∀ w : World, (sizeOf e).run P w = .ok 1 w) (hg : P.eqGuardType P.depth t = false) {x y : Operand} {l1 l2 : List UInt8} (hx : evalR ρ x = .agg (Lib.byteCells l1).toArray) (hy : evalR ρ y = .agg (Lib.byteCells l2).toArray) (h1 : l1.length = n) (h2 : l2.length = n)
    (hk : K (.bool (decide (l1 = l2))) w) : Yk P K ((execOp (evalR ρ) ⟨d, .binOp .eql t x y ty2, ty, pos, af, gd⟩).run P w) :=
  Yk.value (run_execEql ht he (hs w) hg h1 h2 hx hy) hk
theorem Yk.neArr {t e ty2 : TypeId} {n : Nat} (ht : P.underlying t = some (.array n e)) (he : P.underlying e = some (.int .u8)) (hs : ∀ w : World, (sizeOf e).run P w = .ok 1 w) (hg : P.eqGuardType P.depth t = false) {x y : Operand} {l1 l2 : List UInt8} (hx : evalR ρ x = .agg (Lib.byteCells l1).toArray) (hy : evalR ρ y = .agg (Lib.byteCells l2).toArray) (h1 : l1.length = n) (h2 : l2.length = n)
    (hk : K (.bool (decide (l1 ≠ l2))) w) : Yk P K ((execOp (evalR ρ) ⟨d, .binOp .neq t x y ty2, ty, pos, af, gd⟩).run P w) := by
  have he2 : (eqGuard .neq t x y (.agg (Lib.byteCells l1).toArray) (.agg (Lib.byteCells l2).toArray)).run P w = .ok () w := by
    simp [eqGuard, hg]
  have heq : (Op.equal t (.agg (Lib.byteCells l1).toArray) (.agg (Lib.byteCells l2).toArray)).run P w = .ok (decide (l1 = l2)) w := run_eqArray (d := 9998) w ht he (hs w) l1 l2 h1 h2
  have hb : (!decide (l1 = l2)) = decide (l1 ≠ l2) := by simp
  refine Yk.value (v := .bool (decide (l1 ≠ l2))) (w' := w) ?_ hk
  unfold execOp
  simp only [hx, hy, Sem.run_bind, he2, Result.andThen_ok, Go.binOp, heq, Sem.run_pure, hb]
theorem Yk.convMark {t e : TypeId} (ht : P.underlying t = some (.slice e)) (he : P.underlying e = some (.int .u8)) {x : Operand} {v : Value} {b : Nat} {l : List UInt8} (hx : evalR ρ x = v) (ho : w.ownsRow b e 1 v l.length (Lib.byteCells l)) (hl : 0 < l.length)
    (hk : ∀ w', RB w' v l → Grew w w' v v → K v w') : Yk P K ((execOp (evalR ρ) ⟨d, .convert t t x, ty, pos, af, gd⟩).run P w) := by
  rcases ho.2 with ⟨rfl, h0⟩ | ⟨g, cap, cur, rfl, hbg, hg, hnc, hcm, hcs, htake⟩
  · omega
  · have hlt : g < w.heap.size := (Array.getElem?_eq_some_iff.1 hg).1
    have hsh : w.shape? g = some (e, cur.size) := by
      unfold World.shape?
      rw [hg]
    have hr : (convert t t (.slice (some ⟨g, 0, none⟩) l.length cap)).run P w = .ok (.slice (some ⟨g, 0, none⟩) l.length cap) (w.freeze ⟨g, cur.size, none⟩ 1) := by
      simp [convert, run_underlying ht, run_underlying he, markStringish, hsh]
    have hold : ∀ k, k ≠ g → (w.freeze ⟨g, cur.size, none⟩ 1).heap[k]? = w.heap[k]? := fun k hk => by
      simp [World.freeze, Array.getElem?_modify, Ne.symm hk]
    have hnew : (w.freeze ⟨g, cur.size, none⟩ 1).heap[g]? = some (.cells cur e (cur.size, cur.size + 1)) := by
      have hg' := hg
      rw [Array.getElem?_eq_some_iff] at hg'
      obtain ⟨h1, h2⟩ := hg'
      simp [World.freeze, Array.getElem?_modify, hg]
    have hsz : (w.freeze ⟨g, cur.size, none⟩ 1).heap.size = w.heap.size := by simp [World.freeze]
    refine Yk.value (v := .slice (some ⟨g, 0, none⟩) l.length cap) (w' := w.freeze ⟨g, cur.size, none⟩ 1) ?_ (hk _ ?_ ⟨⟨?_, ?_, ?_, by omega, fun k _ hne => hold k (fun e => hne (by rw [e]; rfl))⟩, fun k h => .inl h⟩)
    · unfold execOp
      simp only [hx, Sem.run_bind, hr, Result.andThen_ok, Sem.run_pure]
    · have hb := RB.ofOwn ho
      obtain ⟨h1, ao, c2, hv, h3, h4, h5, h6⟩ := hb
      simp only [Value.slice.injEq, true_and] at hv
      obtain ⟨rfl, rfl⟩ := hv
      refine ⟨h1, _, _, rfl, h3, h4, h5, fun a ha j u hu => ?_⟩
      have hc := h6 a ha j u hu
      cases ha
      rw [Addr.add_lit] at hc ⊢
      simp only [World.cell?, hg] at hc
      simp only [World.cell?, hnew]
      exact hc
    all_goals simp [World.freeze]
end
open Go.RowKit
section
variable {P : Program} {K : Value → World → Prop} {ρ : Slots} {w : World} {d : Option Tmp} {ty : TypeId} {pos : String} {af : Array Edge} {gd : Option (Nat × Bool)}
theorem Yk.idxSt {t : TypeId} (ht : P.underlying t = some .string) {x y : Operand} {l : List UInt8} {k : IntKind} {i : Nat} (hx : evalR ρ x = St l) (hy : evalR ρ y = .int k (i : Int)) (hi : i < l.length) (hk : K (B8 (l.getD i 0)) w) : Yk P K ((execOp (evalR ρ) ⟨d, .index t x y, ty, pos, af, gd⟩).run P w) := by
  refine Yk.value (v := B8 (l.getD i 0)) (w' := w) ?_ hk
  have hb : (⟨l.toArray⟩ : ByteArray)[i]? = some (l.getD i 0) := by
    rw [getElem?_pos (⟨l.toArray⟩ : ByteArray) i (show i < l.toArray.size by simpa using hi)]
    show some (l.toArray[i]'(by simpa using hi)) = _
    simp [hi]
  unfold execOp
  simp only [hx, hy, Instr.index, asIntOf, Sem.run_bind, Sem.run_pure, Result.andThen_ok, run_underlying ht]
  rw [if_pos (by omega), Int.toNat_natCast, hb]
  rfl
theorem extract_st (l : List UInt8) (a b : Nat) : (⟨l.toArray⟩ : ByteArray).extract a b = ⟨((l.drop a).take (b - a)).toArray⟩ := by
  apply ByteArray.ext
  rw [ByteArray.data_extract]
  simp only [List.extract_toArray, List.extract_eq_take_drop]
theorem Yk.sliceSt {t : TypeId} (ht : P.underlying t = some .string) {x : Operand} {lo hi : Option Operand} {l : List UInt8} (a b : Nat) (hx : evalR ρ x = St l) (hlo : lo.map (evalR ρ) = none ∧ a = 0 ∨ ∃ k, lo.map (evalR ρ) = some (.int k a)) (hhi : hi.map (evalR ρ) = none ∧ b = l.length ∨ ∃ k, hi.map (evalR ρ) = some (.int k b)) (hab : a ≤ b) (hb : b ≤ l.length)
    (hk : K (St ((l.drop a).take (b - a))) w) : Yk P K ((execOp (evalR ρ) ⟨d, .slice t x lo hi none, ty, pos, af, gd⟩).run P w) := by
  refine Yk.value (v := St ((l.drop a).take (b - a))) (w' := w) ?_ hk
  have hs : (⟨l.toArray⟩ : ByteArray).size = l.length := by show l.toArray.size = _; simp
  have hr : (Instr.sliceAt t (St l) (lo.map (evalR ρ)) (hi.map (evalR ρ)) none).run P w = .ok (St ((l.drop a).take (b - a))) w := by
    have hE := extract_st l a b
    rcases hlo with ⟨h1, rfl⟩ | ⟨k, h1⟩ <;> rcases hhi with ⟨h2, rfl⟩ | ⟨k', h2⟩ <;> rw [h1, h2] <;>
      simp [Instr.sliceAt, Instr.slice, run_underlying ht, Instr.sliceBounds, Instr.sliceBound, asIntOf, hs] <;>
      first
        | (simp [hE]; done)
        | (rw [if_pos (by omega)]; simp [hE]; done)
        | (rw [if_pos hb, if_pos hab, hE]; done)
        | (intro h; omega)
  unfold execOp
  simp only [hx, Option.map_none, hr, Sem.run_bind, Sem.run_pure, Result.andThen_ok]
theorem ba_list (l : List UInt8) : (⟨l.toArray⟩ : ByteArray).toList = l := by
  rw [ByteArray.toList_eq]
theorem ba_eq (l m : List UInt8) : ((⟨l.toArray⟩ : ByteArray).toList == (⟨m.toArray⟩ : ByteArray).toList) = decide (l = m) := by
  rw [ba_list, ba_list, Bool.eq_iff_iff]
  simp
theorem Yk.eqSt {op : BinOp} (hop : op = .eql ∨ op = .neq) {t ty2 : TypeId} {x y : Operand} {l m : List UInt8} (hx : evalR ρ x = St l) (hy : evalR ρ y = St m) (b : Bool) (hb : b = match op with | .eql => decide (l = m) | _ => decide (l ≠ m)) (hk : K (.bool b) w) : Yk P K ((execOp (evalR ρ) ⟨d, .binOp op t x y ty2, ty, pos, af, gd⟩).run P w) := by
  refine Yk.value (v := .bool b) (w' := w) ?_ hk
  subst hb
  have hn : (!decide (l = m)) = decide (l ≠ m) := by simp
  unfold execOp
  rcases hop with rfl | rfl
  · simp only [hx, hy, eqGuard, Go.binOp, Op.stringOp, ba_eq, Sem.run_bind, Sem.run_pure]
    rfl
  · simp only [hx, hy, eqGuard, Go.binOp, Op.stringOp, ba_eq, hn, Sem.run_bind, Sem.run_pure]
    rfl
theorem Yk.catSt {t ty2 : TypeId} {x y : Operand} {l m : List UInt8} (hx : evalR ρ x = St l) (hy : evalR ρ y = St m) (hb : l.length + m.length ≤ 9223372036854775807) (hk : K (St (l ++ m)) w) : Yk P K ((execOp (evalR ρ) ⟨d, .binOp .add t x y ty2, ty, pos, af, gd⟩).run P w) :=
  Yk.concat hx hy hb hk
theorem Yk.lenSt {t : TypeId} (ht : P.underlying t = some .string) {x : Operand} {l : List UInt8} (hx : evalR ρ x = St l) (hk : K (NI l.length) w) : Yk P K ((execOp (evalR ρ) ⟨d, .call ⟨.builtin .len, #[x], #[t]⟩, ty, pos, af, gd⟩).run P w) := by
  have hs : (⟨l.toArray⟩ : ByteArray).size = l.length := by show l.toArray.size = _; simp
  exact Yk.lenStr ht hx (by rw [hs]; exact hk)
theorem Yk.extract {x : Operand} {vs : List Value} {i : Nat} {v : Value} (hx : evalR ρ x = .tuple vs.toArray) (hv : vs[i]? = some v) (hk : K v w) : Yk P K ((execOp (evalR ρ) ⟨d, .extract x i, ty, pos, af, gd⟩).run P w) := by
  refine Yk.value (v := v) (w' := w) ?_ hk
  unfold execOp
  simp [hx, Instr.extract, hv]
theorem Yk.extern1 {f : FuncId} {at_ : Array TypeId} {x : Operand} {v0 v : Value} (hx : evalR ρ x = v0) (hr : (callFunc f #[v0]).run P w = .ok (.value v) w) (hk : K v w) : Yk P K ((execOp (evalR ρ) ⟨d, .call ⟨.value (.func f), #[x], at_⟩, ty, pos, af, gd⟩).run P w) := by
  refine Yk.value (v := v) (w' := w) ?_ hk
  have hf : evalR ρ (.func f) = .func (.func f) #[] #[] := rfl
  unfold execOp
  simp [resolve, hf, Deferred.ofValue, invoke, hx, hr]
theorem list1 {x0 y0 : Value} (h0 : x0 = y0) : [x0] = [y0] := by rw [h0]
theorem list2 {x0 x1 y0 y1 : Value} (h0 : x0 = y0) (h1 : x1 = y1) : [x0, x1] = [y0, y1] := by rw [h0, h1]
theorem list3 {x0 x1 x2 y0 y1 y2 : Value} (h0 : x0 = y0) (h1 : x1 = y1) (h2 : x2 = y2) : [x0, x1, x2] = [y0, y1, y2] := by rw [h0, h1, h2]
theorem Yk.clo {f : FuncId} (hp : Plain P f) {c : Operand} {args : Array Operand} {at_ : Array TypeId} {caps : Array Value} (hc : evalR ρ c = .func (.func f) #[] caps) (vs : Array Value) (hv : args.map (evalR ρ) ++ caps = vs)
    (h : Calls P f vs w fun e w' => ∃ v, e = .returned v ∧ K v w') : Yk P K ((execOp (evalR ρ) ⟨d, .call ⟨.value c, args, at_⟩, ty, pos, af, gd⟩).run P w) := by
  subst hv
  refine Yk.enter (f := f) (args := args.map (evalR ρ) ++ caps) (w' := w) ?_ h
  unfold execOp
  simp [resolve, hc, Deferred.ofValue, invoke, hp _ w]
theorem Yk.mkFunc {f : Fn} {caps : Array Operand} {vs : Array Value} (hv : caps.map (evalR ρ) = vs) (hk : K (.func f #[] vs) w) : Yk P K ((execOp (evalR ρ) ⟨d, .makeFunc f #[] caps, ty, pos, af, gd⟩).run P w) := by
  refine Yk.value (v := .func f #[] vs) (w' := w) ?_ hk
  unfold execOp
  simp [Instr.makeFunc, hv]
theorem Yk.box1 {e : TypeId} {x : Operand} {v : Value} (hx : evalR ρ x = v) (hv : v.cells = #[v])
    (hk : ∀ n w', w.heap.size = n → w'.heap[n]? = some (.cells ([v] : List Value).toArray e (0, 0)) → Ext w w' → w'.heap.size = n + 1 → K (.pointer (some ⟨n, 0, none⟩)) w') : Yk P K ((execOp (evalR ρ) ⟨d, .box e x, ty, pos, af, gd⟩).run P w) := by
  have hr : (execOp (evalR ρ) ⟨d, .box e x, ty, pos, af, gd⟩).run P w = .ok (.value (.pointer (some ⟨w.heap.size, 0, none⟩))) (w.alloc (.cells #[v] e)) := by
    show ((Instr.box e (evalR ρ x)).run P w).andThen (fun v w => Result.ok (Next.value v) w) = _
    rw [hx]
    simp [Instr.box, newVar, hv]
    rfl
  rw [hr]
  exact hk _ _ rfl (heap_alloc_new w _) ((Below.refl _ _).alloc (Nat.le_refl _) _) (by simp)
end
theorem own_one {w : World} {b : Nat} {e : TypeId} {z n : Nat} {v : Value} {xs : List Value} (h : w.ownsRow b e z v n xs) : v.cells = #[v] ∧ v.oneCell' = true := by
  rcases h.2 with ⟨rfl, _⟩ | ⟨g, cap, cur, rfl, -⟩ <;> exact ⟨rfl, rfl⟩
theorem RB.one {w : World} {v : Value} {l : List UInt8} (h : RB w v l) : v.cells = #[v] ∧ v.oneCell' = true := by
  obtain ⟨-, ao, cap, rfl, -⟩ := h
  exact ⟨rfl, rfl⟩
/-! ### Bits of numbers that are not below 0 -/
theorem i64_and (t : TypeId) (a b : Nat) (ha : a < 9223372036854775808) (hb : b < 9223372036854775808) : Go.binOp .and t (.int .i64 (a : Int)) (.int .i64 (b : Int)) = pure (.int .i64 ((a &&& b : Nat) : Int)) := by
  unfold Go.binOp
  simp only [ne_eq, not_true_eq_false, if_false, Op.intBits, IntKind.bits, BitVec.ofInt_natCast]
  have h1 : (BitVec.ofNat 64 a &&& BitVec.ofNat 64 b).toNat = a &&& b := by
    rw [BitVec.toNat_and, BitVec.toNat_ofNat, BitVec.toNat_ofNat, Nat.mod_eq_of_lt (by omega), Nat.mod_eq_of_lt (by omega)]
  show pure (Value.int .i64 (IntKind.i64.wrap (((BitVec.ofNat 64 a &&& BitVec.ofNat 64 b).toNat : Nat) : Int))) = _
  rw [h1, wrap_i64 _ (Nat.lt_of_le_of_lt Nat.and_le_left ha)]
theorem i64_or (t : TypeId) (a b : Nat) (ha : a < 9223372036854775808) (hb : b < 9223372036854775808) : Go.binOp .or t (.int .i64 (a : Int)) (.int .i64 (b : Int)) = pure (.int .i64 ((a ||| b : Nat) : Int)) := by
  unfold Go.binOp
  simp only [ne_eq, not_true_eq_false, if_false, Op.intBits, IntKind.bits, BitVec.ofInt_natCast]
  have h1 : (BitVec.ofNat 64 a ||| BitVec.ofNat 64 b).toNat = a ||| b := by
    rw [BitVec.toNat_or, BitVec.toNat_ofNat, BitVec.toNat_ofNat, Nat.mod_eq_of_lt (by omega), Nat.mod_eq_of_lt (by omega)]
  show pure (Value.int .i64 (IntKind.i64.wrap (((BitVec.ofNat 64 a ||| BitVec.ofNat 64 b).toNat : Nat) : Int))) = _
  rw [h1, wrap_i64 _ (Nat.or_lt_two_pow (n := 63) ha hb)]
theorem u8_and (t : TypeId) (a b : Nat) (ha : a < 256) (hb : b < 256) : Go.binOp .and t (.int .u8 (a : Int)) (.int .u8 (b : Int)) = pure (.int .u8 ((a &&& b : Nat) : Int)) := by
  unfold Go.binOp
  simp only [ne_eq, not_true_eq_false, if_false, Op.intBits, IntKind.bits, BitVec.ofInt_natCast]
  have h1 : (BitVec.ofNat 8 a &&& BitVec.ofNat 8 b).toNat = a &&& b := by
    rw [BitVec.toNat_and, BitVec.toNat_ofNat, BitVec.toNat_ofNat, Nat.mod_eq_of_lt (by omega), Nat.mod_eq_of_lt (by omega)]
  show pure (Value.int .u8 (IntKind.u8.wrap (((BitVec.ofNat 8 a &&& BitVec.ofNat 8 b).toNat : Nat) : Int))) = _
  rw [h1, wrap_u8 _ (Nat.lt_of_le_of_lt Nat.and_le_left ha)]
theorem shl_or (h l k : Nat) (hl : l < 2 ^ k) : h * 2 ^ k ||| l = h * 2 ^ k + l := by
  rw [← Nat.shiftLeft_eq, Nat.shiftLeft_add_eq_or_of_lt hl]
open Go.RowKit
def RG {α : Type} (k : Nat) (enc : α → List Value) (w : World) (v : Value) (l : List α) : Prop := (∀ x ∈ l, (enc x).length = k) ∧ Reads w k v l.length (l.flatMap enc)
def OG {α : Type} (base : Nat) (t : TypeId) (k : Nat) (enc : α → List Value) (w : World) (v : Value) (l : List α) : Prop := (∀ x ∈ l, (enc x).length = k) ∧ w.ownsRow base t k v l.length (l.flatMap enc)
def PR (cs : List Value) (v : Value) (w : World) : Prop := ∃ b o, v = .pointer (some ⟨b, o, none⟩) ∧ w.rangeAt b o cs
section
variable {α : Type} {k base : Nat} {t : TypeId} {enc : α → List Value} {w w' : World} {v x : Value} {l : List α} {cs : List Value}
theorem RG.keep (h : RG k enc w v l) (e : Ext w w') : RG k enc w' v l := ⟨h.1, h.2.keep e⟩
theorem OG.keep (h : OG base t k enc w v l) (e : Ext w w') : OG base t k enc w' v l := ⟨h.1, Stab.own _ _ _ _ _ _ _ _ h.2 e⟩
theorem OG.kept {g : Nat} (h : OG base t k enc w v l) (e : w.grownBy w' (some g)) (hne : v.ownBlock ≠ some g) : OG base t k enc w' v l := ⟨h.1, own_kept h.2 e hne⟩
theorem RG.of (h : RG k enc w v l) (e : x = v) : RG k enc w x l := by rw [e]; exact h
theorem OG.of (h : OG base t k enc w v l) (e : x = v) : OG base t k enc w x l := by rw [e]; exact h
theorem PR.keep (h : PR cs v w) (e : Ext w w') : PR cs v w' := by
  obtain ⟨b, o, h1, h2⟩ := h
  exact ⟨b, o, h1, fun j u hu => Ext.cellX e (h2 j u hu)⟩
theorem PR.of (h : PR cs v w) (e : x = v) : PR cs x w := by rw [e]; exact h
theorem RG.nil (k : Nat) (enc : α → List Value) (w : World) : RG k enc w (.slice none 0 0) [] := ⟨by simp, by simp, none, 0, rfl, Nat.le_refl _, by simp [maxLen], fun _ => ⟨rfl, rfl⟩, fun a h => by cases h⟩
theorem OG.nil (base : Nat) (t : TypeId) (k : Nat) (enc : α → List Value) (w : World) : OG base t k enc w (.slice none 0 0) [] := ⟨by simp, World.ownsRow_nil w base t k⟩
theorem RG.sliceLen (h : RG k enc w v l) : sliceLen v = l.length := by
  obtain ⟨-, -, ao, cap, rfl, -⟩ := h
  rfl
theorem RG.one (h : RG k enc w v l) : v.cells = #[v] ∧ v.oneCell' = true := by
  obtain ⟨-, -, ao, cap, rfl, -⟩ := h
  exact ⟨rfl, rfl⟩
theorem RG.len (h : RG k enc w v l) : ∃ ao c, v = .slice ao l.length c := by
  obtain ⟨-, -, ao, cap, rfl, -⟩ := h
  exact ⟨ao, cap, rfl⟩
theorem RG.ofOwn (h : OG base t k enc w v l) : RG k enc w v l := by
  refine ⟨h.1, h.2.1, ?_⟩
  have h' := h.2
  rcases h.2.2 with ⟨rfl, h0⟩ | ⟨g, cap, cur, rfl, hbg, hg, hnc, hcm, hcs, htake⟩
  · exact ⟨none, 0, by rw [h0], by omega, by simp [maxLen], fun _ => ⟨h0, rfl⟩, fun a ha => by cases ha⟩
  · exact ⟨some ⟨g, 0, none⟩, cap, rfl, hnc, hcm, (fun h => by cases h), (fun a ha j u hu => by cases ha; exact h'.cells rfl j u hu)⟩
theorem flat_get (d : α) : ∀ (l : List α), (∀ x ∈ l, (enc x).length = k) → ∀ i, i < l.length → ∀ j u, (enc (l.getD i d))[j]? = some u → (l.flatMap enc)[i * k + j]? = some u
  | [], _, i, hi, _, _, _ => by simp at hi
  | a :: r, h, 0, _, j, u, hu => by
    have hj := (List.getElem?_eq_some_iff.1 hu).1
    simp only [List.getD_cons_zero] at hu hj
    rw [List.flatMap_cons, Nat.zero_mul, Nat.zero_add, List.getElem?_append_left hj]
    exact hu
  | a :: r, h, i + 1, hi, j, u, hu => by
    simp only [List.getD_cons_succ] at hu
    have ih := flat_get d r (fun x hx => h x (by simp [hx])) i (by simpa using hi) j u hu
    rw [List.flatMap_cons, List.getElem?_append_right (by rw [h a (by simp), Nat.add_mul]; omega), h a (by simp)]
    rw [show (i + 1) * k + j - k = i * k + j by rw [Nat.add_mul]; omega]
    exact ih
theorem RG.rangeAt (d : α) (h : RG k enc w v l) (hk : 0 < k) {i : Nat} (hi : i < l.length) : ∃ b o c, v = .slice (some ⟨b, o, none⟩) l.length c ∧ w.rangeAt b (o + i * k) (enc (l.getD i d)) := by
  obtain ⟨h1, h2, ao, cap, rfl, h3, h4, h5, h6⟩ := h
  cases ao with
  | none => have := (h5 rfl).1; omega
  | some a =>
    obtain ⟨b, o, sp⟩ := a
    have hx : l.getD i d ∈ l := by
      rw [List.getD_eq_getElem?_getD, List.getElem?_eq_getElem hi]
      exact List.getElem_mem hi
    have hc : ∀ j u, (enc (l.getD i d))[j]? = some u → w.cell? ((⟨b, o, sp⟩ : Addr).add (i * k + j)) = some u := fun j u hu => h6 _ rfl _ _ (flat_get d l h1 i hi j u hu)
    have hl0 := h1 (l.getD 0 d) (by rw [List.getD_eq_getElem?_getD, List.getElem?_eq_getElem (by omega)]; exact List.getElem_mem _)
    have h0 := h6 _ rfl _ _ (flat_get d l h1 0 (by omega) 0 ((enc (l.getD 0 d))[0]'(by omega)) (by rw [List.getElem?_eq_getElem]))
    have hsp : sp = none := by
      have := World.cell?_spot h0
      simpa [Addr.add] using this
    subst hsp
    refine ⟨b, o, cap, rfl, fun j u hu => ?_⟩
    have := hc j u hu
    rw [Addr.add_lit] at this
    rw [Nat.add_assoc]
    exact this
end
section
variable {P : Program} {K : Value → World → Prop} {ρ : Slots} {w : World} {d : Option Tmp} {ty : TypeId} {pos : String} {af : Array Edge} {gd : Option (Nat × Bool)}
variable {α : Type} {k : Nat} {enc : α → List Value} {l : List α}
theorem Yk.atRG {t e : TypeId} (ht : P.underlying t = some (.slice e)) (he : ∀ w' : World, (sizeOf e).run P w' = .ok k w') (hk0 : 0 < k) {x y : Operand} (dd : α) (h : RG k enc w (evalR ρ x) l) {kd : IntKind} {i : Nat} (hy : evalR ρ y = .int kd (i : Int)) (hi : i < l.length)
    (hk : ∀ v, PR (enc (l.getD i dd)) v w → K v w) : Yk P K ((execOp (evalR ρ) ⟨d, .indexAddr t x y, ty, pos, af, gd⟩).run P w) := by
  obtain ⟨b, o, c, hv, hr⟩ := h.rangeAt dd hk0 hi
  refine Yk.value (v := .pointer (some ⟨b, o + i * k, none⟩)) (w' := w) ?_ (hk _ ⟨b, _, rfl, hr⟩)
  have hE : P.elem t = e := by simp [Program.elem, ht]
  have hr := run_indexAt_slice (P := P) w t ⟨b, o, none⟩ l.length c kd (i : Int) (by rw [hE]; exact ht)
  rw [if_pos (by omega), hE, he] at hr
  unfold execOp
  simp only [hv, hy, Sem.run_bind, hr, Result.andThen_ok, Sem.run_pure]
  simp [Addr.add_lit]
theorem Yk.lenRG {t e : TypeId} (ht : P.underlying t = some (.slice e)) {x : Operand} (h : RG k enc w (evalR ρ x) l) (hk : K (NI l.length) w) : Yk P K ((execOp (evalR ρ) ⟨d, .call ⟨.builtin .len, #[x], #[t]⟩, ty, pos, af, gd⟩).run P w) := by
  obtain ⟨ao, c, hv⟩ := h.len
  exact Yk.lenSl ht hv hk
theorem Yk.loadPR {t' : TypeId} {x : Operand} {cs : List Value} {de : TypeDesc} (h : PR cs (evalR ρ x) w) (hu : P.underlying t' = some de) (hd : de.isRow = true) (hi : (P.info? t').map (·.size) = some cs.length)
    (hk : K (.agg cs.toArray) w) : Yk P K ((execOp (evalR ρ) ⟨d, .load t' x, ty, pos, af, gd⟩).run P w) := by
  obtain ⟨b, o, hx, hr⟩ := h
  exact Yk.loadPart hx hr hu hd hi hk
theorem Yk.fieldPR {s : TypeId} {f off n : Nat} (hf : FieldOff P s f off) {x : Operand} {cs : List Value} (h : PR cs (evalR ρ x) w) (hk : ∀ v, PR ((cs.drop off).take n) v w → K v w) : Yk P K ((execOp (evalR ρ) ⟨d, .fieldAddr s x f, ty, pos, af, gd⟩).run P w) := by
  obtain ⟨b, o, hx, hr⟩ := h
  refine Yk.fieldAt hf hx (hk _ ⟨b, o + off, rfl, fun j v hv => ?_⟩)
  rw [List.getElem?_take] at hv
  split at hv
  · rw [List.getElem?_drop] at hv
    have := hr _ _ hv
    rw [← Nat.add_assoc] at this
    exact this
  · cases hv
theorem PR.cell {cs : List Value} {v u : Value} (h : PR cs v w) (hc : cs[0]? = some u) : PCell u v w := by
  obtain ⟨b, o, hx, hr⟩ := h
  exact ⟨_, hx, by have := hr 0 u hc; simpa using this⟩
theorem RG.src {tx e' : TypeId} (hk : P.underlying tx = some (.slice e')) {v : Value} (h1 : ∀ x ∈ l, ∀ u ∈ enc x, u.oneCell' = true) (h : RG k enc w v l) : Src P k tx v l.length (l.flatMap enc) w := by
  obtain ⟨h0, h2, ao, cap, rfl, h3, h4, h5, h6⟩ := h
  cases ao with
  | none =>
    obtain ⟨h7, rfl⟩ := h5 rfl
    have : l = [] := List.eq_nil_of_length_eq_zero h7
    subst this
    exact Src.ofNil w hk 0
  | some a => exact Src.ofSlice w hk a _ cap _ h2 (h6 a rfl) (fun u hu => by
      obtain ⟨x, hx, hxu⟩ := List.mem_flatMap.1 hu
      exact h1 x hx u hxu)
theorem Yk.appendRG (s x : Operand) {t tx e e' : TypeId} (base : Nat) (z : Value) (bytes : Nat) (ht : P.underlying t = some (.slice e)) (hi : (P.info? e).map (fun i => (i.zero, i.size, i.bytes)) = some (some z, k, bytes)) (hzs : z.cells.size = k) (hu : P.underlying tx = some (.slice e'))
    (l m : List α) (hown : OG base e k enc w (evalR ρ s) l) (hsrc : RG k enc w (evalR ρ x) m) (h1 : ∀ x ∈ m, ∀ u ∈ enc x, u.oneCell' = true) (hb : l.length + m.length ≤ 281474976710656) (hbb : (l.length + m.length) * bytes ≤ 140737488355328) (hbase : base ≤ w.heap.size)
    (h : ∀ v' w', OG base e k enc w' v' (l ++ m) → Grew w w' (evalR ρ s) v' → K v' w') : Yk P K ((execOp (evalR ρ) ⟨d, .call ⟨.builtin .append, #[s, x], #[t, tx]⟩, ty, pos, af, gd⟩).run P w) :=
  Yk.append s x base e z k bytes ht hi hzs l.length (l.flatMap enc) hown.2 m.length (m.flatMap enc) (hsrc.src hu h1) (by unfold maxLen; omega) hbb hbase fun v' w' ho g => h v' w' ⟨fun x hx => (List.mem_append.1 hx).elim (hown.1 x) (hsrc.1 x), by rw [List.length_append, List.flatMap_append]; exact ho⟩ g
theorem RG.single {w : World} {b : Nat} {x : α} {t : TypeId} {fr : Nat × Nat} (hl : (enc x).length = k) (hb : w.heap[b]? = some (.cells (enc x).toArray t fr)) : RG k enc w (.slice (some ⟨b, 0, none⟩) 1 1) [x] :=
  ⟨by simpa using hl, by simpa using hl, some ⟨b, 0, none⟩, 1, rfl, Nat.le_refl _, by simp [maxLen], (fun h => by cases h), fun a ha j u hu => by
    cases ha
    rw [Addr.add_lit, Nat.zero_add]
    exact cellAt hb (by simpa using hu)⟩
end
open Go.RowKit
def Yp (P : Program) (K : Value → World → Prop) (J : List PanicEntry → World → Prop) : Result Next → Prop
  | .ok (.value v) w => K v w
  | .ok .skip w => K undef w
  | .ok (.enter f args) w => Calls P f args w fun e w' => match e with | .returned v => K v w' | .panicked ch => J ch w' | .outgrown => False
  | .halt (.panic v) w => J [{ v, recovered := false }] w
  | _ => False
section
variable {P : Program} {n : Nat} {Q : PostF} {ρ : Slots} {w : World}
theorem Yp.ofK {K : Value → World → Prop} {J : List PanicEntry → World → Prop} {r : Result Next} (h : Yk P K r) : Yp P K J r := by
  unfold Yk at h
  split at h
  · exact h
  · exact h
  · exact h.mono fun e w' hx => by
      obtain ⟨v, rfl, hk⟩ := hx
      exact hk
  · exact h.elim
end
open Go.RowKit
section
variable {P : Program} {K : Value → World → Prop} {ρ : Slots} {w : World} {d : Option Tmp} {ty : TypeId} {pos : String} {af : Array Edge} {gd : Option (Nat × Bool)}
variable {α β : Type} {ek : α → Value} {ev : β → Value} {D : α → Prop} {b : Nat} {G : α → Option β}
variable {t Kt E : TypeId} {OK : Value → Prop}
theorem Yk.lookM (L : KL P Kt OK) (hD : ∀ a, D a → OK (ek a)) (hi : ∀ a c, ek a = ek c → a = c) (ht : P.underlying t = some (.map Kt E)) {z : Value} (hz : ∀ u : World, (zeroValue E).run P u = .ok z u) {x y : Operand} {a : α}
    (hm : evalR ρ x = .map (some b)) (hy : evalR ρ y = ek a) (h : MapF ek ev D w b G) (ha : D a) (hk : K ((G a).elim z ev) w) :
    Yk P K ((execOp (evalR ρ) ⟨d, .lookup t x y false, ty, pos, af, gd⟩).run P w) := by
  have hrun := h.look L hD hi ht hz ha false
  refine Yk.value (v := (G a).elim z ev) (w' := w) ?_ hk
  unfold execOp
  simp only [hm, hy, Sem.run_bind, hrun, Result.andThen_ok, Sem.run_pure]
  rfl
theorem Yk.putM [DecidableEq α] (L : KL P Kt OK) (hD : ∀ a, D a → OK (ek a)) (ht : P.underlying t = some (.map Kt E)) {x y z : Operand} {a : α} {c : β}
    (hm : evalR ρ x = .map (some b)) (hy : evalR ρ y = ek a) (hz : evalR ρ z = ev c) (h : MapF ek ev D w b G) (ha : D a) (hk : ∀ w', MapF ek ev D w' b (updM G a (some c)) → w.grownBy w' (some b) → w'.heap.size = w.heap.size → K undef w') :
    Yk P K ((execOp (evalR ρ) ⟨d, .mapUpdate t x y z, ty, pos, af, gd⟩).run P w) := by
  obtain ⟨w', hrun, h1, h2, h3⟩ := h.put L hD ht ha c
  have hr : (execOp (evalR ρ) ⟨d, .mapUpdate t x y z, ty, pos, af, gd⟩).run P w = .ok .skip w' ∨ (execOp (evalR ρ) ⟨d, .mapUpdate t x y z, ty, pos, af, gd⟩).run P w = .ok (.value undef) w' := by
    unfold execOp
    simp only [hm, hy, hz, Sem.run_bind, hrun, Result.andThen_ok, Sem.run_pure]
    simp
  rcases hr with hr | hr <;> rw [hr] <;> exact hk w' h1 h2 h3
theorem Yk.delM [DecidableEq α] (L : KL P Kt OK) (hD : ∀ a, D a → OK (ek a)) (hi : ∀ a c, ek a = ek c → a = c) (ht : P.underlying t = some (.map Kt E)) {x y : Operand} {a : α}
    (hm : evalR ρ x = .map (some b)) (hy : evalR ρ y = ek a) (h : MapF ek ev D w b G) (ha : D a) (hk : ∀ w', MapF ek ev D w' b (updM G a none) → w.grownBy w' (some b) → w'.heap.size = w.heap.size → K (.tuple #[]) w') :
    Yk P K ((execOp (evalR ρ) ⟨d, .call ⟨.builtin .delete, #[x, y], #[t, Kt]⟩, ty, pos, af, gd⟩).run P w) := by
  obtain ⟨w', hrun, h1, h2, h3⟩ := h.del L hD hi ht (ty := ty) ha
  refine Yk.value (v := .tuple #[]) (w' := w') ?_ (hk w' h1 h2 h3)
  unfold execOp
  simp only [resolve, invoke, builtin, Sem.run_bind, Sem.run_pure, Result.andThen_ok, List.map_toArray, List.map_cons, List.map_nil, hm, hy, hrun]
theorem Yk.mkMap (ek : α → Value) (ev : β → Value) (D : α → Prop) (hk : ∀ g w', w.heap.size = g → MapF ek ev D w' g (fun _ => none) → Ext w w' → w'.heap.size = g + 1 → K (.map (some g)) w') :
    Yk P K ((execOp (evalR ρ) ⟨d, .makeMap t none, ty, pos, af, gd⟩).run P w) := by
  refine Yk.value (v := .map (some w.heap.size)) (w' := w.alloc (.map #[] 0)) ?_ (hk _ _ rfl (MapF.made ek ev D w) ((Below.refl _ _).alloc (Nat.le_refl _) _) (by simp))
  unfold execOp
  simp [Instr.makeMap, newObj, Result.andThen]
  rfl
theorem Yk.lookMS (L : KL P Kt OK) (hD : ∀ a, D a → OK (ek a)) (hi : ∀ a c, ek a = ek c → a = c) (ht : P.underlying t = some (.map Kt E)) {z : Value} (hz : ∀ u : World, (zeroValue E).run P u = .ok z u) {x y : Operand} {a : α} {c : β}
    (hm : evalR ρ x = .map (some b)) (hy : evalR ρ y = ek a) (h : MapF ek ev D w b G) (ha : D a) (hG : G a = some c) (hk : K (ev c) w) : Yk P K ((execOp (evalR ρ) ⟨d, .lookup t x y false, ty, pos, af, gd⟩).run P w) :=
  Yk.lookM L hD hi ht hz hm hy h ha (by rw [hG]; exact hk)
theorem Yk.lookMN (L : KL P Kt OK) (hD : ∀ a, D a → OK (ek a)) (hi : ∀ a c, ek a = ek c → a = c) (ht : P.underlying t = some (.map Kt E)) {z : Value} (hz : ∀ u : World, (zeroValue E).run P u = .ok z u) {x y : Operand} {a : α}
    (hm : evalR ρ x = .map (some b)) (hy : evalR ρ y = ek a) (h : MapF ek ev D w b G) (ha : D a) (hG : G a = none) (hk : K z w) : Yk P K ((execOp (evalR ρ) ⟨d, .lookup t x y false, ty, pos, af, gd⟩).run P w) :=
  Yk.lookM L hD hi ht hz hm hy h ha (by rw [hG]; exact hk)
theorem Yk.build {parts : Array (Nat × Operand)} {vs : Array (Nat × Value)} {v : Value} (hv : (parts.map fun (i, x) => (i, evalR ρ x)) = vs) (hr : ∀ w : World, (Instr.build t vs).run P w = .ok v w) (hk : K v w) :
    Yk P K ((execOp (evalR ρ) ⟨d, .build t parts, ty, pos, af, gd⟩).run P w) := by
  refine Yk.value (v := v) (w' := w) ?_ hk
  unfold execOp
  simp only [hv, hr, Sem.run_bind, Result.andThen_ok, Sem.run_pure]
theorem Yk.build1 {i0 : Nat} {x0 : Operand} {v0 v : Value} (h0 : evalR ρ x0 = v0) (hr : ∀ w : World, (Instr.build t #[(i0, v0)]).run P w = .ok v w) (hk : K v w) : Yk P K ((execOp (evalR ρ) ⟨d, .build t #[(i0, x0)], ty, pos, af, gd⟩).run P w) :=
  Yk.build (by simp [h0]) hr hk
theorem Yk.build2 {i0 i1 : Nat} {x0 x1 : Operand} {v0 v1 v : Value} (h0 : evalR ρ x0 = v0) (h1 : evalR ρ x1 = v1) (hr : ∀ w : World, (Instr.build t #[(i0, v0), (i1, v1)]).run P w = .ok v w) (hk : K v w) : Yk P K ((execOp (evalR ρ) ⟨d, .build t #[(i0, x0), (i1, x1)], ty, pos, af, gd⟩).run P w) :=
  Yk.build (by simp [h0, h1]) hr hk
theorem Yk.lit1G {k : Nat} {enc : α → List Value} {e : TypeId} {x : Operand} {a : α} (hx : evalR ρ x = .agg (enc a).toArray) (hl : (enc a).length = k)
    (hr : ∀ (cs : Array Value), cs.size = k → ∀ w : World, (Instr.buildSlice t 1 #[(0, .agg cs)]).run P w = .ok (.slice (some ⟨w.heap.size, 0, none⟩) 1 1) (w.alloc (.cells cs e)))
    (hk : ∀ v w', RG k enc w' v [a] → Ext w w' → K v w') : Yk P K ((execOp (evalR ρ) ⟨d, .buildSlice t 1 #[(0, x)], ty, pos, af, gd⟩).run P w) := by
  have hE : Ext w (w.alloc (.cells (enc a).toArray e)) := (Below.refl _ _).alloc (Nat.le_refl _) _
  refine Yk.value (v := .slice (some ⟨w.heap.size, 0, none⟩) 1 1) (w' := w.alloc (.cells (enc a).toArray e)) ?_ (hk _ _ (RG.single hl (heap_alloc_new w _)) hE)
  unfold execOp
  simp only [List.map_toArray, List.map_cons, List.map_nil, hx, Sem.run_bind, hr _ (show (enc a).toArray.size = k by rw [List.size_toArray]; exact hl), Result.andThen_ok, Sem.run_pure]
theorem RG.elem {k : Nat} {enc : α → List Value} {v : Value} {l : List α} (h : RG k enc w v l) (dd : α) {i : Nat} (hi : i < l.length) : (enc (l.getD i dd)).length = k := by
  refine h.1 _ ?_
  rw [List.getD_eq_getElem?_getD, List.getElem?_eq_getElem hi]
  exact List.getElem_mem hi
theorem RG.cut {k : Nat} {enc : α → List Value} {v : Value} {l : List α} (h : ∀ x ∈ l, (enc x).length = k) {a c : Nat} (ha : a ≤ c) (hc : c ≤ l.length) (hR : Reads w k v (c - a) (((l.flatMap enc).drop (a * k)).take ((c - a) * k))) : RG k enc w v ((l.drop a).take (c - a)) := by
  have hd : ∀ (l : List α) (n : Nat), (∀ x ∈ l, (enc x).length = k) → (l.flatMap enc).drop (n * k) = (l.drop n).flatMap enc := by
    intro l n
    induction n generalizing l with
    | zero => intro _; simp
    | succ n ih =>
      intro h
      cases l with
      | nil => simp
      | cons x r =>
        have hx := h x (by simp)
        rw [List.flatMap_cons, List.drop_succ_cons, ← ih r (fun y hy => h y (by simp [hy])), show (n + 1) * k = (enc x).length + n * k by rw [hx, Nat.add_mul]; omega, List.drop_append, List.drop_of_length_le (by omega), Nat.add_sub_cancel_left, List.nil_append]
  have htk : ∀ (l : List α) (n : Nat), (∀ x ∈ l, (enc x).length = k) → (l.flatMap enc).take (n * k) = (l.take n).flatMap enc := by
    intro l n
    induction n generalizing l with
    | zero => intro _; simp
    | succ n ih =>
      intro h
      cases l with
      | nil => simp
      | cons x r =>
        have hx := h x (by simp)
        rw [List.flatMap_cons, List.take_succ_cons, List.flatMap_cons, ← ih r (fun y hy => h y (by simp [hy])), show (n + 1) * k = (enc x).length + n * k by rw [hx, Nat.add_mul]; omega, List.take_append, List.take_of_length_le (by omega), Nat.add_sub_cancel_left]
  refine ⟨fun x hx => h x (List.mem_of_mem_drop (List.mem_of_mem_take hx)), ?_⟩
  rw [hd l a h, htk _ _ (fun x hx => h x (List.mem_of_mem_drop hx))] at hR
  rw [show ((l.drop a).take (c - a)).length = c - a by rw [List.length_take, List.length_drop]; omega]
  exact hR
theorem Yk.sliceLoG {k : Nat} {enc : α → List Value} {e : TypeId} (ht : P.underlying t = some (.slice e)) (he : ∀ w' : World, (sizeOf e).run P w' = .ok k w') {x lo : Operand} {v : Value} {xs : List α} (hx : evalR ρ x = v) (h : RG k enc w v xs) {kd : IntKind} {l : Nat} (hlo : evalR ρ lo = .int kd (l : Int)) (hl : l ≤ xs.length)
    (hk : ∀ v', RG k enc w v' (xs.drop l) → v'.ownBlock = v.ownBlock → K v' w) : Yk P K ((execOp (evalR ρ) ⟨d, .slice t x (some lo) none none, ty, pos, af, gd⟩).run P w) := by
  obtain ⟨ao, c, ⟨hrun, hb⟩, hR⟩ := run_reslice_readsB ht he h.2 (some (.int kd l)) none l xs.length hl (Nat.le_refl _) (.inr ⟨kd, rfl⟩) (.inl ⟨rfl, rfl⟩)
  have hR' := RG.cut h.1 hl (Nat.le_refl _) hR
  rw [List.take_of_length_le (by rw [List.length_drop]; exact Nat.le_refl _)] at hR'
  refine Yk.value (v := .slice ao (xs.length - l) c) (w' := w) ?_ (hk _ hR' hb)
  unfold execOp
  simp only [hx, hlo, Option.map_some, Option.map_none, hrun, Sem.run_bind, Sem.run_pure, Result.andThen_ok]
theorem Yk.sliceHiG {k : Nat} {enc : α → List Value} {e : TypeId} (ht : P.underlying t = some (.slice e)) (he : ∀ w' : World, (sizeOf e).run P w' = .ok k w') {x hi : Operand} {v : Value} {xs : List α} (hx : evalR ρ x = v) (h : RG k enc w v xs) {kd : IntKind} {n : Nat} (hhi : evalR ρ hi = .int kd (n : Int)) (hl : n ≤ xs.length)
    (hk : ∀ v', RG k enc w v' (xs.take n) → v'.ownBlock = v.ownBlock → K v' w) : Yk P K ((execOp (evalR ρ) ⟨d, .slice t x none (some hi) none, ty, pos, af, gd⟩).run P w) := by
  obtain ⟨ao, c, ⟨hrun, hb⟩, hR⟩ := run_reslice_readsB ht he h.2 none (some (.int kd n)) 0 n (Nat.zero_le _) hl (.inl ⟨rfl, rfl⟩) (.inr ⟨kd, rfl⟩)
  have hR' := RG.cut h.1 (Nat.zero_le _) hl hR
  rw [List.drop_zero, Nat.sub_zero] at hR'
  refine Yk.value (v := .slice ao (n - 0) c) (w' := w) ?_ (hk _ hR' hb)
  unfold execOp
  simp only [hx, hhi, Option.map_some, Option.map_none, hrun, Sem.run_bind, Sem.run_pure, Result.andThen_ok]
end
open Go.RowKit
section
variable {α β : Type} (ek : α → Value) (ev : β → Value)
def MIt (w : World) (g bm : Nat) (left : List (α × β)) : Prop :=
  ∃ es clock since seen c0, w.heap[g]? = some (.mapIter (some bm) since seen c0) ∧ w.heap[bm]? = some (.map es clock) ∧ MapKept.Stamped es clock ∧ (∀ x ∈ es.toList, x.born < since) ∧ since ≤ c0 ∧ since ≤ clock ∧ ((leftOf es seen).toList.map fun e => (e.key, e.val)).Perm (left.map fun p => (ek p.1, ev p.2))
def MAt (w : World) (g bm : Nat) (a : α) (y : β) : Prop :=
  ∃ (es : Array MapEntry) (clock since : Nat) (seen : Array Nat) (e : MapEntry), w.heap[g]? = some (.mapIter (some bm) since (seen.push e.born) clock) ∧ w.heap[bm]? = some (.map es clock) ∧ (es.toList.map (·.born)).Nodup ∧ e ∈ es.toList ∧ e.key = ek a ∧ e.val = ev y
end
def World.mleft (w : World) (g : Nat) : Nat := match w.heap[g]? with
  | some (.mapIter (some bm) _ seen _) => (match w.heap[bm]? with | some (.map es _) => (leftOf es seen).size | _ => 0)
  | _ => 0
theorem MIt.mleft {α β : Type} {ek : α → Value} {ev : β → Value} {w : World} {g bm : Nat} {left : List (α × β)} (h : MIt ek ev w g bm left) : World.mleft w g = left.length := by
  obtain ⟨es, clock, since, seen, c0, hg, hb, -, -, -, -, hp⟩ := h
  have := hp.length_eq
  rw [List.length_map, List.length_map] at this
  unfold World.mleft
  rw [hg]
  simp only [hb]
  rw [← this]
  simp
theorem MIt.lt {α β : Type} {ek : α → Value} {ev : β → Value} {w : World} {g bm : Nat} {left : List (α × β)} (h : MIt ek ev w g bm left) : g < w.heap.size := by
  obtain ⟨es, clock, since, seen, c0, hg, -⟩ := h
  exact (Array.getElem?_eq_some_iff.1 hg).1
theorem born_perm {e : MapEntry} : ∀ {l : List MapEntry}, (l.map (·.born)).Nodup → e ∈ l → l.Perm (e :: l.filter fun x => !(x.born == e.born))
  | [], _, h => by cases h
  | x :: l, hn, h => by
    have hn' := List.nodup_cons.1 hn
    rcases List.mem_cons.1 h with rfl | h
    · have hf : l.filter (fun x => !(x.born == e.born)) = l := List.filter_eq_self.2 fun y hy => by
        have : y.born ≠ e.born := fun q => hn'.1 (List.mem_map.2 ⟨y, hy, q⟩)
        simpa using this
      rw [List.filter_cons_of_neg (by simp), hf]
    · have hx : x.born ≠ e.born := fun q => hn'.1 (List.mem_map.2 ⟨e, h, q.symm⟩)
      rw [List.filter_cons_of_pos (by simpa using hx)]
      exact ((born_perm hn'.2 h).cons x).trans (List.Perm.swap _ _ _)
theorem left_push (es : Array MapEntry) (seen : Array Nat) (b : Nat) : (leftOf es (seen.push b)).toList = (leftOf es seen).toList.filter fun x => !(x.born == b) := by
  unfold leftOf
  simp only [Array.toList_filter, List.filter_filter]
  refine List.filter_congr fun x _ => ?_
  rw [Bool.eq_iff_iff]
  simp [and_comm]
theorem left_nodup {es : Array MapEntry} {seen : Array Nat} (h : (es.toList.map (·.born)).Nodup) : ((leftOf es seen).toList.map (·.born)).Nodup := by
  unfold leftOf
  rw [Array.toList_filter]
  exact (List.filter_sublist.map _).nodup h
section
variable {P : Program} {K : Value → World → Prop} {ρ : Slots} {w : World} {d : Option Tmp} {ty : TypeId} {pos : String} {af : Array Edge} {gd : Option (Nat × Bool)}
variable {α β : Type} {ek : α → Value} {ev : β → Value} {D : α → Prop} {b : Nat} {G : α → Option β} {t Kt E : TypeId}
theorem Yk.rangeM (hi : ∀ a c, ek a = ek c → a = c) (ht : P.underlying t = some (.map Kt E)) {x : Operand} (hx : evalR ρ x = .map (some b)) (h : MapF ek ev D w b G) {ps : List (α × β)} (hn : (ps.map Prod.fst).Nodup) (hG : ∀ a y, G a = some y ↔ (a, y) ∈ ps)
    (hk : ∀ n w', w.heap.size = n → MIt ek ev w' n b ps → Ext w w' → w'.heap.size = n + 1 → K (.pointer (some ⟨n, 0, none⟩)) w') : Yk P K ((execOp (evalR ρ) ⟨d, .range t x, ty, pos, af, gd⟩).run P w) := by
  have hlt := h.lt
  obtain ⟨es, c, hb, H, hS⟩ := h
  have hr : (execOp (evalR ρ) ⟨d, .range t x, ty, pos, af, gd⟩).run P w = .ok (.value (.pointer (some ⟨w.heap.size, 0, none⟩))) (w.alloc (.mapIter (some b) c #[] c)) := by
    unfold execOp
    simp only [hx, Sem.run_bind, run_range_map w t Kt E b _ c ht hb, Result.andThen_ok, Sem.run_pure]
  rw [hr]
  refine hk _ _ rfl ⟨es.toArray, c, c, #[], c, heap_alloc_new _ _, (heap_alloc_old _ _ hlt).trans hb, hS, hS.1, Nat.le_refl _, Nat.le_refl _, ?_⟩ ((Below.refl _ _).alloc (Nat.le_refl _) _) (by simp)
  have h0 : (leftOf es.toArray #[]).toList = es := by
    unfold leftOf
    rw [Array.toList_filter]
    exact List.filter_eq_self.2 fun _ _ => by simp
  rw [h0]
  refine (List.perm_ext_iff_of_nodup ?_ ?_).2 fun q => ?_
  · exact List.Pairwise.of_map (S := (· ≠ ·)) Prod.fst (fun a c hne e => hne (by rw [e])) (by rw [List.map_map]; exact H.keys)
  · refine List.Pairwise.map _ (fun p q hne e => hne ?_) (List.Pairwise.of_map (S := (· ≠ ·)) (R := fun p q : α × β => p.1 ≠ q.1) Prod.fst (fun _ _ h => h) hn)
    exact hi _ _ (congrArg Prod.fst e)
  · constructor
    · intro hq
      obtain ⟨e, he, rfl⟩ := List.mem_map.1 hq
      obtain ⟨a, y, -, h2, h3, h4⟩ := H.ent e he
      exact List.mem_map.2 ⟨(a, y), (hG a y).1 h4, by rw [h2, h3]⟩
    · intro hq
      obtain ⟨p, hp, rfl⟩ := List.mem_map.1 hq
      have hg := (hG p.1 p.2).2 hp
      obtain ⟨-, e, he, hek⟩ := H.all p.1 p.2 hg
      obtain ⟨a, y, -, h2, h3, h4⟩ := H.ent e he
      have ha : a = p.1 := hi _ _ (h2.symm.trans hek)
      rw [ha, hg] at h4
      cases h4
      exact List.mem_map.2 ⟨e, he, by rw [hek, h3]⟩
theorem Yk.nextM {x : Operand} {g bm : Nat} {left : List (α × β)} (hx : evalR ρ x = .pointer (some ⟨g, 0, none⟩)) (h : MIt ek ev w g bm left)
    (h0 : left = [] → K (.tuple #[.bool false]) w) (h1 : ∀ a y rest w', left.Perm ((a, y) :: rest) → MIt ek ev w' g bm rest → MAt ek ev w' g bm a y → w.grownBy w' (some g) → w'.heap.size = w.heap.size → K (.tuple #[.bool true, ek a, ev y]) w') :
    Yk P K ((execOp (evalR ρ) ⟨d, .next x false, ty, pos, af, gd⟩).run P w) := by
  obtain ⟨es, clock, since, seen, c0, hg, hb, hS, hold, hsc, hck, hp⟩ := h
  have hgl := (Array.getElem?_eq_some_iff.1 hg).1
  have hne : bm ≠ g := fun e => by rw [e, hg] at hb; cases hb
  have hlp := hp.length_eq
  rw [List.length_map, List.length_map] at hlp
  have hL : (leftOf es seen).toList.length = (leftOf es seen).size := by simp
  by_cases hz : (leftOf es seen).size = 0
  · have hr : (Instr.next (.pointer (some ⟨g, 0, none⟩)) false ty).run P w = .ok (.tuple #[.bool false]) w := by
      simp only [Instr.next, getObj, Sem.run_bind, Sem.run, hg, hb, Result.andThen, next_test_false seen es since c0 hold hsc, Bool.false_eq_true, if_false]
      unfold leftOf at hz
      have hz' : Array.filter (fun e => !seen.contains e.born) es = #[] := Array.eq_empty_of_size_eq_zero hz
      rw [hz']
      simp [choose, Sem.run, Question.forced]
    unfold execOp
    simp only [hx, hr, Sem.run_bind, Result.andThen_ok, Sem.run_pure]
    exact h0 (List.eq_nil_of_length_eq_zero (by omega))
  · obtain ⟨e, he, w1, hw1, hsz1, hr⟩ : ∃ e ∈ (leftOf es seen).toList, ∃ w1 : World, w.grownBy w1 none ∧ w1.heap = w.heap ∧ (Instr.next (.pointer (some ⟨g, 0, none⟩)) false ty).run P w = .ok (.tuple #[.bool true, e.key, e.val]) { w1 with heap := w1.heap.setIfInBounds g (.mapIter (some bm) since (seen.push e.born) clock) } := by
      simp only [Instr.next, getObj, Sem.run_bind, Sem.run, hg, hb, Result.andThen, next_test_false seen es since c0 hold hsc, Bool.false_eq_true, if_false]
      unfold leftOf at hz ⊢
      have hmem : ∀ x ∈ (Array.filter (fun e => !seen.contains e.born) es).toList, x.born < since := fun x hx => hold x (by simp at hx ⊢; exact hx.1)
      generalize Array.filter (fun e => !seen.contains e.born) es = L at hmem hz ⊢
      have e1 : L.filter (fun x => decide (x.born < since)) = L := Array.filter_eq_self.2 (fun x hx => by simpa using hmem x (by simpa using hx))
      have e2 : L.filter (fun x => decide (x.born ≥ since)) = #[] := by
        rw [Array.filter_eq_empty_iff]
        intro x hx
        have := hmem x (by simpa using hx)
        simp
        omega
      simp only [e1, e2, Array.append_empty]
      have hne' : L.isEmpty = false := by simp [Array.isEmpty, hz]
      simp only [hne', Bool.false_eq_true, if_false, Array.empty_append, Array.size_map]
      have hch : ∃ (j : Nat) (w1 : World), j < L.size ∧ w.grownBy w1 none ∧ w1.heap = w.heap ∧ (choose (Question.mapNext L.size)).run P w = .ok j w1 := by
        by_cases hf : L.size ≤ 1
        · exact ⟨0, w, by omega, World.grownBy.refl _ _, rfl, by simp [choose, Sem.run, Question.forced, hf]⟩
        · exact ⟨_, w.drew, Nat.mod_lt _ (by omega), (Grew.refl w undef).drew.by_, rfl, by
            simp only [choose, Sem.run, Question.forced, decide_eq_true_eq, hf, if_false, Question.cut]
            rfl⟩
      obtain ⟨j, w1, hj, hal, hwh, hrun⟩ := hch
      refine ⟨L[j], by simp, w1, hal, hwh, ?_⟩
      simp only [hrun, Array.getElem?_map, Array.getElem?_eq_getElem hj, Option.map_some, Sem.run_bind, Result.andThen, setObj, Sem.run, hwh, hg]
      rfl
    have hmk : (e.key, e.val) ∈ left.map fun p => (ek p.1, ev p.2) := hp.mem_iff.1 (List.mem_map_of_mem (f := fun e : MapEntry => (e.key, e.val)) he)
    obtain ⟨p, hpm, hpe⟩ := List.mem_map.1 hmk
    obtain ⟨rest, hrest⟩ : ∃ rest, left.Perm (p :: rest) := by
      obtain ⟨s, t, hst⟩ := List.append_of_mem hpm
      exact ⟨s ++ t, by rw [hst]; exact List.perm_middle⟩
    have hk1 : ek p.1 = e.key := congrArg Prod.fst hpe
    have hk2 : ev p.2 = e.val := congrArg Prod.snd hpe
    unfold execOp
    simp only [hx, hr, Sem.run_bind, Result.andThen_ok, Sem.run_pure]
    rw [← hk1, ← hk2]
    have hgr : w.grownBy { w1 with heap := w1.heap.setIfInBounds g (.mapIter (some bm) since (seen.push e.born) clock) } (some g) :=
      ⟨hw1.os, hw1.tape, hw1.output, by simp [hsz1], fun i _ hi => by rw [hsz1]; simp only [Array.getElem?_setIfInBounds]; rw [if_neg (fun q => hi (by rw [q]))]⟩
    have hb2 : ({ w1 with heap := w1.heap.setIfInBounds g (.mapIter (some bm) since (seen.push e.born) clock) } : World).heap[bm]? = some (.map es clock) := by
      simp only [hsz1, Array.getElem?_setIfInBounds]; rw [if_neg (fun q => hne q.symm)]; exact hb
    have hes : e ∈ es.toList := by have := he; unfold leftOf at this; simp at this ⊢; exact this.1
    refine h1 p.1 p.2 rest _ hrest ⟨es, clock, since, seen.push e.born, clock, by simp [hsz1, hgl], hb2, hS, hold, hck, hck, ?_⟩ ⟨es, clock, since, seen, e, by simp [hsz1, hgl], hb2, hS.2.1, hes, hk1.symm, hk2.symm⟩ hgr (by simp [hsz1])
    · have h2 := (born_perm (left_nodup (seen := seen) hS.2.1) he).map fun e : MapEntry => (e.key, e.val)
      rw [← left_push] at h2
      have h3 := (h2.symm.trans hp).trans (hrest.map fun p => (ek p.1, ev p.2))
      rw [List.map_cons, List.map_cons, ← hpe] at h3
      exact h3.cons_inv
theorem Yk.nextEndM {x : Operand} {g bm : Nat} {left : List (α × β)} (hx : evalR ρ x = .pointer (some ⟨g, 0, none⟩)) (h : MIt ek ev w g bm left) (h0 : left = []) (hk : K (.tuple #[.bool false]) w) :
    Yk P K ((execOp (evalR ρ) ⟨d, .next x false, ty, pos, af, gd⟩).run P w) :=
  Yk.nextM hx h (fun _ => hk) fun a y rest w' hp _ _ _ _ => by rw [h0] at hp; exact absurd hp.length_eq (by simp)
theorem Yk.nextInM {x : Operand} {g bm : Nat} {left : List (α × β)} (hx : evalR ρ x = .pointer (some ⟨g, 0, none⟩)) (h : MIt ek ev w g bm left) (h0 : left ≠ [])
    (hk : ∀ a y rest w', left.Perm ((a, y) :: rest) → MIt ek ev w' g bm rest → MAt ek ev w' g bm a y → w.grownBy w' (some g) → w'.heap.size = w.heap.size → K (.tuple #[.bool true, ek a, ev y]) w') :
    Yk P K ((execOp (evalR ρ) ⟨d, .next x false, ty, pos, af, gd⟩).run P w) := Yk.nextM hx h (fun e => absurd e h0) hk
theorem Yk.entryM {x : Operand} {g bm : Nat} {a : α} {y : β} (hx : evalR ρ x = .pointer (some ⟨g, 0, none⟩)) (h : MAt ek ev w g bm a y) (hk : K (.tuple #[ek a, ev y]) w) :
    Yk P K ((execOp (evalR ρ) ⟨d, .entry x, ty, pos, af, gd⟩).run P w) := by
  obtain ⟨es, clock, since, seen, e, hg, hb, hn, he, h1, h2⟩ := h
  have hf : es.find? (·.born == e.born) = some e := by rw [← Array.find?_toList]; exact find_born e es.toList hn he
  have hr : (Instr.entry (.pointer (some ⟨g, 0, none⟩))).run P w = .ok (.tuple #[e.key, e.val]) w := by
    simp only [Instr.entry, getObj, Sem.run_bind, Sem.run, hg, hb, Result.andThen, Array.back?_push, bne_self_eq_false, Bool.false_eq_true, if_false, hf]
    rfl
  unfold execOp
  simp only [hx, hr, Sem.run_bind, Result.andThen_ok, Sem.run_pure]
  rw [h1, h2]
  exact hk
end
open Go.RowKit
structure DirOk (n : Nat) (l : Dir) : Prop where
  sort : SortD l
  num : ∀ e ∈ l, e.2 < n
  may : ∀ e ∈ l, mayD e.1 = true
structure ActOk (n : Nat) (a : ActD) : Prop where
  num : a.file < n
  may : a.to.length ≠ 0 → mayD a.to = true
  frm : a.frm.length ≤ 80
structure DOk (d : Dsk) : Prop where
  now : DirOk d.files.length d.now
  kept : DirOk d.files.length d.kept
  acts : ∀ a ∈ d.acts, ActOk d.files.length a
  syn : ∀ x ∈ d.files, x.2 ≤ x.1.length
theorem DirOk.nil (n : Nat) : DirOk n [] := ⟨List.Pairwise.nil, fun _ h => (by cases h), fun _ h => (by cases h)⟩
theorem DirOk.mono {n m : Nat} {l : Dir} (h : DirOk n l) (hn : n ≤ m) : DirOk m l := ⟨h.sort, fun e he => Nat.lt_of_lt_of_le (h.num e he) hn, h.may⟩
theorem ActOk.mono {n m : Nat} {a : ActD} (h : ActOk n a) (hn : n ≤ m) : ActOk m a := ⟨Nat.lt_of_lt_of_le h.num hn, h.may, h.frm⟩
theorem DirOk.turn {n : Nat} {l : Dir} {a : ActD} (h : DirOk n l) (ha : ActOk n a) : DirOk n (turnD l a) :=
  ⟨sort_turn h.sort a, fun e he => (turn_mem he).elim (h.num e) fun ⟨_, q⟩ => q ▸ ha.num, fun e he => (turn_mem he).elim (h.may e) fun ⟨q, r⟩ => r ▸ ha.may q⟩
theorem DirOk.fold {n : Nat} : ∀ {acs : List ActD} {l : Dir}, DirOk n l → (∀ a ∈ acs, ActOk n a) → DirOk n (acs.foldl turnD l)
  | [], _, h, _ => h
  | a :: r, l, h, ha => DirOk.fold (acs := r) (l := turnD l a) (h.turn (ha a List.mem_cons_self)) fun b hb => ha b (List.mem_cons_of_mem _ hb)
theorem DirOk.look {n : Nat} {l : Dir} (h : DirOk n l) {s : List UInt8} {k : Nat} (hk : lookD l s = some k) : k < n ∧ mayD s = true := ⟨h.num _ (look_mem hk), h.may _ (look_mem hk)⟩
theorem mayD_pos {s : List UInt8} (h : mayD s = true) : 1 ≤ s.length ∧ s.length ≤ 80 := by
  unfold mayD at h
  simpa using h
theorem DirOk.noEmpty {n : Nat} {l : Dir} (h : DirOk n l) : lookD l [] = none := look_none.2 fun e he q => by
  have := mayD_pos (h.may e he)
  rw [q] at this
  simp at this
theorem fileD_mem {d : Dsk} {k : Nat} (h : k < d.files.length) : fileD d k ∈ d.files := by
  unfold fileD
  rw [List.getD_eq_getElem?_getD, List.getElem?_eq_getElem h]
  exact List.getElem_mem h
theorem DOk.sync_le {d : Dsk} (h : DOk d) (k : Nat) : (fileD d k).2 ≤ (fileD d k).1.length := by
  by_cases hk : k < d.files.length
  · exact h.syn _ (fileD_mem hk)
  · unfold fileD
    rw [List.getD_eq_getElem?_getD, List.getElem?_eq_none (by omega)]
    exact Nat.le_refl 0
theorem DOk.turned {d : Dsk} (h : DOk d) {a : ActD} (ha : ActOk d.files.length a) : DOk (turnedD d a) :=
  ⟨h.now.turn ha, h.kept, fun b hb => (List.mem_append.1 hb).elim (h.acts b) fun q => List.mem_singleton.1 q ▸ ha, h.syn⟩
theorem DOk.files {d : Dsk} (h : DOk d) (fs : List (List UInt8 × Nat)) (hl : d.files.length ≤ fs.length) (hs : ∀ x ∈ fs, x.2 ≤ x.1.length) : DOk { d with files := fs } :=
  ⟨h.now.mono hl, h.kept.mono hl, fun a ha => (h.acts a ha).mono hl, hs⟩
theorem DOk.setFile {d : Dsk} (h : DOk d) (k : Nat) (x : List UInt8 × Nat) (hx : x.2 ≤ x.1.length) : DOk { d with files := d.files.set k x } :=
  h.files _ (by rw [List.length_set]; exact Nat.le_refl _) fun y hy => (List.mem_or_eq_of_mem_set hy).elim (h.syn y) fun q => q ▸ hx
theorem DOk.newFile {d : Dsk} (h : DOk d) (x : List UInt8 × Nat) (hx : x.2 ≤ x.1.length) : DOk { d with files := d.files ++ [x] } :=
  h.files _ (by rw [List.length_append]; exact Nat.le_add_right _ _) fun y hy => (List.mem_append.1 hy).elim (h.syn y) fun q => List.mem_singleton.1 q ▸ hx
theorem DOk.add {d : Dsk} (h : DOk d) {s : List UInt8} (b : List UInt8) (hs : mayD s = true) : DOk (addD d s b) := by
  unfold addD
  split
  · rename_i k hk
    refine h.setFile k _ ?_
    have := h.sync_le k
    simp only [List.length_append]
    omega
  · have h1 := h.newFile (b, 0) (Nat.zero_le _)
    have h2 := h1.turned (a := ⟨[], s, d.files.length⟩) ⟨by simp, fun _ => hs, Nat.zero_le _⟩
    exact h2
theorem DOk.arm {d : Dsk} (h : DOk d) : DOk (armD d).1 := by
  unfold armD
  split
  · exact h
  · exact ⟨h.now, h.kept, h.acts, h.syn⟩
theorem armD_files (d : Dsk) : (armD d).1.files = d.files ∧ (armD d).1.now = d.now ∧ (armD d).1.kept = d.kept ∧ (armD d).1.acts = d.acts ∧ (armD d).1.quota = d.quota ∧ (armD d).1.refused = d.refused := by
  unfold armD
  split <;> exact ⟨rfl, rfl, rfl, rfl, rfl, rfl⟩
theorem DOk.synced {d : Dsk} (h : DOk d) (k : Nat) : DOk { d with files := d.files.set k ((fileD d k).1, (fileD d k).1.length), kept := d.now, acts := [] } := by
  have h1 := h.setFile k ((fileD d k).1, (fileD d k).1.length) (Nat.le_refl _)
  exact ⟨h1.now, h1.now, fun a ha => (by cases ha), h1.syn⟩
theorem ready_ok {d : Dsk} {s t : List UInt8} (h : readyD d s t = 0) : d.down = false ∧ mayD s = true ∧ mayD t = true := by
  unfold readyD at h
  split at h
  · cases h
  · rename_i hd
    split at h
    · rename_i hm
      exact ⟨Bool.eq_false_iff.2 hd, hm⟩
    · cases h
theorem fateD_lt (l : List Int) (i : Nat) {n : Nat} (hn : 0 < n) : fateD l i n < n := by
  unfold fateD
  split
  · have h1 := Int.emod_nonneg (l.getD i 0) (show ((n : Nat) : Int) ≠ 0 by omega)
    have h2 := Int.emod_lt_of_pos (l.getD i 0) (show (0 : Int) < ((n : Nat) : Int) by omega)
    show (Int.emod (l.getD i 0) ((n : Nat) : Int)).toNat < n
    have h1 : 0 ≤ Int.emod (l.getD i 0) ((n : Nat) : Int) := h1
    have h2 : Int.emod (l.getD i 0) ((n : Nat) : Int) < ((n : Nat) : Int) := h2
    omega
  · exact hn
theorem cutD_len {d : Dsk} (h : DOk d) (l : List Int) (i k : Nat) : (cutD d l i k).1.length = (cutD d l i k).2 ∧ (cutD d l i k).2 ≤ (fileD d k).1.length := by
  have h1 := h.sync_le k
  have h2 := fateD_lt l (i + 1) (n := (fileD d k).1.length - (fileD d k).2 + 1) (by omega)
  unfold cutD
  simp only [List.length_take]
  omega
theorem numD_fst (l : Dir) : (numD l).map Prod.fst = l.map Prod.fst := by
  unfold numD
  exact List.ext_getElem (by simp) fun i h1 h2 => by simp
theorem numD_sort {l : Dir} (h : SortD l) : SortD (numD l) := by
  have h1 : ((numD l).map Prod.fst).Pairwise fun a b => Op.bytesLess a b = true := by
    rw [numD_fst]
    exact h.map _ fun _ _ q => q
  exact List.Pairwise.of_map Prod.fst (fun _ _ q => q) h1
theorem DirOk.numbered {n : Nat} {l : Dir} (h : DirOk n l) : DirOk l.length (numD l) :=
  ⟨numD_sort h.sort, fun e he => by
    unfold numD at he
    obtain ⟨i, hi, rfl⟩ := List.mem_mapIdx.1 he
    exact hi, fun e he => by
    have h1 : e.1 ∈ (numD l).map Prod.fst := List.mem_map_of_mem he
    rw [numD_fst] at h1
    obtain ⟨x, hx, hxe⟩ := List.mem_map.1 h1
    rw [← hxe]
    exact h.may x hx⟩
theorem DOk.left {d : Dsk} (h : DOk d) (l : List Int) : DirOk d.files.length (leftD d l) := h.kept.fold fun a ha => h.acts a ((List.take_sublist _ _).subset ha)
theorem DOk.crash {d : Dsk} (h : DOk d) (l : List Int) : DOk (crashD d l) := by
  have h1 := (h.left l).numbered
  refine ⟨?_, ?_, fun a ha => (by cases ha), fun x hx => ?_⟩
  · show DirOk ((leftD d l).mapIdx _).length _
    rw [List.length_mapIdx]
    exact h1
  · show DirOk ((leftD d l).mapIdx _).length _
    rw [List.length_mapIdx]
    exact h1
  · obtain ⟨i, hi, rfl⟩ := List.mem_mapIdx.1 hx
    exact Nat.le_of_eq (cutD_len h l i _).1.symm
open Go.RowKit
structure Chg (B : Nat → Prop) (w w' : World) : Prop where
  os : w'.os = w.os
  tape : w'.tape = w.tape
  output : w'.output = w.output
  size : w.heap.size ≤ w'.heap.size
  blk : ∀ i, i < w.heap.size → ¬ B i → w'.heap[i]? = w.heap[i]?
theorem Chg.refl (B : Nat → Prop) (w : World) : Chg B w w := ⟨rfl, rfl, rfl, Nat.le_refl _, fun _ _ _ => rfl⟩
theorem Chg.trans {B B' : Nat → Prop} {w w1 w2 : World} (h : Chg B w w1) (k : Chg B' w1 w2) (hB : ∀ i, B' i → B i ∨ w.heap.size ≤ i) : Chg B w w2 :=
  ⟨k.os.trans h.os, k.tape.trans h.tape, k.output.trans h.output, Nat.le_trans h.size k.size, fun i hi hn => by
    have hs := h.size
    rw [k.blk i (by omega) (fun hb => (hB i hb).elim hn (by omega)), h.blk i hi hn]⟩
theorem Chg.mono {B B' : Nat → Prop} {w w' : World} (h : Chg B w w') (hB : ∀ i, i < w.heap.size → B i → B' i) : Chg B' w w' :=
  ⟨h.os, h.tape, h.output, h.size, fun i hi hn => h.blk i hi fun hb => hn (hB i hi hb)⟩
theorem Chg.ofGrown {w w' : World} {r : Option Nat} {B : Nat → Prop} (h : w.grownBy w' r) (hr : ∀ i, r = some i → B i ∨ w.heap.size ≤ i) : Chg B w w' :=
  ⟨h.os, h.tape, h.output, h.size, fun i hi hn => h.block i hi fun e => (hr i e.symm).elim hn (by omega)⟩
theorem Chg.ofExt {w w' : World} {B : Nat → Prop} (h : Ext w w') : Chg B w w' := Chg.ofGrown h.grown fun i e => by cases e
theorem Chg.ext {w0 w w' : World} {B : Nat → Prop} (hE : Ext w0 w) (h : Chg B w w') (hB : ∀ i, B i → w0.heap.size ≤ i) : Ext w0 w' := by
  have h1 := hE.grown
  have hs := hE.size
  exact (Below.refl _ _).grown (⟨h.os.trans h1.os, h.tape.trans h1.tape, h.output.trans h1.output, Nat.le_trans hs h.size, fun i hi hn => by
    rw [h.blk i (by omega) (fun hb => by have := hB i hb; omega), h1.block i hi hn]⟩ : w0.grownBy w' none) (Nat.le_refl _) (fun _ e => by cases e)
theorem ownsRow_chg {base : Nat} {e : TypeId} {size : Nat} {v : Value} {n : Nat} {xs : List Value} {B : Nat → Prop} {w w' : World} (hc : Chg B w w') (h : w.ownsRow base e size v n xs) (hB : ∀ i, v.ownBlock = some i → ¬ B i) : w'.ownsRow base e size v n xs := by
  refine ⟨h.1, h.2.imp (fun x => x) fun ⟨g, cap, cur, e1, e2, e3, r⟩ => ⟨g, cap, cur, e1, e2, (hc.blk g (bl e3) (hB g (by rw [e1]; rfl))).trans e3, r⟩⟩
structure Dk where
  g : Nat
  mn : Nat
  ml : Nat
  va : Value
  F : Nat → Nat
  V : Nat → Value
def Foot (H : Dk) (n : Nat) (i : Nat) : Prop := i = H.g ∨ i = H.mn ∨ i = H.ml ∨ H.va.ownBlock = some i ∨ ∃ k, k < n ∧ (i = H.F k ∨ (H.V k).ownBlock = some i)
structure FileAt (base : Nat) (w : World) (f : Nat) (v : Value) (x : List UInt8 × Nat) : Prop where
  blk : w.heap[f]? = some (.cells ([v, NI x.2]).toArray 71 (0, 0))
  row : w.ownsRow base 5 1 v x.1.length (Lib.byteCells x.1)
  lo : base ≤ f
structure FilesAt (base : Nat) (w : World) (F : Nat → Nat) (V : Nat → Value) (fs : List (List UInt8 × Nat)) : Prop where
  at_ : ∀ k, k < fs.length → FileAt base w (F k) (V k) (fs.getD k ([], 0))
  inj : ∀ i j, i < fs.length → j < fs.length → F i = F j → i = j
  apart : ∀ i j, i < fs.length → j < fs.length → i ≠ j → ∀ x, (V i).ownBlock = some x → (V j).ownBlock ≠ some x
theorem FileAt.keep {base : Nat} {w w' : World} {f : Nat} {v : Value} {x : List UInt8 × Nat} (h : FileAt base w f v x) {B : Nat → Prop} (hc : Chg B w w') (h1 : ¬ B f) (h2 : ∀ i, v.ownBlock = some i → ¬ B i) : FileAt base w' f v x :=
  ⟨(hc.blk f (bl h.blk) h1).trans h.blk, ownsRow_chg hc h.row h2, h.lo⟩
theorem FilesAt.chg {base : Nat} {w w' : World} {F : Nat → Nat} {V : Nat → Value} {fs : List (List UInt8 × Nat)} (h : FilesAt base w F V fs) {B : Nat → Prop} (hc : Chg B w w') (hB : ∀ k, k < fs.length → ¬ B (F k) ∧ ∀ i, (V k).ownBlock = some i → ¬ B i) : FilesAt base w' F V fs :=
  ⟨fun k hk => (h.at_ k hk).keep hc (hB k hk).1 (hB k hk).2, h.inj, h.apart⟩
def HasMv : Prop := False
def ActAt (w : World) (F : Nat → Nat) (v : Value) (a : ActD) : Prop :=
  (∃ bf bn, v = .func (.func 38) #[] #[PQ bf 0, PQ bn 0] ∧ w.heap[bf]? = some (.cells ([PQ (F a.file) 0]).toArray 69 (0, 0)) ∧ w.heap[bn]? = some (.cells ([St a.to]).toArray 9 (0, 0)) ∧ a.frm = [] ∧ a.to.length ≠ 0) ∨
  (HasMv ∧ ∃ bs bf bn, v = .func (.func 0) #[] #[PQ bs 0, PQ bf 0, PQ bn 0] ∧ w.heap[bs]? = some (.cells ([St a.frm]).toArray 9 (0, 0)) ∧ w.heap[bf]? = some (.cells ([PQ (F a.file) 0]).toArray 69 (0, 0)) ∧ w.heap[bn]? = some (.cells ([St a.to]).toArray 9 (0, 0)) ∧ a.to.length ≠ 0) ∨
  (∃ bn, v = .func (.func 52) #[] #[PQ bn 0] ∧ w.heap[bn]? = some (.cells ([St a.frm]).toArray 9 (0, 0)) ∧ a.to = [])
def TyB (w : World) (i : Nat) : Prop := (∃ es c, w.heap[i]? = some (.map es c)) ∨ ∃ cs t fr, w.heap[i]? = some (.cells cs t fr) ∧ (t = 55 ∨ t = 71 ∨ t = 5 ∨ t = 73)
theorem TyB.off {w : World} {i : Nat} {cs : Array Value} {t : TypeId} {fr : Nat × Nat} (h : w.heap[i]? = some (.cells cs t fr)) (h1 : t ≠ 55) (h2 : t ≠ 71) (h3 : t ≠ 5) (h4 : t ≠ 73) : ¬ TyB w i := by
  rintro (⟨es, c, e⟩ | ⟨cs', t', fr', e, k⟩)
  · rw [h] at e; cases e
  · rw [h] at e
    cases e
    rcases k with k | k | k | k
    · exact h1 k
    · exact h2 k
    · exact h3 k
    · exact h4 k
theorem ActAt.chg {w w' : World} {F F' : Nat → Nat} {v : Value} {a : ActD} {B : Nat → Prop} (h : ActAt w F v a) (hc : Chg B w w') (hB : ∀ i, i < w.heap.size → B i → TyB w i) (hF : F' a.file = F a.file) : ActAt w' F' v a := by
  have k : ∀ {b : Nat} {cs : Array Value} {t : TypeId} {fr : Nat × Nat}, w.heap[b]? = some (.cells cs t fr) → t ≠ 55 → t ≠ 71 → t ≠ 5 → t ≠ 73 → w'.heap[b]? = some (.cells cs t fr) := fun e h1 h2 h3 h4 => (hc.blk _ (bl e) fun q => TyB.off e h1 h2 h3 h4 (hB _ (bl e) q)).trans e
  rcases h with ⟨bf, bn, e, h1, h2, h3, h4⟩ | ⟨hm, bs, bf, bn, e, h1, h2, h3, h4⟩ | ⟨bn, e, h1, h2⟩
  · exact .inl ⟨bf, bn, e, by rw [hF]; exact k h1 (by decide) (by decide) (by decide) (by decide), k h2 (by decide) (by decide) (by decide) (by decide), h3, h4⟩
  · exact .inr (.inl ⟨hm, bs, bf, bn, e, k h1 (by decide) (by decide) (by decide) (by decide), by rw [hF]; exact k h2 (by decide) (by decide) (by decide) (by decide), k h3 (by decide) (by decide) (by decide) (by decide), h4⟩)
  · exact .inr (.inr ⟨bn, e, k h1 (by decide) (by decide) (by decide) (by decide), h2⟩)
abbrev pF (F : Nat → Nat) (k : Nat) : Value := PQ (F k) 0
abbrev Nm (s : List UInt8) : Prop := s.length ≤ 80
abbrev dkC (q mn ml : Nat) (va : Value) (rf ar : Nat) (dn : Bool) : List Value := [NI q, .map (some mn), .map (some ml), va, NI rf, NI ar, .bool dn]
structure ActsAt (base : Nat) (w : World) (va : Value) (F : Nat → Nat) (acs : List ActD) (vs : List Value) : Prop where
  row : w.ownsRow base 73 1 va vs.length vs
  len : vs.length = acs.length
  at_ : ∀ i, i < acs.length → ActAt w F (vs.getD i undef) (acs.getD i ⟨[], [], 0⟩)
structure DkS (base : Nat) (w : World) (H : Dk) (D : Dsk) : Prop where
  blk : w.heap[H.g]? = some (.cells (dkC D.quota H.mn H.ml H.va D.refused D.arm D.down).toArray 55 (0, 0))
  now : MapF St (pF H.F) Nm w H.mn (lookD D.now)
  kept : MapF St (pF H.F) Nm w H.ml (lookD D.kept)
  ne : H.mn ≠ H.ml
  acts : ∃ vs, ActsAt base w H.va H.F D.acts vs
  files : FilesAt base w H.F H.V D.files
  ok : DOk D
  lo : base ≤ H.g ∧ base ≤ H.mn ∧ base ≤ H.ml
open Go.RowKit
def tagW (w : World) (i : Nat) : Option Nat := match w.heap[i]? with | some (.map _ _) => some 0 | some (.cells _ t _) => some (t + 1) | _ => none
theorem tag_cells {w : World} {i : Nat} {cs : Array Value} {t : TypeId} {fr : Nat × Nat} (h : w.heap[i]? = some (.cells cs t fr)) : tagW w i = some (t + 1) := by unfold tagW; rw [h]
theorem tag_own {base : Nat} {e : TypeId} {size : Nat} {v : Value} {n : Nat} {xs : List Value} {w : World} (h : w.ownsRow base e size v n xs) {i : Nat} (hi : v.ownBlock = some i) : tagW w i = some (e + 1) := by
  rcases h.2 with ⟨rfl, -⟩ | ⟨g, cap, cur, rfl, e2, e3, -⟩
  · cases hi
  · obtain rfl : g = i := Option.some.inj hi
    exact tag_cells e3
theorem MapF.tag {α β : Type} {ek : α → Value} {ev : β → Value} {D : α → Prop} {w : World} {b : Nat} {G : α → Option β} (h : MapF ek ev D w b G) : tagW w b = some 0 := by
  obtain ⟨es, c, h, -⟩ := h
  unfold tagW; rw [h]
theorem MapF.congr {α β : Type} {ek : α → Value} {ev ev' : β → Value} {D : α → Prop} {w : World} {b : Nat} {G : α → Option β} (h : MapF ek ev D w b G) (he : ∀ a y, G a = some y → ev' y = ev y) : MapF ek ev' D w b G := by
  obtain ⟨es, c, h1, h2, h3⟩ := h
  exact ⟨es, c, h1, ⟨h2.keys, fun e he' => by
    obtain ⟨a, y, k1, k2, k3, k4⟩ := h2.ent e he'
    exact ⟨a, y, k1, k2, k3.trans (he a y k4).symm, k4⟩, h2.all⟩, h3⟩
theorem MapF.chg {α β : Type} {ek : α → Value} {ev : β → Value} {D : α → Prop} {w w' : World} {b : Nat} {G : α → Option β} {B : Nat → Prop} (h : MapF ek ev D w b G) (hc : Chg B w w') (hB : ¬ B b) : MapF ek ev D w' b G := by
  obtain ⟨es, c, h1, h2⟩ := h
  exact ⟨es, c, (hc.blk b (bl h1) hB).trans h1, h2⟩
theorem Chg.keep {B : Nat → Prop} {w w1 w2 : World} (h : Chg B w w1) (k : Ext w1 w2) : Chg B w w2 := h.trans (B' := fun _ => False) (Chg.ofExt k) fun _ h => h.elim
theorem Chg.set {B : Nat → Prop} {w w1 w2 : World} {g : Nat} (h : Chg B w w1) (k : w1.grownBy w2 (some g)) (hg : B g ∨ w.heap.size ≤ g) : Chg B w w2 := h.trans (B' := fun i => i = g) (Chg.ofGrown k fun i e => .inl (Option.some.inj e).symm) fun i e => e ▸ hg
theorem Chg.grew {B : Nat → Prop} {w w1 w2 : World} {v v' : Value} (h : Chg B w w1) (k : Grew w1 w2 v v') (hv : ∀ i, v.ownBlock = some i → B i ∨ w.heap.size ≤ i) : Chg B w w2 := h.trans (B' := fun i => v.ownBlock = some i) (Chg.ofGrown k.by_ fun i e => .inl e) hv
section
variable {base : Nat} {w w' : World} {H : Dk} {D : Dsk}
theorem DkS.tg (h : DkS base w H D) : tagW w H.g = some (55 + 1) := tag_cells h.blk
theorem DkS.tF (h : DkS base w H D) {k : Nat} (hk : k < D.files.length) : tagW w (H.F k) = some (71 + 1) := tag_cells (h.files.at_ k hk).blk
theorem DkS.tV (h : DkS base w H D) {k : Nat} (hk : k < D.files.length) {i : Nat} (hi : (H.V k).ownBlock = some i) : tagW w i = some (5 + 1) := tag_own (h.files.at_ k hk).row hi
theorem DkS.tA (h : DkS base w H D) {i : Nat} (hi : H.va.ownBlock = some i) : tagW w i = some (73 + 1) := by
  obtain ⟨vs, hv⟩ := h.acts
  exact tag_own hv.row hi
theorem tyb_tag {i : Nat} (h : tagW w i = some 0 ∨ tagW w i = some (55 + 1) ∨ tagW w i = some (71 + 1) ∨ tagW w i = some (5 + 1) ∨ tagW w i = some (73 + 1)) : TyB w i := by
  unfold tagW at h
  cases hb : w.heap[i]? with
  | none => rw [hb] at h; simp at h
  | some o =>
    rw [hb] at h
    cases o with
    | map es c => exact .inl ⟨es, c, hb⟩
    | cells cs t fr =>
      refine .inr ⟨cs, t, fr, hb, ?_⟩
      simp only [Option.some.injEq] at h
      rcases h with h | h | h | h | h
      · omega
      · exact .inl (Nat.succ.inj h)
      · exact .inr (.inl (Nat.succ.inj h))
      · exact .inr (.inr (.inl (Nat.succ.inj h)))
      · exact .inr (.inr (.inr (Nat.succ.inj h)))
    | _ => simp at h
theorem DkS.foot (h : DkS base w H D) {i : Nat} (hi : Foot H D.files.length i) : TyB w i ∧ i < w.heap.size ∧ base ≤ i := by
  have lt : ∀ {j : Nat} {x : Nat}, tagW w j = some x → j < w.heap.size := fun {j x} e => by
    rcases Nat.lt_or_ge j w.heap.size with q | q
    · exact q
    · unfold tagW at e
      rw [Array.getElem?_eq_none q] at e
      cases e
  rcases hi with rfl | rfl | rfl | hi | ⟨k, hk, rfl | hi⟩
  · exact ⟨tyb_tag (.inr (.inl h.tg)), lt h.tg, h.lo.1⟩
  · exact ⟨tyb_tag (.inl h.now.tag), lt h.now.tag, h.lo.2.1⟩
  · exact ⟨tyb_tag (.inl h.kept.tag), lt h.kept.tag, h.lo.2.2⟩
  · obtain ⟨vs, hv⟩ := h.acts
    exact ⟨tyb_tag (.inr (.inr (.inr (.inr (h.tA hi))))), lt (h.tA hi), (hv.row.lt i hi).1⟩
  · exact ⟨tyb_tag (.inr (.inr (.inl (h.tF hk)))), lt (h.tF hk), (h.files.at_ k hk).lo⟩
  · exact ⟨tyb_tag (.inr (.inr (.inr (.inl (h.tV hk hi))))), lt (h.tV hk hi), ((h.files.at_ k hk).row.lt i hi).1⟩
theorem DkS.keepB {B : Nat → Prop} (h : DkS base w H D) (hc : Chg B w w') (hB : ∀ i, Foot H D.files.length i → ¬ B i) (hT : ∀ i, i < w.heap.size → B i → TyB w i) : DkS base w' H D := by
  obtain ⟨vs, hv⟩ := h.acts
  exact ⟨(hc.blk _ (bl h.blk) (hB _ (.inl rfl))).trans h.blk, h.now.chg hc (hB _ (.inr (.inl rfl))), h.kept.chg hc (hB _ (.inr (.inr (.inl rfl)))), h.ne,
    ⟨vs, ownsRow_chg hc hv.row (fun i hi => hB i (.inr (.inr (.inr (.inl hi))))), hv.len, fun i hi => (hv.at_ i hi).chg hc hT rfl⟩,
    h.files.chg hc (fun k hk => ⟨hB _ (.inr (.inr (.inr (.inr ⟨k, hk, .inl rfl⟩)))), fun i hi => hB i (.inr (.inr (.inr (.inr ⟨k, hk, .inr hi⟩))))⟩), h.ok, h.lo⟩
theorem DkS.keep (h : DkS base w H D) (k : Ext w w') : DkS base w' H D := h.keepB (B := fun _ => False) (Chg.ofExt k) (fun _ _ q => q) (fun _ _ q => q.elim)
theorem DkS.setBlk (h : DkS base w H D) (hg : w.grownBy w' (some H.g)) {q rf ar : Nat} {dn : Bool} (hb : w'.heap[H.g]? = some (.cells (dkC q H.mn H.ml H.va rf ar dn).toArray 55 (0, 0))) : DkS base w' H { D with quota := q, refused := rf, arm := ar, down := dn } := by
  have hc : Chg (fun i => i = H.g) w w' := Chg.ofGrown hg fun i e => .inl (Option.some.inj e).symm
  have hT : ∀ i, i < w.heap.size → i = H.g → TyB w i := fun i _ e => e ▸ tyb_tag (.inr (.inl h.tg))
  obtain ⟨vs, hv⟩ := h.acts
  have ne0 : ∀ {i x : Nat}, tagW w i = some x → x ≠ 55 + 1 → i ≠ H.g := fun e hx q => by rw [q, h.tg] at e; exact hx (Option.some.inj e).symm
  exact ⟨hb, h.now.chg hc (ne0 h.now.tag (by decide)), h.kept.chg hc (ne0 h.kept.tag (by decide)), h.ne,
    ⟨vs, ownsRow_chg hc hv.row (fun i hi => ne0 (h.tA hi) (by decide)), hv.len, fun i hi => (hv.at_ i hi).chg hc hT rfl⟩,
    h.files.chg hc (fun k hk => ⟨ne0 (h.tF hk) (by decide), fun i hi => ne0 (h.tV hk hi) (by decide)⟩), ⟨h.ok.now, h.ok.kept, h.ok.acts, h.ok.syn⟩, h.lo⟩
def updF {α : Type} (F : Nat → α) (n : Nat) (x : α) (k : Nat) : α := if k = n then x else F k
theorem updF_lt {α : Type} (F : Nat → α) {n k : Nat} (x : α) (h : k < n) : updF F n x k = F k := if_neg (by omega)
theorem updF_eq {α : Type} (F : Nat → α) (n : Nat) (x : α) : updF F n x n = x := if_pos rfl
theorem updF_ne {α : Type} (F : Nat → α) {n k : Nat} (x : α) (h : k ≠ n) : updF F n x k = F k := if_neg h
theorem DkS.newFile (h : DkS base w H D) (hE : Ext w w') {f : Nat} (hf : w.heap.size ≤ f) (hb : w'.heap[f]? = some (.cells ([.slice none 0 0, NI 0]).toArray 71 (0, 0))) (h0 : base ≤ w.heap.size) :
    DkS base w' { H with F := updF H.F D.files.length f, V := updF H.V D.files.length (.slice none 0 0) } { D with files := D.files ++ [([], 0)] } := by
  have h1 := h.keep hE
  obtain ⟨vs, hv⟩ := h1.acts
  refine ⟨h1.blk, h1.now.congr fun a y hy => ?_, h1.kept.congr fun a y hy => ?_, h1.ne, ⟨vs, hv.row, hv.len, fun i hi => ?_⟩, ⟨fun k hk => ?_, fun i j hi hj e => ?_, fun i j hi hj hne x hx => ?_⟩, h.ok.newFile _ (Nat.le_refl 0), h1.lo⟩
  · show PQ (updF _ _ _ _) 0 = _
    rw [updF_lt _ _ (h.ok.now.look hy).1]
  · show PQ (updF _ _ _ _) 0 = _
    rw [updF_lt _ _ (h.ok.kept.look hy).1]
  · refine (hv.at_ i hi).chg (B := fun _ => False) (Chg.refl _ _) (fun _ _ q => q.elim) (updF_lt _ _ ?_)
    exact (h.ok.acts _ (by rw [List.getD_eq_getElem?_getD, List.getElem?_eq_getElem hi]; exact List.getElem_mem hi)).num
  · rw [List.length_append, List.length_singleton] at hk
    by_cases e : k = D.files.length
    · subst e
      show FileAt base w' (updF _ _ _ _) (updF _ _ _ _) _
      rw [updF_eq, updF_eq, List.getD_eq_getElem?_getD, List.getElem?_append_right (Nat.le_refl _), Nat.sub_self]
      exact ⟨hb, World.ownsRow_nil _ _ _ 1, by omega⟩
    · have hk' : k < D.files.length := by omega
      show FileAt base w' (updF _ _ _ _) (updF _ _ _ _) _
      rw [updF_lt _ _ hk', updF_lt _ _ hk', List.getD_eq_getElem?_getD, List.getElem?_append_left hk', ← List.getD_eq_getElem?_getD]
      exact h1.files.at_ k hk'
  · rw [List.length_append, List.length_singleton] at hi hj
    have lt : ∀ k, k < D.files.length → H.F k < w.heap.size := fun k hk => (h.foot (.inr (.inr (.inr (.inr ⟨k, hk, .inl rfl⟩))))).2.1
    by_cases ei : i = D.files.length <;> by_cases ej : j = D.files.length
    · omega
    · exfalso
      have e : updF H.F D.files.length f i = updF H.F D.files.length f j := e
      rw [ei, updF_eq, updF_lt _ _ (by omega : j < D.files.length)] at e
      have := lt j (by omega)
      omega
    · exfalso
      have e : updF H.F D.files.length f i = updF H.F D.files.length f j := e
      rw [ej, updF_eq, updF_lt _ _ (by omega : i < D.files.length)] at e
      have := lt i (by omega)
      omega
    · have e : updF H.F D.files.length f i = updF H.F D.files.length f j := e
      rw [updF_lt _ _ (by omega : i < D.files.length), updF_lt _ _ (by omega : j < D.files.length)] at e
      exact h.files.inj i j (by omega) (by omega) e
  · rw [List.length_append, List.length_singleton] at hi hj
    have hx : (updF H.V D.files.length (.slice none 0 0) i).ownBlock = some x := hx
    show (updF H.V D.files.length (.slice none 0 0) j).ownBlock ≠ some x
    by_cases ei : i = D.files.length
    · rw [ei, updF_eq] at hx; cases hx
    · by_cases ej : j = D.files.length
      · rw [ej, updF_eq]; exact fun q => by cases q
      · rw [updF_lt _ _ (by omega : i < D.files.length)] at hx
        rw [updF_lt _ _ (by omega : j < D.files.length)]
        exact h.files.apart i j (by omega) (by omega) hne x hx
theorem DkS.setFile (h : DkS base w H D) {k : Nat} (hk : k < D.files.length) {v : Value} {x : List UInt8 × Nat} (hx : x.2 ≤ x.1.length) (hc : Chg (fun i => i = H.F k ∨ (H.V k).ownBlock = some i) w w') (hf : FileAt base w' (H.F k) v x) (hv : ∀ i, v.ownBlock = some i → (H.V k).ownBlock = some i ∨ w.heap.size ≤ i) :
    DkS base w' { H with V := updF H.V k v } { D with files := D.files.set k x } := by
  have hT : ∀ i, i < w.heap.size → (i = H.F k ∨ (H.V k).ownBlock = some i) → TyB w i := fun i _ e => e.elim (fun e => e ▸ tyb_tag (.inr (.inr (.inl (h.tF hk))))) fun e => tyb_tag (.inr (.inr (.inr (.inl (h.tV hk e)))))
  obtain ⟨vs, hvs⟩ := h.acts
  have ne0 : ∀ {i x : Nat}, tagW w i = some x → x ≠ 71 + 1 → x ≠ 5 + 1 → ¬ (i = H.F k ∨ (H.V k).ownBlock = some i) := fun e h1 h2 q => q.elim (fun q => by rw [q, h.tF hk] at e; exact h1 (Option.some.inj e).symm) fun q => by rw [h.tV hk q] at e; exact h2 (Option.some.inj e).symm
  have off : ∀ j, j < D.files.length → j ≠ k → ¬ (H.F j = H.F k ∨ (H.V k).ownBlock = some (H.F j)) ∧ ∀ i, (H.V j).ownBlock = some i → ¬ (i = H.F k ∨ (H.V k).ownBlock = some i) := fun j hj hne =>
    ⟨fun q => q.elim (fun q => hne (h.files.inj j k hj hk q)) fun q => by have := h.tV hk q; rw [h.tF hj] at this; exact absurd (Option.some.inj this) (by decide),
     fun i hi q => q.elim (fun q => by have := h.tV hj hi; rw [q, h.tF hk] at this; exact absurd (Option.some.inj this) (by decide)) fun q => h.files.apart j k hj hk hne i hi q⟩
  refine ⟨(hc.blk _ (bl h.blk) (ne0 h.tg (by decide) (by decide))).trans h.blk, h.now.chg hc (ne0 h.now.tag (by decide) (by decide)), h.kept.chg hc (ne0 h.kept.tag (by decide) (by decide)), h.ne,
    ⟨vs, ownsRow_chg hc hvs.row (fun i hi => ne0 (h.tA hi) (by decide) (by decide)), hvs.len, fun i hi => (hvs.at_ i hi).chg hc hT rfl⟩, ⟨fun j hj => ?_, fun i j hi hj e => ?_, fun i j hi hj hne y hy => ?_⟩, h.ok.setFile k x hx, h.lo⟩
  · rw [List.length_set] at hj
    by_cases e : j = k
    · subst e
      show FileAt base w' (H.F j) (updF _ _ _ _) _
      rw [updF_eq, List.getD_eq_getElem?_getD, List.getElem?_set_self hj]
      exact hf
    · show FileAt base w' (H.F j) (updF _ _ _ _) _
      rw [updF_ne _ _ e, List.getD_eq_getElem?_getD, List.getElem?_set_ne (fun q => e q.symm), ← List.getD_eq_getElem?_getD]
      exact (h.files.at_ j hj).keep hc (off j hj e).1 (off j hj e).2
  · rw [List.length_set] at hi hj
    exact h.files.inj i j hi hj e
  · rw [List.length_set] at hi hj
    have hy : (updF H.V k v i).ownBlock = some y := hy
    show (updF H.V k v j).ownBlock ≠ some y
    by_cases ei : i = k
    · have ej : j ≠ k := fun q => hne (ei.trans q.symm)
      rw [ei, updF_eq] at hy
      rw [updF_ne _ _ ej]
      intro q
      rcases hv y hy with r | r
      · exact h.files.apart j k hj hk ej y q r
      · have := (h.foot (.inr (.inr (.inr (.inr ⟨j, hj, .inr q⟩))))).2.1
        omega
    · rw [updF_ne _ _ ei] at hy
      by_cases ej : j = k
      · rw [ej, updF_eq]
        intro q
        rcases hv y q with r | r
        · exact h.files.apart i k hi hk ei y hy r
        · have := (h.foot (.inr (.inr (.inr (.inr ⟨i, hi, .inr hy⟩))))).2.1
          omega
      · rw [updF_ne _ _ ej]
        exact h.files.apart i j hi hj hne y hy
end
open Go.RowKit
abbrev enS (s : List UInt8) : List Value := [St s]
abbrev enV (v : Value) : List Value := [v]
theorem enS_flat (l : List (List UInt8)) : l.flatMap enS = l.map St := by
  induction l with
  | nil => rfl
  | cons a l ih => rw [List.flatMap_cons, List.map_cons, ih]; rfl
theorem enV_flat (l : List Value) : l.flatMap enV = l := by
  induction l with
  | nil => rfl
  | cons a l ih => rw [List.flatMap_cons, ih]; rfl
section
variable {P : Program} {K : Value → World → Prop} {ρ : Slots} {w : World} {d : Option Tmp} {ty : TypeId} {pos : String} {af : Array Edge} {gd : Option (Nat × Bool)}
theorem Yk.lit1S {α : Type} {enc : α → List Value} {t e : TypeId} {x : Operand} {a : α} {u : Value} (hx : evalR ρ x = u) (hu : enc a = [u])
    (hr : ∀ w : World, (Instr.buildSlice t 1 #[(0, u)]).run P w = .ok (.slice (some ⟨w.heap.size, 0, none⟩) 1 1) (w.alloc (.cells #[u] e)))
    (hk : ∀ v w', RG 1 enc w' v [a] → Ext w w' → K v w') : Yk P K ((execOp (evalR ρ) ⟨d, .buildSlice t 1 #[(0, x)], ty, pos, af, gd⟩).run P w) := by
  have hE : Ext w (w.alloc (.cells #[u] e)) := (Below.refl _ _).alloc (Nat.le_refl _) _
  have hb : (w.alloc (.cells #[u] e)).heap[w.heap.size]? = some (.cells ([u] : List Value).toArray e (0, 0)) := heap_alloc_new w _
  refine Yk.value (v := .slice (some ⟨w.heap.size, 0, none⟩) 1 1) (w' := w.alloc (.cells #[u] e)) ?_ (hk _ _ ⟨fun y hy => by rw [List.mem_singleton.1 hy, hu]; rfl, by simp [hu], _, 1, rfl, Nat.le_refl _, by simp [maxLen], (fun hq => by cases hq), fun q hq j z hz => ?_⟩ hE)
  · unfold execOp
    simp only [List.map_toArray, List.map_cons, List.map_nil, hx, Sem.run_bind, hr, Result.andThen_ok, Sem.run_pure]
  · cases hq
    rw [Addr.add_lit, Nat.zero_add]
    exact cellAt hb (by simpa [hu] using hz)
end
end Go.Proofs.YtejpjjhkjdpeaaaDoor
