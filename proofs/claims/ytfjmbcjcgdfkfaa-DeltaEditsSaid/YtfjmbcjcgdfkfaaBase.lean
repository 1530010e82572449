/- Small laws that the walks of this claim lean on: append from any source onto a row of the call's own, slices of bytes that are read. They hold of any program. -/
import Derived.WalkKit
import Derived.WalkLawsBesides
import Derived.WalkSpells
import Derived.Deep.AppendSrc
import Derived.Lib.Hide
import Derived.Lib.VarintMem
namespace Go.Proofs.Ytfjmbcjcgdfkfaa
open Go.RowKit

/-- w' comes of w by writes to v's own block and new blocks alone; v' lies in v's block or in a new one. -/
structure Grew (w w' : World) (v v' : Value) : Prop where
  by_ : w.grownBy w' v.ownBlock
  fresh : ∀ k, v'.ownBlock = some k → v.ownBlock = some k ∨ w.heap.size ≤ k

theorem grownBy_trans {w w1 w2 : World} {r r1 : Option Nat} (h : w.grownBy w1 r) (k : w1.grownBy w2 r1) (hr : ∀ b, r1 = some b → r = some b ∨ w.heap.size ≤ b) : w.grownBy w2 r := by
  refine ⟨k.os.trans h.os, k.tape.trans h.tape, k.output.trans h.output, Nat.le_trans h.size k.size, fun i hi hne => ?_⟩
  have h1 := h.size
  rw [k.block i (by omega) (fun e => (hr i e.symm).elim (fun h2 => hne h2.symm) (fun h2 => by omega)), h.block i hi hne]

theorem Grew.refl (w : World) (v : Value) : Grew w w v v := ⟨World.grownBy.refl _ _, fun _ h => .inl h⟩
theorem Grew.trans {w w1 w2 : World} {v v1 v2 : Value} (h : Grew w w1 v v1) (k : Grew w1 w2 v1 v2) : Grew w w2 v v2 :=
  ⟨grownBy_trans h.by_ k.by_ h.fresh, fun b hb => by
    have h1 := h.by_.size
    rcases k.fresh b hb with h2 | h2
    · exact h.fresh b h2
    · exact .inr (by omega)⟩
theorem Grew.alloc {w w1 : World} {v v1 : Value} (h : Grew w w1 v v1) (o : Obj) : Grew w (w1.alloc o) v v1 :=
  ⟨grownBy_trans h.by_ (World.grownBy_alloc _ o none) (fun _ e => by cases e), h.fresh⟩
theorem Grew.drew {w w1 : World} {v v1 : Value} (h : Grew w w1 v v1) : Grew w w1.drew v v1 :=
  ⟨⟨h.by_.os, h.by_.tape, h.by_.output, h.by_.size, h.by_.block⟩, h.fresh⟩
theorem Grew.below {B : Nat} {w w1 : World} {v v1 : Value} (h : Grew w w1 v v1) (hB : B ≤ w.heap.size) (hv : ∀ k, v.ownBlock = some k → B ≤ k) : Below B w w1 :=
  (Below.refl B w).grown h.by_ hB hv

section
variable {P : Program} (w : World)
/-- append onto a row of the call's own, whatever the source. -/
theorem run_append_src (base : Nat) (t tx ty e : TypeId) (i : TypeInfo) (z : Value) (size bytes : Nat) (ht : P.underlying t = some (.slice e)) (hi : P.info? e = some i) (hz : i.zero = some z)
    (hsize : i.size = size) (hby : i.bytes = bytes) (hzs : z.cells.size = size)
    (v : Value) (n : Nat) (xs : List Value) (hown : w.ownsRow base e size v n xs)
    (x : Value) (m : Nat) (news : List Value) (hs : Src P size tx x m news w)
    (h63 : n + m ≤ maxLen) (hbytes : (n + m) * bytes ≤ 140737488355328) (hbase : base ≤ w.heap.size) :
    ∃ v' w', (Builtin.append_ #[t, tx] ty #[v, x]).run P w = .ok v' w' ∧ w'.ownsRow base e size v' (n + m) (xs ++ news) ∧ Grew w w' v v' := by
  subst hsize
  subst hby
  have hsmall : n + m ≤ 9223372036854775807 := by simp only [maxLen] at h63; omega
  have hl := hs.newsLen
  have hlen : (xs ++ news).length = (n + m) * i.size := by rw [List.length_append, hown.1, hl, Nat.add_mul]
  have grown : ∀ (old : Nat), old < n + m →
      (w.drew.alloc (.cells ((xs ++ news).toArray ++ Builtin.zeroCells z.cells (grownCap w (n + m) old e - (n + m))) e)).ownsRow base e i.size
        (.slice (some ⟨w.heap.size, 0, none⟩) (n + m) (grownCap w (n + m) old e)) (n + m) (xs ++ news) ∧
      Grew w (w.drew.alloc (.cells ((xs ++ news).toArray ++ Builtin.zeroCells z.cells (grownCap w (n + m) old e - (n + m))) e)) v (.slice (some ⟨w.heap.size, 0, none⟩) (n + m) (grownCap w (n + m) old e)) := by
    intro old ho
    have hge := grownCap_ge w (n + m) old e
    have hcm : grownCap w (n + m) old e ≤ maxLen := grownCap_le_maxLen w (n + m) old e h63
    refine ⟨⟨hlen, .inr ⟨w.heap.size, _, _, rfl, hbase, heap_alloc_new w.drew _, hge, hcm, ?_, ?_⟩⟩, ⟨⟨rfl, rfl, rfl, by simp, fun _ hk _ => heap_alloc_old w.drew _ hk⟩, ?_⟩⟩
    · simp only [Array.size_append, List.size_toArray, size_zeroCells, hzs, hlen, ← Nat.add_mul]
      congr 1
      omega
    · simp only [Array.toList_append]
      rw [← hlen]
      exact List.take_left
    · intro k hk
      simp [Value.ownBlock] at hk
      exact .inr (by omega)
  rcases hown.2 with ⟨rfl, rfl⟩ | ⟨g, cap, cur, rfl, hbg, hg, hnc, hcm, hcs, htake⟩
  · have hx : xs = [] := List.eq_nil_of_length_eq_zero (by simpa using hown.1)
    subst hx
    by_cases hm : m = 0
    · subst hm
      have hn : news = [] := List.eq_nil_of_length_eq_zero (by simpa using hl)
      subst hn
      refine ⟨.slice none 0 0, w, ?_, World.ownsRow_nil w base e i.size, Grew.refl _ _⟩
      have hc := hs.cells
      have hle := hs.len
      rcases hs.kind with ⟨e', hk⟩ | hk <;> simp [Builtin.append_, run_underlying ht, run_underlying hk, sizeOf, typeInfo, hi, hle, hc]
    · have hgr := grown 0 (by omega)
      have hr := run_append_grow_src (P := P) w t tx ty e i z ht hi hz none 0 0 [] (run_firstCells_none w.drew i.size 0 0 0) x m news hs (by omega) (by omega)
        (growslice_fits (by omega) hbytes)
      exact ⟨_, _, hr, hgr.1, hgr.2⟩
  · by_cases hroom : n + m ≤ cap
    · have hfit : n * i.size + news.length ≤ cur.size := by rw [hl, hcs, ← Nat.add_mul]; exact Nat.mul_le_mul_right _ hroom
      have hst := run_storeCells_at P g (n * i.size) e news 0 cur w hg (by simpa using hfit) hs.one
      simp only [Nat.add_zero] at hst
      have hr : (Builtin.append_ #[t, tx] ty #[.slice (some ⟨g, 0, none⟩) n cap, x]).run P w = .ok (.slice (some ⟨g, 0, none⟩) (n + m) cap) (w.setRow g (cur.toList.take (n * i.size) ++ news ++ cur.toList.drop (n * i.size + news.length)).toArray) := by
        rcases hs.kind with ⟨e', hk⟩ | hk <;> simp [Builtin.append_, run_underlying ht, run_underlying hk, sizeOf, typeInfo, hi, hs.len, hroom, hs.cells, Addr.add_lit, hst]
      refine ⟨_, _, hr, ⟨hlen, .inr ⟨g, cap, _, rfl, hbg, setRow_heap w g cur _ e _ hg, hroom, hcm, ?_, ?_⟩⟩, ⟨⟨rfl, rfl, rfl, by simp, fun k _ hk => setRow_other w g k _ (fun e => hk (by simp [Value.ownBlock, e]))⟩, fun k hk => .inl hk⟩⟩
      · simp only [List.size_toArray, List.length_append, List.length_take, List.length_drop, Array.length_toList]
        omega
      · rw [htake, ← hlen]
        exact List.take_left
    · have holds : ∀ j u, xs[j]? = some u → w.cell? ((⟨g, 0, none⟩ : Addr).add j) = some u := hown.cells (g := g) rfl
      have hgr := grown cap (by omega)
      have hr := run_append_grow_src (P := P) w t tx ty e i z ht hi hz (some ⟨g, 0, none⟩) n cap xs (run_firstCells_some w.drew i.size n ⟨g, 0, none⟩ n cap xs hown.1 (by simpa using holds)) x m news hs (by omega) (by omega)
        (growslice_fits (by omega) hbytes)
      exact ⟨_, _, hr, hgr.1, hgr.2⟩

theorem wpList_append_src {ops : Array Oper} {rest : List Oper} {o : Oper} {a : Act} {Q : Exit → Act → World → Prop} (hgd : o.guard = none) (s xo : Operand) (t tx : TypeId)
    (ho : o.op = .call { callee := .builtin .append, args := #[s, xo], argTypes := #[t, tx] })
    (base : Nat) (e : TypeId) (i : TypeInfo) (z : Value) (size bytes : Nat) (ht : P.underlying t = some (.slice e)) (hi : P.info? e = some i) (hz : i.zero = some z)
    (hsize : i.size = size) (hby : i.bytes = bytes) (hzs : z.cells.size = size)
    (v : Value) (n : Nat) (xs : List Value) (hs : a.eval s = v) (hown : w.ownsRow base e size v n xs)
    (x : Value) (m : Nat) (news : List Value) (hx : a.eval xo = x) (hsrc : Src P size tx x m news w)
    (h63 : n + m ≤ maxLen) (hbytes : (n + m) * bytes ≤ 140737488355328) (hbase : base ≤ w.heap.size)
    (h : ∀ v' w', w'.ownsRow base e size v' (n + m) (xs ++ news) → Grew w w' v v' → wpList P ops Q rest (a.put o.dst v') w') : wpList P ops Q (o :: rest) a w :=
  wpList_plain hgd fun K hK => by
    obtain ⟨v', w', hr, h2, h3⟩ := run_append_src (P := P) w base t tx o.type e i z size bytes ht hi hz hsize hby hzs v n xs hown x m news hsrc h63 hbytes hbase
    unfold Oper.wp execOp
    simp only [ho, resolve, invoke, builtin, Sem.run_bind, Sem.run_pure, Result.andThen_ok, List.map_toArray, List.map_cons, List.map_nil, hs, hx, hr]
    exact hK _ _ (h v' w' h2 h3)
end

theorem ownsRow_base {w : World} {b b' : Nat} {e : TypeId} {size : Nat} {v : Value} {n : Nat} {xs : List Value} (h : w.ownsRow b e size v n xs) (hb : b' ≤ b) : w.ownsRow b' e size v n xs :=
  ⟨h.1, h.2.imp (fun x => x) (fun ⟨g, cap, cur, e1, e2, r⟩ => ⟨g, cap, cur, e1, Nat.le_trans hb e2, r⟩)⟩

/-- The slice value v, of n elements of so many cells, reads as the cells xs in w. -/
def Reads (w : World) (size : Nat) (v : Value) (n : Nat) (xs : List Value) : Prop :=
  xs.length = n * size ∧ ∃ ao cap, v = .slice ao n cap ∧ n ≤ cap ∧ cap ≤ maxLen ∧ (ao = none → n = 0 ∧ cap = 0) ∧ ∀ a, ao = some a → ∀ j u, xs[j]? = some u → w.cell? (a.add j) = some u

/-- A slice of bytes that reads as l. -/
def RB (w : World) (v : Value) (l : List UInt8) : Prop := Reads w 1 v l.length (Lib.byteCells l)

theorem byteCells_one (l : List UInt8) : ∀ u ∈ Lib.byteCells l, u.oneCell' = true := by
  intro u hu
  obtain ⟨_, _, rfl⟩ := List.mem_map.1 hu
  rfl

theorem RB.src {P : Program} {tx e' : TypeId} (hk : P.underlying tx = some (.slice e')) {w : World} {v : Value} {l : List UInt8} (h : RB w v l) : Src P 1 tx v l.length (Lib.byteCells l) w := by
  obtain ⟨h1, ao, cap, rfl, h2, h3, h4, h5⟩ := h
  cases ao with
  | none =>
    obtain ⟨h6, rfl⟩ := h4 rfl
    have : l = [] := List.eq_nil_of_length_eq_zero h6
    subst this
    exact Src.ofNil w hk 0
  | some a => exact Src.ofSlice w hk a _ cap _ h1 (h5 a rfl) (byteCells_one l)
theorem RB.below {B : Nat} {w w' : World} {v : Value} {l : List UInt8} (h : RB w v l) (hb : Below B w w') (hB : B = w.heap.size) : RB w' v l := by
  obtain ⟨h1, ao, cap, rfl, h2, h3, h4, h5⟩ := h
  refine ⟨h1, ao, cap, rfl, h2, h3, h4, fun a ha j u hu => ?_⟩
  have := h5 a ha j u hu
  exact (hb.cell (by have := World.block_lt_of_cell? w _ this; omega)).trans this
theorem RB.same {w w' : World} {v : Value} {l : List UInt8} (h : RB w v l) (hw : ∀ a, w'.cell? a = w.cell? a) : RB w' v l := by
  obtain ⟨h1, ao, cap, rfl, h2, h3, h4, h5⟩ := h
  exact ⟨h1, ao, cap, rfl, h2, h3, h4, fun a ha j u hu => (hw _).trans (h5 a ha j u hu)⟩
theorem strCells (s : ByteArray) : byteCells s = Lib.byteCells s.data.toList := rfl
/-- A string's bytes as the source of an append. -/
theorem srcString {P : Program} {tx : TypeId} (hk : P.underlying tx = some .string) (w : World) (s : ByteArray) : Src P 1 tx (.string s) s.data.toList.length (Lib.byteCells s.data.toList) w := by
  have h := Src.ofString (P := P) w hk s
  rw [strCells] at h
  exact h
/-- An owned row of bytes reads as its bytes. -/
theorem RB.ofOwn {w : World} {base : Nat} {e : TypeId} {v : Value} {l : List UInt8} (h : w.ownsRow base e 1 v l.length (Lib.byteCells l)) : RB w v l := by
  refine ⟨h.1, ?_⟩
  have h' := h
  rcases h.2 with ⟨rfl, h0⟩ | ⟨g, cap, cur, rfl, hbg, hg, hnc, hcm, hcs, htake⟩
  · exact ⟨none, 0, by rw [h0], by omega, by simp [maxLen], fun _ => ⟨h0, rfl⟩, fun a ha => by cases ha⟩
  · exact ⟨some ⟨g, 0, none⟩, cap, rfl, hnc, hcm, (fun h => by cases h), (fun a ha j u hu => by cases ha; exact h'.cells rfl j u hu)⟩

/-- One element, laid in a block of its own, as the source of an append. -/
theorem srcOne {P : Program} {tx e' : TypeId} (hk : P.underlying tx = some (.slice e')) (w : World) (c : Value) (t : TypeId) (hc : c.oneCell' = true) : Src P 1 tx (.slice (some ⟨w.heap.size, 0, none⟩) 1 1) 1 [c] (w.alloc (.cells #[c] t)) :=
  Src.ofSlice _ hk ⟨w.heap.size, 0, none⟩ 1 1 [c] rfl (fun j u hj => by
    match j, hj with
    | 0, hj => simp at hj; subst hj; simp [Addr.add]) (fun u hu => by simp at hu; subst hu; exact hc)

/-- v is a new row of bytes that the call has made; nothing that was there has turned. -/
structure NewB (e : TypeId) (w w' : World) (v : Value) (l : List UInt8) : Prop where
  own : w'.ownsRow w.heap.size e 1 v l.length (Lib.byteCells l)
  by_ : w.grownBy w' none
theorem NewB.rb {e : TypeId} {w w' : World} {v : Value} {l : List UInt8} (h : NewB e w w' v l) : RB w' v l := RB.ofOwn h.own
theorem NewB.below {e : TypeId} {w w' : World} {v : Value} {l : List UInt8} (h : NewB e w w' v l) : Below w.heap.size w w' :=
  (Below.refl _ _).grown h.by_ (Nat.le_refl _) (fun k hk => by cases hk)
/-- A new row, more behind it. -/
theorem NewB.more {e : TypeId} {w w1 w2 : World} {v v' : Value} {l l' : List UInt8} (h : NewB e w w1 v l) (g : Grew w1 w2 v v') (ho : w2.ownsRow w.heap.size e 1 v' (l.length + l'.length) (Lib.byteCells l ++ Lib.byteCells l')) : NewB e w w2 v' (l ++ l') :=
  ⟨by rw [Lib.byteCells_append, List.length_append]; exact ho, grownBy_trans h.by_ g.by_ (fun b hb => .inr (h.own.lt b hb).1)⟩
theorem RB.keep {w w' : World} {v : Value} {l : List UInt8} (h : RB w v l) (hb : Below w.heap.size w w') : RB w' v l := h.below hb rfl
theorem RB.len {w : World} {v : Value} {l : List UInt8} (h : RB w v l) : ∃ ao cap, v = .slice ao l.length cap ∧ l.length ≤ cap ∧ cap ≤ 9223372036854775807 := by
  obtain ⟨h1, ao, cap, rfl, h2, h3, h4, h5⟩ := h
  unfold maxLen at h3
  exact ⟨ao, cap, rfl, h2, h3⟩
end Go.Proofs.Ytfjmbcjcgdfkfaa
