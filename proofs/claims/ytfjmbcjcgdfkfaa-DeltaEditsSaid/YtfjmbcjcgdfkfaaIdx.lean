/- A map from rows of eight bytes to lists of places, of the call's own: it is made, grows key by key, and is looked into. -/
import Derived.Test.YtfjmbcjcgdfkfaaDraw
import Derived.Test.YtfjmbcjcgdfkfaaOps
import Derived.DeepKeys4
import Derived.WideKeyEntry
namespace Go.Proofs.Ytfjmbcjcgdfkfaa
open Go.RowKit
open Go.WideMaps (KeyLaw)
open Go.ChangeMaps (setBlock heap_setBlock_same heap_setBlock_other)
/-- A row of bytes as a key. -/
def rk (r : List UInt8) : Value := .agg (Lib.byteCells r).toArray
theorem rk_inj {r s : List UInt8} (h : rk r = rk s) : r = s := by
  unfold rk at h
  injection h with h
  have h2 : Lib.byteCells r = Lib.byteCells s := List.toArray_inj h
  unfold Lib.byteCells at h2
  exact (List.map_inj_right (fun a b hab => by injection hab with _ h3; exact UInt8.toNat_inj.1 (by omega))).1 h2
theorem mapM_ex {α β : Type} {f : α → Option β} : ∀ {l : List α}, (∀ x ∈ l, ∃ y, f x = some y) → ∃ ys, l.mapM f = some ys
  | [], _ => ⟨[], rfl⟩
  | x :: l, h => by
    obtain ⟨y, hy⟩ := h x (by simp)
    obtain ⟨ys, hys⟩ := mapM_ex (l := l) (fun z hz => h z (by simp [hz]))
    exact ⟨y :: ys, by simp [List.mapM_cons, hy, hys]⟩
/-- Every row of bytes reads as a key. -/
theorem keyOf_row {P : Program} {k e : TypeId} {n : Nat} (hu : P.underlying k = some (.array n e)) (he : P.underlying e = some (.int .u8)) (hc : P.cellsOf e = 1) (hn : P.cellsOf k = n) (hk : P.keyType k = true) (hsz : 0 < P.types.size) {r : List UInt8} (hr : r.length = n) : ∃ l, keyOf P k (rk r) = some l := by
  have hf : (rk r).formed P k = true := by simp [rk, Value.formed, hu, hn, hr, Lib.byteCells]
  have hl : ∀ i ∈ List.range n, ∃ y, P.keyLits P.types.size e (((Lib.byteCells r).drop (i * P.cellsOf e)).take (P.cellsOf e)) = some y := fun i hi => by
    have hi' : i < r.length := by rw [hr]; simpa using hi
    have h1 : ((Lib.byteCells r).drop (i * P.cellsOf e)).take (P.cellsOf e) = [Value.int .u8 ((r[i]).toNat : Int)] := by
      rw [hc, Nat.mul_one]
      simp [Lib.byteCells, hi', List.take_one, List.head?_drop]
    have hw : (Lit.int .u8 ((r[i]).toNat : Int)).wf = true := by
      have := (r[i]).toNat_lt
      simp [Lit.wf, IntKind.min, IntKind.max, IntKind.signed, IntKind.bits]
      omega
    rw [h1]
    obtain ⟨m, hm⟩ : ∃ m, P.types.size = m + 1 := ⟨P.types.size - 1, by omega⟩
    rw [hm]
    exact ⟨[.int .u8 ((r[i]).toNat : Int)], by simp [Program.keyLits, he, hw]⟩
  obtain ⟨ys, hys⟩ := mapM_ex hl
  refine ⟨.string (keyBytes ys.flatten), ?_⟩
  · unfold keyOf
    simp only [hu]
    rw [if_pos (by simp [hk, hf])]
    unfold Program.keyLits
    simp only [hu, rk, Value.cells]
    rw [if_pos (by rw [hn]; simp [Lib.byteCells, hr]), hys]
    rfl
/-- An entry of the map. -/
def EntAt (w : World) (base : Nat) (I : TypeId) (G : List UInt8 → List Nat) (e : MapEntry) : Prop := ∃ r, r.length = 8 ∧ e.key = rk r ∧ G r ≠ [] ∧ w.ownsRow base I 1 e.val (G r).length ((G r).map NI)
def ApartV (u v : Value) : Prop := ∀ k, u.ownBlock = some k → v.ownBlock ≠ some k
/-- Block b is a map that tells G. -/
structure IdxIn (w : World) (base : Nat) (I : TypeId) (G : List UInt8 → List Nat) (es : List MapEntry) (clock : Nat) : Prop where
  born : ∀ e ∈ es, e.born < clock
  nodup : (es.map (·.born)).Nodup
  keys : (es.map (·.key)).Nodup
  ent : ∀ e ∈ es, EntAt w base I G e
  all : ∀ r, r.length = 8 → G r ≠ [] → ∃ e ∈ es, e.key = rk r
  apart : es.Pairwise fun e f => ApartV e.val f.val ∧ ApartV f.val e.val
def IdxAt (w : World) (b base : Nat) (I : TypeId) (G : List UInt8 → List Nat) : Prop := b < base ∧ ∃ es clock, w.heap[b]? = some (.map es.toArray clock) ∧ IdxIn w base I G es clock
section
variable {P : Program} {w w' : World} {b base : Nat} {I : TypeId} {G : List UInt8 → List Nat}
theorem EntAt.keep {e : MapEntry} (h : EntAt w base I G e) (k : Ext w w') : EntAt w' base I G e := by
  obtain ⟨r, h1, h2, h3, h4⟩ := h
  exact ⟨r, h1, h2, h3, Stab.own _ _ _ _ _ _ _ _ h4 k⟩
theorem IdxIn.keep {es : List MapEntry} {c : Nat} (h : IdxIn w base I G es c) (k : Ext w w') : IdxIn w' base I G es c :=
  ⟨h.born, h.nodup, h.keys, fun e he => (h.ent e he).keep k, h.all, h.apart⟩
theorem IdxAt.keep (h : IdxAt w b base I G) (k : Ext w w') : IdxAt w' b base I G := by
  obtain ⟨h1, es, c, h2, h3⟩ := h
  exact ⟨h1, es, c, Ext.blk' k h2, h3.keep k⟩
theorem IdxAt.lt (h : IdxAt w b base I G) : b < w.heap.size := by
  obtain ⟨h1, es, c, h2, h3⟩ := h
  exact (Array.getElem?_eq_some_iff.1 h2).1
/-- A change to a block below the map, or to none: the map is as it was. -/
theorem IdxAt.other (h : IdxAt w b base I G) {r : Option Nat} (hg : w.grownBy w' r) (hr : ∀ k, r = some k → k < b) : IdxAt w' b base I G := by
  obtain ⟨h1, es, c, h2, h3⟩ := h
  refine ⟨h1, es, c, (hg.block b (Array.getElem?_eq_some_iff.1 h2).1 (fun e => by have := hr b e.symm; omega)).trans h2, h3.born, h3.nodup, h3.keys, fun e he => ?_, h3.all, h3.apart⟩
  obtain ⟨q, k1, k2, k3, k4⟩ := h3.ent e he
  refine ⟨q, k1, k2, k3, k4.kept hg ?_⟩
  cases hb : e.val.ownBlock with
  | none => exact .inl rfl
  | some g =>
    have := (k4.lt g hb).1
    exact .inr (fun e1 => by have := hr g e1.symm; omega)
theorem IdxAt.made (w : World) : IdxAt (w.alloc (.map #[] 0)) w.heap.size (w.heap.size + 1) I (fun _ => []) :=
  ⟨Nat.lt_succ_self _, [], 0, heap_alloc_new w _, by simp, by simp, by simp, by simp, fun r _ h => absurd rfl h, by simp⟩
/-- The map while one key's row is in the making: v owns zs. -/
structure OpenIn (w : World) (base : Nat) (I : TypeId) (G : List UInt8 → List Nat) (r : List UInt8) (v : Value) (l1 : List MapEntry) (e0 : MapEntry) (l2 : List MapEntry) (clock : Nat) : Prop where
  key : e0.key = rk r
  born : ∀ e ∈ l1 ++ e0 :: l2, e.born < clock
  nodup : ((l1 ++ e0 :: l2).map (·.born)).Nodup
  keys : ((l1 ++ e0 :: l2).map (·.key)).Nodup
  ent : ∀ e ∈ l1 ++ l2, EntAt w base I G e
  all : ∀ s, s.length = 8 → s ≠ r → G s ≠ [] → ∃ e ∈ l1 ++ l2, e.key = rk s
  apart : (l1 ++ l2).Pairwise fun e f => ApartV e.val f.val ∧ ApartV f.val e.val
  mine : ∀ e ∈ l1 ++ l2, ApartV e.val v ∧ ApartV v e.val
def IdxOpen (w : World) (b base : Nat) (I : TypeId) (G : List UInt8 → List Nat) (r : List UInt8) (v : Value) (zs : List Nat) (st : Nat) : Prop :=
  b < base ∧ r.length = 8 ∧ w.ownsRow base I 1 v zs.length (zs.map NI) ∧ ∃ l1 e0 l2 clock, w.heap[b]? = some (.map (l1 ++ e0 :: l2).toArray clock) ∧ e0.born = st ∧ OpenIn w base I G r v l1 e0 l2 clock
theorem IdxOpen.keep {r : List UInt8} {v : Value} {zs : List Nat} {st : Nat} (h : IdxOpen w b base I G r v zs st) (k : Ext w w') : IdxOpen w' b base I G r v zs st := by
  obtain ⟨h1, h2, h3, l1, e0, l2, c, h4, h5, h6⟩ := h
  exact ⟨h1, h2, Stab.own _ _ _ _ _ _ _ _ h3 k, l1, e0, l2, c, Ext.blk' k h4, h5, h6.key, h6.born, h6.nodup, h6.keys, fun e he => (h6.ent e he).keep k, h6.all, h6.apart, h6.mine⟩
theorem IdxOpen.grew {r : List UInt8} {v v' : Value} {zs zs' : List Nat} {st : Nat} (h : IdxOpen w b base I G r v zs st) (gr : Grew w w' v v') (ho : w'.ownsRow base I 1 v' zs'.length (zs'.map NI)) : IdxOpen w' b base I G r v' zs' st := by
  obtain ⟨h1, h2, h3, l1, e0, l2, c, h4, h5, h6⟩ := h
  have hvb : v.ownBlock ≠ some b := fun e => by have := (h3.lt b e).1; omega
  refine ⟨h1, h2, ho, l1, e0, l2, c, blk_grew h4 gr hvb, h5, h6.key, h6.born, h6.nodup, h6.keys, fun e he => ?_, h6.all, h6.apart, fun e he => ?_⟩
  · obtain ⟨q, k1, k2, k3, k4⟩ := h6.ent e he
    refine ⟨q, k1, k2, k3, k4.kept gr.by_ ?_⟩
    cases hb : e.val.ownBlock with
    | none => exact .inl rfl
    | some g => exact .inr (fun e1 => (h6.mine e he).1 g hb e1.symm)
  · obtain ⟨q, k1, k2, k3, k4⟩ := h6.ent e he
    have key : ∀ k, e.val.ownBlock = some k → v'.ownBlock ≠ some k := fun k hk hv => by
      rcases gr.fresh k hv with h7 | h7
      · exact (h6.mine e he).1 k hk h7
      · have := (k4.lt k hk).2; omega
    exact ⟨key, fun k hv hk => key k hk hv⟩
def updG (G : List UInt8 → List Nat) (r : List UInt8) (zs : List Nat) (s : List UInt8) : List Nat := if s = r then zs else G s
theorem modify_mid {α : Type} (f : α → α) (x : α) (l2 : List α) : ∀ l1 : List α, (l1 ++ x :: l2).modify l1.length f = l1 ++ f x :: l2
  | [] => rfl
  | a :: r => by simp [List.modify_succ_cons, modify_mid f x l2 r]
section
variable {t K E e8 : TypeId} (L : KeyLaw P K) (hk : ∀ r : List UInt8, r.length = 8 → ∃ l, keyOf P K (rk r) = some l) (ht : P.underlying t = some (.map K E)) (hz : ∀ u : World, (zeroValue E).run P u = .ok (.slice none 0 0) u)
include L hk ht hz
/-- m[r]. -/
theorem IdxAt.look (h : IdxAt w b base I G) {r : List UInt8} (hr : r.length = 8) : ∃ v, (Instr.lookup t (.map (some b)) (rk r) false).run P w = .ok v w ∧ w.ownsRow base I 1 v (G r).length ((G r).map NI) := by
  obtain ⟨h1, es, c, hb, H⟩ := h
  obtain ⟨l, hl⟩ := hk r hr
  have hkeys : ∀ e ∈ es, ∃ l, keyOf P K e.key = some l := fun e he => by
    obtain ⟨q, k1, k2, -⟩ := H.ent e he
    rw [k2]
    exact hk q k1
  rcases L.find w hl es hkeys with ⟨f1, f2⟩ | ⟨j, e0, f1, f2, f3⟩
  · have hG : G r = [] := by
      by_cases hG : G r = []
      · exact hG
      · obtain ⟨e, he, hek⟩ := H.all r hr hG
        exact absurd hek (f2 e he)
    refine ⟨.slice none 0 0, by simp [Instr.lookup, run_underlying ht, MapKept.run_getObj_map hb, L.check w _ hl, f1, hz, Result.andThen], ?_⟩
    rw [hG]
    exact World.ownsRow_nil _ _ _ _
  · have hm : e0 ∈ es := List.mem_of_getElem? f2
    obtain ⟨q, k1, k2, k3, k4⟩ := H.ent e0 hm
    have : q = r := rk_inj (k2.symm.trans f3)
    subst this
    exact ⟨e0.val, by simp [Instr.lookup, run_underlying ht, MapKept.run_getObj_map hb, L.check w _ hl, f1, Result.andThen], k4⟩
/-- The entry of a key, for m[r] = append(m[r], ..): it is there from here on. -/
theorem IdxAt.entry (h : IdxAt w b base I G) {r : List UInt8} (hr : r.length = 8) : ∃ v st w1, (Instr.mapEntry t (.map (some b)) (rk r)).run P w = .ok (.tuple #[v, goInt ((st : Nat) : Int)]) w1 ∧ w.grownBy w1 (some b) ∧ w1.heap.size = w.heap.size ∧ IdxOpen w1 b base I G r v (G r) st := by
  obtain ⟨h1, es, c, hb, H⟩ := h
  obtain ⟨l, hl⟩ := hk r hr
  have hblt : b < w.heap.size := (Array.getElem?_eq_some_iff.1 hb).1
  have hkeys : ∀ e ∈ es, ∃ l, keyOf P K e.key = some l := fun e he => by
    obtain ⟨q, k1, k2, -⟩ := H.ent e he
    rw [k2]
    exact hk q k1
  have hgr : ∀ o, w.grownBy { w with heap := w.heap.setIfInBounds b o } (some b) := fun o => ⟨rfl, rfl, rfl, by simp, fun i _ hi => by simp only [Array.getElem?_setIfInBounds]; rw [if_neg (fun e => hi (by rw [e]))]⟩
  have hnew : ∀ o, ({ w with heap := w.heap.setIfInBounds b o } : World).heap[b]? = some o := fun o => by simp [hblt]
  have hkeep : ∀ (o : Obj) e, EntAt w base I G e → EntAt { w with heap := w.heap.setIfInBounds b o } base I G e := fun o e ⟨q, k1, k2, k3, k4⟩ => by
    refine ⟨q, k1, k2, k3, k4.kept (hgr o) ?_⟩
    cases he : e.val.ownBlock with
    | none => exact .inl rfl
    | some g =>
      have := (k4.lt g he).1
      exact .inr (fun e1 => by cases e1; omega)
  rcases L.find w hl es hkeys with ⟨f1, f2⟩ | ⟨j, e0, f1, f2, f3⟩
  · have hG : G r = [] := by
      by_cases hG : G r = []
      · exact hG
      · obtain ⟨e, he, hek⟩ := H.all r hr hG
        exact absurd hek (f2 e he)
    refine ⟨.slice none 0 0, c, { w with heap := w.heap.setIfInBounds b (.map (es ++ ({ key := rk r, val := .slice none 0 0, born := c } : MapEntry) :: []).toArray (c + 1)) }, ?_, hgr _, by simp, h1, hr, ?_, es, ({ key := rk r, val := .slice none 0 0, born := c } : MapEntry), [], c + 1, hnew _, rfl, rfl, ?_, ?_, ?_, ?_, ?_, ?_, ?_⟩
    · simp [Instr.mapEntry, run_underlying ht, MapKept.run_getObj_map hb, L.check w false hl, f1, hz, MapKept.run_setObj_map _ hb, Result.andThen]
    · rw [hG]
      exact World.ownsRow_nil _ _ _ _
    · intro e he
      rcases List.mem_append.1 he with h2 | h2
      · have := H.born e h2; omega
      · rw [List.mem_singleton.1 h2]; simp
    · simp only [List.map_append, List.map_cons, List.map_nil]
      refine List.nodup_append.2 ⟨H.nodup, by simp, fun x hx y hy e => ?_⟩
      obtain ⟨e1, he1, rfl⟩ := List.mem_map.1 hx
      have := H.born e1 he1
      simp at hy
      omega
    · simp only [List.map_append, List.map_cons, List.map_nil]
      refine List.nodup_append.2 ⟨H.keys, by simp, fun x hx y hy e => ?_⟩
      obtain ⟨e1, he1, rfl⟩ := List.mem_map.1 hx
      simp at hy
      exact f2 e1 he1 (e.trans hy)
    · simp only [List.append_nil]
      exact fun e he => hkeep _ e (H.ent e he)
    · simp only [List.append_nil]
      exact fun s h2 _ h3 => H.all s h2 h3
    · simp only [List.append_nil]
      exact H.apart
    · exact fun e _ => ⟨fun k _ hk => by simp [Value.ownBlock] at hk, fun k hk => by simp [Value.ownBlock] at hk⟩
  · have hm : e0 ∈ es := List.mem_of_getElem? f2
    obtain ⟨q, k1, k2, k3, k4⟩ := H.ent e0 hm
    have hq : q = r := rk_inj (k2.symm.trans f3)
    subst hq
    have hsame : es.modify j (fun e => { e with key := rk q }) = es := by
      rw [Go.ChangeMaps.modify_eq_set _ _ _ _ f2]
      have : ({ e0 with key := rk q } : MapEntry) = e0 := by rw [← f3]
      rw [this]
      exact Go.WideElems.set_self _ _ _ f2
    have hrun : (Instr.mapEntry t (.map (some b)) (rk q)).run P w = .ok (.tuple #[e0.val, goInt ((e0.born : Nat) : Int)]) { w with heap := w.heap.setIfInBounds b (.map es.toArray c) } := by
      simp [Instr.mapEntry, run_underlying ht, MapKept.run_getObj_map hb, L.check w false hl, f1, f2, f3, L.stays w hl, hsame, MapKept.run_setObj_map _ hb, Result.andThen]
    obtain ⟨l1, l2, rfl⟩ := List.append_of_mem hm
    have hp := H.apart
    rw [List.pairwise_append, List.pairwise_cons] at hp
    have hsub : ∀ e, e ∈ l1 ++ l2 → e ∈ l1 ++ e0 :: l2 := fun e he => by
      rcases List.mem_append.1 he with h2 | h2
      · simp [h2]
      · simp [h2]
    refine ⟨e0.val, e0.born, { w with heap := w.heap.setIfInBounds b (.map (l1 ++ e0 :: l2).toArray c) }, ?_, hgr _, by simp, h1, hr, ?_, l1, e0, l2, c, hnew _, rfl, f3, H.born, H.nodup, H.keys, fun e he => hkeep _ e (H.ent e (hsub e he)), ?_, ?_, ?_⟩
    · exact hrun
    · refine k4.kept (hgr _) ?_
      cases he : e0.val.ownBlock with
      | none => exact .inl rfl
      | some g =>
        have := (k4.lt g he).1
        exact .inr (fun e1 => by cases e1; omega)
    · intro s h2 h3 h4
      obtain ⟨e, he, hek⟩ := H.all s h2 h4
      refine ⟨e, ?_, hek⟩
      rcases List.mem_append.1 he with h5 | h5
      · simp [h5]
      · rcases List.mem_cons.1 h5 with h6 | h6
        · subst h6
          exact absurd (rk_inj (hek.symm.trans f3)) h3
        · simp [h6]
    · rw [List.pairwise_append]
      exact ⟨hp.1, hp.2.1.2, fun x hx y hy => hp.2.2 x hx y (by simp [hy])⟩
    · intro e he
      rcases List.mem_append.1 he with h5 | h5
      · exact hp.2.2 e h5 e0 (by simp)
      · exact ⟨(hp.2.1.1 e h5).2, (hp.2.1.1 e h5).1⟩
end
/-- .. and is stored. -/
theorem IdxOpen.store {t : TypeId} {r : List UInt8} {v : Value} {zs : List Nat} {st : Nat} (h : IdxOpen w b base I G r v zs st) (hne : zs ≠ []) : ∃ w1, (Instr.entryStore t (.map (some b)) (goInt ((st : Nat) : Int)) v).run P w = .ok () w1 ∧ w.grownBy w1 (some b) ∧ w1.heap.size = w.heap.size ∧ IdxAt w1 b base I (updG G r zs) := by
  obtain ⟨h1, hr, h3, l1, e0, l2, c, hb, rfl, H⟩ := h
  have hblt : b < w.heap.size := (Array.getElem?_eq_some_iff.1 hb).1
  have hgr : ∀ o, w.grownBy { w with heap := w.heap.setIfInBounds b o } (some b) := fun o => ⟨rfl, rfl, rfl, by simp, fun i _ hi => by simp only [Array.getElem?_setIfInBounds]; rw [if_neg (fun e => hi (by rw [e]))]⟩
  have hnew : ∀ o, ({ w with heap := w.heap.setIfInBounds b o } : World).heap[b]? = some o := fun o => by simp [hblt]
  have hrow : ∀ (o : Obj) {x : Value} {n : Nat} {xs : List Value}, w.ownsRow base I 1 x n xs → World.ownsRow { w with heap := w.heap.setIfInBounds b o } base I 1 x n xs := fun o x n xs k4 => by
    refine k4.kept (hgr o) ?_
    cases he : x.ownBlock with
    | none => exact .inl rfl
    | some g =>
      have := (k4.lt g he).1
      exact .inr (fun e1 => by cases e1; omega)
  have hidx : (l1 ++ e0 :: l2).toArray.findIdx? (fun e => ((e.born : Nat) : Int) == ((e0.born : Nat) : Int)) = some l1.length := by
    rw [Go.WideElems.findIdx_arr]
    exact Go.WideElems.findIdx_born H.nodup (by simp)
  have hmod : (l1 ++ e0 :: l2).toArray.modify l1.length (fun e => { e with val := v }) = (l1 ++ { e0 with val := v } :: l2).toArray := by
    apply Array.ext'
    rw [Array.toList_modify]
    exact modify_mid _ _ _ _
  have hsub : ∀ e, e ∈ l1 ++ l2 → e ∈ l1 ++ e0 :: l2 := fun e he => by
    rcases List.mem_append.1 he with h2 | h2
    · simp [h2]
    · simp [h2]
  have hkn : ∀ e ∈ l1 ++ l2, e.key ≠ e0.key := fun e he hke => by
    have hkk := H.keys
    simp only [List.map_append, List.map_cons, List.nodup_append, List.nodup_cons] at hkk
    rcases List.mem_append.1 he with h2 | h2
    · exact hkk.2.2 e.key (List.mem_map.2 ⟨e, h2, rfl⟩) e0.key (by simp) hke
    · exact hkk.2.1.1 (hke ▸ List.mem_map.2 ⟨e, h2, rfl⟩)
  have hent : ∀ (o : Obj), ∀ e ∈ l1 ++ l2, EntAt { w with heap := w.heap.setIfInBounds b o } base I (updG G r zs) e := fun o e he => by
    obtain ⟨q, k1, k2, k3, k4⟩ := H.ent e he
    have hqr : q ≠ r := fun e1 => hkn e he (by rw [k2, e1, H.key])
    have hu : updG G r zs q = G q := if_neg hqr
    exact ⟨q, k1, k2, by rw [hu]; exact k3, by rw [hu]; exact hrow o k4⟩
  have hur : updG G r zs r = zs := if_pos rfl
  have hp := H.apart
  rw [List.pairwise_append] at hp
  refine ⟨{ w with heap := w.heap.setIfInBounds b (.map (l1 ++ { e0 with val := v } :: l2).toArray c) }, ?_, hgr _, by simp, h1, _, c, hnew _, ?_, ?_, ?_, ?_, ?_, ?_⟩
  · simp [Instr.entryStore, MapKept.run_getObj_map hb, asInt, asIntOf, goInt, hidx, hmod, MapKept.run_setObj_map _ hb, Result.andThen]
  · intro e he
    rcases List.mem_append.1 he with h2 | h2
    · exact H.born e (by simp [h2])
    · rcases List.mem_cons.1 h2 with h4 | h4
      · rw [h4]; exact H.born e0 (by simp)
      · exact H.born e (by simp [h4])
  · have := H.nodup
    simpa using this
  · have := H.keys
    simpa using this
  · intro e he
    rcases List.mem_append.1 he with h2 | h2
    · exact hent _ e (by simp [h2])
    · rcases List.mem_cons.1 h2 with h4 | h4
      · rw [h4]
        exact ⟨r, hr, H.key, by rw [hur]; exact hne, by rw [hur]; exact hrow _ h3⟩
      · exact hent _ e (by simp [h4])
  · intro s h2 h4
    by_cases hs : s = r
    · exact ⟨{ e0 with val := v }, by simp, by rw [hs]; exact H.key⟩
    · rw [show updG G r zs s = G s from if_neg hs] at h4
      obtain ⟨e, he, hek⟩ := H.all s h2 hs h4
      refine ⟨e, ?_, hek⟩
      rcases List.mem_append.1 he with h5 | h5
      · simp [h5]
      · simp [h5]
  · rw [List.pairwise_append, List.pairwise_cons]
    refine ⟨hp.1, ⟨fun e he => ?_, hp.2.1⟩, fun x hx y hy => ?_⟩
    · have := H.mine e (by simp [he])
      exact ⟨this.2, this.1⟩
    · rcases List.mem_cons.1 hy with h4 | h4
      · rw [h4]
        exact H.mine x (by simp [hx])
      · exact hp.2.2 x hx y h4
end
end Go.Proofs.Ytfjmbcjcgdfkfaa
