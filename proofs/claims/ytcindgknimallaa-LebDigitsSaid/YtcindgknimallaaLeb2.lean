/- More walks of the package leb: PutId, Get, GetText, GetId. -/
import Derived.Test.YtcindgknimallaaLeb1
import Derived.Test.YtcindgknimallaaSteps
namespace Go.Proofs.Ytcindgknimallaa
open Go.RowKit


theorem plainOwn : Plain Try.prog 24 := fun _ _ => by kernel_rfl

/-- The cells of an owned row as the source of an append: known block. -/
theorem srcCells {P : Program} {tx e' : TypeId} (hk : P.underlying tx = some (.slice e')) {w : World} {b : Nat} {xs : List Value} {t : TypeId} {fr : Nat × Nat} (hb : w.heap[b]? = some (.cells xs.toArray t fr)) (h1 : ∀ u ∈ xs, u.oneCell' = true) : Src P 1 tx (.slice (some ⟨b, 0, none⟩) xs.length xs.length) xs.length xs w :=
  Src.ofSlice _ hk ⟨b, 0, none⟩ xs.length xs.length xs (by simp) (fun j u hj => by rw [Addr.add_lit, Nat.zero_add, World.cell?, hb]; simpa using hj) h1

set_option maxRecDepth 100000 in
set_option maxHeartbeats 1000000 in
theorem putId_any (w : World) (v : Value) (l : List UInt8) (hr : RB w v l) (id : List UInt8) (hid : id.length = 32) (hl : l.length + 64 ≤ 140737488355328) :
    Calls Try.prog 13 #[v, .agg (Lib.byteCells id).toArray] w fun e w' => ∃ v', e = .returned v' ∧ NewB 5 w w' v' (l ++ id) := by
  obtain ⟨i0, hi, hz0, hz1, hz2⟩ := info_parts infoB
  go_enter Try.func13, Try.ntmps13
  go_wp2_with fail
  have hb0 : Below w.heap.size w (w.alloc (Obj.cells (Lib.byteCells id).toArray 33)) := (Below.refl _ _).alloc (Nat.le_refl _) _
  have hr0 := hr.keep hb0
  obtain ⟨w0, hw0⟩ : ∃ w0, w0 = w.alloc (Obj.cells (Lib.byteCells id).toArray 33) := ⟨_, rfl⟩
  have hbox : w0.heap[w.heap.size]? = some (.cells (Lib.byteCells id).toArray 33 (0, 0)) := by rw [hw0]; exact heap_alloc_new w _
  have hsz : w0.heap.size = w.heap.size + 1 := by rw [hw0]; simp
  rw [← hw0] at hb0 hr0 ⊢
  refine wp_region_kill [3] (fun n => if n = 3 then [1] else []) (fun w' => Below w0.heap.size w0 w') (Below w0.heap.size)
    [Is v, (fun x w' => w'.ownsRow w0.heap.size 5 1 x l.length (Lib.byteCells l)), Is (.slice (some ⟨w.heap.size, 0, none⟩) 32 32), (fun x w' => w'.ownsRow w0.heap.size 5 1 x (l ++ id).length (Lib.byteCells (l ++ id))), (fun x w' => w'.ownsRow w0.heap.size 5 1 x (l ++ id).length (Lib.byteCells (l ++ id)))]
    (by kernel_rfl) _ _ (by kernel_rfl) (by kernel_rfl) [5, 6, 7, 8, 4] (by kernel_rfl) (fun w1 w2 h k => h.trans (k.mono h.size)) (fun _ _ h k => h.trans k) (fun w => Below.refl _ _) (Below.refl _ _).drew ?hst ?hsk ?hs ?hQ
  case hst => exact ⟨Stab.is _, Stab.own _ _ _ _ _, Stab.is _, Stab.own _ _ _ _ _, Stab.own _ _ _ _ _, trivial⟩
  case hsk =>
    intro n i hn hi hk hne hb
    simp at hn
    subst hn
    match i, hi, hk, hne, hb with
    | 0, _, _, _, _ => exact Stab.is _
    | 1, _, hk, _, _ => simp at hk
    | 2, _, _, _, _ => exact Stab.is _
    | 3, _, _, hne, _ => simp at hne
    | 4, _, _, _, hb => cases hb
  case hs =>
    refine ⟨?_, ?_, ?_, ?_, ?_, trivial⟩
    · refine stepNone rfl fun ρ w1 hC h => ?_
      have h0 : ρ 0 = v := h 0 (by decide)
      exact ⟨Ext.refl _, h0⟩
    · refine stepNone rfl fun ρ w1 hC h => ?_
      have h5 : ρ 5 = v := h 5 (by decide)
      refine YieldsK.call plainOwn ?_
      show Calls _ _ #[ρ 5] _ _
      rw [h5]
      refine (own_any w1 v l (hr0.below hC rfl) (by omega)).mono ?_
      rintro e w2 ⟨v2, rfl, h2⟩
      have hs1 := hC.size
      exact ⟨v2, rfl, h2.ext, ownsRow_base h2.own hs1⟩
    · refine stepNone rfl fun ρ w1 hC h => ?_
      have h3 : ρ 3 = .pointer (some ⟨w.heap.size, 0, none⟩) := h 3 (by decide)
      refine YieldsK.value (v := .slice (some ⟨w.heap.size, 0, none⟩) 32 32) (w' := w1) ?_ ⟨Ext.refl _, rfl⟩
      clear h
      simp [execOp, evalR, h3, go_sem]
    · refine stepNone rfl fun ρ w1 hC h => ?_
      have h6 : w1.ownsRow w0.heap.size 5 1 (ρ 6) l.length (Lib.byteCells l) := h 6 (by decide)
      have h7 : ρ 7 = .slice (some ⟨w.heap.size, 0, none⟩) 32 32 := h 7 (by decide)
      have hs1 := hC.size
      have hb1 : w1.heap[w.heap.size]? = some (.cells (Lib.byteCells id).toArray 33 (0, 0)) := (hC.block _ (by omega)).trans hbox
      have hidl : (Lib.byteCells id).length = 32 := by rw [Lib.byteCells_length]; exact hid
      have hsrc := srcCells (P := Try.prog) u22 hb1 (byteCells_one id)
      rw [hidl] at hsrc
      refine YieldsK.append (.tmp 6) (.tmp 7) w0.heap.size 5 (.int .u8 0) 1 1 u22 infoB rfl l.length (Lib.byteCells l) h6 32 (Lib.byteCells id) (by show Src _ _ _ (ρ 7) _ _ _; rw [h7]; exact hsrc) (by unfold maxLen; omega) (by omega) hs1 ?_
      intro v' w' ho g
      refine ⟨g.below hs1 (fun k hk => (h6.lt k hk).1), ?_⟩
      show w'.ownsRow _ _ _ _ _ _
      rw [List.length_append, hid, Lib.byteCells_append]
      exact ho
    · refine stepNone rfl fun ρ w1 hC h => ?_
      exact ⟨Ext.refl _, h 8 (by decide)⟩
  case hQ =>
    intro u w1 hC hE
    obtain ⟨-, -, -, -, h4, -⟩ := hE
    have h4' : w1.ownsRow w0.heap.size 5 1 (u 4) (l ++ id).length (Lib.byteCells (l ++ id)) := h4
    clear h4
    simp only [wrote, List.foldl_cons, List.foldl_nil, List.setIfInBounds_toArray, List.set_cons_zero, List.set_cons_succ]
    generalize u 4 = v4 at *
    go_wp2
    go_ret
    have := hC.size
    exact ⟨v4, rfl, ownsRow_base h4' (by omega), Ext.grown (hb0.trans (hC.mono (by omega)))⟩
end Go.Proofs.Ytcindgknimallaa
