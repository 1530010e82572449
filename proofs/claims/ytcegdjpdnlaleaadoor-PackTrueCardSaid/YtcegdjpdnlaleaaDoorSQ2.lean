/- Part 2 of what stands behind these statements: laws and walks of the functions that are reached. Conditions: those that each theorem names. -/
import Derived.Test.YtcegdjpdnlaleaaDoorSQ1
set_option linter.unusedVariables false
namespace Go.Proofs.YtcegdjpdnlaleaaDoor
open Go.RowKit
namespace Sha
def pad64 (l : List UInt32) : List UInt32 := l ++ List.replicate (64 - l.length) 0
theorem pad64_length (l : List UInt32) (h : l.length ≤ 64) : (pad64 l).length = 64 := by simp [pad64]; omega
theorem pad64_get (l : List UInt32) (i : Nat) : (pad64 l).getD i 0 = l.getD i 0 := by
  unfold pad64
  simp only [List.getD_eq_getElem?_getD]
  rw [List.getElem?_append]
  split
  · rfl
  · rename_i h
    rw [List.getElem?_replicate, List.getElem?_eq_none (by omega)]
    split <;> rfl
theorem pad64_set (l : List UInt32) (x : UInt32) (h : l.length < 64) : (pad64 l).set l.length x = pad64 (l ++ [x]) := by
  unfold pad64
  rw [List.set_append_right _ _ (Nat.le_refl _), Nat.sub_self]
  obtain ⟨k, hk⟩ : ∃ k, 64 - l.length = k + 1 := ⟨64 - l.length - 1, by omega⟩
  rw [hk, List.replicate_succ, List.set_cons_zero]
  have : 64 - (l ++ [x]).length = k := by simp; omega
  rw [this]
  simp
theorem pad64_full (l : List UInt32) (h : l.length = 64) : pad64 l = l := by simp [pad64, h]
theorem sched_step1 (b : List UInt8) (t : Nat) (h : t < 16) : (pad64 (sched b t)).set t (be4 b t) = pad64 (sched b (t + 1)) := by
  have := pad64_set (sched b t) (be4 b t) (by rw [sched_length]; omega)
  rw [sched_length] at this
  rw [this]
  simp [sched, nextW, h]
theorem sched_step2 (b : List UInt8) (t : Nat) (h : 16 ≤ t) (h2 : t < 64) : (pad64 (sched b t)).set t (high ((pad64 (sched b t)).getD (t - 2) 0) + (pad64 (sched b t)).getD (t - 7) 0 + low ((pad64 (sched b t)).getD (t - 15) 0) + (pad64 (sched b t)).getD (t - 16) 0) = pad64 (sched b (t + 1)) := by
  simp only [pad64_get]
  have := pad64_set (sched b t) (nextW b (sched b t) t) (by rw [sched_length]; omega)
  rw [sched_length] at this
  rw [sched, ← this]
  unfold nextW
  rw [if_neg (by omega)]
end Sha
structure Laid (w : World) : Prop where
  first : ∃ t fr, w.heap[0]? = some (.cells (cellsU Sha.first) t fr)
  words : ∃ t fr, w.heap[1]? = some (.cells (cellsU Sha.words) t fr)
theorem Laid.keep {w w' : World} (h : Laid w) (k : Ext w w') : Laid w' := ⟨by obtain ⟨t, fr, h1⟩ := h.first; exact ⟨t, fr, k.blk' h1⟩, by obtain ⟨t, fr, h1⟩ := h.words; exact ⟨t, fr, k.blk' h1⟩⟩
theorem Laid.two {w : World} (h : Laid w) : 1 < w.heap.size := by
  obtain ⟨t, fr, h1⟩ := h.words
  exact (Array.getElem?_eq_some_iff.1 h1).1
def Sha.adding (v s : List UInt32) : Nat → List UInt32
  | 0 => v
  | i + 1 => (Sha.adding v s i).set i ((Sha.adding v s i).getD i 0 + s.getD i 0)
theorem Sha.adding_length (v s : List UInt32) : ∀ i, (Sha.adding v s i).length = v.length
  | 0 => rfl
  | i + 1 => by simp [Sha.adding, Sha.adding_length v s i]
theorem Sha.adding_get (v s : List UInt32) (h : s.length = v.length) : ∀ i j, j < v.length → (Sha.adding v s i).getD j 0 = if j < i then v.getD j 0 + s.getD j 0 else v.getD j 0
  | 0, j, _ => by simp [Sha.adding]
  | i + 1, j, hj => by
    have ih := Sha.adding_get v s h i
    unfold Sha.adding
    by_cases hij : i = j
    · subst hij
      have hl : i < (Sha.adding v s i).length := by rw [Sha.adding_length]; exact hj
      rw [List.getD_eq_getElem?_getD, List.getElem?_set_self hl, Option.getD_some, ih i hj, if_neg (Nat.lt_irrefl _), if_pos (Nat.lt_succ_self _)]
    · rw [List.getD_eq_getElem?_getD, List.getElem?_set_ne hij, ← List.getD_eq_getElem?_getD, ih j hj]
      by_cases h1 : j < i
      · rw [if_pos h1, if_pos (by omega)]
      · rw [if_neg h1, if_neg (by omega)]
theorem Sha.adding_all (v s : List UInt32) (h : s.length = v.length) : Sha.adding v s v.length = Sha.added v s := by
  apply List.ext_getElem (by simp [Sha.adding_length, Sha.added, h])
  intro j h1 h2
  have hj : j < v.length := by rw [Sha.adding_length] at h1; exact h1
  have := Sha.adding_get v s h v.length j hj
  rw [if_pos hj] at this
  have hs : j < s.length := by omega
  simp [List.getD_eq_getElem?_getD, h1, hj, hs] at this
  rw [this]
  simp [Sha.added]

theorem Sha.adding_end {v s : List UInt32} {i : Nat} (h : s.length = 8) (hv : v.length = 8) (h1 : i ≤ 8) (h2 : ¬ i < 8) : Sha.adding v s i = Sha.added v s := by
  have := Sha.adding_all v s (by omega)
  rw [hv] at this
  rw [show i = 8 by omega, this]
def rotSet : List Nat := [2, 6, 7, 11, 13, 17, 18, 19, 22, 25]
theorem rot_and (n : Nat) (hn : n ∈ rotSet) (t : TypeId) : Go.binOp .and t (.int .u64 (IntKind.u64.wrap (-(n : Int)))) (.int .u64 ((31 : Nat) : Int)) = pure (.int .u64 ((32 - n : Nat) : Int)) := by
  unfold rotSet at hn
  simp only [List.mem_cons, List.not_mem_nil, or_false] at hn
  rcases hn with rfl | rfl | rfl | rfl | rfl | rfl | rfl | rfl | rfl | rfl <;> rfl
theorem rot_lt {n : Nat} (hn : n ∈ rotSet) : 0 < n ∧ n < 32 := by
  unfold rotSet at hn
  simp only [List.mem_cons, List.not_mem_nil, or_false] at hn
  omega
theorem Yk.negSet {P : Program} {K : Value → World → Prop} {ρ : Slots} {w : World} {d : Option Tmp} {ty : TypeId} {pos : String} {af : Array Edge} {gd : Option (Nat × Bool)} {t : TypeId} {x : Operand} {n : Nat} (hn : n ∈ rotSet) (hx : evalR ρ x = NI n) (hk : K (.int .i64 (-(n : Int))) w) : Yk P K ((execOp (evalR ρ) ⟨d, .unOp .neg t x, ty, pos, af, gd⟩).run P w) := by
  have h := rot_lt hn
  refine Yk.value (v := .int .i64 (-(n : Int))) (w' := w) ?_ hk
  have hw : IntKind.i64.wrap (-(n : Int)) = -(n : Int) := by
    simp only [IntKind.wrap, IntKind.bits, IntKind.signed]
    simp
    omega
  unfold execOp
  simp [hx, Op.unary, Op.intArith, hw]
theorem Yk.build8 {P : Program} {K : Value → World → Prop} {ρ : Slots} {w : World} {d : Option Tmp} {ty : TypeId} {pos : String} {af : Array Edge} {gd : Option (Nat × Bool)} {t : TypeId} {x0 x1 x2 x3 x4 x5 x6 x7 : Operand} {v0 v1 v2 v3 v4 v5 v6 v7 v : Value} (h0 : evalR ρ x0 = v0) (h1 : evalR ρ x1 = v1) (h2 : evalR ρ x2 = v2) (h3 : evalR ρ x3 = v3) (h4 : evalR ρ x4 = v4) (h5 : evalR ρ x5 = v5) (h6 : evalR ρ x6 = v6) (h7 : evalR ρ x7 = v7) (hr : ∀ w : World, (Instr.build t #[(0, v0), (1, v1), (2, v2), (3, v3), (4, v4), (5, v5), (6, v6), (7, v7)]).run P w = .ok v w) (hk : K v w) : Yk P K ((execOp (evalR ρ) ⟨d, .build t #[(0, x0), (1, x1), (2, x2), (3, x3), (4, x4), (5, x5), (6, x6), (7, x7)], ty, pos, af, gd⟩).run P w) := by
  refine Yk.value (v := v) (w' := w) ?_ hk
  unfold execOp
  simp only [List.map_toArray, List.map_cons, List.map_nil, h0, h1, h2, h3, h4, h5, h6, h7, Sem.run_bind, hr, Result.andThen_ok, Sem.run_pure]
open Go.RowKit
set_option maxRecDepth 100000
theorem shaW_ty3 : Tryd.prog.underlying 3 = some (.int .i64) := by kernel_rfl
theorem shaW_ty90 : Tryd.prog.underlying 90 = some (.int .u64) := by kernel_rfl
theorem shaW_pl90 : Plain Tryd.prog 90 := fun _ _ => by kernel_rfl
theorem shaW_isz89 : (Tryd.prog.info? 89).map (·.size) = some 64 := by kernel_rfl
theorem shaW_al89 {d : Option Tmp} {ty : TypeId} {pos : String} {af : Array Edge} {gd : Option (Nat × Bool)} (σ : Operand → Value) (w : World) : (execOp σ ⟨d, .alloc 89, ty, pos, af, gd⟩).run Tryd.prog w = .ok (.value (PQ w.heap.size 0)) (w.alloc (.cells ((List.replicate 64 0).map fun x => U x).toArray 89)) := by kernel_rfl
theorem shaW_ty24 : Tryd.prog.underlying 24 = some (.slice 5) := by kernel_rfl
theorem shaW_sz5 : ∀ w' : World, (sizeOf 5).run Tryd.prog w' = .ok 1 w' := fun _ => by kernel_rfl
theorem shaW_ty5 : Tryd.prog.underlying 5 = some (.int .u8) := by kernel_rfl
theorem shaW_ty87 : Tryd.prog.underlying 87 = some (.int .u32) := by kernel_rfl
theorem shaW_ty89 : Tryd.prog.underlying 89 = some (.array 64 87) := by kernel_rfl
theorem shaW_sz87 : ∀ w' : World, (sizeOf 87).run Tryd.prog w' = .ok 1 w' := fun _ => by kernel_rfl
theorem shaW_isz87 : (Tryd.prog.info? 87).map (·.size) = some 1 := by kernel_rfl
theorem shaW_pl79 : Plain Tryd.prog 79 := fun _ _ => by kernel_rfl
theorem shaW_isz88 : (Tryd.prog.info? 88).map (·.size) = some 8 := by kernel_rfl
theorem shaW_al88 {d : Option Tmp} {ty : TypeId} {pos : String} {af : Array Edge} {gd : Option (Nat × Bool)} (σ : Operand → Value) (w : World) : (execOp σ ⟨d, .alloc 88, ty, pos, af, gd⟩).run Tryd.prog w = .ok (.value (PQ w.heap.size 0)) (w.alloc (.cells ((List.replicate 8 0).map fun x => U x).toArray 88)) := by kernel_rfl
theorem shaW_ty88 : Tryd.prog.underlying 88 = some (.array 8 87) := by kernel_rfl
theorem shaW_pl78 : Plain Tryd.prog 78 := fun _ _ => by kernel_rfl
theorem shaW_bA8 (a b c d e f g h : UInt32) (w : World) : (Instr.build 88 #[(0, U a), (1, U b), (2, U c), (3, U d), (4, U e), (5, U f), (6, U g), (7, U h)]).run Tryd.prog w = .ok (.agg (([a, b, c, d, e, f, g, h] : List UInt32).map fun x => U x).toArray) w := by kernel_rfl
set_option maxHeartbeats 1600000
theorem rotl_any (w : World) (x : UInt32) (n : Nat) (hn : n ∈ rotSet) :
  Calls Tryd.prog 90 #[U x, .int .i64 (-(n : Int))] w fun e w' => e = .returned (U (Sha.rotr x n)) ∧ Ext w w' := by
 obtain ⟨hn0, hn1⟩ := rot_lt hn
 refine calls_of_wpF (args := [U (x), (.int .i64 (-(n : Int)))]) Tryd.func90 rfl 17 rfl (Nat.le_of_ble_eq_true rfl) ?_
 intro ρ0 hb
 have T0 : ρ0 0 = (U (x) : Value) := hb.get 0
 have T1 : ρ0 1 = ((.int .i64 (-(n : Int))) : Value) := hb.get 1
 clear hb
 have hE := Ext.refl w
 refine sk fun K1 hK1 => (wt (oA rfl (oZ (tN (hK1 _ _ (sk fun K2 hK2 => (wt (oM rfl (oS rfl (Yk.convI shaW_ty3 shaW_ty90 T1 rfl (oS rfl (Yk.bin (yv := .int .u64 ((31 : Nat) : Int)) (vr (.int .u64 (IntKind.u64.wrap (-(n : Int)))) rfl) rfl rfl (rot_and n hn _) (oA rfl (oZ (tN (hK2 _ _ (sk fun K3 hK3 => (wt (oM rfl ?_)))))))))))))))))))
 refine oM rfl (oS rfl (Yk.bin (yv := .int .u64 ((32 - n : Nat) : Int)) T0 (vr (.int .u64 ((32 - n : Nat) : Int)) rfl) rfl (u_shl _ _ _ (32 - n) (by omega)) (oM rfl (oM rfl (oS rfl (Yk.bin (xv := .int .u64 ((32 : Nat) : Int)) (yv := .int .u64 ((32 - n : Nat) : Int)) rfl rfl rfl (u64_sub _ _ _ (by omega) (by omega)) (oS rfl (Yk.bin (yv := .int .u64 (((32) - (32 - n) : Nat) : Int)) T0 (vr (.int .u64 (((32) - (32 - n) : Nat) : Int)) rfl) rfl (u_shr _ _ _ ((32) - (32 - n)) (by omega)) (oS rfl (Yk.bin (vr (U ((x) <<< UInt32.ofNat (32 - n))) rfl) (vr (U ((x) >>> UInt32.ofNat ((32) - (32 - n)))) rfl) rfl (u_or _ _ _) (oA rfl (oZ (tN (hK3 _ _ (wpF_ret (postF_ret (fn := Tryd.f90) _ rfl [U (((x) <<< UInt32.ofNat (32 - n)) ||| ((x) >>> UInt32.ofNat ((32) - (32 - n))))] (U (((x) <<< UInt32.ofNat (32 - n)) ||| ((x) >>> UInt32.ofNat ((32) - (32 - n))))) rfl ⟨rfl, trivial⟩ ?_))))))))))))))))
 refine ⟨?_, hE⟩
 unfold Sha.rotr
 rw [show 32 - (32 - n) = n by omega]

theorem turn_any (w : World) (x : UInt32) (n : Nat) (hn : n ∈ rotSet) :
  Calls Tryd.prog 79 #[U x, NI n] w fun e w' => e = .returned (U (Sha.rotr x n)) ∧ Ext w w' := by
 refine calls_of_wpF (args := [U (x), NI n]) Tryd.func79 rfl 9 rfl (Nat.le_of_ble_eq_true rfl) ?_
 intro ρ0 hb
 have T0 : ρ0 0 = (U (x) : Value) := hb.get 0
 have T1 : ρ0 1 = (NI n : Value) := hb.get 1
 clear hb
 have hE := Ext.refl w
 refine sk fun K1 hK1 => (wt (oA rfl (oZ (tN (hK1 _ _ (sk fun K2 hK2 => (wt (oM rfl (oM rfl (oS rfl (Yk.negSet hn T1 (oS rfl (Yk.callA2 shaW_pl90 T0 (vr (.int .i64 (-(n : Int))) rfl) ((rotl_any _ x n hn).mono ?_))))))))))))))
 rintro e w4 ⟨rfl, hx3⟩
 refine ⟨_, rfl, ?_⟩
 have hE := hE.trans hx3
 refine oA rfl (oZ (tN (hK2 _ _ (wpF_ret (postF_ret (fn := Tryd.f79) _ rfl [U (Sha.rotr (x) n)] (U (Sha.rotr (x) n)) rfl ⟨rfl, trivial⟩ ?_)))))
 exact ⟨rfl, hE⟩

theorem schedule_any (w : World) (v : Value) (b : List UInt8) (hb : RB w v b) (hl : b.length = 64) :
  Calls Tryd.prog 78 #[v] w fun e w' => e = .returned (.agg (cellsU (Sha.sched b 64))) ∧ Ext w w' := by
 refine calls_of_wpF (args := [v]) Tryd.func78 rfl 93 rfl (Nat.le_of_ble_eq_true rfl) ?_
 intro ρ0 hb
 have T0 : ρ0 0 = (v : Value) := hb.get 0
 clear hb
 have hE := Ext.refl w
 refine sk fun K1 hK1 => (wt (oS rfl (Yk.alloc (cs := ((List.replicate 64 0).map fun x => U x).toArray) shaW_al89 fun n2 w3 hn4 hb5 hx6 hs7 => ?_)))
 have hE := hE.trans hx6
 have hb8 := hb5; clear hb5
 have hl9 : n2 < w3.heap.size := by omega
 refine oZ (tN (hK1 _ _ (sk fun K10 hK10 => (wt (oS rfl (Yk.alloc (cs := ((List.replicate 64 0).map fun x => U x).toArray) shaW_al89 fun n11 w12 hn13 hb14 hx15 hs16 => ?_))))))
 have hA17 := Ext.refl w3
 have hea18 := hE
 have hz19 := hE.size
 have hlt20 := lte (bl hb8) hn13
 have hE := hE.trans hx15
 have hb8 := eb hx15 hb8
 have hA17 := hA17.trans hx15
 have hb21 := hb14; clear hb14
 have hl22 : n11 < w12.heap.size := by omega
 refine oZ (tN (hK10 _ _ (sk fun K23 hK23 => (sk fun K24 hK24 => (wt (oM rfl (oL_ [(0, v), (2, PQ n2 0), (3, PQ n11 0), (10, NI 0)] ⟨T0, rfl, rfl, rfl, trivial⟩ fun ρ25 ⟨T0, T2, T3, T10, _⟩ => (tN (hK24 _ _ (wpF_block (wpF_loop (fun (ρ : Slots) (wz : World) => ∃ t : Nat, ρ 0 = (v : Value) ∧ ρ 2 = (PQ n2 0 : Value) ∧ ρ 3 = (PQ n11 0 : Value) ∧ ρ 10 = (NI t : Value) ∧ Ext w wz ∧ wz.heap[n2]? = some (.cells ((List.replicate 64 0).map fun x => U x).toArray 89 (0, 0)) ∧ Ext w3 wz ∧ wz.heap[n11]? = some (.cells ((Sha.pad64 (Sha.sched b t)).map fun x => U x).toArray 89 (0, 0)) ∧ (t ≤ 16) ∧ True) (fun ρ _ => 16 - (intOf (ρ 10)).toNat) ⟨0, T0, T2, T3, T10, hE, hb8, hA17, blk_eq hb21 (rfl), by omega, trivial⟩ ?_)))))))))))
 clear hb21
 clear hE hb8 hA17
 rintro ρ26 w27 ⟨t, T0, T2, T3, T10, hE, hb8, hA17, hb21l, ht_t, -⟩
 have q10 := T10
 have hpl_t : (Sha.pad64 (Sha.sched b t)).length = 64 := Sha.pad64_length _ (by rw [Sha.sched_length]; omega)
 obtain ⟨Bt, hBt⟩ : ∃ B, B = Sha.pad64 (Sha.sched b t) := ⟨_, rfl⟩
 have hb21l : w27.heap[n11]? = some (.cells ((Bt).map fun x => U x).toArray 89 (0, 0)) := blk_eq hb21l (by rw [hBt])
 rw [← hBt] at hpl_t
 refine sk fun K28 hK28 => (wt (oS rfl (Yk.eqI (a := (t : Nat)) (b := (16 : Nat)) T10 rfl (k_lss _ _ _ _) (oZ (tN (hK28 _ _ (sk fun K29 hK29 => ?_)))))))
 refine wpF_cond ((t) < (16)) (vr (.bool (decide ((t) < (16)))) rfl) (fun hc0 => ?_) (fun hc0 => ?_)
 ·refine wpF_skip (tN (hK29 _ _ (sk fun K30 hK30 => (wpF_block (sk fun K31 hK31 => (wt (oM rfl (oA rfl (oZ (tN (hK31 _ _ ?_)))))))))))
  refine wpF_draw_storeK 35 [4, 12, 21, 30] (fun (a_ b_ : World) => b_.heap[n11]? = some (.cells (((Bt).set (t) ((((((b.getD ((4) * (t)) 0).toUInt32) <<< 24) ||| (((b.getD (((4) * (t)) + (1)) 0).toUInt32) <<< 16)) ||| (((b.getD (((4) * (t)) + (2)) 0).toUInt32) <<< 8)) ||| ((b.getD (((4) * (t)) + (3)) 0).toUInt32))).map fun x => U x).toArray 89 (0, 0)) ∧ a_.grownBy b_ (some n11) ∧ b_.heap.size = a_.heap.size) [Is (NI t), Is (v), Is (NI t), Is (NI ((4) * (t))), PCell (B8 (b.getD ((4) * (t)) 0)), Is (B8 (b.getD ((4) * (t)) 0)), Is (U ((b.getD ((4) * (t)) 0).toUInt32)), Is (U (((b.getD ((4) * (t)) 0).toUInt32) <<< 24)), Is (v), Is (NI t), Is (NI ((4) * (t))), Is (NI (((4) * (t)) + (1))), PCell (B8 (b.getD (((4) * (t)) + (1)) 0)), Is (B8 (b.getD (((4) * (t)) + (1)) 0)), Is (U ((b.getD (((4) * (t)) + (1)) 0).toUInt32)), Is (U (((b.getD (((4) * (t)) + (1)) 0).toUInt32) <<< 16)), Is (U ((((b.getD ((4) * (t)) 0).toUInt32) <<< 24) ||| (((b.getD (((4) * (t)) + (1)) 0).toUInt32) <<< 16))), Is (v), Is (NI t), Is (NI ((4) * (t))), Is (NI (((4) * (t)) + (2))), PCell (B8 (b.getD (((4) * (t)) + (2)) 0)), Is (B8 (b.getD (((4) * (t)) + (2)) 0)), Is (U ((b.getD (((4) * (t)) + (2)) 0).toUInt32)), Is (U (((b.getD (((4) * (t)) + (2)) 0).toUInt32) <<< 8)), Is (U (((((b.getD ((4) * (t)) 0).toUInt32) <<< 24) ||| (((b.getD (((4) * (t)) + (1)) 0).toUInt32) <<< 16)) ||| (((b.getD (((4) * (t)) + (2)) 0).toUInt32) <<< 8))), Is (v), Is (NI t), Is (NI ((4) * (t))), Is (NI (((4) * (t)) + (3))), PCell (B8 (b.getD (((4) * (t)) + (3)) 0)), Is (B8 (b.getD (((4) * (t)) + (3)) 0)), Is (U ((b.getD (((4) * (t)) + (3)) 0).toUInt32)), Is (U ((((((b.getD ((4) * (t)) 0).toUInt32) <<< 24) ||| (((b.getD (((4) * (t)) + (1)) 0).toUInt32) <<< 16)) ||| (((b.getD (((4) * (t)) + (2)) 0).toUInt32) <<< 8)) ||| ((b.getD (((4) * (t)) + (3)) 0).toUInt32))), Is (PQ n11 t), (fun _ _ => True)] (by kernel_rfl) [13, 14, 15, 16, 17, 18, 19, 20, 21, 22, 23, 24, 25, 26, 27, 28, 29, 30, 31, 32, 33, 34, 35, 36, 37, 38, 39, 40, 41, 42, 43, 44, 45, 46, 47] (by kernel_rfl) (by kernel_rfl) (by kernel_rfl) (by kernel_rfl) rfl (si4 ⟨Stab.pcell _, (si7 ⟨Stab.pcell _, (si8 ⟨Stab.pcell _, (si8 ⟨Stab.pcell _, (si4 ⟨Stab.any, trivial⟩)⟩)⟩)⟩)⟩) ⟨.inr (Stab.is _), .inr (Stab.is _), .inr (Stab.is _), .inr (Stab.is _), .inl rfl, .inr (Stab.is _), .inr (Stab.is _), .inr (Stab.is _), .inr (Stab.is _), .inr (Stab.is _), .inr (Stab.is _), .inr (Stab.is _), .inl rfl, .inr (Stab.is _), .inr (Stab.is _), .inr (Stab.is _), .inr (Stab.is _), .inr (Stab.is _), .inr (Stab.is _), .inr (Stab.is _), .inr (Stab.is _), .inl rfl, .inr (Stab.is _), .inr (Stab.is _), .inr (Stab.is _), .inr (Stab.is _), .inr (Stab.is _), .inr (Stab.is _), .inr (Stab.is _), .inr (Stab.is _), .inl rfl, .inr (Stab.is _), .inr (Stab.is _), .inr (Stab.is _), .inr (Stab.is _), .inr (Stab.any), trivial⟩ ?hs1005 ?hQ1005
  case hs1005 =>
   refine ⟨?_, ?_, ?_, ?_, ?_, ?_, ?_, ?_, ?_, ?_, ?_, ?_, ?_, ?_, ?_, ?_, ?_, ?_, ?_, ?_, ?_, ?_, ?_, ?_, ?_, ?_, ?_, ?_, ?_, ?_, ?_, ?_, ?_, ?_, ?_, ?_, trivial⟩
   ·refine stepN rfl fun σ w1 hC h => ?_
    have e4 := (eqo (h 4 (by decide))).trans T10
    have hC : Ext _ w1 := hC
    exact Yk.move e4 ⟨Ext.refl _, rfl⟩
   ·refine stepN rfl fun σ w1 hC h => ?_
    have e0 := (eqo (h 0 (by decide))).trans T0
    have hC : Ext _ w1 := hC
    exact Yk.move e0 ⟨Ext.refl _, rfl⟩
   ·refine stepN rfl fun σ w1 hC h => ?_
    have e4 := (eqo (h 4 (by decide))).trans T10
    have hC : Ext _ w1 := hC
    exact Yk.move e4 ⟨Ext.refl _, rfl⟩
   ·refine stepN rfl fun σ w1 hC h => ?_
    have e15 := eqo (h 15 (by decide))
    have hC : Ext _ w1 := hC
    exact Yk.bin (xv := NI 4) (yv := NI t) rfl e15 rfl (i64_mul _ _ _ (by omega)) ⟨Ext.refl _, rfl⟩
   ·refine stepN rfl fun σ w1 hC h => ?_
    have e14 := eqo (h 14 (by decide))
    have e16 := eqo (h 16 (by decide))
    have hC : Ext _ w1 := hC
    exact Yk.atRB (l := b) (i := (4) * (t)) shaW_ty24 shaW_sz5 (RB.of (hb.keep (hE.trans hC)) e14) e16 (by omega) fun _ h => ⟨Ext.refl _, h⟩
   ·refine stepN rfl fun σ w1 hC h => ?_
    have e17 : (PCell (B8 (b.getD ((4) * (t)) 0))) (σ 17) w1 := h 17 (by decide)
    have hC : Ext _ w1 := hC
    exact Yk.loadC shaW_ty5 rfl e17 ⟨Ext.refl _, rfl⟩
   ·refine stepN rfl fun σ w1 hC h => ?_
    have e18 := eqo (h 18 (by decide))
    have hC : Ext _ w1 := hC
    exact Yk.wide shaW_ty5 shaW_ty87 e18 ⟨Ext.refl _, rfl⟩
   ·refine stepN rfl fun σ w1 hC h => ?_
    have e19 := eqo (h 19 (by decide))
    have hC : Ext _ w1 := hC
    exact Yk.bin e19 (vr (.int .u64 ((24 : Nat) : Int)) rfl) rfl (u_shl _ _ _ 24 (by decide)) ⟨Ext.refl _, rfl⟩
   ·refine stepN rfl fun σ w1 hC h => ?_
    have e0 := (eqo (h 0 (by decide))).trans T0
    have hC : Ext _ w1 := hC
    exact Yk.move e0 ⟨Ext.refl _, rfl⟩
   ·refine stepN rfl fun σ w1 hC h => ?_
    have e4 := (eqo (h 4 (by decide))).trans T10
    have hC : Ext _ w1 := hC
    exact Yk.move e4 ⟨Ext.refl _, rfl⟩
   ·refine stepN rfl fun σ w1 hC h => ?_
    have e22 := eqo (h 22 (by decide))
    have hC : Ext _ w1 := hC
    exact Yk.bin (xv := NI 4) (yv := NI t) rfl e22 rfl (i64_mul _ _ _ (by omega)) ⟨Ext.refl _, rfl⟩
   ·refine stepN rfl fun σ w1 hC h => ?_
    have e23 := eqo (h 23 (by decide))
    have hC : Ext _ w1 := hC
    exact Yk.bin (xv := NI ((4) * (t))) (yv := NI 1) e23 rfl rfl (i64_add _ _ _ (by omega)) ⟨Ext.refl _, rfl⟩
   ·refine stepN rfl fun σ w1 hC h => ?_
    have e21 := eqo (h 21 (by decide))
    have e24 := eqo (h 24 (by decide))
    have hC : Ext _ w1 := hC
    exact Yk.atRB (l := b) (i := ((4) * (t)) + (1)) shaW_ty24 shaW_sz5 (RB.of (hb.keep (hE.trans hC)) e21) e24 (by omega) fun _ h => ⟨Ext.refl _, h⟩
   ·refine stepN rfl fun σ w1 hC h => ?_
    have e25 : (PCell (B8 (b.getD (((4) * (t)) + (1)) 0))) (σ 25) w1 := h 25 (by decide)
    have hC : Ext _ w1 := hC
    exact Yk.loadC shaW_ty5 rfl e25 ⟨Ext.refl _, rfl⟩
   ·refine stepN rfl fun σ w1 hC h => ?_
    have e26 := eqo (h 26 (by decide))
    have hC : Ext _ w1 := hC
    exact Yk.wide shaW_ty5 shaW_ty87 e26 ⟨Ext.refl _, rfl⟩
   ·refine stepN rfl fun σ w1 hC h => ?_
    have e27 := eqo (h 27 (by decide))
    have hC : Ext _ w1 := hC
    exact Yk.bin e27 (vr (.int .u64 ((16 : Nat) : Int)) rfl) rfl (u_shl _ _ _ 16 (by decide)) ⟨Ext.refl _, rfl⟩
   ·refine stepN rfl fun σ w1 hC h => ?_
    have e20 := eqo (h 20 (by decide))
    have e28 := eqo (h 28 (by decide))
    have hC : Ext _ w1 := hC
    exact Yk.bin e20 e28 rfl (u_or _ _ _) ⟨Ext.refl _, rfl⟩
   ·refine stepN rfl fun σ w1 hC h => ?_
    have e0 := (eqo (h 0 (by decide))).trans T0
    have hC : Ext _ w1 := hC
    exact Yk.move e0 ⟨Ext.refl _, rfl⟩
   ·refine stepN rfl fun σ w1 hC h => ?_
    have e4 := (eqo (h 4 (by decide))).trans T10
    have hC : Ext _ w1 := hC
    exact Yk.move e4 ⟨Ext.refl _, rfl⟩
   ·refine stepN rfl fun σ w1 hC h => ?_
    have e31 := eqo (h 31 (by decide))
    have hC : Ext _ w1 := hC
    exact Yk.bin (xv := NI 4) (yv := NI t) rfl e31 rfl (i64_mul _ _ _ (by omega)) ⟨Ext.refl _, rfl⟩
   ·refine stepN rfl fun σ w1 hC h => ?_
    have e32 := eqo (h 32 (by decide))
    have hC : Ext _ w1 := hC
    exact Yk.bin (xv := NI ((4) * (t))) (yv := NI 2) e32 rfl rfl (i64_add _ _ _ (by omega)) ⟨Ext.refl _, rfl⟩
   ·refine stepN rfl fun σ w1 hC h => ?_
    have e30 := eqo (h 30 (by decide))
    have e33 := eqo (h 33 (by decide))
    have hC : Ext _ w1 := hC
    exact Yk.atRB (l := b) (i := ((4) * (t)) + (2)) shaW_ty24 shaW_sz5 (RB.of (hb.keep (hE.trans hC)) e30) e33 (by omega) fun _ h => ⟨Ext.refl _, h⟩
   ·refine stepN rfl fun σ w1 hC h => ?_
    have e34 : (PCell (B8 (b.getD (((4) * (t)) + (2)) 0))) (σ 34) w1 := h 34 (by decide)
    have hC : Ext _ w1 := hC
    exact Yk.loadC shaW_ty5 rfl e34 ⟨Ext.refl _, rfl⟩
   ·refine stepN rfl fun σ w1 hC h => ?_
    have e35 := eqo (h 35 (by decide))
    have hC : Ext _ w1 := hC
    exact Yk.wide shaW_ty5 shaW_ty87 e35 ⟨Ext.refl _, rfl⟩
   ·refine stepN rfl fun σ w1 hC h => ?_
    have e36 := eqo (h 36 (by decide))
    have hC : Ext _ w1 := hC
    exact Yk.bin e36 (vr (.int .u64 ((8 : Nat) : Int)) rfl) rfl (u_shl _ _ _ 8 (by decide)) ⟨Ext.refl _, rfl⟩
   ·refine stepN rfl fun σ w1 hC h => ?_
    have e29 := eqo (h 29 (by decide))
    have e37 := eqo (h 37 (by decide))
    have hC : Ext _ w1 := hC
    exact Yk.bin e29 e37 rfl (u_or _ _ _) ⟨Ext.refl _, rfl⟩
   ·refine stepN rfl fun σ w1 hC h => ?_
    have e0 := (eqo (h 0 (by decide))).trans T0
    have hC : Ext _ w1 := hC
    exact Yk.move e0 ⟨Ext.refl _, rfl⟩
   ·refine stepN rfl fun σ w1 hC h => ?_
    have e4 := (eqo (h 4 (by decide))).trans T10
    have hC : Ext _ w1 := hC
    exact Yk.move e4 ⟨Ext.refl _, rfl⟩
   ·refine stepN rfl fun σ w1 hC h => ?_
    have e40 := eqo (h 40 (by decide))
    have hC : Ext _ w1 := hC
    exact Yk.bin (xv := NI 4) (yv := NI t) rfl e40 rfl (i64_mul _ _ _ (by omega)) ⟨Ext.refl _, rfl⟩
   ·refine stepN rfl fun σ w1 hC h => ?_
    have e41 := eqo (h 41 (by decide))
    have hC : Ext _ w1 := hC
    exact Yk.bin (xv := NI ((4) * (t))) (yv := NI 3) e41 rfl rfl (i64_add _ _ _ (by omega)) ⟨Ext.refl _, rfl⟩
   ·refine stepN rfl fun σ w1 hC h => ?_
    have e39 := eqo (h 39 (by decide))
    have e42 := eqo (h 42 (by decide))
    have hC : Ext _ w1 := hC
    exact Yk.atRB (l := b) (i := ((4) * (t)) + (3)) shaW_ty24 shaW_sz5 (RB.of (hb.keep (hE.trans hC)) e39) e42 (by omega) fun _ h => ⟨Ext.refl _, h⟩
   ·refine stepN rfl fun σ w1 hC h => ?_
    have e43 : (PCell (B8 (b.getD (((4) * (t)) + (3)) 0))) (σ 43) w1 := h 43 (by decide)
    have hC : Ext _ w1 := hC
    exact Yk.loadC shaW_ty5 rfl e43 ⟨Ext.refl _, rfl⟩
   ·refine stepN rfl fun σ w1 hC h => ?_
    have e44 := eqo (h 44 (by decide))
    have hC : Ext _ w1 := hC
    exact Yk.wide shaW_ty5 shaW_ty87 e44 ⟨Ext.refl _, rfl⟩
   ·refine stepN rfl fun σ w1 hC h => ?_
    have e38 := eqo (h 38 (by decide))
    have e45 := eqo (h 45 (by decide))
    have hC : Ext _ w1 := hC
    exact Yk.bin e38 e45 rfl (u_or _ _ _) ⟨Ext.refl _, rfl⟩
   ·refine stepN rfl fun σ w1 hC h => ?_
    have e3 := (eqo (h 3 (by decide))).trans T3
    have e13 := eqo (h 13 (by decide))
    have hC : Ext _ w1 := hC
    exact Yk.atArr0 (i := t) shaW_ty89 shaW_sz87 e3 e13 (by omega) ⟨Ext.refl _, rfl⟩
   ·refine stepN rfl fun σ w1 hC h => ?_
    have e47 := eqo (h 47 (by decide))
    have e46 := eqo (h 46 (by decide))
    have hC : Ext _ w1 := hC
    exact Yk.storeU32 (i := t) (v := (((((b.getD ((4) * (t)) 0).toUInt32) <<< 24) ||| (((b.getD (((4) * (t)) + (1)) 0).toUInt32) <<< 16)) ||| (((b.getD (((4) * (t)) + (2)) 0).toUInt32) <<< 8)) ||| ((b.getD (((4) * (t)) + (3)) 0).toUInt32)) e47 e46 (eb hC hb21l) (by rw [hpl_t]; omega) shaW_isz87 fun w2 h1 h2 h3 => ⟨⟨h1, h2, h3⟩, trivial⟩
  intro ρ36 w39 w37 hx38 hS40 he hf
  obtain ⟨-, -, -, -, -, -, -, -, -, -, -, -, -, -, -, -, -, -, -, -, -, -, -, -, -, -, -, -, -, -, -, -, -, -, -, -⟩ := hf
  obtain ⟨T0, T2, T3, T4, T10, -⟩ := he.hold [(0, _), (2, _), (3, _), (4, _), (10, _)] ⟨T0, T2, T3, T10, T10, trivial⟩ rfl
  clear he
  have hE := hE.trans hx38
  have hb8 := eb hx38 hb8
  have hA17 := hA17.trans hx38
  have hb21l := eb hx38 hb21l
  obtain ⟨hb41, hg42, hs43⟩ := hS40
  have hE := row_fresh hE hg42 (Nat.le_trans hz19 (by omega))
  have hb8 := kb hg42 hb8 (by omega)
  have hA17 := row_fresh hA17 hg42 (Nat.le_trans (Nat.le_refl _) (by omega))
  clear hb21l
  have hb21l := hb41; clear hb41
  have hl44 := bl hb21l
  have hb21l : w37.heap[n11]? = some (.cells ((Sha.pad64 (Sha.sched b (t + 1))).map fun x => U x).toArray 89 (0, 0)) := blk_eq hb21l (congrArg (List.map fun x => U x) (by rw [hBt]; exact Sha.sched_step1 b t hc0))
  refine bN (tN (hK30 _ _ (wt (oS rfl (Yk.bin (xv := NI t) (yv := NI 1) T10 rfl rfl (i64_add _ _ _ (by omega)) (oM rfl (oL_ [(0, v), (2, PQ n2 0), (3, PQ n11 0), (4, NI t), (10, NI ((t) + (1)))] ⟨T0, T2, T3, T4, rfl, trivial⟩ fun ρ45 ⟨T0, T2, T3, T4, T10, _⟩ => (tN (And.intro ⟨t + 1, T0, T2, T3, T10, hE, hb8, hA17, blk_eq hb21l (rfl), by omega, trivial⟩ ?_)))))))))
  show 16 - (intOf (ρ45 10)).toNat < 16 - (intOf (ρ26 10)).toNat
  rw [T10, q10]
  simp only [intOf, Int.toNat_natCast]; omega
 refine wpF_exit (thenF_exit (thenF_exit (inBlockF_hit (tN (hK23 _ _ (sk fun K46 hK46 => (sk fun K47 hK47 => (wt (oA rfl (oL_ [(0, v), (2, PQ n2 0), (3, PQ n11 0), (5, NI 16), (10, NI t)] ⟨T0, T2, T3, rfl, T10, trivial⟩ fun ρ48 ⟨T0, T2, T3, T5, T10, _⟩ => (tN (hK47 _ _ (wpF_block (wpF_loop (fun (ρ : Slots) (wz : World) => ∃ q : Nat, ρ 0 = (v : Value) ∧ ρ 2 = (PQ n2 0 : Value) ∧ ρ 3 = (PQ n11 0 : Value) ∧ ρ 10 = (NI t : Value) ∧ ρ 5 = (NI q : Value) ∧ Ext w wz ∧ wz.heap[n2]? = some (.cells ((List.replicate 64 0).map fun x => U x).toArray 89 (0, 0)) ∧ Ext w3 wz ∧ wz.heap[n11]? = some (.cells ((Sha.pad64 (Sha.sched b q)).map fun x => U x).toArray 89 (0, 0)) ∧ (q ≤ 64) ∧ (16 ≤ q) ∧ True) (fun ρ _ => 64 - (intOf (ρ 5)).toNat) ⟨16, T0, T2, T3, T10, T5, hE, hb8, hA17, blk_eq hb21l (congrArg (List.map fun x => U x) (by rw [hBt, show t = 16 by omega])), by omega, Nat.le_refl _, trivial⟩ ?_))))))))))))))
 clear hb21l
 clear hE hb8 hA17
 rintro ρ49 w50 ⟨q, T0, T2, T3, T10, T5, hE, hb8, hA17, hb21ll, ht_q, ht16, -⟩
 have q5 := T5
 have hpl_q : (Sha.pad64 (Sha.sched b q)).length = 64 := Sha.pad64_length _ (by rw [Sha.sched_length]; omega)
 obtain ⟨Bq, hBq⟩ : ∃ B, B = Sha.pad64 (Sha.sched b q) := ⟨_, rfl⟩
 have hb21ll : w50.heap[n11]? = some (.cells ((Bq).map fun x => U x).toArray 89 (0, 0)) := blk_eq hb21ll (by rw [hBq])
 rw [← hBq] at hpl_q
 refine sk fun K51 hK51 => (sk fun K52 hK52 => (wt (oM rfl (oS rfl (Yk.eqI (a := (q : Nat)) (b := (64 : Nat)) T5 rfl (k_lss _ _ _ _) (oZ (tN (hK52 _ _ ?_))))))))
 refine wpF_cond ((q) < (64)) (vr (.bool (decide ((q) < (64)))) rfl) (fun hc1 => ?_) (fun hc1 => ?_)
 ·refine wpF_skip (tN (hK51 _ _ (sk fun K53 hK53 => (wpF_block (sk fun K54 hK54 => ?_)))))
  refine wpF_draw [Is (NI q), Is (NI ((q) - (15))), Is (.pointer (some ⟨n11, (q) - (15), none⟩)), Is (U ((Bq).getD ((q) - (15)) 0)), Is (NI q), Is (NI ((q) - (2))), Is (.pointer (some ⟨n11, (q) - (2), none⟩)), Is (U ((Bq).getD ((q) - (2)) 0)), Is (U ((Bq).getD ((q) - (15)) 0)), Is (U ((Bq).getD ((q) - (2)) 0))] (by kernel_rfl) [53, 54, 55, 56, 57, 58, 59, 60, 6, 7] (by kernel_rfl) (by kernel_rfl) (si10 trivial) ?hs2010 ?hQ2010
  case hs2010 =>
   refine ⟨?_, ?_, ?_, ?_, ?_, ?_, ?_, ?_, ?_, ?_, trivial⟩
   ·refine stepN rfl fun σ w1 hC h => ?_
    have e5 := (eqo (h 5 (by decide))).trans T5
    exact Yk.move e5 ⟨Ext.refl _, rfl⟩
   ·refine stepN rfl fun σ w1 hC h => ?_
    have e53 := eqo (h 53 (by decide))
    exact Yk.bin (xv := NI q) (yv := NI 15) e53 rfl rfl (i64_sub _ _ _ (by omega) (by omega)) ⟨Ext.refl _, rfl⟩
   ·refine stepN rfl fun σ w1 hC h => ?_
    have e3 := (eqo (h 3 (by decide))).trans T3
    have e54 := eqo (h 54 (by decide))
    exact Yk.atArr0 (i := (q) - (15)) shaW_ty89 shaW_sz87 e3 e54 (by omega) ⟨Ext.refl _, rfl⟩
   ·refine stepN rfl fun σ w1 hC h => ?_
    have e55 := eqo (h 55 (by decide))
    exact Yk.cell1 shaW_ty87 rfl e55 (cellAt (eb hC hb21ll) (word_at (i := (q) - (15)) (by rw [hpl_q]; omega))) ⟨Ext.refl _, rfl⟩
   ·refine stepN rfl fun σ w1 hC h => ?_
    have e5 := (eqo (h 5 (by decide))).trans T5
    exact Yk.move e5 ⟨Ext.refl _, rfl⟩
   ·refine stepN rfl fun σ w1 hC h => ?_
    have e57 := eqo (h 57 (by decide))
    exact Yk.bin (xv := NI q) (yv := NI 2) e57 rfl rfl (i64_sub _ _ _ (by omega) (by omega)) ⟨Ext.refl _, rfl⟩
   ·refine stepN rfl fun σ w1 hC h => ?_
    have e3 := (eqo (h 3 (by decide))).trans T3
    have e58 := eqo (h 58 (by decide))
    exact Yk.atArr0 (i := (q) - (2)) shaW_ty89 shaW_sz87 e3 e58 (by omega) ⟨Ext.refl _, rfl⟩
   ·refine stepN rfl fun σ w1 hC h => ?_
    have e59 := eqo (h 59 (by decide))
    exact Yk.cell1 shaW_ty87 rfl e59 (cellAt (eb hC hb21ll) (word_at (i := (q) - (2)) (by rw [hpl_q]; omega))) ⟨Ext.refl _, rfl⟩
   ·refine stepN rfl fun σ w1 hC h => ?_
    have e56 := eqo (h 56 (by decide))
    exact Yk.assign e56 ⟨Ext.refl _, rfl⟩
   ·refine stepN rfl fun σ w1 hC h => ?_
    have e60 := eqo (h 60 (by decide))
    exact Yk.assign e60 ⟨Ext.refl _, rfl⟩
  intro ρ55 w56 hx57 he hf
  obtain ⟨-, -, -, -, -, -, -, -, k6, k7, -⟩ := hf
  obtain ⟨T0, T2, T3, T5, T10, -⟩ := he.hold [(0, _), (2, _), (3, _), (5, _), (10, _)] ⟨T0, T2, T3, T5, T10, trivial⟩ rfl
  clear he
  have hE := hE.trans hx57
  have hb8 := eb hx57 hb8
  have hA17 := hA17.trans hx57
  have hb21ll := eb hx57 hb21ll
  have T6 : ρ55 6 = U ((Bq).getD ((q) - (15)) 0) := k6
  have T7 : ρ55 7 = U ((Bq).getD ((q) - (2)) 0) := k7
  clear k6 k7
  refine tN (hK54 _ _ (sk fun K58 hK58 => (wt (oM rfl (oS rfl (Yk.callA2 shaW_pl79 T6 (vr (NI 7) rfl) ((turn_any _ ((Bq).getD ((q) - (15)) 0) 7 (by decide)).mono ?_)))))))
  rintro e w60 ⟨rfl, hx59⟩
  refine ⟨_, rfl, ?_⟩
  have hE := hE.trans hx59
  have hb8 := eb hx59 hb8
  have hA17 := hA17.trans hx59
  have hb21ll := eb hx59 hb21ll
  refine oM rfl (oS rfl (Yk.callA2 shaW_pl79 T6 (vr (NI 18) rfl) ((turn_any _ ((Bq).getD ((q) - (15)) 0) 18 (by decide)).mono ?_)))
  rintro e w62 ⟨rfl, hx61⟩
  refine ⟨_, rfl, ?_⟩
  have hE := hE.trans hx61
  have hb8 := eb hx61 hb8
  have hA17 := hA17.trans hx61
  have hb21ll := eb hx61 hb21ll
  refine oS rfl (Yk.bin (vr (U (Sha.rotr ((Bq).getD ((q) - (15)) 0) 7)) rfl) (vr (U (Sha.rotr ((Bq).getD ((q) - (15)) 0) 18)) rfl) rfl (u_xor _ _ _) (oM rfl (oS rfl (Yk.bin T6 (vr (.int .u64 ((3 : Nat) : Int)) rfl) rfl (u_shr _ _ _ 3 (by decide)) (oS rfl (Yk.bin (vr (U ((Sha.rotr ((Bq).getD ((q) - (15)) 0) 7) ^^^ (Sha.rotr ((Bq).getD ((q) - (15)) 0) 18))) rfl) (vr (U (((Bq).getD ((q) - (15)) 0) >>> 3)) rfl) rfl (u_xor _ _ _) (oA rfl (oZ (tN (hK58 _ _ (sk fun K63 hK63 => (wt (oM rfl (oS rfl (Yk.callA2 shaW_pl79 T7 (vr (NI 17) rfl) ((turn_any _ ((Bq).getD ((q) - (2)) 0) 17 (by decide)).mono ?_))))))))))))))))
  rintro e w65 ⟨rfl, hx64⟩
  refine ⟨_, rfl, ?_⟩
  have hE := hE.trans hx64
  have hb8 := eb hx64 hb8
  have hA17 := hA17.trans hx64
  have hb21ll := eb hx64 hb21ll
  refine oM rfl (oS rfl (Yk.callA2 shaW_pl79 T7 (vr (NI 19) rfl) ((turn_any _ ((Bq).getD ((q) - (2)) 0) 19 (by decide)).mono ?_)))
  rintro e w67 ⟨rfl, hx66⟩
  refine ⟨_, rfl, ?_⟩
  have hE := hE.trans hx66
  have hb8 := eb hx66 hb8
  have hA17 := hA17.trans hx66
  have hb21ll := eb hx66 hb21ll
  refine oS rfl (Yk.bin (vr (U (Sha.rotr ((Bq).getD ((q) - (2)) 0) 17)) rfl) (vr (U (Sha.rotr ((Bq).getD ((q) - (2)) 0) 19)) rfl) rfl (u_xor _ _ _) (oM rfl (oS rfl (Yk.bin T7 (vr (.int .u64 ((10 : Nat) : Int)) rfl) rfl (u_shr _ _ _ 10 (by decide)) (oS rfl (Yk.bin (vr (U ((Sha.rotr ((Bq).getD ((q) - (2)) 0) 17) ^^^ (Sha.rotr ((Bq).getD ((q) - (2)) 0) 19))) rfl) (vr (U (((Bq).getD ((q) - (2)) 0) >>> 10)) rfl) rfl (u_xor _ _ _) (oA rfl (oZ (tN (hK63 _ _ ?_))))))))))
  refine wpF_draw_store 15 (fun (a_ b_ : World) => b_.heap[n11]? = some (.cells (((Bq).set (q) ((((Sha.high ((Bq).getD ((q) - (2)) 0)) + ((Bq).getD ((q) - (7)) 0)) + (Sha.low ((Bq).getD ((q) - (15)) 0))) + ((Bq).getD ((q) - (16)) 0))).map fun x => U x).toArray 89 (0, 0)) ∧ a_.grownBy b_ (some n11) ∧ b_.heap.size = a_.heap.size) [Is (NI q), Is (U (Sha.high ((Bq).getD ((q) - (2)) 0))), Is (NI q), Is (NI ((q) - (7))), Is (.pointer (some ⟨n11, (q) - (7), none⟩)), Is (U ((Bq).getD ((q) - (7)) 0)), Is (U ((Sha.high ((Bq).getD ((q) - (2)) 0)) + ((Bq).getD ((q) - (7)) 0))), Is (U (Sha.low ((Bq).getD ((q) - (15)) 0))), Is (U (((Sha.high ((Bq).getD ((q) - (2)) 0)) + ((Bq).getD ((q) - (7)) 0)) + (Sha.low ((Bq).getD ((q) - (15)) 0)))), Is (NI q), Is (NI ((q) - (16))), Is (.pointer (some ⟨n11, (q) - (16), none⟩)), Is (U ((Bq).getD ((q) - (16)) 0)), Is (U ((((Sha.high ((Bq).getD ((q) - (2)) 0)) + ((Bq).getD ((q) - (7)) 0)) + (Sha.low ((Bq).getD ((q) - (15)) 0))) + ((Bq).getD ((q) - (16)) 0))), Is (PQ n11 q), (fun _ _ => True)] (by kernel_rfl) [77, 78, 79, 80, 81, 82, 83, 84, 85, 86, 87, 88, 89, 90, 91] (by kernel_rfl) (by kernel_rfl) (by kernel_rfl) rfl (si3 (si12 ⟨Stab.any, trivial⟩)) (si3 (si12 ⟨Stab.any, trivial⟩)) ?hs3013 ?hQ3013
  case hs3013 =>
   refine ⟨?_, ?_, ?_, ?_, ?_, ?_, ?_, ?_, ?_, ?_, ?_, ?_, ?_, ?_, ?_, ?_, trivial⟩
   ·refine stepN rfl fun σ w1 hC h => ?_
    have e5 := (eqo (h 5 (by decide))).trans T5
    have hC : Ext _ w1 := hC
    exact Yk.move e5 ⟨Ext.refl _, rfl⟩
   ·refine stepN rfl fun σ w1 hC h => ?_
    have e9 : σ 9 = U (Sha.high ((Bq).getD ((q) - (2)) 0)) := (eqo (h 9 (by decide))).trans rfl
    have hC : Ext _ w1 := hC
    exact Yk.move e9 ⟨Ext.refl _, rfl⟩
   ·refine stepN rfl fun σ w1 hC h => ?_
    have e5 := (eqo (h 5 (by decide))).trans T5
    have hC : Ext _ w1 := hC
    exact Yk.move e5 ⟨Ext.refl _, rfl⟩
   ·refine stepN rfl fun σ w1 hC h => ?_
    have e79 := eqo (h 79 (by decide))
    have hC : Ext _ w1 := hC
    exact Yk.bin (xv := NI q) (yv := NI 7) e79 rfl rfl (i64_sub _ _ _ (by omega) (by omega)) ⟨Ext.refl _, rfl⟩
   ·refine stepN rfl fun σ w1 hC h => ?_
    have e3 := (eqo (h 3 (by decide))).trans T3
    have e80 := eqo (h 80 (by decide))
    have hC : Ext _ w1 := hC
    exact Yk.atArr0 (i := (q) - (7)) shaW_ty89 shaW_sz87 e3 e80 (by omega) ⟨Ext.refl _, rfl⟩
   ·refine stepN rfl fun σ w1 hC h => ?_
    have e81 := eqo (h 81 (by decide))
    have hC : Ext _ w1 := hC
    exact Yk.cell1 shaW_ty87 rfl e81 (cellAt (eb hC hb21ll) (word_at (i := (q) - (7)) (by rw [hpl_q]; omega))) ⟨Ext.refl _, rfl⟩
   ·refine stepN rfl fun σ w1 hC h => ?_
    have e78 := eqo (h 78 (by decide))
    have e82 := eqo (h 82 (by decide))
    have hC : Ext _ w1 := hC
    exact Yk.bin e78 e82 rfl (u_add _ _ _) ⟨Ext.refl _, rfl⟩
   ·refine stepN rfl fun σ w1 hC h => ?_
    have e8 : σ 8 = U (Sha.low ((Bq).getD ((q) - (15)) 0)) := (eqo (h 8 (by decide))).trans rfl
    have hC : Ext _ w1 := hC
    exact Yk.move e8 ⟨Ext.refl _, rfl⟩
   ·refine stepN rfl fun σ w1 hC h => ?_
    have e83 := eqo (h 83 (by decide))
    have e84 := eqo (h 84 (by decide))
    have hC : Ext _ w1 := hC
    exact Yk.bin e83 e84 rfl (u_add _ _ _) ⟨Ext.refl _, rfl⟩
   ·refine stepN rfl fun σ w1 hC h => ?_
    have e5 := (eqo (h 5 (by decide))).trans T5
    have hC : Ext _ w1 := hC
    exact Yk.move e5 ⟨Ext.refl _, rfl⟩
   ·refine stepN rfl fun σ w1 hC h => ?_
    have e86 := eqo (h 86 (by decide))
    have hC : Ext _ w1 := hC
    exact Yk.bin (xv := NI q) (yv := NI 16) e86 rfl rfl (i64_sub _ _ _ (by omega) (by omega)) ⟨Ext.refl _, rfl⟩
   ·refine stepN rfl fun σ w1 hC h => ?_
    have e3 := (eqo (h 3 (by decide))).trans T3
    have e87 := eqo (h 87 (by decide))
    have hC : Ext _ w1 := hC
    exact Yk.atArr0 (i := (q) - (16)) shaW_ty89 shaW_sz87 e3 e87 (by omega) ⟨Ext.refl _, rfl⟩
   ·refine stepN rfl fun σ w1 hC h => ?_
    have e88 := eqo (h 88 (by decide))
    have hC : Ext _ w1 := hC
    exact Yk.cell1 shaW_ty87 rfl e88 (cellAt (eb hC hb21ll) (word_at (i := (q) - (16)) (by rw [hpl_q]; omega))) ⟨Ext.refl _, rfl⟩
   ·refine stepN rfl fun σ w1 hC h => ?_
    have e85 := eqo (h 85 (by decide))
    have e89 := eqo (h 89 (by decide))
    have hC : Ext _ w1 := hC
    exact Yk.bin e85 e89 rfl (u_add _ _ _) ⟨Ext.refl _, rfl⟩
   ·refine stepN rfl fun σ w1 hC h => ?_
    have e3 := (eqo (h 3 (by decide))).trans T3
    have e77 := eqo (h 77 (by decide))
    have hC : Ext _ w1 := hC
    exact Yk.atArr0 (i := q) shaW_ty89 shaW_sz87 e3 e77 (by omega) ⟨Ext.refl _, rfl⟩
   ·refine stepN rfl fun σ w1 hC h => ?_
    have e91 := eqo (h 91 (by decide))
    have e90 := eqo (h 90 (by decide))
    have hC : Ext _ w1 := hC
    exact Yk.storeU32 (i := q) (v := (((Sha.high ((Bq).getD ((q) - (2)) 0)) + ((Bq).getD ((q) - (7)) 0)) + (Sha.low ((Bq).getD ((q) - (15)) 0))) + ((Bq).getD ((q) - (16)) 0)) e91 e90 (eb hC hb21ll) (by rw [hpl_q]; omega) shaW_isz87 fun w2 h1 h2 h3 => ⟨⟨h1, h2, h3⟩, trivial⟩
  intro ρ72 w75 w73 hx74 hS76 he hf
  obtain ⟨-, -, -, -, -, -, -, -, -, -, -, -, -, -, -, -⟩ := hf
  obtain ⟨T0, T2, T3, T5, T6, T7, T8, T9, T10, -⟩ := he.hold [(0, _), (2, _), (3, _), (5, _), (6, _), (7, _), (8, U (Sha.low ((Bq).getD ((q) - (15)) 0))), (9, U (Sha.high ((Bq).getD ((q) - (2)) 0))), (10, _)] ⟨T0, T2, T3, T5, T6, T7, rfl, rfl, T10, trivial⟩ rfl
  clear he
  have hE := hE.trans hx74
  have hb8 := eb hx74 hb8
  have hA17 := hA17.trans hx74
  have hb21ll := eb hx74 hb21ll
  obtain ⟨hb77, hg78, hs79⟩ := hS76
  have hE := row_fresh hE hg78 (Nat.le_trans hz19 (by omega))
  have hb8 := kb hg78 hb8 (by omega)
  have hA17 := row_fresh hA17 hg78 (Nat.le_trans (Nat.le_refl _) (by omega))
  clear hb21ll
  have hb21ll := hb77; clear hb77
  have hl80 := bl hb21ll
  have hb21ll : w73.heap[n11]? = some (.cells ((Sha.pad64 (Sha.sched b (q + 1))).map fun x => U x).toArray 89 (0, 0)) := blk_eq hb21ll (congrArg (List.map fun x => U x) (by rw [hBq]; exact Sha.sched_step2 b q ht16 hc1))
  refine bN (tN (hK53 _ _ (wt (oM rfl (oS rfl (Yk.bin (xv := NI q) (yv := NI 1) T5 rfl rfl (i64_add _ _ _ (by omega)) (oA rfl (oL_ [(0, v), (2, PQ n2 0), (3, PQ n11 0), (5, NI ((q) + (1))), (6, U ((Bq).getD ((q) - (15)) 0)), (7, U ((Bq).getD ((q) - (2)) 0)), (8, U (Sha.low ((Bq).getD ((q) - (15)) 0))), (9, U (Sha.high ((Bq).getD ((q) - (2)) 0))), (10, NI t)] ⟨T0, T2, T3, rfl, T6, T7, T8, T9, T10, trivial⟩ fun ρ81 ⟨T0, T2, T3, T5, T6, T7, T8, T9, T10, _⟩ => (tN (And.intro ⟨q + 1, T0, T2, T3, T10, T5, hE, hb8, hA17, blk_eq hb21ll (rfl), by omega, by omega, trivial⟩ ?_))))))))))
  show 64 - (intOf (ρ81 5)).toNat < 64 - (intOf (ρ49 5)).toNat
  rw [T5, q5]
  simp only [intOf, Int.toNat_natCast]; omega
 obtain ⟨F, hF⟩ : ∃ F, F = Sha.sched b 64 := ⟨_, rfl⟩
 have hb21ll : w50.heap[n11]? = some (.cells ((F).map fun x => U x).toArray 89 (0, 0)) := blk_eq hb21ll (by rw [hBq, show q = 64 by omega, ← hF, Sha.pad64_full _ (by rw [hF, Sha.sched_length])])
 have hFl : F.length = 64 := by rw [hF, Sha.sched_length]
 refine wpF_exit (thenF_exit (thenF_exit (inBlockF_hit (tN (hK46 _ _ (sk fun K82 hK82 => (wt (oS rfl (Yk.loadAll T3 hb21ll shaW_ty89 rfl (by rw [List.size_toArray, List.length_map, hFl]; exact shaW_isz89) (oS rfl (Yk.storeAll T2 (vr (.agg ((F).map fun x => U x).toArray) rfl) hb8 (by rw [List.size_toArray, List.size_toArray, List.length_map, List.length_map, hFl]; rfl) (by rw [List.size_toArray, List.length_map, hFl]; exact shaW_isz89) (cellsU_one _) fun w83 hb84 hg85 hs86 => ?_)))))))))))
 have hE := row_fresh hE hg85 (Nat.le_trans (Nat.le_refl _) (by omega))
 clear hb8
 clear hA17
 have hb21ll := kb hg85 hb21ll (by omega)
 have hb8 := hb84; clear hb84
 have hl87 := bl hb8
 refine oZ (tN (hK82 _ _ (wpF_ret (postF_ret (fn := Tryd.f78) _ rfl [.agg ((F).map fun x => U x).toArray] (.agg ((F).map fun x => U x).toArray) rfl ⟨ResF.row T2 hb8 shaW_ty89 rfl (by rw [List.size_toArray, List.length_map, hFl]; exact shaW_isz89), trivial⟩ ?_))))
 rw [hF]
 exact ⟨rfl, hE⟩

theorem rounds_any (w : World) (hG : Laid w) (s : List UInt32) (hs : s.length = 8) (v : Value) (b : List UInt8) (hb : RB w v b) (hl : b.length = 64) :
  Calls Tryd.prog 69 #[.agg (cellsU s), v] w fun e w' => e = .returned (.agg (cellsU (Sha.rounds s b))) ∧ Ext w w' := by
 refine calls_of_wpF (args := [.agg ((s).map fun x => U x).toArray, v]) Tryd.func69 rfl 120 rfl (Nat.le_of_ble_eq_true rfl) ?_
 intro ρ0 hb
 have T0 : ρ0 0 = (.agg ((s).map fun x => U x).toArray : Value) := hb.get 0
 have T1 : ρ0 1 = (v : Value) := hb.get 1
 clear hb
 have hE := Ext.refl w
 refine sk fun K1 hK1 => (wt (oS rfl (Yk.box (cs := ((s).map fun x => U x : List Value).toArray) T0 fun n2 w3 hn4 hb5 hx6 hs7 => ?_)))
 have hE := hE.trans hx6
 have hb8 := hb5; clear hb5
 have hl9 : n2 < w3.heap.size := by omega
 refine oS rfl (Yk.alloc (cs := ((List.replicate 8 0).map fun x => U x).toArray) shaW_al88 fun n10 w11 hn12 hb13 hx14 hs15 => ?_)
 have hA16 := Ext.refl w3
 have hea17 := hE
 have hz18 := hE.size
 have hlt19 := lte (bl hb8) hn12
 have hE := hE.trans hx14
 have hb8 := eb hx14 hb8
 have hA16 := hA16.trans hx14
 have hb20 := hb13; clear hb13
 have hl21 : n10 < w11.heap.size := by omega
 refine oZ (tN (hK1 _ _ (sk fun K22 hK22 => (wt (oS rfl (Yk.loadAll (vr (PQ n2 0) rfl) hb8 shaW_ty88 rfl (by rw [List.size_toArray, List.length_map, hs]; exact shaW_isz88) (oS rfl (Yk.alloc (cs := ((List.replicate 8 0).map fun x => U x).toArray) shaW_al88 fun n23 w24 hn25 hb26 hx27 hs28 => ?_))))))))
 have hA29 := Ext.refl w11
 have hea30 := hE
 have hea31 := hA16
 have hz32 := hE.size
 have hz33 := hA16.size
 have hlt34 := lte (bl hb8) hn25
 have hlt35 := lte (bl hb20) hn25
 have hE := hE.trans hx27
 have hb8 := eb hx27 hb8
 have hA16 := hA16.trans hx27
 have hb20 := eb hx27 hb20
 have hA29 := hA29.trans hx27
 have hb36 := hb26; clear hb26
 have hl37 : n23 < w24.heap.size := by omega
 refine oS rfl (Yk.storeAll (vr (PQ n23 0) rfl) (vr (.agg ((s).map fun x => U x).toArray) rfl) hb36 (by rw [List.size_toArray, List.size_toArray, List.length_map, List.length_map, hs]; rfl) (by rw [List.size_toArray, List.length_map, hs]; exact shaW_isz88) (cellsU_one _) fun w38 hb39 hg40 hs41 => ?_)
 have hE := row_fresh hE hg40 (Nat.le_trans hz32 (by omega))
 have hb8 := kb hg40 hb8 (by omega)
 have hA16 := row_fresh hA16 hg40 (Nat.le_trans hz33 (by omega))
 have hb20 := kb hg40 hb20 (by omega)
 have hA29 := row_fresh hA29 hg40 (Nat.le_trans (Nat.le_refl _) (by omega))
 clear hb36
 have hb36 := hb39; clear hb39
 have hl42 := bl hb36
 refine oZ (tN (hK22 _ _ (sk fun K43 hK43 => (sk fun K44 hK44 => (wt (oM rfl (oS rfl (Yk.callA1 shaW_pl78 T1 ((schedule_any _ v b (hb.keep hE) hl).mono ?_)))))))))
 rintro e w46 ⟨rfl, hx45⟩
 refine ⟨_, rfl, ?_⟩
 have hE := hE.trans hx45
 have hb8 := eb hx45 hb8
 have hA16 := hA16.trans hx45
 have hb20 := eb hx45 hb20
 have hA29 := hA29.trans hx45
 have hb36 := eb hx45 hb36
 refine oM rfl (oL_ [(0, .agg ((s).map fun x => U x).toArray), (1, v), (2, PQ n2 0), (4, PQ n10 0), (5, PQ n23 0), (16, .agg ((Sha.sched b 64).map fun x => U x).toArray), (17, NI 0)] ⟨T0, T1, rfl, rfl, rfl, rfl, rfl, trivial⟩ fun ρ47 ⟨T0, T1, T2, T4, T5, T16, T17, _⟩ => (tN (hK44 _ _ (wpF_block (wpF_loop (fun (ρ : Slots) (wz : World) => ∃ t : Nat, ρ 0 = (.agg ((s).map fun x => U x).toArray : Value) ∧ ρ 1 = (v : Value) ∧ ρ 2 = (PQ n2 0 : Value) ∧ ρ 4 = (PQ n10 0 : Value) ∧ ρ 5 = (PQ n23 0 : Value) ∧ ρ 16 = (.agg ((Sha.sched b 64).map fun x => U x).toArray : Value) ∧ ρ 17 = (NI t : Value) ∧ Ext w wz ∧ wz.heap[n2]? = some (.cells ((s).map fun x => U x).toArray 88 (0, 0)) ∧ Ext w3 wz ∧ wz.heap[n10]? = some (.cells ((List.replicate 8 0).map fun x => U x).toArray 88 (0, 0)) ∧ Ext w11 wz ∧ wz.heap[n23]? = some (.cells (((Sha.turned s (Sha.sched b 64) t)).map fun x => U x).toArray 88 (0, 0)) ∧ (t ≤ 64) ∧ True) (fun ρ _ => 64 - (intOf (ρ 17)).toNat) ⟨0, T0, T1, T2, T4, T5, T16, T17, hE, hb8, hA16, hb20, hA29, blk_eq hb36 (rfl), Nat.zero_le _, trivial⟩ ?_)))))
 clear hb36
 clear hE hb8 hA16 hb20 hA29
 rintro ρ48 w49 ⟨t, T0, T1, T2, T4, T5, T16, T17, hE, hb8, hA16, hb20, hA29, hb36l, ht, -⟩
 have q17 := T17
 obtain ⟨V, hV⟩ : ∃ V, V = (Sha.turned s (Sha.sched b 64) t) := ⟨_, rfl⟩
 have hb36l : w49.heap[n23]? = some (.cells ((V).map fun x => U x).toArray 88 (0, 0)) := blk_eq hb36l (by rw [hV])
 have hvl : V.length = 8 := by rw [hV]; exact Sha.turned_length _ _ hs _
 refine sk fun K50 hK50 => (wt (oS rfl (Yk.eqI (a := (t : Nat)) (b := (64 : Nat)) T17 rfl (k_lss _ _ _ _) (oZ (tN (hK50 _ _ (sk fun K51 hK51 => ?_)))))))
 refine wpF_cond ((t) < (64)) (vr (.bool (decide ((t) < (64)))) rfl) (fun hc0 => ?_) (fun hc0 => ?_)
 ·refine wpF_skip (tN (hK51 _ _ (sk fun K52 hK52 => (wpF_block (sk fun K53 hK53 => (wt (oM rfl (oS rfl (Yk.idxU (l := Sha.sched b 64) (i := t) shaW_ty89 shaW_ty87 rfl shaW_sz87 T16 T17 (by omega) (Sha.sched_length _ _) (oA rfl (oA rfl (oZ (tN (hK53 _ _ (sk fun K54 hK54 => ?_)))))))))))))))
  refine wpF_draw [Is (PQ n23 4), Is (U ((V).getD (4) 0)), Is (U (Sha.rotr ((V).getD (4) 0) 6)), Is (PQ n23 4), Is (U ((V).getD (4) 0)), Is (U (Sha.rotr ((V).getD (4) 0) 11)), Is (U ((Sha.rotr ((V).getD (4) 0) 6) ^^^ (Sha.rotr ((V).getD (4) 0) 11))), Is (PQ n23 4), Is (U ((V).getD (4) 0)), Is (U (Sha.rotr ((V).getD (4) 0) 25)), Is (U (((Sha.rotr ((V).getD (4) 0) 6) ^^^ (Sha.rotr ((V).getD (4) 0) 11)) ^^^ (Sha.rotr ((V).getD (4) 0) 25))), Is (U (((Sha.rotr ((V).getD (4) 0) 6) ^^^ (Sha.rotr ((V).getD (4) 0) 11)) ^^^ (Sha.rotr ((V).getD (4) 0) 25)))] (by kernel_rfl) [21, 22, 23, 24, 25, 26, 27, 28, 29, 30, 31, 8] (by kernel_rfl) (by kernel_rfl) (si12 trivial) ?hs1005 ?hQ1005
  case hs1005 =>
   refine ⟨?_, ?_, ?_, ?_, ?_, ?_, ?_, ?_, ?_, ?_, ?_, ?_, trivial⟩
   ·refine stepN rfl fun σ w1 hC h => ?_
    have e5 := (eqo (h 5 (by decide))).trans T5
    exact Yk.atArr0 (i := 4) shaW_ty88 shaW_sz87 e5 (vr (NI 4) rfl) (by omega) ⟨Ext.refl _, rfl⟩
   ·refine stepN rfl fun σ w1 hC h => ?_
    have e21 := eqo (h 21 (by decide))
    exact Yk.cell1 shaW_ty87 rfl e21 (cellAt (eb hC hb36l) (word_at (i := 4) (by rw [hvl]; omega))) ⟨Ext.refl _, rfl⟩
   ·refine stepN rfl fun σ w1 hC h => ?_
    have e22 := eqo (h 22 (by decide))
    refine Yk.callA2 shaW_pl79 e22 (vr (NI 6) rfl) ((turn_any _ ((V).getD (4) 0) 6 (by decide)).mono ?_)
    rintro e w2 ⟨rfl, hx⟩
    exact ⟨_, rfl, hx, rfl⟩
   ·refine stepN rfl fun σ w1 hC h => ?_
    have e5 := (eqo (h 5 (by decide))).trans T5
    exact Yk.atArr0 (i := 4) shaW_ty88 shaW_sz87 e5 (vr (NI 4) rfl) (by omega) ⟨Ext.refl _, rfl⟩
   ·refine stepN rfl fun σ w1 hC h => ?_
    have e24 := eqo (h 24 (by decide))
    exact Yk.cell1 shaW_ty87 rfl e24 (cellAt (eb hC hb36l) (word_at (i := 4) (by rw [hvl]; omega))) ⟨Ext.refl _, rfl⟩
   ·refine stepN rfl fun σ w1 hC h => ?_
    have e25 := eqo (h 25 (by decide))
    refine Yk.callA2 shaW_pl79 e25 (vr (NI 11) rfl) ((turn_any _ ((V).getD (4) 0) 11 (by decide)).mono ?_)
    rintro e w2 ⟨rfl, hx⟩
    exact ⟨_, rfl, hx, rfl⟩
   ·refine stepN rfl fun σ w1 hC h => ?_
    have e23 := eqo (h 23 (by decide))
    have e26 := eqo (h 26 (by decide))
    exact Yk.bin e23 e26 rfl (u_xor _ _ _) ⟨Ext.refl _, rfl⟩
   ·refine stepN rfl fun σ w1 hC h => ?_
    have e5 := (eqo (h 5 (by decide))).trans T5
    exact Yk.atArr0 (i := 4) shaW_ty88 shaW_sz87 e5 (vr (NI 4) rfl) (by omega) ⟨Ext.refl _, rfl⟩
   ·refine stepN rfl fun σ w1 hC h => ?_
    have e28 := eqo (h 28 (by decide))
    exact Yk.cell1 shaW_ty87 rfl e28 (cellAt (eb hC hb36l) (word_at (i := 4) (by rw [hvl]; omega))) ⟨Ext.refl _, rfl⟩
   ·refine stepN rfl fun σ w1 hC h => ?_
    have e29 := eqo (h 29 (by decide))
    refine Yk.callA2 shaW_pl79 e29 (vr (NI 25) rfl) ((turn_any _ ((V).getD (4) 0) 25 (by decide)).mono ?_)
    rintro e w2 ⟨rfl, hx⟩
    exact ⟨_, rfl, hx, rfl⟩
   ·refine stepN rfl fun σ w1 hC h => ?_
    have e27 := eqo (h 27 (by decide))
    have e30 := eqo (h 30 (by decide))
    exact Yk.bin e27 e30 rfl (u_xor _ _ _) ⟨Ext.refl _, rfl⟩
   ·refine stepN rfl fun σ w1 hC h => ?_
    have e31 := eqo (h 31 (by decide))
    exact Yk.assign e31 ⟨Ext.refl _, rfl⟩
  intro ρ55 w56 hx57 he hf
  obtain ⟨-, -, -, -, -, -, -, -, -, -, -, k8, -⟩ := hf
  obtain ⟨T0, T1, T2, T4, T5, T6, T7, T16, T17, -⟩ := he.hold [(0, _), (1, _), (2, _), (4, _), (5, _), (6, _), (7, U ((Sha.sched b 64).getD (t) 0)), (16, _), (17, _)] ⟨T0, T1, T2, T4, T5, T17, rfl, T16, T17, trivial⟩ rfl
  clear he
  have hE := hE.trans hx57
  have hb8 := eb hx57 hb8
  have hA16 := hA16.trans hx57
  have hb20 := eb hx57 hb20
  have hA29 := hA29.trans hx57
  have hb36l := eb hx57 hb36l
  have T8 : ρ55 8 = U (((Sha.rotr ((V).getD (4) 0) 6) ^^^ (Sha.rotr ((V).getD (4) 0) 11)) ^^^ (Sha.rotr ((V).getD (4) 0) 25)) := k8
  clear k8
  refine tN (hK54 _ _ (sk fun K58 hK58 => (wt (oS rfl (Yk.atArr0 (i := 4) shaW_ty88 shaW_sz87 T5 (vr (NI 4) rfl) (by omega) (oS rfl (Yk.cell1 shaW_ty87 rfl (vr (PQ n23 4) rfl) (cellAt hb36l (word_at (i := 4) (by rw [hvl]; omega))) (oS rfl (Yk.atArr0 (i := 5) shaW_ty88 shaW_sz87 T5 (vr (NI 5) rfl) (by omega) (oS rfl (Yk.cell1 shaW_ty87 rfl (vr (PQ n23 5) rfl) (cellAt hb36l (word_at (i := 5) (by rw [hvl]; omega))) (oS rfl (Yk.bin (vr (U ((V).getD (4) 0)) rfl) (vr (U ((V).getD (5) 0)) rfl) rfl (u_and _ _ _) (oS rfl (Yk.atArr0 (i := 4) shaW_ty88 shaW_sz87 T5 (vr (NI 4) rfl) (by omega) (oS rfl (Yk.cell1 shaW_ty87 rfl (vr (PQ n23 4) rfl) (cellAt hb36l (word_at (i := 4) (by rw [hvl]; omega))) (oS rfl (Yk.not32 (vr (U ((V).getD (4) 0)) rfl) (oS rfl (Yk.atArr0 (i := 6) shaW_ty88 shaW_sz87 T5 (vr (NI 6) rfl) (by omega) (oS rfl (Yk.cell1 shaW_ty87 rfl (vr (PQ n23 6) rfl) (cellAt hb36l (word_at (i := 6) (by rw [hvl]; omega))) (oS rfl (Yk.bin (vr (U (~~~((V).getD (4) 0))) rfl) (vr (U ((V).getD (6) 0)) rfl) rfl (u_and _ _ _) (oS rfl (Yk.bin (vr (U (((V).getD (4) 0) &&& ((V).getD (5) 0))) rfl) (vr (U ((~~~((V).getD (4) 0)) &&& ((V).getD (6) 0))) rfl) rfl (u_xor _ _ _) (oA rfl ?_))))))))))))))))))))))))))))
  refine oZ (tN (hK58 _ _ (sk fun K59 hK59 => ?_)))
  refine wpF_draw [Is (PQ n23 7), Is (U ((V).getD (7) 0)), Is (U (((Sha.rotr ((V).getD (4) 0) 6) ^^^ (Sha.rotr ((V).getD (4) 0) 11)) ^^^ (Sha.rotr ((V).getD (4) 0) 25))), Is (U (((V).getD (7) 0) + (((Sha.rotr ((V).getD (4) 0) 6) ^^^ (Sha.rotr ((V).getD (4) 0) 11)) ^^^ (Sha.rotr ((V).getD (4) 0) 25)))), Is (U ((((V).getD (4) 0) &&& ((V).getD (5) 0)) ^^^ ((~~~((V).getD (4) 0)) &&& ((V).getD (6) 0)))), Is (U ((((V).getD (7) 0) + (((Sha.rotr ((V).getD (4) 0) 6) ^^^ (Sha.rotr ((V).getD (4) 0) 11)) ^^^ (Sha.rotr ((V).getD (4) 0) 25))) + ((((V).getD (4) 0) &&& ((V).getD (5) 0)) ^^^ ((~~~((V).getD (4) 0)) &&& ((V).getD (6) 0))))), Is (NI t), Is (PQ 1 t), Is (U (Sha.words.getD (t) 0)), Is (U (((((V).getD (7) 0) + (((Sha.rotr ((V).getD (4) 0) 6) ^^^ (Sha.rotr ((V).getD (4) 0) 11)) ^^^ (Sha.rotr ((V).getD (4) 0) 25))) + ((((V).getD (4) 0) &&& ((V).getD (5) 0)) ^^^ ((~~~((V).getD (4) 0)) &&& ((V).getD (6) 0)))) + (Sha.words.getD (t) 0))), Is (U ((Sha.sched b 64).getD (t) 0)), Is (U ((((((V).getD (7) 0) + (((Sha.rotr ((V).getD (4) 0) 6) ^^^ (Sha.rotr ((V).getD (4) 0) 11)) ^^^ (Sha.rotr ((V).getD (4) 0) 25))) + ((((V).getD (4) 0) &&& ((V).getD (5) 0)) ^^^ ((~~~((V).getD (4) 0)) &&& ((V).getD (6) 0)))) + (Sha.words.getD (t) 0)) + ((Sha.sched b 64).getD (t) 0))), Is (U ((((((V).getD (7) 0) + (((Sha.rotr ((V).getD (4) 0) 6) ^^^ (Sha.rotr ((V).getD (4) 0) 11)) ^^^ (Sha.rotr ((V).getD (4) 0) 25))) + ((((V).getD (4) 0) &&& ((V).getD (5) 0)) ^^^ ((~~~((V).getD (4) 0)) &&& ((V).getD (6) 0)))) + (Sha.words.getD (t) 0)) + ((Sha.sched b 64).getD (t) 0)))] (by kernel_rfl) [44, 45, 46, 47, 48, 49, 50, 51, 52, 53, 54, 55, 10] (by kernel_rfl) (by kernel_rfl) ⟨Stab.is _, (si12 trivial)⟩ ?hs2007 ?hQ2007
  case hs2007 =>
   refine ⟨?_, ?_, ?_, ?_, ?_, ?_, ?_, ?_, ?_, ?_, ?_, ?_, ?_, trivial⟩
   ·refine stepN rfl fun σ w1 hC h => ?_
    have e5 := (eqo (h 5 (by decide))).trans T5
    exact Yk.atArr0 (i := 7) shaW_ty88 shaW_sz87 e5 (vr (NI 7) rfl) (by omega) ⟨Ext.refl _, rfl⟩
   ·refine stepN rfl fun σ w1 hC h => ?_
    have e44 := eqo (h 44 (by decide))
    exact Yk.cell1 shaW_ty87 rfl e44 (cellAt (eb hC hb36l) (word_at (i := 7) (by rw [hvl]; omega))) ⟨Ext.refl _, rfl⟩
   ·refine stepN rfl fun σ w1 hC h => ?_
    have e8 := (eqo (h 8 (by decide))).trans T8
    exact Yk.move e8 ⟨Ext.refl _, rfl⟩
   ·refine stepN rfl fun σ w1 hC h => ?_
    have e45 := eqo (h 45 (by decide))
    have e46 := eqo (h 46 (by decide))
    exact Yk.bin e45 e46 rfl (u_add _ _ _) ⟨Ext.refl _, rfl⟩
   ·refine stepN rfl fun σ w1 hC h => ?_
    have e9 : σ 9 = U ((((V).getD (4) 0) &&& ((V).getD (5) 0)) ^^^ ((~~~((V).getD (4) 0)) &&& ((V).getD (6) 0))) := (eqo (h 9 (by decide))).trans rfl
    exact Yk.move e9 ⟨Ext.refl _, rfl⟩
   ·refine stepN rfl fun σ w1 hC h => ?_
    have e47 := eqo (h 47 (by decide))
    have e48 := eqo (h 48 (by decide))
    exact Yk.bin e47 e48 rfl (u_add _ _ _) ⟨Ext.refl _, rfl⟩
   ·refine stepN rfl fun σ w1 hC h => ?_
    have e6 := (eqo (h 6 (by decide))).trans T6
    exact Yk.move e6 ⟨Ext.refl _, rfl⟩
   ·refine stepN rfl fun σ w1 hC h => ?_
    have e50 := eqo (h 50 (by decide))
    exact Yk.atArr0 (i := t) shaW_ty89 shaW_sz87 (vr (PQ 1 0) rfl) e50 (by omega) ⟨Ext.refl _, rfl⟩
   ·refine stepN rfl fun σ w1 hC h => ?_
    have e51 := eqo (h 51 (by decide))
    exact Yk.cell1 shaW_ty87 rfl e51 (by obtain ⟨tG_, fG_, hG_⟩ := Laid.words (hG.keep (hE.trans hC)); exact cellAt (l := Sha.words.map fun x => U x) hG_ (word_at (l := Sha.words) (i := t) (by show _ < 64; omega))) ⟨Ext.refl _, rfl⟩
   ·refine stepN rfl fun σ w1 hC h => ?_
    have e49 := eqo (h 49 (by decide))
    have e52 := eqo (h 52 (by decide))
    exact Yk.bin e49 e52 rfl (u_add _ _ _) ⟨Ext.refl _, rfl⟩
   ·refine stepN rfl fun σ w1 hC h => ?_
    have e7 := (eqo (h 7 (by decide))).trans T7
    exact Yk.move e7 ⟨Ext.refl _, rfl⟩
   ·refine stepN rfl fun σ w1 hC h => ?_
    have e53 := eqo (h 53 (by decide))
    have e54 := eqo (h 54 (by decide))
    exact Yk.bin e53 e54 rfl (u_add _ _ _) ⟨Ext.refl _, rfl⟩
   ·refine stepN rfl fun σ w1 hC h => ?_
    have e55 := eqo (h 55 (by decide))
    exact Yk.assign e55 ⟨Ext.refl _, rfl⟩
  intro ρ60 w61 hx62 he hf
  obtain ⟨-, -, -, -, -, -, -, -, -, -, -, -, k10, -⟩ := hf
  obtain ⟨T0, T1, T2, T4, T5, T6, T7, T8, T9, T16, T17, -⟩ := he.hold [(0, _), (1, _), (2, _), (4, _), (5, _), (6, _), (7, _), (8, _), (9, U ((((V).getD (4) 0) &&& ((V).getD (5) 0)) ^^^ ((~~~((V).getD (4) 0)) &&& ((V).getD (6) 0)))), (16, _), (17, _)] ⟨T0, T1, T2, T4, T5, T6, T7, T8, rfl, T16, T17, trivial⟩ rfl
  clear he
  have hE := hE.trans hx62
  have hb8 := eb hx62 hb8
  have hA16 := hA16.trans hx62
  have hb20 := eb hx62 hb20
  have hA29 := hA29.trans hx62
  have hb36l := eb hx62 hb36l
  have T10 : ρ60 10 = U ((((((V).getD (7) 0) + (((Sha.rotr ((V).getD (4) 0) 6) ^^^ (Sha.rotr ((V).getD (4) 0) 11)) ^^^ (Sha.rotr ((V).getD (4) 0) 25))) + ((((V).getD (4) 0) &&& ((V).getD (5) 0)) ^^^ ((~~~((V).getD (4) 0)) &&& ((V).getD (6) 0)))) + (Sha.words.getD (t) 0)) + ((Sha.sched b 64).getD (t) 0)) := k10
  clear k10
  refine tN (hK59 _ _ (sk fun K63 hK63 => ?_))
  refine wpF_draw [Is (PQ n23 0), Is (U ((V).getD (0) 0)), Is (U (Sha.rotr ((V).getD (0) 0) 2)), Is (PQ n23 0), Is (U ((V).getD (0) 0)), Is (U (Sha.rotr ((V).getD (0) 0) 13)), Is (U ((Sha.rotr ((V).getD (0) 0) 2) ^^^ (Sha.rotr ((V).getD (0) 0) 13))), Is (PQ n23 0), Is (U ((V).getD (0) 0)), Is (U (Sha.rotr ((V).getD (0) 0) 22)), Is (U (((Sha.rotr ((V).getD (0) 0) 2) ^^^ (Sha.rotr ((V).getD (0) 0) 13)) ^^^ (Sha.rotr ((V).getD (0) 0) 22))), Is (U (((Sha.rotr ((V).getD (0) 0) 2) ^^^ (Sha.rotr ((V).getD (0) 0) 13)) ^^^ (Sha.rotr ((V).getD (0) 0) 22)))] (by kernel_rfl) [56, 57, 58, 59, 60, 61, 62, 63, 64, 65, 66, 11] (by kernel_rfl) (by kernel_rfl) (si12 trivial) ?hs3008 ?hQ3008
  case hs3008 =>
   refine ⟨?_, ?_, ?_, ?_, ?_, ?_, ?_, ?_, ?_, ?_, ?_, ?_, trivial⟩
   ·refine stepN rfl fun σ w1 hC h => ?_
    have e5 := (eqo (h 5 (by decide))).trans T5
    exact Yk.atArr0 (i := 0) shaW_ty88 shaW_sz87 e5 (vr (NI 0) rfl) (by omega) ⟨Ext.refl _, rfl⟩
   ·refine stepN rfl fun σ w1 hC h => ?_
    have e56 := eqo (h 56 (by decide))
    exact Yk.cell1 shaW_ty87 rfl e56 (cellAt (eb hC hb36l) (word_at (i := 0) (by rw [hvl]; omega))) ⟨Ext.refl _, rfl⟩
   ·refine stepN rfl fun σ w1 hC h => ?_
    have e57 := eqo (h 57 (by decide))
    refine Yk.callA2 shaW_pl79 e57 (vr (NI 2) rfl) ((turn_any _ ((V).getD (0) 0) 2 (by decide)).mono ?_)
    rintro e w2 ⟨rfl, hx⟩
    exact ⟨_, rfl, hx, rfl⟩
   ·refine stepN rfl fun σ w1 hC h => ?_
    have e5 := (eqo (h 5 (by decide))).trans T5
    exact Yk.atArr0 (i := 0) shaW_ty88 shaW_sz87 e5 (vr (NI 0) rfl) (by omega) ⟨Ext.refl _, rfl⟩
   ·refine stepN rfl fun σ w1 hC h => ?_
    have e59 := eqo (h 59 (by decide))
    exact Yk.cell1 shaW_ty87 rfl e59 (cellAt (eb hC hb36l) (word_at (i := 0) (by rw [hvl]; omega))) ⟨Ext.refl _, rfl⟩
   ·refine stepN rfl fun σ w1 hC h => ?_
    have e60 := eqo (h 60 (by decide))
    refine Yk.callA2 shaW_pl79 e60 (vr (NI 13) rfl) ((turn_any _ ((V).getD (0) 0) 13 (by decide)).mono ?_)
    rintro e w2 ⟨rfl, hx⟩
    exact ⟨_, rfl, hx, rfl⟩
   ·refine stepN rfl fun σ w1 hC h => ?_
    have e58 := eqo (h 58 (by decide))
    have e61 := eqo (h 61 (by decide))
    exact Yk.bin e58 e61 rfl (u_xor _ _ _) ⟨Ext.refl _, rfl⟩
   ·refine stepN rfl fun σ w1 hC h => ?_
    have e5 := (eqo (h 5 (by decide))).trans T5
    exact Yk.atArr0 (i := 0) shaW_ty88 shaW_sz87 e5 (vr (NI 0) rfl) (by omega) ⟨Ext.refl _, rfl⟩
   ·refine stepN rfl fun σ w1 hC h => ?_
    have e63 := eqo (h 63 (by decide))
    exact Yk.cell1 shaW_ty87 rfl e63 (cellAt (eb hC hb36l) (word_at (i := 0) (by rw [hvl]; omega))) ⟨Ext.refl _, rfl⟩
   ·refine stepN rfl fun σ w1 hC h => ?_
    have e64 := eqo (h 64 (by decide))
    refine Yk.callA2 shaW_pl79 e64 (vr (NI 22) rfl) ((turn_any _ ((V).getD (0) 0) 22 (by decide)).mono ?_)
    rintro e w2 ⟨rfl, hx⟩
    exact ⟨_, rfl, hx, rfl⟩
   ·refine stepN rfl fun σ w1 hC h => ?_
    have e62 := eqo (h 62 (by decide))
    have e65 := eqo (h 65 (by decide))
    exact Yk.bin e62 e65 rfl (u_xor _ _ _) ⟨Ext.refl _, rfl⟩
   ·refine stepN rfl fun σ w1 hC h => ?_
    have e66 := eqo (h 66 (by decide))
    exact Yk.assign e66 ⟨Ext.refl _, rfl⟩
  intro ρ64 w65 hx66 he hf
  obtain ⟨-, -, -, -, -, -, -, -, -, -, -, k11, -⟩ := hf
  obtain ⟨T0, T1, T2, T4, T5, T6, T7, T8, T9, T10, T16, T17, -⟩ := he.hold [(0, _), (1, _), (2, _), (4, _), (5, _), (6, _), (7, _), (8, _), (9, _), (10, _), (16, _), (17, _)] ⟨T0, T1, T2, T4, T5, T6, T7, T8, T9, T10, T16, T17, trivial⟩ rfl
  clear he
  have hE := hE.trans hx66
  have hb8 := eb hx66 hb8
  have hA16 := hA16.trans hx66
  have hb20 := eb hx66 hb20
  have hA29 := hA29.trans hx66
  have hb36l := eb hx66 hb36l
  have T11 : ρ64 11 = U (((Sha.rotr ((V).getD (0) 0) 2) ^^^ (Sha.rotr ((V).getD (0) 0) 13)) ^^^ (Sha.rotr ((V).getD (0) 0) 22)) := k11
  clear k11
  refine tN (hK63 _ _ (sk fun K67 hK67 => (wt (oS rfl (Yk.atArr0 (i := 0) shaW_ty88 shaW_sz87 T5 (vr (NI 0) rfl) (by omega) (oS rfl (Yk.cell1 shaW_ty87 rfl (vr (PQ n23 0) rfl) (cellAt hb36l (word_at (i := 0) (by rw [hvl]; omega))) (oS rfl (Yk.atArr0 (i := 1) shaW_ty88 shaW_sz87 T5 (vr (NI 1) rfl) (by omega) (oS rfl (Yk.cell1 shaW_ty87 rfl (vr (PQ n23 1) rfl) (cellAt hb36l (word_at (i := 1) (by rw [hvl]; omega))) (oS rfl (Yk.bin (vr (U ((V).getD (0) 0)) rfl) (vr (U ((V).getD (1) 0)) rfl) rfl (u_and _ _ _) (oS rfl (Yk.atArr0 (i := 0) shaW_ty88 shaW_sz87 T5 (vr (NI 0) rfl) (by omega) (oS rfl (Yk.cell1 shaW_ty87 rfl (vr (PQ n23 0) rfl) (cellAt hb36l (word_at (i := 0) (by rw [hvl]; omega))) (oS rfl (Yk.atArr0 (i := 2) shaW_ty88 shaW_sz87 T5 (vr (NI 2) rfl) (by omega) (oS rfl (Yk.cell1 shaW_ty87 rfl (vr (PQ n23 2) rfl) (cellAt hb36l (word_at (i := 2) (by rw [hvl]; omega))) (oS rfl (Yk.bin (vr (U ((V).getD (0) 0)) rfl) (vr (U ((V).getD (2) 0)) rfl) rfl (u_and _ _ _) (oS rfl (Yk.bin (vr (U (((V).getD (0) 0) &&& ((V).getD (1) 0))) rfl) (vr (U (((V).getD (0) 0) &&& ((V).getD (2) 0))) rfl) rfl (u_xor _ _ _) (oS rfl (Yk.atArr0 (i := 1) shaW_ty88 shaW_sz87 T5 (vr (NI 1) rfl) (by omega) (oS rfl (Yk.cell1 shaW_ty87 rfl (vr (PQ n23 1) rfl) (cellAt hb36l (word_at (i := 1) (by rw [hvl]; omega))) ?_)))))))))))))))))))))))))))))
  refine oS rfl (Yk.atArr0 (i := 2) shaW_ty88 shaW_sz87 T5 (vr (NI 2) rfl) (by omega) (oS rfl (Yk.cell1 shaW_ty87 rfl (vr (PQ n23 2) rfl) (cellAt hb36l (word_at (i := 2) (by rw [hvl]; omega))) (oS rfl (Yk.bin (vr (U ((V).getD (1) 0)) rfl) (vr (U ((V).getD (2) 0)) rfl) rfl (u_and _ _ _) (oS rfl (Yk.bin (vr (U ((((V).getD (0) 0) &&& ((V).getD (1) 0)) ^^^ (((V).getD (0) 0) &&& ((V).getD (2) 0)))) rfl) (vr (U (((V).getD (1) 0) &&& ((V).getD (2) 0))) rfl) rfl (u_xor _ _ _) (oA rfl (oZ (tN (hK67 _ _ (wt (oM rfl (oM rfl (oS rfl (Yk.bin T10 T11 rfl (u_add _ _ _) (oM rfl (oS rfl (Yk.bin (vr (U (((((((V).getD (7) 0) + (((Sha.rotr ((V).getD (4) 0) 6) ^^^ (Sha.rotr ((V).getD (4) 0) 11)) ^^^ (Sha.rotr ((V).getD (4) 0) 25))) + ((((V).getD (4) 0) &&& ((V).getD (5) 0)) ^^^ ((~~~((V).getD (4) 0)) &&& ((V).getD (6) 0)))) + (Sha.words.getD (t) 0)) + ((Sha.sched b 64).getD (t) 0)) + (((Sha.rotr ((V).getD (0) 0) 2) ^^^ (Sha.rotr ((V).getD (0) 0) 13)) ^^^ (Sha.rotr ((V).getD (0) 0) 22)))) rfl) (vr (U (((((V).getD (0) 0) &&& ((V).getD (1) 0)) ^^^ (((V).getD (0) 0) &&& ((V).getD (2) 0))) ^^^ (((V).getD (1) 0) &&& ((V).getD (2) 0)))) rfl) rfl (u_add _ _ _) (oS rfl (Yk.atArr0 (i := 0) shaW_ty88 shaW_sz87 T5 (vr (NI 0) rfl) (by omega) (oS rfl (Yk.cell1 shaW_ty87 rfl (vr (PQ n23 0) rfl) (cellAt hb36l (word_at (i := 0) (by rw [hvl]; omega))) (oS rfl (Yk.atArr0 (i := 1) shaW_ty88 shaW_sz87 T5 (vr (NI 1) rfl) (by omega) ?_)))))))))))))))))))))))))
  refine oS rfl (Yk.cell1 shaW_ty87 rfl (vr (PQ n23 1) rfl) (cellAt hb36l (word_at (i := 1) (by rw [hvl]; omega))) (oS rfl (Yk.atArr0 (i := 2) shaW_ty88 shaW_sz87 T5 (vr (NI 2) rfl) (by omega) (oS rfl (Yk.cell1 shaW_ty87 rfl (vr (PQ n23 2) rfl) (cellAt hb36l (word_at (i := 2) (by rw [hvl]; omega))) (oS rfl (Yk.atArr0 (i := 3) shaW_ty88 shaW_sz87 T5 (vr (NI 3) rfl) (by omega) (oS rfl (Yk.cell1 shaW_ty87 rfl (vr (PQ n23 3) rfl) (cellAt hb36l (word_at (i := 3) (by rw [hvl]; omega))) (oM rfl (oS rfl (Yk.bin (vr (U ((V).getD (3) 0)) rfl) T10 rfl (u_add _ _ _) (oS rfl (Yk.atArr0 (i := 4) shaW_ty88 shaW_sz87 T5 (vr (NI 4) rfl) (by omega) (oS rfl (Yk.cell1 shaW_ty87 rfl (vr (PQ n23 4) rfl) (cellAt hb36l (word_at (i := 4) (by rw [hvl]; omega))) (oS rfl (Yk.atArr0 (i := 5) shaW_ty88 shaW_sz87 T5 (vr (NI 5) rfl) (by omega) (oS rfl (Yk.cell1 shaW_ty87 rfl (vr (PQ n23 5) rfl) (cellAt hb36l (word_at (i := 5) (by rw [hvl]; omega))) (oS rfl (Yk.atArr0 (i := 6) shaW_ty88 shaW_sz87 T5 (vr (NI 6) rfl) (by omega) (oS rfl (Yk.cell1 shaW_ty87 rfl (vr (PQ n23 6) rfl) (cellAt hb36l (word_at (i := 6) (by rw [hvl]; omega))) (oS rfl (Yk.build8 (vr (U ((((((((V).getD (7) 0) + (((Sha.rotr ((V).getD (4) 0) 6) ^^^ (Sha.rotr ((V).getD (4) 0) 11)) ^^^ (Sha.rotr ((V).getD (4) 0) 25))) + ((((V).getD (4) 0) &&& ((V).getD (5) 0)) ^^^ ((~~~((V).getD (4) 0)) &&& ((V).getD (6) 0)))) + (Sha.words.getD (t) 0)) + ((Sha.sched b 64).getD (t) 0)) + (((Sha.rotr ((V).getD (0) 0) 2) ^^^ (Sha.rotr ((V).getD (0) 0) 13)) ^^^ (Sha.rotr ((V).getD (0) 0) 22))) + (((((V).getD (0) 0) &&& ((V).getD (1) 0)) ^^^ (((V).getD (0) 0) &&& ((V).getD (2) 0))) ^^^ (((V).getD (1) 0) &&& ((V).getD (2) 0))))) rfl) (vr (U ((V).getD (0) 0)) rfl) (vr (U ((V).getD (1) 0)) rfl) (vr (U ((V).getD (2) 0)) rfl) (vr (U (((V).getD (3) 0) + ((((((V).getD (7) 0) + (((Sha.rotr ((V).getD (4) 0) 6) ^^^ (Sha.rotr ((V).getD (4) 0) 11)) ^^^ (Sha.rotr ((V).getD (4) 0) 25))) + ((((V).getD (4) 0) &&& ((V).getD (5) 0)) ^^^ ((~~~((V).getD (4) 0)) &&& ((V).getD (6) 0)))) + (Sha.words.getD (t) 0)) + ((Sha.sched b 64).getD (t) 0)))) rfl) (vr (U ((V).getD (4) 0)) rfl) (vr (U ((V).getD (5) 0)) rfl) (vr (U ((V).getD (6) 0)) rfl) (fun w => shaW_bA8 _ _ _ _ _ _ _ _ w) (oS rfl (Yk.storeAll T5 (vr (.agg ((Sha.round V (Sha.words.getD (t) 0) ((Sha.sched b 64).getD (t) 0)).map fun x => U x).toArray) rfl) hb36l (by rw [List.size_toArray, List.size_toArray, List.length_map, List.length_map, hvl]; rfl) (shaW_isz88) (cellsU_one _) fun w68 hb69 hg70 hs71 => ?_))))))))))))))))))))))))))))
  have hE := row_fresh hE hg70 (Nat.le_trans hz32 (by omega))
  have hb8 := kb hg70 hb8 (by omega)
  have hA16 := row_fresh hA16 hg70 (Nat.le_trans hz33 (by omega))
  have hb20 := kb hg70 hb20 (by omega)
  have hA29 := row_fresh hA29 hg70 (Nat.le_trans (Nat.le_refl _) (by omega))
  clear hb36l
  have hb36l := hb69; clear hb69
  have hl72 := bl hb36l
  refine oL_ [(0, .agg ((s).map fun x => U x).toArray), (1, v), (2, PQ n2 0), (4, PQ n10 0), (5, PQ n23 0), (6, NI t), (7, U ((Sha.sched b 64).getD (t) 0)), (8, U (((Sha.rotr ((V).getD (4) 0) 6) ^^^ (Sha.rotr ((V).getD (4) 0) 11)) ^^^ (Sha.rotr ((V).getD (4) 0) 25))), (9, U ((((V).getD (4) 0) &&& ((V).getD (5) 0)) ^^^ ((~~~((V).getD (4) 0)) &&& ((V).getD (6) 0)))), (10, U ((((((V).getD (7) 0) + (((Sha.rotr ((V).getD (4) 0) 6) ^^^ (Sha.rotr ((V).getD (4) 0) 11)) ^^^ (Sha.rotr ((V).getD (4) 0) 25))) + ((((V).getD (4) 0) &&& ((V).getD (5) 0)) ^^^ ((~~~((V).getD (4) 0)) &&& ((V).getD (6) 0)))) + (Sha.words.getD (t) 0)) + ((Sha.sched b 64).getD (t) 0))), (11, U (((Sha.rotr ((V).getD (0) 0) 2) ^^^ (Sha.rotr ((V).getD (0) 0) 13)) ^^^ (Sha.rotr ((V).getD (0) 0) 22))), (12, U (((((V).getD (0) 0) &&& ((V).getD (1) 0)) ^^^ (((V).getD (0) 0) &&& ((V).getD (2) 0))) ^^^ (((V).getD (1) 0) &&& ((V).getD (2) 0)))), (16, .agg ((Sha.sched b 64).map fun x => U x).toArray), (17, NI t)] ⟨T0, T1, T2, T4, T5, T6, T7, T8, T9, T10, T11, rfl, T16, T17, trivial⟩ fun ρ73 ⟨T0, T1, T2, T4, T5, T6, T7, T8, T9, T10, T11, T12, T16, T17, _⟩ => (bN (tN (hK52 _ _ (wt (oS rfl (Yk.bin (xv := NI t) (yv := NI 1) T17 rfl rfl (i64_add _ _ _ (by omega)) (oM rfl (oL_ [(0, .agg ((s).map fun x => U x).toArray), (1, v), (2, PQ n2 0), (4, PQ n10 0), (5, PQ n23 0), (6, NI t), (7, U ((Sha.sched b 64).getD (t) 0)), (8, U (((Sha.rotr ((V).getD (4) 0) 6) ^^^ (Sha.rotr ((V).getD (4) 0) 11)) ^^^ (Sha.rotr ((V).getD (4) 0) 25))), (9, U ((((V).getD (4) 0) &&& ((V).getD (5) 0)) ^^^ ((~~~((V).getD (4) 0)) &&& ((V).getD (6) 0)))), (10, U ((((((V).getD (7) 0) + (((Sha.rotr ((V).getD (4) 0) 6) ^^^ (Sha.rotr ((V).getD (4) 0) 11)) ^^^ (Sha.rotr ((V).getD (4) 0) 25))) + ((((V).getD (4) 0) &&& ((V).getD (5) 0)) ^^^ ((~~~((V).getD (4) 0)) &&& ((V).getD (6) 0)))) + (Sha.words.getD (t) 0)) + ((Sha.sched b 64).getD (t) 0))), (11, U (((Sha.rotr ((V).getD (0) 0) 2) ^^^ (Sha.rotr ((V).getD (0) 0) 13)) ^^^ (Sha.rotr ((V).getD (0) 0) 22))), (12, U (((((V).getD (0) 0) &&& ((V).getD (1) 0)) ^^^ (((V).getD (0) 0) &&& ((V).getD (2) 0))) ^^^ (((V).getD (1) 0) &&& ((V).getD (2) 0)))), (16, .agg ((Sha.sched b 64).map fun x => U x).toArray), (17, NI ((t) + (1)))] ⟨T0, T1, T2, T4, T5, T6, T7, T8, T9, T10, T11, T12, T16, rfl, trivial⟩ fun ρ74 ⟨T0, T1, T2, T4, T5, T6, T7, T8, T9, T10, T11, T12, T16, T17, _⟩ => (tN (And.intro ⟨t + 1, T0, T1, T2, T4, T5, T16, T17, hE, hb8, hA16, hb20, hA29, blk_eq hb36l (congrArg (List.map fun x => U x) (by rw [hV]; rfl)), by omega, trivial⟩ ?_))))))))))
  show 64 - (intOf (ρ74 17)).toNat < 64 - (intOf (ρ48 17)).toNat
  rw [T17, q17]
  simp only [intOf, Int.toNat_natCast]; omega
 obtain ⟨T, hT⟩ : ∃ T, T = Sha.turned s (Sha.sched b 64) 64 := ⟨_, rfl⟩
 have hTl : T.length = 8 := by rw [hT, Sha.turned_length _ _ hs]
 have hb36l : w49.heap[n23]? = some (.cells ((T).map fun x => U x).toArray 88 (0, 0)) := blk_eq hb36l (by rw [hV, show t = 64 by omega, ← hT])
 refine wpF_exit (thenF_exit (thenF_exit (inBlockF_hit (tN (hK43 _ _ (sk fun K75 hK75 => (sk fun K76 hK76 => (wt (oM rfl (oL_ [(0, .agg ((s).map fun x => U x).toArray), (1, v), (2, PQ n2 0), (4, PQ n10 0), (5, PQ n23 0), (16, .agg ((Sha.sched b 64).map fun x => U x).toArray), (17, NI t), (107, NI 0)] ⟨T0, T1, T2, T4, T5, T16, T17, rfl, trivial⟩ fun ρ77 ⟨T0, T1, T2, T4, T5, T16, T17, T107, _⟩ => (tN (hK76 _ _ (wpF_block (wpF_loop (fun (ρ : Slots) (wz : World) => ∃ i : Nat, ρ 0 = (.agg ((s).map fun x => U x).toArray : Value) ∧ ρ 1 = (v : Value) ∧ ρ 2 = (PQ n2 0 : Value) ∧ ρ 4 = (PQ n10 0 : Value) ∧ ρ 5 = (PQ n23 0 : Value) ∧ ρ 16 = (.agg ((Sha.sched b 64).map fun x => U x).toArray : Value) ∧ ρ 17 = (NI t : Value) ∧ ρ 107 = (NI i : Value) ∧ Ext w wz ∧ wz.heap[n2]? = some (.cells ((s).map fun x => U x).toArray 88 (0, 0)) ∧ Ext w3 wz ∧ wz.heap[n10]? = some (.cells ((List.replicate 8 0).map fun x => U x).toArray 88 (0, 0)) ∧ Ext w11 wz ∧ wz.heap[n23]? = some (.cells ((Sha.adding T s i).map fun x => U x).toArray 88 (0, 0)) ∧ (i ≤ 8) ∧ True) (fun ρ _ => 8 - (intOf (ρ 107)).toNat) ⟨0, T0, T1, T2, T4, T5, T16, T17, T107, hE, hb8, hA16, hb20, hA29, blk_eq hb36l (rfl), Nat.zero_le _, trivial⟩ ?_))))))))))))))
 clear hb36l
 clear hE hb8 hA16 hb20 hA29
 rintro ρ78 w79 ⟨i, T0, T1, T2, T4, T5, T16, T17, T107, hE, hb8, hA16, hb20, hA29, hb36ll, hi, -⟩
 have q107 := T107
 have hal : (Sha.adding T s i).length = 8 := by rw [Sha.adding_length, hTl]
 refine sk fun K80 hK80 => (wt (oS rfl (Yk.eqI (a := (i : Nat)) (b := (8 : Nat)) T107 rfl (k_lss _ _ _ _) (oZ (tN (hK80 _ _ (sk fun K81 hK81 => ?_)))))))
 refine wpF_cond ((i) < (8)) (vr (.bool (decide ((i) < (8)))) rfl) (fun hc1 => ?_) (fun hc1 => ?_)
 ·refine wpF_skip (tN (hK81 _ _ (sk fun K82 hK82 => (wpF_block (sk fun K83 hK83 => (wt (oM rfl (oA rfl (oZ (tN (hK83 _ _ ?_)))))))))))
  refine wpF_draw_store 8 (fun (a_ b_ : World) => b_.heap[n23]? = some (.cells (((Sha.adding T s i).set (i) (((Sha.adding T s i).getD (i) 0) + ((s).getD (i) 0))).map fun x => U x).toArray 88 (0, 0)) ∧ a_.grownBy b_ (some n23) ∧ b_.heap.size = a_.heap.size) [Is (NI i), Is (PQ n23 i), Is (U ((Sha.adding T s i).getD (i) 0)), Is (NI i), Is (PQ n2 i), Is (U ((s).getD (i) 0)), Is (U (((Sha.adding T s i).getD (i) 0) + ((s).getD (i) 0))), Is (PQ n23 i), (fun _ _ => True)] (by kernel_rfl) [110, 111, 112, 113, 114, 115, 116, 117] (by kernel_rfl) (by kernel_rfl) (by kernel_rfl) rfl (si8 ⟨Stab.any, trivial⟩) (si8 ⟨Stab.any, trivial⟩) ?hs4015 ?hQ4015
  case hs4015 =>
   refine ⟨?_, ?_, ?_, ?_, ?_, ?_, ?_, ?_, ?_, trivial⟩
   ·refine stepN rfl fun σ w1 hC h => ?_
    have e13 := (eqo (h 13 (by decide))).trans T107
    have hC : Ext _ w1 := hC
    exact Yk.move e13 ⟨Ext.refl _, rfl⟩
   ·refine stepN rfl fun σ w1 hC h => ?_
    have e5 := (eqo (h 5 (by decide))).trans T5
    have e110 := eqo (h 110 (by decide))
    have hC : Ext _ w1 := hC
    exact Yk.atArr0 (i := i) shaW_ty88 shaW_sz87 e5 e110 (by omega) ⟨Ext.refl _, rfl⟩
   ·refine stepN rfl fun σ w1 hC h => ?_
    have e111 := eqo (h 111 (by decide))
    have hC : Ext _ w1 := hC
    exact Yk.cell1 shaW_ty87 rfl e111 (cellAt (eb hC hb36ll) (word_at (i := i) (by rw [hal]; omega))) ⟨Ext.refl _, rfl⟩
   ·refine stepN rfl fun σ w1 hC h => ?_
    have e13 := (eqo (h 13 (by decide))).trans T107
    have hC : Ext _ w1 := hC
    exact Yk.move e13 ⟨Ext.refl _, rfl⟩
   ·refine stepN rfl fun σ w1 hC h => ?_
    have e2 := (eqo (h 2 (by decide))).trans T2
    have e113 := eqo (h 113 (by decide))
    have hC : Ext _ w1 := hC
    exact Yk.atArr0 (i := i) shaW_ty88 shaW_sz87 e2 e113 (by omega) ⟨Ext.refl _, rfl⟩
   ·refine stepN rfl fun σ w1 hC h => ?_
    have e114 := eqo (h 114 (by decide))
    have hC : Ext _ w1 := hC
    exact Yk.cell1 shaW_ty87 rfl e114 (cellAt (eb hC hb8) (word_at (i := i) (by rw [hs]; omega))) ⟨Ext.refl _, rfl⟩
   ·refine stepN rfl fun σ w1 hC h => ?_
    have e112 := eqo (h 112 (by decide))
    have e115 := eqo (h 115 (by decide))
    have hC : Ext _ w1 := hC
    exact Yk.bin e112 e115 rfl (u_add _ _ _) ⟨Ext.refl _, rfl⟩
   ·refine stepN rfl fun σ w1 hC h => ?_
    have e5 := (eqo (h 5 (by decide))).trans T5
    have e110 := eqo (h 110 (by decide))
    have hC : Ext _ w1 := hC
    exact Yk.atArr0 (i := i) shaW_ty88 shaW_sz87 e5 e110 (by omega) ⟨Ext.refl _, rfl⟩
   ·refine stepN rfl fun σ w1 hC h => ?_
    have e117 := eqo (h 117 (by decide))
    have e116 := eqo (h 116 (by decide))
    have hC : Ext _ w1 := hC
    exact Yk.storeU32 (i := i) (v := ((Sha.adding T s i).getD (i) 0) + ((s).getD (i) 0)) e117 e116 (eb hC hb36ll) (by rw [hal]; omega) shaW_isz87 fun w2 h1 h2 h3 => ⟨⟨h1, h2, h3⟩, trivial⟩
  intro ρ88 w91 w89 hx90 hS92 he hf
  obtain ⟨-, -, -, -, -, -, -, -, -⟩ := hf
  obtain ⟨T0, T1, T2, T4, T5, T13, T16, T17, T107, -⟩ := he.hold [(0, _), (1, _), (2, _), (4, _), (5, _), (13, _), (16, _), (17, _), (107, _)] ⟨T0, T1, T2, T4, T5, T107, T16, T17, T107, trivial⟩ rfl
  clear he
  have hE := hE.trans hx90
  have hb8 := eb hx90 hb8
  have hA16 := hA16.trans hx90
  have hb20 := eb hx90 hb20
  have hA29 := hA29.trans hx90
  have hb36ll := eb hx90 hb36ll
  obtain ⟨hb93, hg94, hs95⟩ := hS92
  have hE := row_fresh hE hg94 (Nat.le_trans hz32 (by omega))
  have hb8 := kb hg94 hb8 (by omega)
  have hA16 := row_fresh hA16 hg94 (Nat.le_trans hz33 (by omega))
  have hb20 := kb hg94 hb20 (by omega)
  have hA29 := row_fresh hA29 hg94 (Nat.le_trans (Nat.le_refl _) (by omega))
  clear hb36ll
  have hb36ll := hb93; clear hb93
  have hl96 := bl hb36ll
  have hb36ll : w89.heap[n23]? = some (.cells ((Sha.adding T s (i + 1)).map fun x => U x).toArray 88 (0, 0)) := blk_eq hb36ll (rfl)
  refine bN (tN (hK82 _ _ (wt (oS rfl (Yk.bin (xv := NI i) (yv := NI 1) T107 rfl rfl (i64_add _ _ _ (by omega)) (oM rfl (oL_ [(0, .agg ((s).map fun x => U x).toArray), (1, v), (2, PQ n2 0), (4, PQ n10 0), (5, PQ n23 0), (13, NI i), (16, .agg ((Sha.sched b 64).map fun x => U x).toArray), (17, NI t), (107, NI ((i) + (1)))] ⟨T0, T1, T2, T4, T5, T13, T16, T17, rfl, trivial⟩ fun ρ97 ⟨T0, T1, T2, T4, T5, T13, T16, T17, T107, _⟩ => (tN (And.intro ⟨i + 1, T0, T1, T2, T4, T5, T16, T17, T107, hE, hb8, hA16, hb20, hA29, blk_eq hb36ll (rfl), by omega, trivial⟩ ?_)))))))))
  show 8 - (intOf (ρ97 107)).toNat < 8 - (intOf (ρ78 107)).toNat
  rw [T107, q107]
  simp only [intOf, Int.toNat_natCast]; omega
 obtain ⟨Q, hQ⟩ : ∃ Q, Q = Sha.rounds s b := ⟨_, rfl⟩
 have hAl : Q.length = 8 := by rw [hQ, Sha.rounds_length _ _ hs]
 have hb36ll : w79.heap[n23]? = some (.cells ((Q).map fun x => U x).toArray 88 (0, 0)) := blk_eq hb36ll (congrArg (List.map fun x => U x) ((Sha.adding_end hs hTl hi hc1).trans (by rw [hQ, hT]; rfl)))
 refine wpF_exit (thenF_exit (thenF_exit (inBlockF_hit (tN (hK75 _ _ (sk fun K98 hK98 => (wt (oS rfl (Yk.loadAll T5 hb36ll shaW_ty88 rfl (by rw [List.size_toArray, List.length_map, hAl]; exact shaW_isz88) (oS rfl (Yk.storeAll T4 (vr (.agg ((Q).map fun x => U x).toArray) rfl) hb20 (by rw [List.size_toArray, List.size_toArray, List.length_map, List.length_map, hAl]; rfl) (by rw [List.size_toArray, List.length_map, hAl]; exact shaW_isz88) (cellsU_one _) fun w99 hb100 hg101 hs102 => ?_)))))))))))
 have hE := row_fresh hE hg101 (Nat.le_trans hz18 (by omega))
 have hb8 := kb hg101 hb8 (by omega)
 have hA16 := row_fresh hA16 hg101 (Nat.le_trans (Nat.le_refl _) (by omega))
 clear hb20
 clear hA29
 have hb36ll := kb hg101 hb36ll (by omega)
 have hb20 := hb100; clear hb100
 have hl103 := bl hb20
 refine oZ (tN (hK98 _ _ (wpF_ret (postF_ret (fn := Tryd.f69) _ rfl [.agg ((Q).map fun x => U x).toArray] (.agg ((Q).map fun x => U x).toArray) rfl ⟨ResF.row T4 hb20 shaW_ty88 rfl (by rw [List.size_toArray, List.length_map, hAl]; exact shaW_isz88), trivial⟩ ?_))))
 rw [hQ]
 exact ⟨rfl, hE⟩
namespace Sha
theorem blocks_snoc : ∀ (k : Nat) (s : List UInt32) (b : List UInt8), blocks s b (k + 1) = rounds (blocks s b k) ((b.drop (64 * k)).take 64)
  | 0, s, b => by simp [blocks]
  | k + 1, s, b => by
    rw [blocks, blocks_snoc k, blocks, List.drop_drop]
    rw [show 64 + 64 * k = 64 * (k + 1) by omega]
theorem blocks_append : ∀ (k : Nat) (s : List UInt32) (b c : List UInt8), 64 * k ≤ b.length → blocks s (b ++ c) k = blocks s b k
  | 0, _, _, _, _ => rfl
  | k + 1, s, b, c, h => by
    rw [blocks, blocks, List.take_append_of_le_length (by omega), List.drop_append_of_le_length (by omega), blocks_append k _ _ _ (by rw [List.length_drop]; omega)]
structure At (p : List UInt8) (s : List UInt32) (r : List UInt8) : Prop where
  state : s = blocks first p (p.length / 64)
  len : r.length = 64
  rest : r.take (p.length % 64) = p.drop (64 * (p.length / 64))
theorem At.slen {p : List UInt8} {s : List UInt32} {r : List UInt8} (h : At p s r) : s.length = 8 := by rw [h.state]; exact blocks_length _ _ _ rfl
theorem At.put {p : List UInt8} {s : List UInt32} {r : List UInt8} (h : At p s r) (x : List UInt8) (hx : p.length % 64 + x.length < 64) :
    At (p ++ x) s (r.take (p.length % 64) ++ x ++ r.drop (p.length % 64 + x.length)) := by
  have hl : (p ++ x).length = p.length + x.length := List.length_append
  have hd : (p ++ x).length / 64 = p.length / 64 := by rw [hl]; omega
  have hm : (p ++ x).length % 64 = p.length % 64 + x.length := by rw [hl]; omega
  have hr := h.len
  refine ⟨?_, ?_, ?_⟩
  · rw [hd, blocks_append _ _ _ _ (by omega)]; exact h.state
  · simp only [List.length_append, List.length_take, List.length_drop]; omega
  · have e : (r.take (p.length % 64) ++ x).length = p.length % 64 + x.length := by rw [List.length_append, List.length_take]; omega
    rw [hm, hd, List.take_append_of_le_length (by omega), List.take_of_length_le (by omega), h.rest, List.drop_append_of_le_length (by omega)]
theorem At.fill {p : List UInt8} {s : List UInt32} {r : List UInt8} (h : At p s r) (x : List UInt8) (hx : p.length % 64 + x.length = 64) :
    At (p ++ x) (rounds s (r.take (p.length % 64) ++ x)) (r.take (p.length % 64) ++ x) := by
  have hl : (p ++ x).length = p.length + x.length := List.length_append
  have hd : (p ++ x).length / 64 = p.length / 64 + 1 := by rw [hl]; omega
  have hm : (p ++ x).length % 64 = 0 := by rw [hl]; omega
  have hr := h.len
  have e : (r.take (p.length % 64) ++ x).length = 64 := by rw [List.length_append, List.length_take]; omega
  refine ⟨?_, e, ?_⟩
  · rw [hd, blocks_snoc, blocks_append _ _ _ _ (by omega), ← h.state, List.drop_append_of_le_length (by omega), ← h.rest]
    exact congrArg _ (List.take_of_length_le (Nat.le_of_eq e)).symm
  · rw [hm, hd, List.take_zero, List.drop_of_length_le (by omega)]
theorem at_nil : At [] first (List.replicate 64 0) := ⟨rfl, by simp, by simp⟩
end Sha
open Go.RowKit
section
variable {P : Program}
theorem Yk.sliceArrL {K : Value → World → Prop} {ρ : Tmp → Value} {t e : TypeId} {n : Nat} (ht : P.underlying t = some (.array n e)) (he : ∀ w' : World, (sizeOf e).run P w' = .ok 1 w') {x lo : Operand} {d : Option Tmp} {ty : TypeId} {pos : String} {af : Array Edge} {gd : Option (Nat × Bool)} {w : World} {b o i : Nat} {k : IntKind}
    (hx : evalR ρ x = .pointer (some ⟨b, o, none⟩)) (hl : evalR ρ lo = .int k (i : Int)) (hi : i < n) (hk : K (.slice (some ⟨b, o + i, none⟩) (n - i) (n - i)) w) : Yk P K ((execOp (evalR ρ) ⟨d, .slice t x (some lo) none none, ty, pos, af, gd⟩).run P w) := by
  refine Yk.value (v := .slice (some ⟨b, o + i, none⟩) (n - i) (n - i)) (w' := w) ?_ hk
  have hE : P.elem t = e := by simp [Program.elem, ht]
  have hN : P.arrayLen t = n := by simp [Program.arrayLen, ht]
  have hr := run_sliceAt_array_l (P := P) (w := w) (t := t) (a := ⟨b, o, none⟩) (by rw [hE, hN]; exact ht) k (i : Int) (by omega) (by rw [hN]; omega)
  rw [hE, he, hN] at hr
  unfold execOp
  simp only [hx, hl, Option.map_some, Option.map_none, Sem.run_bind, hr, Result.andThen_ok, Sem.run_pure]
  have : n ≠ i := by omega
  simp [slicedAt, this, Addr.add_lit]
theorem Yk.sliceArr {K : Value → World → Prop} {ρ : Tmp → Value} {t e : TypeId} {n : Nat} (ht : P.underlying t = some (.array n e)) (he : ∀ w' : World, (sizeOf e).run P w' = .ok 1 w') {x : Operand} {d : Option Tmp} {ty : TypeId} {pos : String} {af : Array Edge} {gd : Option (Nat × Bool)} {w : World} {b o : Nat}
    (hx : evalR ρ x = .pointer (some ⟨b, o, none⟩)) (hk : K (.slice (some ⟨b, o, none⟩) n n) w) : Yk P K ((execOp (evalR ρ) ⟨d, .slice t x none none none, ty, pos, af, gd⟩).run P w) := by
  refine Yk.value (v := .slice (some ⟨b, o, none⟩) n n) (w' := w) ?_ hk
  have hE : P.elem t = e := by simp [Program.elem, ht]
  have hN : P.arrayLen t = n := by simp [Program.arrayLen, ht]
  have hr := run_sliceAt_array_all (P := P) (w := w) (t := t) (a := ⟨b, o, none⟩) (by rw [hE, hN]; exact ht)
  rw [hE, he, hN] at hr
  unfold execOp
  simp only [hx, Option.map_none, Sem.run_bind, hr, Result.andThen_ok, Sem.run_pure]
  simp [slicedAt, Addr.add_lit]
theorem cell_at {w : World} {b : Nat} {l : List Value} {t : TypeId} {fr : Nat × Nat} (h : w.heap[b]? = some (.cells l.toArray t fr)) {i : Nat} {v : Value} (hi : l[i]? = some v) : w.cell? ⟨b, i, none⟩ = some v := by
  simp [World.cell?, h, hi]
end
def hashL (s : List UInt32) (r : List UInt8) (f n : Nat) : List Value := (s.map fun x => U x) ++ (Lib.byteCells r ++ [NI f, NI n])
theorem hashL_length {s : List UInt32} {r : List UInt8} {f n : Nat} (hs : s.length = 8) (hr : r.length = 64) : (hashL s r f n).length = 74 := by
  simp [hashL, Lib.byteCells, hs, hr]
theorem hashL_fill {s : List UInt32} {r : List UInt8} {f n : Nat} (hs : s.length = 8) (hr : r.length = 64) : (hashL s r f n)[72]? = some (NI f) := by
  unfold hashL
  rw [List.getElem?_append_right (by simp [hs]), List.getElem?_append_right (by simp [Lib.byteCells, hs, hr])]
  simp [Lib.byteCells, hs, hr]
theorem hashL_size {s : List UInt32} {r : List UInt8} {f n : Nat} (hs : s.length = 8) (hr : r.length = 64) : (hashL s r f n)[73]? = some (NI n) := by
  unfold hashL
  rw [List.getElem?_append_right (by simp [hs]), List.getElem?_append_right (by simp [Lib.byteCells, hs, hr])]
  simp [Lib.byteCells, hs, hr]
theorem hashL_setFill {s : List UInt32} {r : List UInt8} {f n g : Nat} (hs : s.length = 8) (hr : r.length = 64) : (hashL s r f n).set 72 (NI g) = hashL s r g n := by
  unfold hashL
  rw [List.set_append_right _ _ (by simp [hs]), List.set_append_right _ _ (by simp [Lib.byteCells, hs, hr])]
  simp [Lib.byteCells, hs, hr]
theorem hashL_setSize {s : List UInt32} {r : List UInt8} {f n g : Nat} (hs : s.length = 8) (hr : r.length = 64) : (hashL s r f n).set 73 (NI g) = hashL s r f g := by
  unfold hashL
  rw [List.set_append_right _ _ (by simp [hs]), List.set_append_right _ _ (by simp [Lib.byteCells, hs, hr])]
  simp [Lib.byteCells, hs, hr]
theorem hashL_rest {s : List UInt32} {r x : List UInt8} {f n at_ : Nat} (hs : s.length = 8) (hr : r.length = 64) (hx : at_ + x.length ≤ 64) :
    (hashL s r f n).take (8 + at_) ++ Lib.byteCells x ++ (hashL s r f n).drop (8 + at_ + x.length) = hashL s (r.take at_ ++ x ++ r.drop (at_ + x.length)) f n := by
  unfold hashL
  have h8 : (s.map fun x => U x).length = 8 := by simp [hs]
  have hb : (Lib.byteCells r).length = 64 := by simp [Lib.byteCells, hr]
  rw [List.take_append, List.drop_append, h8, List.take_of_length_le (by omega), List.drop_of_length_le (l := s.map fun x => U x) (by omega)]
  rw [show 8 + at_ - 8 = at_ by omega, show 8 + at_ + x.length - 8 = at_ + x.length by omega, List.nil_append]
  rw [List.take_append_of_le_length (by omega), List.drop_append_of_le_length (by omega)]
  simp [Lib.byteCells, List.map_take, List.map_drop]
theorem hashL_state {s s' : List UInt32} {r : List UInt8} {f n : Nat} (hs : s.length = 8) : (s'.map fun x => U x) ++ (hashL s r f n).drop 8 = hashL s' r f n := by
  unfold hashL
  rw [List.drop_left' (by simp [hs])]
theorem hashL_get {s : List UInt32} {r : List UInt8} {f n : Nat} {j : Nat} {v : Value} (h : (s.map fun x => U x)[j]? = some v) : (hashL s r f n)[j]? = some v := by
  unfold hashL
  rw [List.getElem?_append_left (List.getElem?_eq_some_iff.1 h).1]
  exact h
theorem range_state {w : World} {g : Nat} {s : List UInt32} {r : List UInt8} {f n : Nat} {t : TypeId} {fr : Nat × Nat} (h : w.heap[g]? = some (.cells (hashL s r f n).toArray t fr)) : w.rangeAt g 0 (s.map fun x => U x) := fun j v hv => by
  rw [Nat.zero_add]
  exact cell_at h (hashL_get hv)
theorem rb_rest {w : World} {g : Nat} {s : List UInt32} {r : List UInt8} {f n : Nat} {t : TypeId} {fr : Nat × Nat} (hs : s.length = 8) (hr : r.length = 64) (h : w.heap[g]? = some (.cells (hashL s r f n).toArray t fr)) : RB w (.slice (some ⟨g, 8, none⟩) 64 64) r := by
  refine ⟨by simp [Lib.byteCells], some ⟨g, 8, none⟩, 64, by rw [hr], by rw [hr]; exact Nat.le_refl _, by decide, fun e => by simp at e, fun a ha j v hv => ?_⟩
  cases ha
  rw [Addr.add_lit]
  refine cell_at h ?_
  unfold hashL
  have h8 : (s.map fun x => U x).length = 8 := by simp [hs]
  rw [List.getElem?_append_right (by omega), h8, show 8 + j - 8 = j by omega, List.getElem?_append_left (List.getElem?_eq_some_iff.1 hv).1]
  exact hv
theorem Laid.kept {w w' : World} (h : Laid w) {g : Nat} (hg : w.grownBy w' (some g)) (h1 : 1 < g) : Laid w' :=
  ⟨by obtain ⟨t, fr, h2⟩ := h.first; exact ⟨t, fr, (hg.block 0 (Array.getElem?_eq_some_iff.1 h2).1 (by simp; omega)).trans h2⟩, by obtain ⟨t, fr, h2⟩ := h.words; exact ⟨t, fr, (hg.block 1 (Array.getElem?_eq_some_iff.1 h2).1 (by simp; omega)).trans h2⟩⟩
open Go.RowKit
theorem Grew.after {w w1 w2 : World} {v v' : Value} (h : Ext w w1) (g : Grew w1 w2 v v') : Grew w w2 v v' :=
  ⟨grownBy_trans (row_none h.grown _) g.by_ (fun _ hb => .inl hb), fun k hk => (g.fresh k hk).imp (fun x => x) (fun x => Nat.le_trans h.size x)⟩
theorem run_loadBytes {P : Program} {w : World} : ∀ (l : List UInt8) (a : Addr) (acc : ByteArray), (∀ j u, (Lib.byteCells l)[j]? = some u → w.cell? (a.add j) = some u) → (Extern.Bytes.loadBytes a l.length acc).run P w = .ok ⟨acc.data ++ l.toArray⟩ w
  | [], a, acc, _ => by simp [Extern.Bytes.loadBytes, Sem.run_pure]
  | b :: r, a, acc, h => by
    have h0 := h 0 (B8 b) (by simp [Lib.byteCells])
    have ha : a.add 0 = a := by unfold Addr.add; split <;> simp_all
    rw [ha] at h0
    have ih := run_loadBytes (P := P) (w := w) r (a.add 1) (acc.push b) (fun j u hj => by
      rw [addr_add_add]
      refine h (1 + j) u ?_
      rw [Nat.add_comm]
      simpa [Lib.byteCells] using hj)
    have hb : (((b.toNat : Nat) : Int)).toNat.toUInt8 = b := by simp
    have hl : (load a).run P w = .ok (B8 b) w := by simp [load, Sem.run, h0]
    simp only [List.length_cons, Extern.Bytes.loadBytes, Sem.run_bind, hl, Result.andThen_ok]
    rw [hb, ih]
    simp
theorem run_bytesOf {P : Program} {w : World} {v : Value} {l : List UInt8} (h : RB w v l) : (Extern.Bytes.bytesOf v).run P w = .ok ⟨l.toArray⟩ w := by
  obtain ⟨h1, ao, cap, rfl, h2, h3, h4, h5⟩ := h
  cases ao with
  | none =>
    have : l = [] := List.eq_nil_of_length_eq_zero (h4 rfl).1
    subst this
    rfl
  | some a =>
    have := run_loadBytes (P := P) (w := w) l a .empty (h5 a rfl)
    simpa [Extern.Bytes.bytesOf] using this
theorem run_compareRB {P : Program} {w : World} {x y : Value} {l m : List UInt8} (hx : RB w x l) (hy : RB w y m) : (Extern.BytealgCompare.compare #[x, y]).run P w = .ok (.int .i64 (Lib.compareBytes l m)) w := by
  change Sem.run P (do pure (goInt (Extern.BytealgCompare.cmp (← Extern.Bytes.bytesOf x) (← Extern.Bytes.bytesOf y)))) w = _
  simp only [Sem.run_bind, run_bytesOf hx, run_bytesOf hy, Sem.run_pure, Result.andThen_ok]
  rw [Lib.cmp_eq]
  rfl
section
variable {P : Program} {K : Value → World → Prop} {ρ : Slots} {w : World} {d : Option Tmp} {ty : TypeId} {pos : String} {af : Array Edge} {gd : Option (Nat × Bool)}
theorem Yk.extern2 {f : FuncId} {at_ : Array TypeId} {x y : Operand} {v0 v1 v : Value} (hx : evalR ρ x = v0) (hy : evalR ρ y = v1) (hr : (callFunc f #[v0, v1]).run P w = .ok (.value v) w) (hk : K v w) : Yk P K ((execOp (evalR ρ) ⟨d, .call ⟨.value (.func f), #[x, y], at_⟩, ty, pos, af, gd⟩).run P w) := by
  refine Yk.value (v := v) (w' := w) ?_ hk
  have hf : evalR ρ (.func f) = .func (.func f) #[] #[] := rfl
  unfold execOp
  simp [resolve, hf, Deferred.ofValue, invoke, hx, hy, hr]
theorem Yk.lit4 {t e : TypeId} (hr : ∀ (z0 z1 z2 z3 : Int) (w : World), (Instr.buildSlice t 4 #[(0, .int .u8 z0), (1, .int .u8 z1), (2, .int .u8 z2), (3, .int .u8 z3)]).run P w = .ok (.slice (some ⟨w.heap.size, 0, none⟩) 4 4) (w.alloc (.cells #[.int .u8 z0, .int .u8 z1, .int .u8 z2, .int .u8 z3] e)))
    {x0 x1 x2 x3 : Operand} {b0 b1 b2 b3 : UInt8} (h0 : evalR ρ x0 = B8 b0) (h1 : evalR ρ x1 = B8 b1) (h2 : evalR ρ x2 = B8 b2) (h3 : evalR ρ x3 = B8 b3)
    (hk : ∀ v w', NewB e w w' v [b0, b1, b2, b3] → K v w') : Yk P K ((execOp (evalR ρ) ⟨d, .buildSlice t 4 #[(0, x0), (1, x1), (2, x2), (3, x3)], ty, pos, af, gd⟩).run P w) := by
  have hr' : (execOp (evalR ρ) ⟨d, .buildSlice t 4 #[(0, x0), (1, x1), (2, x2), (3, x3)], ty, pos, af, gd⟩).run P w = .ok (.value (.slice (some ⟨w.heap.size, 0, none⟩) 4 4)) (w.alloc (.cells (Lib.byteCells [b0, b1, b2, b3]).toArray e)) := by
    unfold execOp
    simp only [List.map_toArray, List.map_cons, List.map_nil, h0, h1, h2, h3, Sem.run_bind, hr, Result.andThen_ok, Sem.run_pure]
    rfl
  rw [hr']
  exact hk _ _ (newB_lit w e [b0, b1, b2, b3] (by simp))
theorem idsize {x y : List UInt8} (hx : x.length = 32) (hy : y.length = 32) : (Lib.byteCells x).toArray.size = (Lib.byteCells y).toArray.size := by simp [Lib.byteCells, hx, hy]
theorem bytes_len32 {x : List UInt8} (h : (Lib.byteCells x).length = 32) : x.length = 32 := by rwa [Lib.byteCells_length] at h
theorem RB.ofBlk {g : Nat} {l : List UInt8} {t : TypeId} {fr : Nat × Nat} (h : w.heap[g]? = some (.cells (Lib.byteCells l).toArray t fr)) (hl : l.length ≤ 9223372036854775807) : RB w (.slice (some ⟨g, 0, none⟩) l.length l.length) l :=
  ⟨by simp [Lib.byteCells], _, _, rfl, Nat.le_refl _, by unfold maxLen; omega, (fun h => by cases h), fun a ha j u hu => by
    cases ha
    rw [Addr.add_lit, Nat.zero_add]
    exact cellAt h hu⟩
theorem RB.ofBlkN {g n : Nat} {l : List UInt8} {t : TypeId} {fr : Nat × Nat} (h : w.heap[g]? = some (.cells (Lib.byteCells l).toArray t fr)) (hn : l.length = n) (hl : n ≤ 9223372036854775807) : RB w (.slice (some ⟨g, 0, none⟩) n n) l := by
  subst hn
  exact RB.ofBlk h hl
end
/-! ### The order of rows of bytes -/
theorem cmp_range : ∀ a b : List UInt8, Lib.compareBytes a b = -1 ∨ Lib.compareBytes a b = 0 ∨ Lib.compareBytes a b = 1
  | [], [] => .inr (.inl rfl)
  | [], _ :: _ => .inl rfl
  | _ :: _, [] => .inr (.inr rfl)
  | x :: a, y :: b => by
    unfold Lib.compareBytes
    split
    · exact .inl rfl
    · split
      · exact .inr (.inr rfl)
      · exact cmp_range a b
theorem cmp_zero : ∀ {a b : List UInt8}, Lib.compareBytes a b = 0 → a = b
  | [], [], _ => rfl
  | [], _ :: _, h => by simp [Lib.compareBytes] at h
  | _ :: _, [], h => by simp [Lib.compareBytes] at h
  | x :: a, y :: b, h => by
    unfold Lib.compareBytes at h
    split at h
    · cases h
    · split at h
      · cases h
      · rename_i h1 h2
        have hxy : x = y := UInt8.le_antisymm (UInt8.not_lt.1 h2) (UInt8.not_lt.1 h1)
        rw [hxy, cmp_zero h]
theorem cmp_neg : ∀ a b : List UInt8, Lib.compareBytes a b = - Lib.compareBytes b a
  | [], [] => rfl
  | [], _ :: _ => rfl
  | _ :: _, [] => rfl
  | x :: a, y :: b => by
    unfold Lib.compareBytes
    by_cases h1 : x < y
    · rw [if_pos h1, if_neg (UInt8.lt_asymm h1), if_pos h1]
    · by_cases h2 : y < x
      · rw [if_neg h1, if_pos h2, if_pos h2]; rfl
      · rw [if_neg h1, if_neg h2, if_neg h2, if_neg h1]
        exact cmp_neg a b
theorem cmp_trans : ∀ {a b c : List UInt8}, Lib.compareBytes a b ≤ 0 → Lib.compareBytes b c ≤ 0 → Lib.compareBytes a c ≤ 0
  | [], _, [], _, _ => by simp [Lib.compareBytes]
  | [], _, _ :: _, _, _ => by simp [Lib.compareBytes]
  | _ :: _, [], _, h, _ => by simp [Lib.compareBytes] at h
  | _ :: _, _ :: _, [], _, h => by simp [Lib.compareBytes] at h
  | x :: a, y :: b, z :: c, h1, h2 => by
    unfold Lib.compareBytes at h1 h2 ⊢
    by_cases xy : x < y
    · by_cases yz : y < z
      · rw [if_pos (UInt8.lt_trans xy yz)]; decide
      · by_cases zy : z < y
        · rw [if_neg yz, if_pos zy] at h2; exact absurd h2 (by decide)
        · have : y = z := UInt8.le_antisymm (UInt8.not_lt.1 zy) (UInt8.not_lt.1 yz)
          rw [← this, if_pos xy]; decide
    · by_cases yx : y < x
      · rw [if_neg xy, if_pos yx] at h1; exact absurd h1 (by decide)
      · have e : x = y := UInt8.le_antisymm (UInt8.not_lt.1 yx) (UInt8.not_lt.1 xy)
        subst e
        rw [if_neg xy, if_neg xy] at h1
        by_cases xz : x < z
        · rw [if_pos xz]; decide
        · by_cases zx : z < x
          · rw [if_neg xz, if_pos zx] at h2; exact absurd h2 (by decide)
          · rw [if_neg xz, if_neg zx] at h2 ⊢
            exact cmp_trans h1 h2
def Asc (l : List (List UInt8)) : Prop := l.Pairwise fun a b => Lib.compareBytes a b ≤ 0
theorem asc_perm : ∀ {l m : List (List UInt8)}, Asc l → Asc m → l.Perm m → l = m
  | [], m, _, _, h => (List.nil_perm.1 h).symm
  | l, [], _, _, h => List.perm_nil.1 h
  | a :: l, b :: m, h1, h2, h => by
    have ha := List.pairwise_cons.1 h1
    have hb := List.pairwise_cons.1 h2
    have e : a = b := by
      have m1 : a ∈ b :: m := h.subset (by simp)
      have m2 : b ∈ a :: l := h.symm.subset (by simp)
      rcases List.mem_cons.1 m1 with e | m1
      · exact e
      · rcases List.mem_cons.1 m2 with e | m2
        · exact e.symm
        · have k1 := hb.1 a m1
          have k2 := ha.1 b m2
          have k3 := cmp_neg a b
          exact cmp_zero (by omega)
    subst e
    rw [asc_perm ha.2 hb.2 (List.Perm.cons_inv h)]
def insB (x : List UInt8) : List (List UInt8) → List (List UInt8)
  | [] => [x]
  | a :: r => if Lib.compareBytes x a ≤ 0 then x :: a :: r else a :: insB x r
def sortB : List (List UInt8) → List (List UInt8)
  | [] => []
  | a :: r => insB a (sortB r)
theorem insB_perm (x : List UInt8) : ∀ l, (insB x l).Perm (x :: l)
  | [] => List.Perm.refl _
  | a :: r => by
    unfold insB
    split
    · exact List.Perm.refl _
    · exact ((insB_perm x r).cons a).trans (List.Perm.swap x a r)
theorem sortB_perm : ∀ l, (sortB l).Perm l
  | [] => List.Perm.refl _
  | a :: r => (insB_perm a _).trans ((sortB_perm r).cons a)
theorem insB_asc (x : List UInt8) : ∀ l, Asc l → Asc (insB x l)
  | [], _ => by simp [insB, Asc]
  | a :: r, h => by
    have hr := List.pairwise_cons.1 h
    unfold insB
    split
    · rename_i hx
      refine List.pairwise_cons.2 ⟨fun c hc => ?_, h⟩
      rcases List.mem_cons.1 hc with rfl | hc
      · exact hx
      · exact cmp_trans hx (hr.1 c hc)
    · rename_i hx
      refine List.pairwise_cons.2 ⟨fun c hc => ?_, insB_asc x r hr.2⟩
      rcases List.mem_cons.1 ((insB_perm x r).subset hc) with rfl | hc
      · have := cmp_neg c a
        omega
      · exact hr.1 c hc
theorem sortB_asc : ∀ l, Asc (sortB l)
  | [] => List.Pairwise.nil
  | a :: r => insB_asc a _ (sortB_asc r)
theorem sortB_len (l : List (List UInt8)) : (sortB l).length = l.length := (sortB_perm l).length_eq
theorem asc_sortB {l m : List (List UInt8)} (h : Asc m) (hp : m.Perm l) : m = sortB l := asc_perm h (sortB_asc l) (hp.trans (sortB_perm l).symm)
abbrev Bs := List UInt8
def fourP (n : Nat) : Bs := [UInt8.ofNat (n / 2 ^ 24), UInt8.ofNat (n / 2 ^ 16), UInt8.ofNat (n / 2 ^ 8), UInt8.ofNat n]
def numP (b : Bs) : Nat := (b.getD 0 0).toNat * 2 ^ 24 + (b.getD 1 0).toNat * 2 ^ 16 + (b.getD 2 0).toNat * 2 ^ 8 + (b.getD 3 0).toNat
theorem fourP_len (n : Nat) : (fourP n).length = 4 := rfl
theorem or3 (a b c d : Nat) (hb : b < 256) (hc : c < 256) (hd : d < 256) : a * 2 ^ 24 ||| b * 2 ^ 16 ||| c * 2 ^ 8 ||| d = a * 2 ^ 24 + b * 2 ^ 16 + c * 2 ^ 8 + d := by
  have e1 : a * 2 ^ 24 ||| b * 2 ^ 16 = (a * 2 ^ 8 + b) * 2 ^ 16 := by
    have := shl_or a (b * 2 ^ 16) 24 (by omega)
    rw [this]
    omega
  have e2 : (a * 2 ^ 8 + b) * 2 ^ 16 ||| c * 2 ^ 8 = ((a * 2 ^ 8 + b) * 2 ^ 8 + c) * 2 ^ 8 := by
    have := shl_or (a * 2 ^ 8 + b) (c * 2 ^ 8) 16 (by omega)
    rw [this]
    omega
  rw [e1, e2, shl_or _ d 8 (by omega)]
  omega
theorem numP_fourP (n : Nat) (h : n < 2 ^ 32) (r : Bs) : numP (fourP n ++ r) = n := by
  unfold numP fourP
  simp
  omega
def hdN (id : Bs) : Nat := (id.getD 0 0).toNat
theorem hdN_lt (id : Bs) : hdN id < 256 := (id.getD 0 0).toNat_lt
def fanL (ids : List Bs) : List Nat := (List.range 256).map fun c => ids.countP fun id => decide (hdN id ≤ c)
def firstL (ids : List Bs) : List Nat := (List.range 256).map fun c => ids.countP fun id => decide (hdN id = c)
theorem fanL_len (ids : List Bs) : (fanL ids).length = 256 := by simp [fanL]
theorem firstL_len (ids : List Bs) : (firstL ids).length = 256 := by simp [firstL]
theorem firstL_get (ids : List Bs) (c : Nat) (h : c < 256) : (firstL ids).getD c 0 = ids.countP fun id => decide (hdN id = c) := by
  rw [List.getD_eq_getElem?_getD]
  simp [firstL, h]
theorem fanL_get (ids : List Bs) (c : Nat) (h : c < 256) : (fanL ids).getD c 0 = ids.countP fun id => decide (hdN id ≤ c) := by
  rw [List.getD_eq_getElem?_getD]
  simp [fanL, h]
theorem fanL_le (ids : List Bs) (c : Nat) : (fanL ids).getD c 0 ≤ ids.length := by
  by_cases h : c < 256
  · rw [fanL_get _ _ h]
    exact List.countP_le_length
  · rw [List.getD_eq_getElem?_getD, List.getElem?_eq_none (by rw [fanL_len]; omega)]
    simp
theorem firstL_snoc (ids : List Bs) (id : Bs) : firstL (ids ++ [id]) = (firstL ids).set (hdN id) ((firstL ids).getD (hdN id) 0 + 1) := by
  have hb := hdN_lt id
  apply List.ext_getElem?
  intro c
  by_cases hc : c < 256
  · rw [List.getElem?_eq_getElem (by rw [firstL_len]; exact hc), List.getElem?_eq_getElem (by rw [List.length_set, firstL_len]; exact hc)]
    congr 1
    rw [List.getElem_set]
    have g : ∀ (l : List Bs) (h : c < (firstL l).length), (firstL l)[c] = l.countP fun id => decide (hdN id = c) := fun l h => by simp [firstL]
    rw [g]
    split
    · rename_i he
      rw [he, firstL_get _ _ hc, List.countP_append]
      simp [he]
    · rename_i he
      rw [g, List.countP_append]
      simp [he]
  · rw [List.getElem?_eq_none (by rw [firstL_len]; omega), List.getElem?_eq_none (by rw [List.length_set, firstL_len]; omega)]
def fanStep (ids : List Bs) (k : Nat) : List Nat := (fanL ids).take k ++ (firstL ids).drop k
theorem fanStep_len (ids : List Bs) (k : Nat) (h : k ≤ 256) : (fanStep ids k).length = 256 := by
  unfold fanStep
  rw [List.length_append, List.length_take, List.length_drop, fanL_len, firstL_len]
  omega
theorem fanL_zero (ids : List Bs) : (fanL ids).getD 0 0 = (firstL ids).getD 0 0 := by
  rw [fanL_get _ _ (by omega), firstL_get _ _ (by omega)]
  congr 1
  funext id
  simp
theorem fanStep_one (ids : List Bs) : fanStep ids 1 = firstL ids := by
  have h := fanL_zero ids
  have h1 := fanL_len ids
  have h2 := firstL_len ids
  unfold fanStep
  match hA : fanL ids, hB : firstL ids with
  | [], _ => rw [hA] at h1; simp at h1
  | _ :: _, [] => rw [hB] at h2; simp at h2
  | a :: A, b :: B =>
    rw [hA, hB] at h
    simp at h
    simp [h]
theorem fanL_succ (ids : List Bs) (c : Nat) (h : c + 1 < 256) : (fanL ids).getD (c + 1) 0 = (firstL ids).getD (c + 1) 0 + (fanL ids).getD c 0 := by
  rw [fanL_get _ _ h, firstL_get _ _ h, fanL_get _ _ (by omega)]
  induction ids with
  | nil => rfl
  | cons a r ih =>
    simp only [List.countP_cons, ih]
    by_cases h1 : hdN a ≤ c
    · simp [h1, show hdN a ≤ c + 1 by omega, show hdN a ≠ c + 1 by omega]
      omega
    · by_cases h2 : hdN a = c + 1
      · simp [h2, show ¬ c + 1 ≤ c by omega]
        omega
      · simp [h1, h2, show ¬ hdN a ≤ c + 1 by omega]
theorem fanStep_succ (ids : List Bs) (k : Nat) (h0 : 0 < k) (h : k < 256) : fanStep ids (k + 1) = (fanStep ids k).set k ((fanStep ids k).getD k 0 + (fanStep ids k).getD (k - 1) 0) := by
  have g1 : (fanStep ids k).getD k 0 = (firstL ids).getD k 0 := by
    unfold fanStep
    rw [List.getD_eq_getElem?_getD, List.getElem?_append_right (by rw [List.length_take, fanL_len]; omega), List.length_take, fanL_len, List.getElem?_drop, show k + (k - min k 256) = k by omega, ← List.getD_eq_getElem?_getD]
  have g2 : (fanStep ids k).getD (k - 1) 0 = (fanL ids).getD (k - 1) 0 := by
    unfold fanStep
    rw [List.getD_eq_getElem?_getD, List.getElem?_append_left (by rw [List.length_take, fanL_len]; omega), List.getElem?_take, if_pos (by omega), ← List.getD_eq_getElem?_getD]
  have g3 := fanL_succ ids (k - 1) (by omega)
  rw [show k - 1 + 1 = k by omega] at g3
  rw [g1, g2, ← g3]
  unfold fanStep
  rw [List.set_append_right _ _ (by rw [List.length_take, fanL_len]; omega), List.length_take, fanL_len, show k - min k 256 = 0 by omega, List.take_succ_eq_append_getElem (by rw [fanL_len]; exact h), List.append_assoc]
  congr 1
  rw [List.drop_eq_getElem_cons (l := firstL ids) (i := k) (by rw [firstL_len]; exact h)]
  simp only [List.set_cons_zero, List.singleton_append, List.cons.injEq, and_true]
  rw [List.getD_eq_getElem?_getD, List.getElem?_eq_getElem (by rw [fanL_len]; exact h)]
  rfl
theorem fanStep_all (ids : List Bs) : fanStep ids 256 = fanL ids := by
  unfold fanStep
  rw [List.take_of_length_le (by rw [fanL_len]; omega), List.drop_of_length_le (by rw [firstL_len]; omega), List.append_nil]
open Go.RowKit
set_option maxRecDepth 100000
theorem own_base0 {w w0 w' : World} {e : TypeId} {v : Value} {l : List UInt8} (h : w'.ownsRow w0.heap.size e 1 v l.length (Lib.byteCells l)) (hb : w.heap.size ≤ w0.heap.size) : w'.ownsRow w.heap.size e 1 v l.length (Lib.byteCells l) := ownsRow_base h hb
theorem pk3_ty3 : Tryd.prog.underlying 3 = some (.int .i64) := by kernel_rfl
theorem pk3_ty5 : Tryd.prog.underlying 5 = some (.int .u8) := by kernel_rfl
theorem pk3_l4_24 (z0 z1 z2 z3 : Int) (w : World) : (Instr.buildSlice 24 4 #[(0, .int .u8 z0), (1, .int .u8 z1), (2, .int .u8 z2), (3, .int .u8 z3)]).run Tryd.prog w = .ok (.slice (some ⟨w.heap.size, 0, none⟩) 4 4) (w.alloc (.cells #[.int .u8 z0, .int .u8 z1, .int .u8 z2, .int .u8 z3] 5)) := by kernel_rfl
theorem pk3_ty24 : Tryd.prog.underlying 24 = some (.slice 5) := by kernel_rfl
theorem pk3_inf5 : (Tryd.prog.info? 5).map (fun i => (i.zero, i.size, i.bytes)) = some (some (.int .u8 0), 1, 1) := by kernel_rfl
theorem pk3_sz5 : ∀ w' : World, (sizeOf 5).run Tryd.prog w' = .ok 1 w' := fun _ => by kernel_rfl
theorem pk3_l1_24 (z : Int) (w : World) : (Instr.buildSlice 24 1 #[(0, .int .u8 z)]).run Tryd.prog w = .ok (.slice (some ⟨w.heap.size, 0, none⟩) 1 1) (w.alloc (.cells #[.int .u8 z] 5)) := by kernel_rfl
theorem pk3_pl49 : Plain Tryd.prog 49 := fun _ _ => by kernel_rfl
theorem four_any (w0 w : World) (hE : Ext w0 w) (v : Value) (l : List UInt8) (n : Nat) (hn : n < 9223372036854775808) (hl : l.length + 4 ≤ 140737488355328) (hown : w.ownsRow w0.heap.size 5 1 v l.length (Lib.byteCells l)) :
  Calls Tryd.prog 27 #[v, NI n] w fun e w' => ∃ v', e = .returned v' ∧ w'.ownsRow w0.heap.size 5 1 v' (l ++ fourP n).length (Lib.byteCells (l ++ fourP n)) ∧ Grew w w' v v' := by
 refine calls_of_wpF (args := [v, NI n]) Tryd.func27 rfl 19 rfl (Nat.le_of_ble_eq_true rfl) ?_
 intro ρ0 hb
 have T0 : ρ0 0 = (v : Value) := hb.get 0
 have T1 : ρ0 1 = (NI n : Value) := hb.get 1
 clear hb
 refine sk fun K1 hK1 => (wt (oS rfl (Yk.assign (vr (Value.slice none 0 0) rfl) (oL_ [(0, v), (1, NI n), (4, (Value.slice none 0 0))] ⟨T0, T1, rfl, trivial⟩ fun ρ2 ⟨T0, T1, T4, _⟩ => (tN (hK1 _ _ (sk fun K3 hK3 => (wt (oS rfl (Yk.move T0 (oS rfl (Yk.move T1 (oS rfl (Yk.bin (xv := NI n) (yv := .int .u64 ((24 : Nat) : Int)) rfl rfl rfl (i64_shr _ _ _ _ (by omega)) (oS rfl (Yk.convI pk3_ty3 pk3_ty5 (vr (NI ((n) / 2 ^ (24))) rfl) (toByte ((n) / 2 ^ (24))) (oS rfl (Yk.move T1 (oS rfl (Yk.bin (xv := NI n) (yv := .int .u64 ((16 : Nat) : Int)) rfl rfl rfl (i64_shr _ _ _ _ (by omega)) (oS rfl (Yk.convI pk3_ty3 pk3_ty5 (vr (NI ((n) / 2 ^ (16))) rfl) (toByte ((n) / 2 ^ (16))) (oS rfl (Yk.move T1 (oS rfl (Yk.bin (xv := NI n) (yv := .int .u64 ((8 : Nat) : Int)) rfl rfl rfl (i64_shr _ _ _ _ (by omega)) ?_))))))))))))))))))))))))))
 refine oS rfl (Yk.convI pk3_ty3 pk3_ty5 (vr (NI ((n) / 2 ^ (8))) rfl) (toByte ((n) / 2 ^ (8))) (oS rfl (Yk.move T1 (oS rfl (Yk.convI pk3_ty3 pk3_ty5 (vr (NI n) rfl) (toByte (n)) (oS rfl (Yk.lit4 (b0 := UInt8.ofNat ((n) / 2 ^ (24))) (b1 := UInt8.ofNat ((n) / 2 ^ (16))) (b2 := UInt8.ofNat ((n) / 2 ^ (8))) (b3 := UInt8.ofNat (n)) pk3_l4_24 (vr (B8 (UInt8.ofNat ((n) / 2 ^ (24)))) rfl) (vr (B8 (UInt8.ofNat ((n) / 2 ^ (16)))) rfl) (vr (B8 (UInt8.ofNat ((n) / 2 ^ (8)))) rfl) (vr (B8 (UInt8.ofNat (n))) rfl) fun v4 w5 hN6 => ?_)))))))
 have hA7 := Ext.refl w
 have hea8 := hE
 have hz9 := hE.size
 have hap10 : ApartV v v4 := apartv_new hown hN6.own
 have hap11 : ApartV v4 v := apartv_new' hown hN6.own
 have hE := hE.trans hN6.ext
 have hown := Stab.own _ _ _ _ _ _ _ _ hown hN6.ext
 have hA7 := hA7.trans hN6.ext
 have ho12 := hN6.own; clear hN6
 refine oS rfl (Yk.appendRB _ _ w0.heap.size (.int .u8 0) pk3_ty24 pk3_inf5 rfl pk3_ty24 (l) (([UInt8.ofNat ((n) / 2 ^ (24)), UInt8.ofNat ((n) / 2 ^ (16)), UInt8.ofNat ((n) / 2 ^ (8)), UInt8.ofNat (n)] : List UInt8)) (own_of hown (vr v rfl)) (RB.of (RB.ofOwn ho12) (vr v4 rfl)) (by simp; omega) hE.size fun v13 w14 ho15 hg16 => ?_)
 have hGr := Grew.after hA7 hg16
 have hg16 : Grew w5 w14 v v13 := hg16
 have hap17 : ApartV v13 v4 := apartv_grew hg16 hap10 ho12
 have hap18 : ApartV v4 v13 := fun k h1 h2 => hap17 k h2 h1
 have hE := ext_grew hE hg16 hown (Nat.le_refl _)
 clear hown
 clear hA7
 have ho12 := own_grew ho12 hg16 hap10
 refine oS rfl (Yk.assign (vr v13 rfl) (oL_ [(0, v), (1, NI n), (4, v13)] ⟨T0, T1, rfl, trivial⟩ fun ρ19 ⟨T0, T1, T4, _⟩ => (tN (hK3 _ _ (wpF_ret (postF_ret (fn := Tryd.f27) _ rfl [v13] (v13) rfl ⟨T4, trivial⟩ ?_))))))
 exact ⟨_, rfl, own_eq ho15 rfl, hGr⟩

theorem number_any_ (w : World) (v : Value) (b : List UInt8) (hr : RB w v b) (hl : 4 ≤ b.length) :
  Calls Tryd.prog 62 #[v] w fun e w' => e = .returned (NI (numP b)) ∧ Ext w w' := by
 have c0 : (b.getD 0 0).toNat < 256 := (b.getD 0 0).toNat_lt
 have c1 : (b.getD 1 0).toNat < 256 := (b.getD 1 0).toNat_lt
 have c2 : (b.getD 2 0).toNat < 256 := (b.getD 2 0).toNat_lt
 have c3 : (b.getD 3 0).toNat < 256 := (b.getD 3 0).toNat_lt
 have hlt0 : (b.getD 0 0).toNat * 2 ^ 24 < 9223372036854775808 := Nat.lt_of_lt_of_le (Nat.mul_lt_mul_of_pos_right c0 (by decide)) (by decide)
 have hlt1 : (b.getD 1 0).toNat * 2 ^ 16 < 9223372036854775808 := Nat.lt_of_lt_of_le (Nat.mul_lt_mul_of_pos_right c1 (by decide)) (by decide)
 have hlt2 : (b.getD 2 0).toNat * 2 ^ 8 < 9223372036854775808 := Nat.lt_of_lt_of_le (Nat.mul_lt_mul_of_pos_right c2 (by decide)) (by decide)
 have hlt3 : (b.getD 3 0).toNat < 9223372036854775808 := by omega
 have hlt01 : (b.getD 0 0).toNat * 2 ^ 24 ||| (b.getD 1 0).toNat * 2 ^ 16 < 9223372036854775808 := Nat.or_lt_two_pow (n := 63) hlt0 hlt1
 have hlt012 : (b.getD 0 0).toNat * 2 ^ 24 ||| (b.getD 1 0).toNat * 2 ^ 16 ||| (b.getD 2 0).toNat * 2 ^ 8 < 9223372036854775808 := Nat.or_lt_two_pow (n := 63) hlt01 hlt2
 refine calls_of_wpF (args := [v]) Tryd.func62 rfl 25 rfl (Nat.le_of_ble_eq_true rfl) ?_
 intro ρ0 hb
 have T0 : ρ0 0 = (v : Value) := hb.get 0
 clear hb
 have hE := Ext.refl w
 refine sk fun K1 hK1 => (wt (oA rfl (oZ (tN (hK1 _ _ (sk fun K2 hK2 => ?_))))))
 refine wpF_draw [Is (v), PCell (B8 (b.getD (0) 0)), Is (B8 (b.getD (0) 0)), Is (NI ((b.getD (0) 0).toNat)), Is (NI (((b.getD (0) 0).toNat) * 2 ^ (24))), Is (v), PCell (B8 (b.getD (1) 0)), Is (B8 (b.getD (1) 0)), Is (NI ((b.getD (1) 0).toNat)), Is (NI (((b.getD (1) 0).toNat) * 2 ^ (16))), Is (NI ((((b.getD (0) 0).toNat) * 2 ^ (24)) ||| (((b.getD (1) 0).toNat) * 2 ^ (16)))), Is (v), PCell (B8 (b.getD (2) 0)), Is (B8 (b.getD (2) 0)), Is (NI ((b.getD (2) 0).toNat)), Is (NI (((b.getD (2) 0).toNat) * 2 ^ (8))), Is (NI (((((b.getD (0) 0).toNat) * 2 ^ (24)) ||| (((b.getD (1) 0).toNat) * 2 ^ (16))) ||| (((b.getD (2) 0).toNat) * 2 ^ (8)))), Is (v), PCell (B8 (b.getD (3) 0)), Is (B8 (b.getD (3) 0)), Is (NI ((b.getD (3) 0).toNat)), Is (NI ((((((b.getD (0) 0).toNat) * 2 ^ (24)) ||| (((b.getD (1) 0).toNat) * 2 ^ (16))) ||| (((b.getD (2) 0).toNat) * 2 ^ (8))) ||| ((b.getD (3) 0).toNat))), Is (NI ((((((b.getD (0) 0).toNat) * 2 ^ (24)) ||| (((b.getD (1) 0).toNat) * 2 ^ (16))) ||| (((b.getD (2) 0).toNat) * 2 ^ (8))) ||| ((b.getD (3) 0).toNat)))] (by kernel_rfl) [3, 4, 5, 6, 7, 8, 9, 10, 11, 12, 13, 14, 15, 16, 17, 18, 19, 20, 21, 22, 23, 24, 2] (by kernel_rfl) (by kernel_rfl) ⟨Stab.is _, Stab.pcell _, (si4 ⟨Stab.pcell _, (si5 ⟨Stab.pcell _, (si5 ⟨Stab.pcell _, (si4 trivial)⟩)⟩)⟩)⟩ ?hs1001 ?hQ1001
 case hs1001 =>
  refine ⟨?_, ?_, ?_, ?_, ?_, ?_, ?_, ?_, ?_, ?_, ?_, ?_, ?_, ?_, ?_, ?_, ?_, ?_, ?_, ?_, ?_, ?_, ?_, trivial⟩
  ·refine stepN rfl fun σ w1 hC h => ?_
   have e0 := (eqo (h 0 (by decide))).trans T0
   exact Yk.move e0 ⟨Ext.refl _, rfl⟩
  ·refine stepN rfl fun σ w1 hC h => ?_
   have e3 := eqo (h 3 (by decide))
   exact Yk.atRB (l := b) (i := 0) pk3_ty24 pk3_sz5 (RB.of (hr.keep (hE.trans hC)) e3) (vr (NI 0) rfl) (by omega) fun _ h => ⟨Ext.refl _, h⟩
  ·refine stepN rfl fun σ w1 hC h => ?_
   have e4 : (PCell (B8 (b.getD (0) 0))) (σ 4) w1 := h 4 (by decide)
   exact Yk.loadC pk3_ty5 rfl e4 ⟨Ext.refl _, rfl⟩
  ·refine stepN rfl fun σ w1 hC h => ?_
   have e5 := eqo (h 5 (by decide))
   exact Yk.convI pk3_ty5 pk3_ty3 e5 (ofByte .i64 (b.getD (0) 0) (fun n hn => wrap_i64 n (by omega))) ⟨Ext.refl _, rfl⟩
  ·refine stepN rfl fun σ w1 hC h => ?_
   have e6 := eqo (h 6 (by decide))
   exact Yk.bin (xv := NI ((b.getD (0) 0).toNat)) (yv := .int .u64 ((24 : Nat) : Int)) e6 rfl rfl (i64_shl _ _ _ _ (by omega) (by exact hlt0)) ⟨Ext.refl _, rfl⟩
  ·refine stepN rfl fun σ w1 hC h => ?_
   have e0 := (eqo (h 0 (by decide))).trans T0
   exact Yk.move e0 ⟨Ext.refl _, rfl⟩
  ·refine stepN rfl fun σ w1 hC h => ?_
   have e8 := eqo (h 8 (by decide))
   exact Yk.atRB (l := b) (i := 1) pk3_ty24 pk3_sz5 (RB.of (hr.keep (hE.trans hC)) e8) (vr (NI 1) rfl) (by omega) fun _ h => ⟨Ext.refl _, h⟩
  ·refine stepN rfl fun σ w1 hC h => ?_
   have e9 : (PCell (B8 (b.getD (1) 0))) (σ 9) w1 := h 9 (by decide)
   exact Yk.loadC pk3_ty5 rfl e9 ⟨Ext.refl _, rfl⟩
  ·refine stepN rfl fun σ w1 hC h => ?_
   have e10 := eqo (h 10 (by decide))
   exact Yk.convI pk3_ty5 pk3_ty3 e10 (ofByte .i64 (b.getD (1) 0) (fun n hn => wrap_i64 n (by omega))) ⟨Ext.refl _, rfl⟩
  ·refine stepN rfl fun σ w1 hC h => ?_
   have e11 := eqo (h 11 (by decide))
   exact Yk.bin (xv := NI ((b.getD (1) 0).toNat)) (yv := .int .u64 ((16 : Nat) : Int)) e11 rfl rfl (i64_shl _ _ _ _ (by omega) (by exact hlt1)) ⟨Ext.refl _, rfl⟩
  ·refine stepN rfl fun σ w1 hC h => ?_
   have e7 := eqo (h 7 (by decide))
   have e12 := eqo (h 12 (by decide))
   exact Yk.bin (xv := NI (((b.getD (0) 0).toNat) * 2 ^ (24))) (yv := NI (((b.getD (1) 0).toNat) * 2 ^ (16))) e7 e12 rfl (i64_or _ _ _ (by exact hlt0) (by exact hlt1)) ⟨Ext.refl _, rfl⟩
  ·refine stepN rfl fun σ w1 hC h => ?_
   have e0 := (eqo (h 0 (by decide))).trans T0
   exact Yk.move e0 ⟨Ext.refl _, rfl⟩
  ·refine stepN rfl fun σ w1 hC h => ?_
   have e14 := eqo (h 14 (by decide))
   exact Yk.atRB (l := b) (i := 2) pk3_ty24 pk3_sz5 (RB.of (hr.keep (hE.trans hC)) e14) (vr (NI 2) rfl) (by omega) fun _ h => ⟨Ext.refl _, h⟩
  ·refine stepN rfl fun σ w1 hC h => ?_
   have e15 : (PCell (B8 (b.getD (2) 0))) (σ 15) w1 := h 15 (by decide)
   exact Yk.loadC pk3_ty5 rfl e15 ⟨Ext.refl _, rfl⟩
  ·refine stepN rfl fun σ w1 hC h => ?_
   have e16 := eqo (h 16 (by decide))
   exact Yk.convI pk3_ty5 pk3_ty3 e16 (ofByte .i64 (b.getD (2) 0) (fun n hn => wrap_i64 n (by omega))) ⟨Ext.refl _, rfl⟩
  ·refine stepN rfl fun σ w1 hC h => ?_
   have e17 := eqo (h 17 (by decide))
   exact Yk.bin (xv := NI ((b.getD (2) 0).toNat)) (yv := .int .u64 ((8 : Nat) : Int)) e17 rfl rfl (i64_shl _ _ _ _ (by omega) (by exact hlt2)) ⟨Ext.refl _, rfl⟩
  ·refine stepN rfl fun σ w1 hC h => ?_
   have e13 := eqo (h 13 (by decide))
   have e18 := eqo (h 18 (by decide))
   exact Yk.bin (xv := NI ((((b.getD (0) 0).toNat) * 2 ^ (24)) ||| (((b.getD (1) 0).toNat) * 2 ^ (16)))) (yv := NI (((b.getD (2) 0).toNat) * 2 ^ (8))) e13 e18 rfl (i64_or _ _ _ (by exact hlt01) (by exact hlt2)) ⟨Ext.refl _, rfl⟩
  ·refine stepN rfl fun σ w1 hC h => ?_
   have e0 := (eqo (h 0 (by decide))).trans T0
   exact Yk.move e0 ⟨Ext.refl _, rfl⟩
  ·refine stepN rfl fun σ w1 hC h => ?_
   have e20 := eqo (h 20 (by decide))
   exact Yk.atRB (l := b) (i := 3) pk3_ty24 pk3_sz5 (RB.of (hr.keep (hE.trans hC)) e20) (vr (NI 3) rfl) (by omega) fun _ h => ⟨Ext.refl _, h⟩
  ·refine stepN rfl fun σ w1 hC h => ?_
   have e21 : (PCell (B8 (b.getD (3) 0))) (σ 21) w1 := h 21 (by decide)
   exact Yk.loadC pk3_ty5 rfl e21 ⟨Ext.refl _, rfl⟩
  ·refine stepN rfl fun σ w1 hC h => ?_
   have e22 := eqo (h 22 (by decide))
   exact Yk.convI pk3_ty5 pk3_ty3 e22 (ofByte .i64 (b.getD (3) 0) (fun n hn => wrap_i64 n (by omega))) ⟨Ext.refl _, rfl⟩
  ·refine stepN rfl fun σ w1 hC h => ?_
   have e19 := eqo (h 19 (by decide))
   have e23 := eqo (h 23 (by decide))
   exact Yk.bin (xv := NI (((((b.getD (0) 0).toNat) * 2 ^ (24)) ||| (((b.getD (1) 0).toNat) * 2 ^ (16))) ||| (((b.getD (2) 0).toNat) * 2 ^ (8)))) (yv := NI ((b.getD (3) 0).toNat)) e19 e23 rfl (i64_or _ _ _ (by exact hlt012) (by exact hlt3)) ⟨Ext.refl _, rfl⟩
  ·refine stepN rfl fun σ w1 hC h => ?_
   have e24 := eqo (h 24 (by decide))
   exact Yk.assign e24 ⟨Ext.refl _, rfl⟩
 intro ρ3 w4 hx5 he hf
 obtain ⟨-, -, -, -, -, -, -, -, -, -, -, -, -, -, -, -, -, -, -, -, -, -, k2, -⟩ := hf
 have T0 : ρ3 0 = v := he.at_ T0 rfl
 clear he
 have hE := hE.trans hx5
 have T2 : ρ3 2 = NI ((((((b.getD (0) 0).toNat) * 2 ^ (24)) ||| (((b.getD (1) 0).toNat) * 2 ^ (16))) ||| (((b.getD (2) 0).toNat) * 2 ^ (8))) ||| ((b.getD (3) 0).toNat)) := k2
 clear k2
 refine tN (hK2 _ _ (wpF_ret (postF_ret (fn := Tryd.f62) _ rfl [NI ((((((b.getD (0) 0).toNat) * 2 ^ (24)) ||| (((b.getD (1) 0).toNat) * 2 ^ (16))) ||| (((b.getD (2) 0).toNat) * 2 ^ (8))) ||| ((b.getD (3) 0).toNat))] (NI ((((((b.getD (0) 0).toNat) * 2 ^ (24)) ||| (((b.getD (1) 0).toNat) * 2 ^ (16))) ||| (((b.getD (2) 0).toNat) * 2 ^ (8))) ||| ((b.getD (3) 0).toNat))) rfl ⟨T2, trivial⟩ ?_)))
 exact ⟨by rw [show numP b = _ from (or3 _ _ _ _ (b.getD 1 0).toNat_lt (b.getD 2 0).toNat_lt (b.getD 3 0).toNat_lt).symm], hE⟩

theorem begin_any (w : World) (n : Nat) (hn : n ≤ 9223372036854775807) :
  Calls Tryd.prog 23 #[NI n] w fun e w' => ∃ v, e = .returned v ∧ w'.ownsRow w.heap.size 5 1 v (80 :: Lib.uvarint n).length (Lib.byteCells (80 :: Lib.uvarint n)) ∧ Ext w w' := by
 refine calls_of_wpF (args := [NI n]) Tryd.func23 rfl 12 rfl (Nat.le_of_ble_eq_true rfl) ?_
 intro ρ0 hb
 have T0 : ρ0 0 = (NI n : Value) := hb.get 0
 clear hb
 have hE := Ext.refl w
 refine sk fun K1 hK1 => (wt (oA rfl (oZ (tN (hK1 _ _ (sk fun K2 hK2 => (wt (oS rfl (Yk.lit1 (b := 80) pk3_l1_24 (vr (B8 (80)) rfl) fun v3 w4 hN5 => ?_)))))))))
 have hE := hE.trans hN5.ext
 have ho6 := hN5.own; clear hN5
 refine oM rfl (oS rfl (Yk.callA2 pk3_pl49 (vr v3 rfl) T0 ((put_any _ v3 ([(80 : UInt8)]) (RB.ofOwn ho6) (by simp) n (by omega)).mono ?_)))
 rintro e w9 ⟨v7, rfl, hN8⟩
 refine ⟨_, rfl, ?_⟩
 have hA10 := Ext.refl w4
 have hea11 := hE
 have hz12 := hE.size
 have hap13 : ApartV v3 v7 := apartv_new ho6 hN8.own
 have hap14 : ApartV v7 v3 := apartv_new' ho6 hN8.own
 have hE := hE.trans hN8.ext
 have ho6 := Stab.own _ _ _ _ _ _ _ _ ho6 hN8.ext
 have hA10 := hA10.trans hN8.ext
 have ho15 := hN8.own; clear hN8
 refine oM rfl (oS rfl (Yk.extract (vs := [v7, NI 0]) (vr (.tuple #[v7, NI 0]) rfl) (show _ = some (v7 : Value) from rfl) (oS rfl (Yk.extract (vs := [v7, NI 0]) (vr (.tuple #[v7, NI 0]) rfl) (show _ = some (NI 0 : Value) from rfl) (oA rfl (oA rfl (oZ (tN (hK2 _ _ (sk fun K16 hK16 => (wt (oM rfl (oA rfl (oZ (tN (hK16 _ _ (wpF_ret (postF_ret (fn := Tryd.f23) _ rfl [v7] (v7) rfl ⟨rfl, trivial⟩ ?_))))))))))))))))))
 exact ⟨_, rfl, own_base0 ho15 (by omega), hE⟩
open Go.RowKit
section
variable {P : Program} {K : Value → World → Prop} {ρ : Slots} {w : World} {d : Option Tmp} {ty : TypeId} {pos : String} {af : Array Edge} {gd : Option (Nat × Bool)}
variable {α β : Type} {ek : α → Value} {ev : β → Value} {D : α → Prop} {b : Nat} {G : α → Option β}
variable {t Kt E : TypeId} {OK : Value → Prop}
theorem Yk.lookM (L : KL P Kt OK) (hD : ∀ a, D a → OK (ek a)) (hi : ∀ a c, ek a = ek c → a = c) (ht : P.underlying t = some (.map Kt E)) {z : Value} (hz : ∀ u : World, (zeroValue E).run P u = .ok z u) {x y : Operand} {a : α}
    (hm : evalR ρ x = .map (some b)) (hy : evalR ρ y = ek a) (h : MapF ek ev D w b G) (ha : D a) (hk : K ((G a).elim z ev) w) :
    Yk P K ((execOp (evalR ρ) ⟨d, .lookup t x y false, ty, pos, af, gd⟩).run P w) := by
  have hrun := h.look L hD hi ht hz ha false
  refine Yk.value (v := (G a).elim z ev) (w' := w) ?_ hk
  unfold execOp
  simp only [hm, hy, Sem.run_bind, hrun, Result.andThen_ok, Sem.run_pure]
  rfl
theorem Yk.lookOk (L : KL P Kt OK) (hD : ∀ a, D a → OK (ek a)) (hi : ∀ a c, ek a = ek c → a = c) (ht : P.underlying t = some (.map Kt E)) {z : Value} (hz : ∀ u : World, (zeroValue E).run P u = .ok z u) {x y : Operand} {a : α}
    (hm : evalR ρ x = .map (some b)) (hy : evalR ρ y = ek a) (h : MapF ek ev D w b G) (ha : D a) (hk : K (.tuple #[(G a).elim z ev, .bool (G a).isSome]) w) :
    Yk P K ((execOp (evalR ρ) ⟨d, .lookup t x y true, ty, pos, af, gd⟩).run P w) := by
  have hrun := h.look L hD hi ht hz ha true
  refine Yk.value (v := .tuple #[(G a).elim z ev, .bool (G a).isSome]) (w' := w) ?_ hk
  unfold execOp
  simp only [hm, hy, Sem.run_bind, hrun, Result.andThen_ok, Sem.run_pure]
  rfl
theorem Yk.putM [DecidableEq α] (L : KL P Kt OK) (hD : ∀ a, D a → OK (ek a)) (ht : P.underlying t = some (.map Kt E)) {x y z : Operand} {a : α} {c : β}
    (hm : evalR ρ x = .map (some b)) (hy : evalR ρ y = ek a) (hz : evalR ρ z = ev c) (h : MapF ek ev D w b G) (ha : D a) (hk : ∀ w', MapF ek ev D w' b (updM G a (some c)) → w.grownBy w' (some b) → w'.heap.size = w.heap.size → K undef w') :
    Yk P K ((execOp (evalR ρ) ⟨d, .mapUpdate t x y z, ty, pos, af, gd⟩).run P w) := by
  obtain ⟨w', hrun, h1, h2, h3⟩ := h.put L hD ht ha c
  have hr : (execOp (evalR ρ) ⟨d, .mapUpdate t x y z, ty, pos, af, gd⟩).run P w = .ok .skip w' ∨ (execOp (evalR ρ) ⟨d, .mapUpdate t x y z, ty, pos, af, gd⟩).run P w = .ok (.value undef) w' := by
    unfold execOp
    simp only [hm, hy, hz, Sem.run_bind, hrun, Result.andThen_ok, Sem.run_pure]
    simp
  rcases hr with hr | hr <;> rw [hr] <;> exact hk w' h1 h2 h3
theorem Yk.delM [DecidableEq α] (L : KL P Kt OK) (hD : ∀ a, D a → OK (ek a)) (hi : ∀ a c, ek a = ek c → a = c) (ht : P.underlying t = some (.map Kt E)) {x y : Operand} {a : α}
    (hm : evalR ρ x = .map (some b)) (hy : evalR ρ y = ek a) (h : MapF ek ev D w b G) (ha : D a) (hk : ∀ w', MapF ek ev D w' b (updM G a none) → w.grownBy w' (some b) → w'.heap.size = w.heap.size → K (.tuple #[]) w') :
    Yk P K ((execOp (evalR ρ) ⟨d, .call ⟨.builtin .delete, #[x, y], #[t, Kt]⟩, ty, pos, af, gd⟩).run P w) := by
  obtain ⟨w', hrun, h1, h2, h3⟩ := h.del L hD hi ht (ty := ty) ha
  refine Yk.value (v := .tuple #[]) (w' := w') ?_ (hk w' h1 h2 h3)
  unfold execOp
  simp only [resolve, invoke, builtin, Sem.run_bind, Sem.run_pure, Result.andThen_ok, List.map_toArray, List.map_cons, List.map_nil, hm, hy, hrun]
theorem Yk.mkMap (ek : α → Value) (ev : β → Value) (D : α → Prop) (hk : ∀ g w', w.heap.size = g → MapF ek ev D w' g (fun _ => none) → Ext w w' → w'.heap.size = g + 1 → K (.map (some g)) w') :
    Yk P K ((execOp (evalR ρ) ⟨d, .makeMap t none, ty, pos, af, gd⟩).run P w) := by
  refine Yk.value (v := .map (some w.heap.size)) (w' := w.alloc (.map #[] 0)) ?_ (hk _ _ rfl (MapF.made ek ev D w) ((Below.refl _ _).alloc (Nat.le_refl _) _) (by simp))
  unfold execOp
  simp [Instr.makeMap, newObj, Result.andThen]
  rfl
theorem Yk.lookOkS (L : KL P Kt OK) (hD : ∀ a, D a → OK (ek a)) (hi : ∀ a c, ek a = ek c → a = c) (ht : P.underlying t = some (.map Kt E)) {z : Value} (hz : ∀ u : World, (zeroValue E).run P u = .ok z u) {x y : Operand} {a : α} {c : β}
    (hm : evalR ρ x = .map (some b)) (hy : evalR ρ y = ek a) (h : MapF ek ev D w b G) (ha : D a) (hG : G a = some c) (hk : K (.tuple #[ev c, .bool true]) w) : Yk P K ((execOp (evalR ρ) ⟨d, .lookup t x y true, ty, pos, af, gd⟩).run P w) :=
  Yk.lookOk L hD hi ht hz hm hy h ha (by rw [hG]; exact hk)
theorem Yk.lookOkN (L : KL P Kt OK) (hD : ∀ a, D a → OK (ek a)) (hi : ∀ a c, ek a = ek c → a = c) (ht : P.underlying t = some (.map Kt E)) {z : Value} (hz : ∀ u : World, (zeroValue E).run P u = .ok z u) {x y : Operand} {a : α}
    (hm : evalR ρ x = .map (some b)) (hy : evalR ρ y = ek a) (h : MapF ek ev D w b G) (ha : D a) (hG : G a = none) (hk : K (.tuple #[z, .bool false]) w) : Yk P K ((execOp (evalR ρ) ⟨d, .lookup t x y true, ty, pos, af, gd⟩).run P w) :=
  Yk.lookOk L hD hi ht hz hm hy h ha (by rw [hG]; exact hk)
theorem Yk.lookMS (L : KL P Kt OK) (hD : ∀ a, D a → OK (ek a)) (hi : ∀ a c, ek a = ek c → a = c) (ht : P.underlying t = some (.map Kt E)) {z : Value} (hz : ∀ u : World, (zeroValue E).run P u = .ok z u) {x y : Operand} {a : α} {c : β}
    (hm : evalR ρ x = .map (some b)) (hy : evalR ρ y = ek a) (h : MapF ek ev D w b G) (ha : D a) (hG : G a = some c) (hk : K (ev c) w) : Yk P K ((execOp (evalR ρ) ⟨d, .lookup t x y false, ty, pos, af, gd⟩).run P w) :=
  Yk.lookM L hD hi ht hz hm hy h ha (by rw [hG]; exact hk)
theorem Yk.build {parts : Array (Nat × Operand)} {vs : Array (Nat × Value)} {v : Value} (hv : (parts.map fun (i, x) => (i, evalR ρ x)) = vs) (hr : ∀ w : World, (Instr.build t vs).run P w = .ok v w) (hk : K v w) :
    Yk P K ((execOp (evalR ρ) ⟨d, .build t parts, ty, pos, af, gd⟩).run P w) := by
  refine Yk.value (v := v) (w' := w) ?_ hk
  unfold execOp
  simp only [hv, hr, Sem.run_bind, Result.andThen_ok, Sem.run_pure]
theorem Yk.build1 {i0 : Nat} {x0 : Operand} {v0 v : Value} (h0 : evalR ρ x0 = v0) (hr : ∀ w : World, (Instr.build t #[(i0, v0)]).run P w = .ok v w) (hk : K v w) : Yk P K ((execOp (evalR ρ) ⟨d, .build t #[(i0, x0)], ty, pos, af, gd⟩).run P w) :=
  Yk.build (by simp [h0]) hr hk
theorem Yk.build2 {i0 i1 : Nat} {x0 x1 : Operand} {v0 v1 v : Value} (h0 : evalR ρ x0 = v0) (h1 : evalR ρ x1 = v1) (hr : ∀ w : World, (Instr.build t #[(i0, v0), (i1, v1)]).run P w = .ok v w) (hk : K v w) : Yk P K ((execOp (evalR ρ) ⟨d, .build t #[(i0, x0), (i1, x1)], ty, pos, af, gd⟩).run P w) :=
  Yk.build (by simp [h0, h1]) hr hk
theorem RG.slice {k : Nat} {enc : α → List Value} {v : Value} {l : List α} (h : RG k enc w v l) : ∃ ao n c, v = .slice ao n c := by
  obtain ⟨ao, c, rfl⟩ := h.len
  exact ⟨ao, _, c, rfl⟩
theorem Yk.mkIface {fs} (hu : P.underlying t = some (.struct fs)) {x : Operand} {v : Value} (hx : evalR ρ x = v) (hk : K (.iface t v) w) : Yk P K ((execOp (evalR ρ) ⟨d, .makeInterface t x, ty, pos, af, gd⟩).run P w) := by
  refine Yk.value (v := .iface t v) (w' := w) ?_ hk
  unfold execOp
  simp [Instr.makeInterface, hx, run_underlying hu, Result.andThen]
theorem Yk.lit1G {k : Nat} {enc : α → List Value} {e : TypeId} {x : Operand} {a : α} (hx : evalR ρ x = .agg (enc a).toArray) (hl : (enc a).length = k)
    (hr : ∀ (cs : Array Value), cs.size = k → ∀ w : World, (Instr.buildSlice t 1 #[(0, .agg cs)]).run P w = .ok (.slice (some ⟨w.heap.size, 0, none⟩) 1 1) (w.alloc (.cells cs e)))
    (hk : ∀ v w', RG k enc w' v [a] → Ext w w' → K v w') : Yk P K ((execOp (evalR ρ) ⟨d, .buildSlice t 1 #[(0, x)], ty, pos, af, gd⟩).run P w) := by
  have hE : Ext w (w.alloc (.cells (enc a).toArray e)) := (Below.refl _ _).alloc (Nat.le_refl _) _
  refine Yk.value (v := .slice (some ⟨w.heap.size, 0, none⟩) 1 1) (w' := w.alloc (.cells (enc a).toArray e)) ?_ (hk _ _ (RG.single hl (heap_alloc_new w _)) hE)
  unfold execOp
  simp only [List.map_toArray, List.map_cons, List.map_nil, hx, Sem.run_bind, hr _ (show (enc a).toArray.size = k by rw [List.size_toArray]; exact hl), Result.andThen_ok, Sem.run_pure]
theorem RG.elem {k : Nat} {enc : α → List Value} {v : Value} {l : List α} (h : RG k enc w v l) (dd : α) {i : Nat} (hi : i < l.length) : (enc (l.getD i dd)).length = k := by
  refine h.1 _ ?_
  rw [List.getD_eq_getElem?_getD, List.getElem?_eq_getElem hi]
  exact List.getElem_mem hi
theorem RG.cut {k : Nat} {enc : α → List Value} {v : Value} {l : List α} (h : ∀ x ∈ l, (enc x).length = k) {a c : Nat} (ha : a ≤ c) (hc : c ≤ l.length) (hR : Reads w k v (c - a) (((l.flatMap enc).drop (a * k)).take ((c - a) * k))) : RG k enc w v ((l.drop a).take (c - a)) := by
  have hd : ∀ (l : List α) (n : Nat), (∀ x ∈ l, (enc x).length = k) → (l.flatMap enc).drop (n * k) = (l.drop n).flatMap enc := by
    intro l n
    induction n generalizing l with
    | zero => intro _; simp
    | succ n ih =>
      intro h
      cases l with
      | nil => simp
      | cons x r =>
        have hx := h x (by simp)
        rw [List.flatMap_cons, List.drop_succ_cons, ← ih r (fun y hy => h y (by simp [hy])), show (n + 1) * k = (enc x).length + n * k by rw [hx, Nat.add_mul]; omega, List.drop_append, List.drop_of_length_le (by omega), Nat.add_sub_cancel_left, List.nil_append]
  have htk : ∀ (l : List α) (n : Nat), (∀ x ∈ l, (enc x).length = k) → (l.flatMap enc).take (n * k) = (l.take n).flatMap enc := by
    intro l n
    induction n generalizing l with
    | zero => intro _; simp
    | succ n ih =>
      intro h
      cases l with
      | nil => simp
      | cons x r =>
        have hx := h x (by simp)
        rw [List.flatMap_cons, List.take_succ_cons, List.flatMap_cons, ← ih r (fun y hy => h y (by simp [hy])), show (n + 1) * k = (enc x).length + n * k by rw [hx, Nat.add_mul]; omega, List.take_append, List.take_of_length_le (by omega), Nat.add_sub_cancel_left]
  refine ⟨fun x hx => h x (List.mem_of_mem_drop (List.mem_of_mem_take hx)), ?_⟩
  rw [hd l a h, htk _ _ (fun x hx => h x (List.mem_of_mem_drop hx))] at hR
  rw [show ((l.drop a).take (c - a)).length = c - a by rw [List.length_take, List.length_drop]; omega]
  exact hR
theorem nat_at {l : List Nat} {i : Nat} (hi : i < l.length) : (l.map fun x => NI x)[i]? = some (NI (l.getD i 0)) := by simp [hi]
theorem cellsN_one (l : List Nat) : ∀ v ∈ (l.map fun x => NI x), v.oneCell' = true := by
  intro v hv
  obtain ⟨_, _, rfl⟩ := List.mem_map.1 hv
  rfl
theorem Yk.storeN {t' : TypeId} {x y : Operand} {g i : Nat} {l : List Nat} {t : TypeId} {v : Nat} (hx : evalR ρ x = .pointer (some ⟨g, i, none⟩)) (hy : evalR ρ y = NI v) (hg : w.heap[g]? = some (.cells (l.map fun x => NI x).toArray t (0, 0))) (hi : i < l.length) (hz : (P.info? t').map (·.size) = some 1)
    (hk : ∀ w', w'.heap[g]? = some (.cells ((l.set i v).map fun x => NI x).toArray t (0, 0)) → w.grownBy w' (some g) → w'.heap.size = w.heap.size → K undef w') : Yk P K ((execOp (evalR ρ) ⟨d, .store t' x y, ty, pos, af, gd⟩).run P w) :=
  Yk.storeC hx hy hg (by simpa using hi) hz rfl rfl fun w' h1 h2 h3 => hk w' (by rw [List.map_set]; exact h1) h2 h3
theorem Yk.idxN {xType e : TypeId} {n : Nat} (ht : P.underlying xType = some (.array n e)) {de : TypeDesc} (he : P.underlying e = some de) (hd : (match de with | .struct _ | .array _ _ => false | _ => true) = true) (hs : ∀ w' : World, (sizeOf e).run P w' = .ok 1 w') {x y : Operand} {l : List Nat} {i : Nat} {k : IntKind}
    (hx : evalR ρ x = .agg (l.map fun x => NI x).toArray) (hy : evalR ρ y = .int k (i : Int)) (hi : i < n) (hl : l.length = n) (hk : K (NI (l.getD i 0)) w) : Yk P K ((execOp (evalR ρ) ⟨d, .index xType x y, ty, pos, af, gd⟩).run P w) :=
  Yk.idxA ht he hd hs hx hy hi (nat_at (by omega)) hk
theorem Yp.callA1 {f : FuncId} (hp : Plain P f) {x0 : Operand} {v0 : Value} {at_ : Array TypeId} {J : List PanicEntry → World → Prop} (h0 : evalR ρ x0 = v0)
    (h : Calls P f #[v0] w fun e w' => match e with | .returned v => K v w' | .panicked ch => J ch w' | .outgrown => False) : Yp P K J ((execOp (evalR ρ) ⟨d, .call ⟨.value (.func f), #[x0], at_⟩, ty, pos, af, gd⟩).run P w) :=
  Yp.call hp [v0] (by simp [h0]) h
theorem Yp.callA2 {f : FuncId} (hp : Plain P f) {x0 x1 : Operand} {v0 v1 : Value} {at_ : Array TypeId} {J : List PanicEntry → World → Prop} (h0 : evalR ρ x0 = v0) (h1 : evalR ρ x1 = v1)
    (h : Calls P f #[v0, v1] w fun e w' => match e with | .returned v => K v w' | .panicked ch => J ch w' | .outgrown => False) : Yp P K J ((execOp (evalR ρ) ⟨d, .call ⟨.value (.func f), #[x0, x1], at_⟩, ty, pos, af, gd⟩).run P w) :=
  Yp.call hp [v0, v1] (by simp [h0, h1]) h
theorem Yp.callA3 {f : FuncId} (hp : Plain P f) {x0 x1 x2 : Operand} {v0 v1 v2 : Value} {at_ : Array TypeId} {J : List PanicEntry → World → Prop} (h0 : evalR ρ x0 = v0) (h1 : evalR ρ x1 = v1) (h2 : evalR ρ x2 = v2)
    (h : Calls P f #[v0, v1, v2] w fun e w' => match e with | .returned v => K v w' | .panicked ch => J ch w' | .outgrown => False) : Yp P K J ((execOp (evalR ρ) ⟨d, .call ⟨.value (.func f), #[x0, x1, x2], at_⟩, ty, pos, af, gd⟩).run P w) :=
  Yp.call hp [v0, v1, v2] (by simp [h0, h1, h2]) h
theorem Yp.callA4 {f : FuncId} (hp : Plain P f) {x0 x1 x2 x3 : Operand} {v0 v1 v2 v3 : Value} {at_ : Array TypeId} {J : List PanicEntry → World → Prop} (h0 : evalR ρ x0 = v0) (h1 : evalR ρ x1 = v1) (h2 : evalR ρ x2 = v2) (h3 : evalR ρ x3 = v3)
    (h : Calls P f #[v0, v1, v2, v3] w fun e w' => match e with | .returned v => K v w' | .panicked ch => J ch w' | .outgrown => False) : Yp P K J ((execOp (evalR ρ) ⟨d, .call ⟨.value (.func f), #[x0, x1, x2, x3], at_⟩, ty, pos, af, gd⟩).run P w) :=
  Yp.call hp [v0, v1, v2, v3] (by simp [h0, h1, h2, h3]) h
end
open Go.RowKit
open Go.WideMaps (KeyLaw)
open Go.ChangeMaps (setBlock heap_setBlock_same heap_setBlock_other)
def rk (r : List UInt8) : Value := .agg (Lib.byteCells r).toArray
theorem rk_inj {r s : List UInt8} (h : rk r = rk s) : r = s := by
  unfold rk at h
  injection h with h
  have h2 : Lib.byteCells r = Lib.byteCells s := List.toArray_inj h
  unfold Lib.byteCells at h2
  exact (List.map_inj_right (fun a b hab => by injection hab with _ h3; exact UInt8.toNat_inj.1 (by omega))).1 h2
theorem mapM_ex {α β : Type} {f : α → Option β} : ∀ {l : List α}, (∀ x ∈ l, ∃ y, f x = some y) → ∃ ys, l.mapM f = some ys
  | [], _ => ⟨[], rfl⟩
  | x :: l, h => by
    obtain ⟨y, hy⟩ := h x (by simp)
    obtain ⟨ys, hys⟩ := mapM_ex (l := l) (fun z hz => h z (by simp [hz]))
    exact ⟨y :: ys, by simp [List.mapM_cons, hy, hys]⟩
theorem keyOf_row {P : Program} {k e : TypeId} {n : Nat} (hu : P.underlying k = some (.array n e)) (he : P.underlying e = some (.int .u8)) (hc : P.cellsOf e = 1) (hn : P.cellsOf k = n) (hk : P.keyType k = true) (hsz : 0 < P.types.size) {r : List UInt8} (hr : r.length = n) : ∃ l, keyOf P k (rk r) = some l := by
  have hf : (rk r).formed P k = true := by simp [rk, Value.formed, hu, hn, hr, Lib.byteCells]
  have hl : ∀ i ∈ List.range n, ∃ y, P.keyLits P.types.size e (((Lib.byteCells r).drop (i * P.cellsOf e)).take (P.cellsOf e)) = some y := fun i hi => by
    have hi' : i < r.length := by rw [hr]; simpa using hi
    have h1 : ((Lib.byteCells r).drop (i * P.cellsOf e)).take (P.cellsOf e) = [Value.int .u8 ((r[i]).toNat : Int)] := by
      rw [hc, Nat.mul_one]
      simp [Lib.byteCells, hi', List.take_one, List.head?_drop]
    have hw : (Lit.int .u8 ((r[i]).toNat : Int)).wf = true := by
      have := (r[i]).toNat_lt
      simp [Lit.wf, IntKind.min, IntKind.max, IntKind.signed, IntKind.bits]
      omega
    rw [h1]
    obtain ⟨m, hm⟩ : ∃ m, P.types.size = m + 1 := ⟨P.types.size - 1, by omega⟩
    rw [hm]
    exact ⟨[.int .u8 ((r[i]).toNat : Int)], by simp [Program.keyLits, he, hw]⟩
  obtain ⟨ys, hys⟩ := mapM_ex hl
  refine ⟨.string (keyBytes ys.flatten), ?_⟩
  · unfold keyOf
    simp only [hu]
    rw [if_pos (by simp [hk, hf])]
    unfold Program.keyLits
    simp only [hu, rk, Value.cells]
    rw [if_pos (by rw [hn]; simp [Lib.byteCells, hr]), hys]
    rfl
def EntAt (w : World) (base : Nat) (I : TypeId) (G : List UInt8 → List Nat) (e : MapEntry) : Prop := ∃ r, r.length = 8 ∧ e.key = rk r ∧ G r ≠ [] ∧ w.ownsRow base I 1 e.val (G r).length ((G r).map NI)
structure IdxIn (w : World) (base : Nat) (I : TypeId) (G : List UInt8 → List Nat) (es : List MapEntry) (clock : Nat) : Prop where
  born : ∀ e ∈ es, e.born < clock
  nodup : (es.map (·.born)).Nodup
  keys : (es.map (·.key)).Nodup
  ent : ∀ e ∈ es, EntAt w base I G e
  all : ∀ r, r.length = 8 → G r ≠ [] → ∃ e ∈ es, e.key = rk r
  apart : es.Pairwise fun e f => ApartV e.val f.val ∧ ApartV f.val e.val
def IdxAt (w : World) (b base : Nat) (I : TypeId) (G : List UInt8 → List Nat) : Prop := b < base ∧ ∃ es clock, w.heap[b]? = some (.map es.toArray clock) ∧ IdxIn w base I G es clock
section
variable {P : Program} {w w' : World} {b base : Nat} {I : TypeId} {G : List UInt8 → List Nat}
theorem EntAt.keep {e : MapEntry} (h : EntAt w base I G e) (k : Ext w w') : EntAt w' base I G e := by
  obtain ⟨r, h1, h2, h3, h4⟩ := h
  exact ⟨r, h1, h2, h3, Stab.own _ _ _ _ _ _ _ _ h4 k⟩
theorem IdxIn.keep {es : List MapEntry} {c : Nat} (h : IdxIn w base I G es c) (k : Ext w w') : IdxIn w' base I G es c :=
  ⟨h.born, h.nodup, h.keys, fun e he => (h.ent e he).keep k, h.all, h.apart⟩
theorem IdxAt.keep (h : IdxAt w b base I G) (k : Ext w w') : IdxAt w' b base I G := by
  obtain ⟨h1, es, c, h2, h3⟩ := h
  exact ⟨h1, es, c, Ext.blk' k h2, h3.keep k⟩
theorem IdxAt.lt (h : IdxAt w b base I G) : b < w.heap.size := by
  obtain ⟨h1, es, c, h2, h3⟩ := h
  exact (Array.getElem?_eq_some_iff.1 h2).1
theorem IdxAt.made (w : World) : IdxAt (w.alloc (.map #[] 0)) w.heap.size (w.heap.size + 1) I (fun _ => []) :=
  ⟨Nat.lt_succ_self _, [], 0, heap_alloc_new w _, by simp, by simp, by simp, by simp, fun r _ h => absurd rfl h, by simp⟩
structure OpenIn (w : World) (base : Nat) (I : TypeId) (G : List UInt8 → List Nat) (r : List UInt8) (v : Value) (l1 : List MapEntry) (e0 : MapEntry) (l2 : List MapEntry) (clock : Nat) : Prop where
  key : e0.key = rk r
  born : ∀ e ∈ l1 ++ e0 :: l2, e.born < clock
  nodup : ((l1 ++ e0 :: l2).map (·.born)).Nodup
  keys : ((l1 ++ e0 :: l2).map (·.key)).Nodup
  ent : ∀ e ∈ l1 ++ l2, EntAt w base I G e
  all : ∀ s, s.length = 8 → s ≠ r → G s ≠ [] → ∃ e ∈ l1 ++ l2, e.key = rk s
  apart : (l1 ++ l2).Pairwise fun e f => ApartV e.val f.val ∧ ApartV f.val e.val
  mine : ∀ e ∈ l1 ++ l2, ApartV e.val v ∧ ApartV v e.val
def IdxOpen (w : World) (b base : Nat) (I : TypeId) (G : List UInt8 → List Nat) (r : List UInt8) (v : Value) (zs : List Nat) (st : Nat) : Prop :=
  b < base ∧ r.length = 8 ∧ w.ownsRow base I 1 v zs.length (zs.map NI) ∧ ∃ l1 e0 l2 clock, w.heap[b]? = some (.map (l1 ++ e0 :: l2).toArray clock) ∧ e0.born = st ∧ OpenIn w base I G r v l1 e0 l2 clock
theorem IdxOpen.grew {r : List UInt8} {v v' : Value} {zs zs' : List Nat} {st : Nat} (h : IdxOpen w b base I G r v zs st) (gr : Grew w w' v v') (ho : w'.ownsRow base I 1 v' zs'.length (zs'.map NI)) : IdxOpen w' b base I G r v' zs' st := by
  obtain ⟨h1, h2, h3, l1, e0, l2, c, h4, h5, h6⟩ := h
  have hvb : v.ownBlock ≠ some b := fun e => by have := (h3.lt b e).1; omega
  refine ⟨h1, h2, ho, l1, e0, l2, c, blk_grew h4 gr hvb, h5, h6.key, h6.born, h6.nodup, h6.keys, fun e he => ?_, h6.all, h6.apart, fun e he => ?_⟩
  · obtain ⟨q, k1, k2, k3, k4⟩ := h6.ent e he
    refine ⟨q, k1, k2, k3, k4.kept gr.by_ ?_⟩
    cases hb : e.val.ownBlock with
    | none => exact .inl rfl
    | some g => exact .inr (fun e1 => (h6.mine e he).1 g hb e1.symm)
  · obtain ⟨q, k1, k2, k3, k4⟩ := h6.ent e he
    have key : ∀ k, e.val.ownBlock = some k → v'.ownBlock ≠ some k := fun k hk hv => by
      rcases gr.fresh k hv with h7 | h7
      · exact (h6.mine e he).1 k hk h7
      · have := (k4.lt k hk).2; omega
    exact ⟨key, fun k hv hk => key k hk hv⟩
def updG (G : List UInt8 → List Nat) (r : List UInt8) (zs : List Nat) (s : List UInt8) : List Nat := if s = r then zs else G s
theorem modify_mid {α : Type} (f : α → α) (x : α) (l2 : List α) : ∀ l1 : List α, (l1 ++ x :: l2).modify l1.length f = l1 ++ f x :: l2
  | [] => rfl
  | a :: r => by simp [List.modify_succ_cons, modify_mid f x l2 r]
section
variable {t K E e8 : TypeId} (L : KeyLaw P K) (hk : ∀ r : List UInt8, r.length = 8 → ∃ l, keyOf P K (rk r) = some l) (ht : P.underlying t = some (.map K E)) (hz : ∀ u : World, (zeroValue E).run P u = .ok (.slice none 0 0) u)
include L hk ht hz
theorem IdxAt.look (h : IdxAt w b base I G) {r : List UInt8} (hr : r.length = 8) : ∃ v, (Instr.lookup t (.map (some b)) (rk r) false).run P w = .ok v w ∧ w.ownsRow base I 1 v (G r).length ((G r).map NI) := by
  obtain ⟨h1, es, c, hb, H⟩ := h
  obtain ⟨l, hl⟩ := hk r hr
  have hkeys : ∀ e ∈ es, ∃ l, keyOf P K e.key = some l := fun e he => by
    obtain ⟨q, k1, k2, -⟩ := H.ent e he
    rw [k2]
    exact hk q k1
  rcases L.find w hl es hkeys with ⟨f1, f2⟩ | ⟨j, e0, f1, f2, f3⟩
  · have hG : G r = [] := by
      by_cases hG : G r = []
      · exact hG
      · obtain ⟨e, he, hek⟩ := H.all r hr hG
        exact absurd hek (f2 e he)
    refine ⟨.slice none 0 0, by simp [Instr.lookup, run_underlying ht, MapKept.run_getObj_map hb, L.check w _ hl, f1, hz, Result.andThen], ?_⟩
    rw [hG]
    exact World.ownsRow_nil _ _ _ _
  · have hm : e0 ∈ es := List.mem_of_getElem? f2
    obtain ⟨q, k1, k2, k3, k4⟩ := H.ent e0 hm
    have : q = r := rk_inj (k2.symm.trans f3)
    subst this
    exact ⟨e0.val, by simp [Instr.lookup, run_underlying ht, MapKept.run_getObj_map hb, L.check w _ hl, f1, Result.andThen], k4⟩
theorem IdxAt.entry (h : IdxAt w b base I G) {r : List UInt8} (hr : r.length = 8) : ∃ v st w1, (Instr.mapEntry t (.map (some b)) (rk r)).run P w = .ok (.tuple #[v, goInt ((st : Nat) : Int)]) w1 ∧ w.grownBy w1 (some b) ∧ w1.heap.size = w.heap.size ∧ IdxOpen w1 b base I G r v (G r) st := by
  obtain ⟨h1, es, c, hb, H⟩ := h
  obtain ⟨l, hl⟩ := hk r hr
  have hblt : b < w.heap.size := (Array.getElem?_eq_some_iff.1 hb).1
  have hkeys : ∀ e ∈ es, ∃ l, keyOf P K e.key = some l := fun e he => by
    obtain ⟨q, k1, k2, -⟩ := H.ent e he
    rw [k2]
    exact hk q k1
  have hgr : ∀ o, w.grownBy { w with heap := w.heap.setIfInBounds b o } (some b) := fun o => ⟨rfl, rfl, rfl, by simp, fun i _ hi => by simp only [Array.getElem?_setIfInBounds]; rw [if_neg (fun e => hi (by rw [e]))]⟩
  have hnew : ∀ o, ({ w with heap := w.heap.setIfInBounds b o } : World).heap[b]? = some o := fun o => by simp [hblt]
  have hkeep : ∀ (o : Obj) e, EntAt w base I G e → EntAt { w with heap := w.heap.setIfInBounds b o } base I G e := fun o e ⟨q, k1, k2, k3, k4⟩ => by
    refine ⟨q, k1, k2, k3, k4.kept (hgr o) ?_⟩
    cases he : e.val.ownBlock with
    | none => exact .inl rfl
    | some g =>
      have := (k4.lt g he).1
      exact .inr (fun e1 => by cases e1; omega)
  rcases L.find w hl es hkeys with ⟨f1, f2⟩ | ⟨j, e0, f1, f2, f3⟩
  · have hG : G r = [] := by
      by_cases hG : G r = []
      · exact hG
      · obtain ⟨e, he, hek⟩ := H.all r hr hG
        exact absurd hek (f2 e he)
    refine ⟨.slice none 0 0, c, { w with heap := w.heap.setIfInBounds b (.map (es ++ ({ key := rk r, val := .slice none 0 0, born := c } : MapEntry) :: []).toArray (c + 1)) }, ?_, hgr _, by simp, h1, hr, ?_, es, ({ key := rk r, val := .slice none 0 0, born := c } : MapEntry), [], c + 1, hnew _, rfl, rfl, ?_, ?_, ?_, ?_, ?_, ?_, ?_⟩
    · simp [Instr.mapEntry, run_underlying ht, MapKept.run_getObj_map hb, L.check w false hl, f1, hz, MapKept.run_setObj_map _ hb, Result.andThen]
    · rw [hG]
      exact World.ownsRow_nil _ _ _ _
    · intro e he
      rcases List.mem_append.1 he with h2 | h2
      · have := H.born e h2; omega
      · rw [List.mem_singleton.1 h2]; simp
    · simp only [List.map_append, List.map_cons, List.map_nil]
      refine List.nodup_append.2 ⟨H.nodup, by simp, fun x hx y hy e => ?_⟩
      obtain ⟨e1, he1, rfl⟩ := List.mem_map.1 hx
      have := H.born e1 he1
      simp at hy
      omega
    · simp only [List.map_append, List.map_cons, List.map_nil]
      refine List.nodup_append.2 ⟨H.keys, by simp, fun x hx y hy e => ?_⟩
      obtain ⟨e1, he1, rfl⟩ := List.mem_map.1 hx
      simp at hy
      exact f2 e1 he1 (e.trans hy)
    · simp only [List.append_nil]
      exact fun e he => hkeep _ e (H.ent e he)
    · simp only [List.append_nil]
      exact fun s h2 _ h3 => H.all s h2 h3
    · simp only [List.append_nil]
      exact H.apart
    · exact fun e _ => ⟨fun k _ hk => by simp [Value.ownBlock] at hk, fun k hk => by simp [Value.ownBlock] at hk⟩
  · have hm : e0 ∈ es := List.mem_of_getElem? f2
    obtain ⟨q, k1, k2, k3, k4⟩ := H.ent e0 hm
    have hq : q = r := rk_inj (k2.symm.trans f3)
    subst hq
    have hsame : es.modify j (fun e => { e with key := rk q }) = es := by
      rw [Go.ChangeMaps.modify_eq_set _ _ _ _ f2]
      have : ({ e0 with key := rk q } : MapEntry) = e0 := by rw [← f3]
      rw [this]
      exact Go.WideElems.set_self _ _ _ f2
    have hrun : (Instr.mapEntry t (.map (some b)) (rk q)).run P w = .ok (.tuple #[e0.val, goInt ((e0.born : Nat) : Int)]) { w with heap := w.heap.setIfInBounds b (.map es.toArray c) } := by
      simp [Instr.mapEntry, run_underlying ht, MapKept.run_getObj_map hb, L.check w false hl, f1, f2, f3, L.stays w hl, hsame, MapKept.run_setObj_map _ hb, Result.andThen]
    obtain ⟨l1, l2, rfl⟩ := List.append_of_mem hm
    have hp := H.apart
    rw [List.pairwise_append, List.pairwise_cons] at hp
    have hsub : ∀ e, e ∈ l1 ++ l2 → e ∈ l1 ++ e0 :: l2 := fun e he => by
      rcases List.mem_append.1 he with h2 | h2
      · simp [h2]
      · simp [h2]
    refine ⟨e0.val, e0.born, { w with heap := w.heap.setIfInBounds b (.map (l1 ++ e0 :: l2).toArray c) }, ?_, hgr _, by simp, h1, hr, ?_, l1, e0, l2, c, hnew _, rfl, f3, H.born, H.nodup, H.keys, fun e he => hkeep _ e (H.ent e (hsub e he)), ?_, ?_, ?_⟩
    · exact hrun
    · refine k4.kept (hgr _) ?_
      cases he : e0.val.ownBlock with
      | none => exact .inl rfl
      | some g =>
        have := (k4.lt g he).1
        exact .inr (fun e1 => by cases e1; omega)
    · intro s h2 h3 h4
      obtain ⟨e, he, hek⟩ := H.all s h2 h4
      refine ⟨e, ?_, hek⟩
      rcases List.mem_append.1 he with h5 | h5
      · simp [h5]
      · rcases List.mem_cons.1 h5 with h6 | h6
        · subst h6
          exact absurd (rk_inj (hek.symm.trans f3)) h3
        · simp [h6]
    · rw [List.pairwise_append]
      exact ⟨hp.1, hp.2.1.2, fun x hx y hy => hp.2.2 x hx y (by simp [hy])⟩
    · intro e he
      rcases List.mem_append.1 he with h5 | h5
      · exact hp.2.2 e h5 e0 (by simp)
      · exact ⟨(hp.2.1.1 e h5).2, (hp.2.1.1 e h5).1⟩
end
theorem IdxOpen.store {t : TypeId} {r : List UInt8} {v : Value} {zs : List Nat} {st : Nat} (h : IdxOpen w b base I G r v zs st) (hne : zs ≠ []) : ∃ w1, (Instr.entryStore t (.map (some b)) (goInt ((st : Nat) : Int)) v).run P w = .ok () w1 ∧ w.grownBy w1 (some b) ∧ w1.heap.size = w.heap.size ∧ IdxAt w1 b base I (updG G r zs) := by
  obtain ⟨h1, hr, h3, l1, e0, l2, c, hb, rfl, H⟩ := h
  have hblt : b < w.heap.size := (Array.getElem?_eq_some_iff.1 hb).1
  have hgr : ∀ o, w.grownBy { w with heap := w.heap.setIfInBounds b o } (some b) := fun o => ⟨rfl, rfl, rfl, by simp, fun i _ hi => by simp only [Array.getElem?_setIfInBounds]; rw [if_neg (fun e => hi (by rw [e]))]⟩
  have hnew : ∀ o, ({ w with heap := w.heap.setIfInBounds b o } : World).heap[b]? = some o := fun o => by simp [hblt]
  have hrow : ∀ (o : Obj) {x : Value} {n : Nat} {xs : List Value}, w.ownsRow base I 1 x n xs → World.ownsRow { w with heap := w.heap.setIfInBounds b o } base I 1 x n xs := fun o x n xs k4 => by
    refine k4.kept (hgr o) ?_
    cases he : x.ownBlock with
    | none => exact .inl rfl
    | some g =>
      have := (k4.lt g he).1
      exact .inr (fun e1 => by cases e1; omega)
  have hidx : (l1 ++ e0 :: l2).toArray.findIdx? (fun e => ((e.born : Nat) : Int) == ((e0.born : Nat) : Int)) = some l1.length := by
    rw [Go.WideElems.findIdx_arr]
    exact Go.WideElems.findIdx_born H.nodup (by simp)
  have hmod : (l1 ++ e0 :: l2).toArray.modify l1.length (fun e => { e with val := v }) = (l1 ++ { e0 with val := v } :: l2).toArray := by
    apply Array.ext'
    rw [Array.toList_modify]
    exact modify_mid _ _ _ _
  have hsub : ∀ e, e ∈ l1 ++ l2 → e ∈ l1 ++ e0 :: l2 := fun e he => by
    rcases List.mem_append.1 he with h2 | h2
    · simp [h2]
    · simp [h2]
  have hkn : ∀ e ∈ l1 ++ l2, e.key ≠ e0.key := fun e he hke => by
    have hkk := H.keys
    simp only [List.map_append, List.map_cons, List.nodup_append, List.nodup_cons] at hkk
    rcases List.mem_append.1 he with h2 | h2
    · exact hkk.2.2 e.key (List.mem_map.2 ⟨e, h2, rfl⟩) e0.key (by simp) hke
    · exact hkk.2.1.1 (hke ▸ List.mem_map.2 ⟨e, h2, rfl⟩)
  have hent : ∀ (o : Obj), ∀ e ∈ l1 ++ l2, EntAt { w with heap := w.heap.setIfInBounds b o } base I (updG G r zs) e := fun o e he => by
    obtain ⟨q, k1, k2, k3, k4⟩ := H.ent e he
    have hqr : q ≠ r := fun e1 => hkn e he (by rw [k2, e1, H.key])
    have hu : updG G r zs q = G q := if_neg hqr
    exact ⟨q, k1, k2, by rw [hu]; exact k3, by rw [hu]; exact hrow o k4⟩
  have hur : updG G r zs r = zs := if_pos rfl
  have hp := H.apart
  rw [List.pairwise_append] at hp
  refine ⟨{ w with heap := w.heap.setIfInBounds b (.map (l1 ++ { e0 with val := v } :: l2).toArray c) }, ?_, hgr _, by simp, h1, _, c, hnew _, ?_, ?_, ?_, ?_, ?_, ?_⟩
  · simp [Instr.entryStore, MapKept.run_getObj_map hb, asInt, asIntOf, goInt, hidx, hmod, MapKept.run_setObj_map _ hb, Result.andThen]
  · intro e he
    rcases List.mem_append.1 he with h2 | h2
    · exact H.born e (by simp [h2])
    · rcases List.mem_cons.1 h2 with h4 | h4
      · rw [h4]; exact H.born e0 (by simp)
      · exact H.born e (by simp [h4])
  · have := H.nodup
    simpa using this
  · have := H.keys
    simpa using this
  · intro e he
    rcases List.mem_append.1 he with h2 | h2
    · exact hent _ e (by simp [h2])
    · rcases List.mem_cons.1 h2 with h4 | h4
      · rw [h4]
        exact ⟨r, hr, H.key, by rw [hur]; exact hne, by rw [hur]; exact hrow _ h3⟩
      · exact hent _ e (by simp [h4])
  · intro s h2 h4
    by_cases hs : s = r
    · exact ⟨{ e0 with val := v }, by simp, by rw [hs]; exact H.key⟩
    · rw [show updG G r zs s = G s from if_neg hs] at h4
      obtain ⟨e, he, hek⟩ := H.all s h2 hs h4
      refine ⟨e, ?_, hek⟩
      rcases List.mem_append.1 he with h5 | h5
      · simp [h5]
      · simp [h5]
  · rw [List.pairwise_append, List.pairwise_cons]
    refine ⟨hp.1, ⟨fun e he => ?_, hp.2.1⟩, fun x hx y hy => ?_⟩
    · have := H.mine e (by simp [he])
      exact ⟨this.2, this.1⟩
    · rcases List.mem_cons.1 hy with h4 | h4
      · rw [h4]
        exact H.mine x (by simp [hx])
      · exact hp.2.2 x hx y h4
end
open Go.RowKit
structure BX (N : Nat) (r : Option Nat) (w w' : World) : Prop where
  os : w'.os = w.os
  tape : w'.tape = w.tape
  output : w'.output = w.output
  size : w.heap.size ≤ w'.heap.size
  block : ∀ k, k < N → some k ≠ r → w'.heap[k]? = w.heap[k]?
def RowX (B N : Nat) (e : TypeId) (r : Option Nat) (l : List UInt8) (x : Value) (w' : World) : Prop := w'.ownsRow B e 1 x l.length (Lib.byteCells l) ∧ ∀ k, x.ownBlock = some k → r = some k ∨ N ≤ k
section
variable {N B : Nat} {r : Option Nat} {w w' w1 w0 : World} {e t : TypeId}
theorem BX.refl (N : Nat) (r : Option Nat) (w : World) : BX N r w w := ⟨rfl, rfl, rfl, Nat.le_refl _, fun _ _ _ => rfl⟩
theorem BX.trans {a b c : World} (h : BX N r a b) (k : BX N r b c) : BX N r a c := ⟨k.os.trans h.os, k.tape.trans h.tape, k.output.trans h.output, Nat.le_trans h.size k.size, fun i hi hr => (k.block i hi hr).trans (h.block i hi hr)⟩
theorem BX.ofExt (h : Ext w w') (hN : N ≤ w.heap.size) : BX N r w w' := ⟨h.os, h.tape, h.output, h.size, fun k hk _ => h.block k (Nat.lt_of_lt_of_le hk hN)⟩
theorem BX.ofGrown {q : Option Nat} (h : w.grownBy w' q) (hN : N ≤ w.heap.size) (hq : ∀ k, q = some k → r = some k ∨ N ≤ k) : BX N r w w' :=
  ⟨h.os, h.tape, h.output, h.size, fun k hk hr => h.block k (Nat.lt_of_lt_of_le hk hN) (fun e => (hq k e.symm).elim (fun x => hr x.symm) (fun x => by omega))⟩
theorem BX.grown (h : BX w.heap.size r w w') : w.grownBy w' r := ⟨h.os, h.tape, h.output, h.size, h.block⟩
theorem ext_bx (h : Ext w0 w) (k : BX N r w w1) (hle : w0.heap.size ≤ N) (hr : ∀ k, r = some k → w0.heap.size ≤ k) : Ext w0 w1 :=
  Below.trans h ⟨k.os, k.tape, k.output, k.size, fun i hi => k.block i (Nat.lt_of_lt_of_le hi hle) (fun e => by have := hr i e.symm; omega)⟩
theorem BX.blk {g : Nat} {o : Obj} (k : BX w.heap.size r w w1) (h : w.heap[g]? = some o) (hne : r ≠ some g) : w1.heap[g]? = some o := (k.block g (Array.getElem?_eq_some_iff.1 h).1 (fun e => hne e.symm)).trans h
theorem BX.map {α β : Type} {ek : α → Value} {ev : β → Value} {D : α → Prop} {b : Nat} {G : α → Option β} (k : BX w.heap.size r w w1) (h : MapF ek ev D w b G) (hne : r ≠ some b) : MapF ek ev D w1 b G := h.other k.grown hne
end
section
variable {P : Program} {n : Nat} {ρ : Slots} {w : World} {Q : PostF}
def rowXC (w : World) (r : Option Nat) (es : List Nat) (m : Nat) : World → Prop := bif es.contains m then Ext w else BX w.heap.size r w
def rowXR (N : Nat) (r : Option Nat) (cs : List Nat) (m : Nat) : World → World → Prop := bif cs.contains m then BX N r else Ext
def esOk (l : List Oper) (cs es : List Nat) : Bool := cs.all fun m => es.all fun i => ((masks l []).getD m 0).testBit i
theorem wpF_draw_rowsX {l : List Oper} (r : Option Nat) (cs es : List Nat) (ks ls : Nat → List Nat) (Φs : List Fact) {id : Nat} (hm : P.follows .mixedOrders = true) (ds : List Tmp) (hg : goodB l n = true) (hkl : killB l ks = true) (hds : slotsW l = ds)
    (hls : lsOk l cs ks ls = true) (hes : esOk l cs es = true) (hgc : (cs.all fun m => ((l[m]?).bind (·.guard)).isNone) = true) (hst : AllStab Ext Φs) (hsB : AllCh (BX w.heap.size r) ls Φs cs)
    (hs : StepsF P l (rowXC w r es) (rowXR w.heap.size r cs) (facts Φs) ρ 0 l)
    (hQ : ∀ (ρ' : Slots) w', BX w.heap.size r w w' → EndF ds ρ ρ' → EndFacts l ks (facts Φs) ρ' w' ds → Q .normal ρ' w') : wpF P n (.region id l.toArray true) Q ρ w := by
  have stepR : ∀ m a b, BX w.heap.size r w a → rowXR w.heap.size r cs m a b → BX w.heap.size r w b := fun m a b h k => by
    unfold rowXR at k
    cases hc : cs.contains m <;> rw [hc] at k
    · exact h.trans (BX.ofExt k h.size)
    · exact h.trans k
  have drew : Ext w w.drew := (Below.refl _ _).drew
  intro a ha
  obtain ⟨T, df⟩ := a
  have hz : T.size = n := ha.size
  subst hz
  refine wp_region_core ks (rowXC w r es) (fun _ w' => BX w.heap.size r w w') _ (facts Φs) hm T df hg hkl ds hds (fun m i _ _ hne hbit w1 w' hc hr => ?_) (fun m listed w1 w' _ _ _ _ hE hR => stepR m _ _ hE hR) (fun m i hm' hi hni hne hbit v w1 w' h hr => ?_) (fun m o w1 ho hgo => ?_) (fun m _ => ?_) (BX.ofExt drew (Nat.le_refl _)) (StepsF.ok ha.get l 0 hs) (fun u listed w' hall hE hf => ?_)
  · unfold rowXC at hc ⊢
    cases he : es.contains i <;> rw [he] at hc
    · exact stepR m _ _ hc hr
    · unfold rowXR at hr
      cases hcm : cs.contains m <;> rw [hcm] at hr
      · exact Ext.trans hc hr
      · unfold esOk at hes
        have := List.all_eq_true.1 (List.all_eq_true.1 hes m (by simpa using hcm)) i (by simpa using he)
        rw [this] at hbit
        cases hbit
  · unfold rowXR at hr
    cases hc : cs.contains m <;> rw [hc] at hr
    · exact hst.get Φs i v w1 w' h hr
    · refine (AllCh.get cs hsB m hc).get Φs 0 i ?_ v w1 w' h hr
      rw [Nat.zero_add]
      intro hmem
      unfold lsOk at hls
      have h1 := List.all_eq_true.1 (List.all_eq_true.1 hls m (by simpa using hc)) i hmem
      simp only [Bool.or_eq_true] at h1
      rcases h1 with (h1 | h1) | h1
      · exact hni (by simpa using h1)
      · exact hne (Nat.eq_of_beq_eq_true h1)
      · rw [h1] at hbit
        cases hbit
  · unfold rowXR
    cases hc : cs.contains m
    · exact Ext.refl w1
    · have := List.all_eq_true.1 hgc m (by simpa using hc)
      rw [ho] at this
      simp only [Option.bind_some, Option.isNone_iff_eq_none] at this
      rw [this] at hgo
      cases hgo
  · unfold rowXC
    cases es.contains m
    · exact BX.ofExt drew (Nat.le_refl _)
    · exact drew
  · have hw := wrote_slots ha.get ds (good_room hg ds hds) u
    refine ⟨fun t => if t ∈ ds then u t else ρ t, ⟨by rw [wrote_size], ha.defers, hw⟩, hQ _ w' hE ⟨fun t ht => if_neg (by simpa using ht)⟩ ?_⟩
    have key : ∀ es : List Tmp, (∀ d ∈ es, d ∈ ds) → EndFacts l ks (facts Φs) u w' es → EndFacts l ks (facts Φs) (fun t => if t ∈ ds then u t else ρ t) w' es := by
      intro es
      induction es with
      | nil => exact fun _ _ => trivial
      | cons d es ih =>
        intro hm h
        refine ⟨?_, ih (fun x hx => hm x (by simp [hx])) h.2⟩
        have := h.1
        simp only [if_pos (hm d (by simp))]
        exact this
    exact key ds (fun _ h => h) hf
end
open Go.RowKit
theorem Yp.mono' {P : Program} {K K' : Value → World → Prop} {J J' : List PanicEntry → World → Prop} {r : Result Next} (h : Yp P K J r) (hm : ∀ v w, K v w → K' v w) (hj : ∀ c w, J c w → J' c w) : Yp P K' J' r := by
  match r, h with
  | .ok (.value v) w', h => exact hm _ _ h
  | .ok .skip w', h => exact hm _ _ h
  | .halt (.panic v) w', h => exact hj _ _ h
  | .ok (.enter f args) w', h =>
    refine Calls.mono h fun e w'' hx => ?_
    match e, hx with
    | .returned v, hx => exact hm _ _ hx
    | .panicked ch, hx => exact hj _ _ hx
section
variable {P : Program} {l : List Oper} {kill : Nat → List Nat} {C : Nat → World → Prop} {R : Nat → World → World → Prop} {Φ : Nat → Fact} {a0 : Act}
theorem anyInvLP (g : Good l a0.tmps.size) (hkl : killB l kill = true) {L : Nat} {oL : Oper} (hn : lastB l L = true) (hoL : l[L]? = some oL) (hgL : oL.guard = none) (hdL : oL.dst = none)
    (hC : ∀ n m, n < l.length → m < l.length → n ≠ m → ((masks l []).getD n 0).testBit m = false → ∀ w w', C m w → R n w w' → C m w') (hΦ : ∀ n i, n < l.length → i < l.length → i ∉ kill n → i ≠ n → ((masks l []).getD i 0).testBit n = false → ∀ v w w', Φ i v w → R n w w' → Φ i v w') (hRr : ∀ n o w, l[n]? = some o → o.guard.isSome = true → R n w w) (hs : ∀ i o, l[i]? = some o → i ≠ L → StepOk P l C R Φ a0.tmps i o) {Q : Exit → Act → World → Prop}
    (hQ : ∀ listed a' w', (∀ i, i < l.length → i ≠ L → On listed i) → ¬ On listed L → Inv l kill C (fun _ _ => True) Φ a0 listed a' w' → Yp P (fun _ w'' => Q .normal a' w'') (fun ch w'' => Q (.panic ch) a' w'') ((execOp a'.eval oL).run P w')) :
    ∀ (fuel : Nat) (listed : Array Bool) (a : Act) (w : World), (listed.toList.filter (!·)).length = fuel → ¬ On listed L → Inv l kill C (fun _ _ => True) Φ a0 listed a w → wpAny P .any l.toArray Q fuel listed a w := by
  obtain ⟨hlen, hb⟩ := lastB_iff hn
  have rdy : ∀ (listed : Array Bool), listed.size = l.length → (∀ i, i < l.length → On listed i) → Region.ready .any l.toArray listed = [] := by
    intro listed hsz hon
    cases hr : Region.ready .any l.toArray listed with
    | nil => rfl
    | cons x xs =>
      exfalso
      have hm : x ∈ Region.ready .any l.toArray listed := by rw [hr]; simp
      obtain ⟨h1, o, ho, _⟩ := mem_ready.1 hm
      have hx : x < l.length := by simpa using (Array.getElem?_eq_some_iff.1 ho).1
      have h2 := hon x hx
      have hx' : x < listed.size := h2.lt
      unfold On at h2
      simp [hx'] at h1 h2
      rw [h1] at h2
      cases h2
  intro fuel
  induction fuel with
  | zero =>
    intro listed a w hf hoff h
    exfalso
    have := count_zero _ hf L (by rw [Array.length_toList, h.size]; omega)
    exact hoff (by unfold On; simp at this; simp [this])
  | succ fuel ih =>
    intro listed a w hf hoff h
    have hstep : ∀ i ∈ Region.ready .any l.toArray listed, ∃ o, l[i]? = some o ∧ ¬ On listed i ∧ (∀ e ∈ o.after, Region.binds .any e = true → On listed e.on) ∧ ((listed.setIfInBounds i true).toList.filter (!·)).length = fuel := by
      intro i hi
      obtain ⟨h1, o, ho, hall⟩ := mem_ready.1 hi
      have ho' : l[i]? = some o := by simpa using ho
      have hil : i < listed.size := by rw [h.size]; exact (List.getElem?_eq_some_iff.1 ho').1
      refine ⟨o, ho', ?_, fun e he hb => hall e he hb, ?_⟩
      · unfold On
        simp [hil] at h1 ⊢
        exact h1
      · rw [Array.toList_setIfInBounds]
        have := count_set listed.toList i (by
          simp [hil] at h1
          simp [hil, h1])
        omega
    refine ⟨fun hr => ?_, fun i hi => ?_⟩
    · exfalso
      have full : ∀ i, i < l.length → On listed i := by
        intro i
        induction i using Nat.strongRecOn with
        | _ i ih =>
          intro hi
          refine Classical.byContradiction fun hno => ?_
          have ho : l[i]? = some l[i] := List.getElem?_eq_getElem hi
          have : i ∈ Region.ready .any l.toArray listed := by
            refine mem_ready.2 ⟨?_, l[i], by rw [List.getElem?_toArray]; exact ho, fun e he hb => ?_⟩
            · have hi' : i < listed.size := by rw [h.size]; exact hi
              unfold On at hno
              simp [hi'] at hno ⊢
              exact hno
            · have hlt := g.back i _ ho e he hb
              exact ih e.on hlt (by omega)
          rw [hr] at this
          cases this
      exact hoff (full L (by omega))
    · obtain ⟨o, ho, hno, hall, hcnt⟩ := hstep i hi
      by_cases hiL : i = L
      · subst hiL
        obtain rfl : oL = o := by rw [hoL] at ho; exact Option.some.inj ho
        have hon : ∀ j, j < l.length → j ≠ i → On listed j := fun j hj hne => h.maskReady ho hall (hb j (by omega))
        have hst := hQ listed a w hon hno h
        have hall' : ∀ j, j < l.length → On (listed.setIfInBounds i true) j := fun j hj => by
          by_cases hji : j = i
          · exact (on_set (by rw [h.size]; omega)).2 (.inl hji)
          · exact (on_set (by rw [h.size]; omega)).2 (.inr (hon j hj hji))
        have hr := rdy (listed.setIfInBounds i true) (by simpa using h.size) hall'
        have fin : ∀ v w', Q .normal a w' → wpAny P .any l.toArray Q fuel (listed.setIfInBounds i true) (a.put oL.dst v) w' := fun v w' hq => by
          have e1 : a.put oL.dst v = a := by rw [hdL]; rfl
          rw [e1]
          cases fuel with
          | zero => exact ⟨hr, hq⟩
          | succ m => exact ⟨fun _ => hq, fun j hj => by rw [hr] at hj; cases hj⟩
        unfold wpOp
        simp only [List.getElem?_toArray, ho]
        have hw : Region.wanted oL (yielded l.toArray a.tmps) = true := by unfold Region.wanted; rw [hgL]
        rw [if_pos hw]
        refine .inl ?_
        unfold Oper.wp
        generalize (execOp a.eval oL).run P w = r at hst ⊢
        match r, hst with
        | .ok (.value v) w', hst => exact fin _ _ hst
        | .ok .skip w', hst => exact fin _ _ hst
        | .halt (.panic v) w', hst => exact hst
        | .ok (.enter f args) w', hst =>
          refine Calls.mono hst fun e w'' hx => ?_
          match e, hx with
          | .returned v, hx => exact fin _ _ hx
          | .panicked ch, hx => exact hx
      · refine h.step g hkl hC (fun _ _ _ _ _ _ _ _ _ _ => trivial) hΦ hRr ho hno hall (hs i o ho hiL) fun a' w' h' => ih _ _ _ hcnt (fun hx => ?_) h'
        exact ((on_set (by rw [h.size]; exact (List.getElem?_eq_some_iff.1 ho).1)).1 hx).elim (fun e => hiL e.symm) hoff
end
section
variable {P : Program} {n : Nat} {ρ : Slots} {w : World} {Q : PostF}
theorem wpF_draw_lastP {l : List Oper} (L : Nat) (oL : Oper) (ks : Nat → List Nat) (C : Nat → World → Prop) (R : Nat → World → World → Prop) (Φs : List Fact) {id : Nat} (hm : P.follows .mixedOrders = true) (ds : List Tmp) (hg : goodB l n = true) (hn : lastB l L = true) (hkl : killB l ks = true) (hds : slotsW l = ds) (hoL : l[L]? = some oL) (hgL : oL.guard = none) (hdL : oL.dst = none)
    (hC : ∀ n m, n < l.length → m < l.length → n ≠ m → ((masks l []).getD n 0).testBit m = false → ∀ w w', C m w → R n w w' → C m w')
    (hΦ : ∀ n i, n < l.length → i < l.length → i ∉ ks n → i ≠ n → ((masks l []).getD i 0).testBit n = false → ∀ v w w', facts Φs i v w → R n w w' → facts Φs i v w')
    (hRr : ∀ n o w, l[n]? = some o → o.guard.isSome = true → R n w w) (h0 : ∀ n, n < l.length → C n { w with drawn := w.drawn + 1 })
    (hs : StepsFL P l L C R (facts Φs) ρ 0 l)
    (hQ : ∀ (ρ' : Slots) w1, C L w1 → EndF ds ρ ρ' → EndFacts l ks (facts Φs) ρ' w1 ds → Yp P (fun _ w' => Q .normal ρ' w') (fun ch w' => Q (.panic ch) ρ' w') ((execOp (evalR ρ') oL).run P w1)) : wpF P n (.region id l.toArray true) Q ρ w := by
  intro a ha
  obtain ⟨T, df⟩ := a
  have hz : T.size = n := ha.size
  subst hz
  obtain ⟨hl, hb⟩ := lastB_iff hn
  have g := good_of hg
  refine wp_region_any hm (anyInvLP (a0 := { tmps := T, defers := df }) (C := C) (R := R) (Φ := facts Φs) g hkl hn hoL hgL hdL hC hΦ hRr (fun i o ho hi => ?_) (fun listed a' w' hon hoff h => ?_) _ _ _ _ (by simp) ?_ ?_)
  · have hst := StepsFL.get l 0 hs i o ho (by omega)
    rw [Nat.zero_add] at hst
    have h2 := StepsF.ok (P := P) (l := l) (C := C) (R := R) (Φ := facts Φs) (T := T) ha.get [o] i ⟨hst, trivial⟩
    exact h2.1
  · -- what the slots hold
    have hw : ∀ d k, writer l d l.length = some k → (List.range l.length).all (fun n => !(ks n).contains k) = true → facts Φs k (a'.tmps.getD d undef) w' := fun d k hk hall => by
      obtain ⟨h1, ⟨o, ho, hd⟩, h3⟩ := writer_some _ hk
      have hkL : k ≠ L := fun e => by subst e; rw [hoL] at ho; cases ho; rw [hdL] at hd; cases hd
      refine h.new d k o ho hd (hon k h1 hkL) (fun k' o' hkk ho' hd' _ => h3 k' o' hkk (List.getElem?_eq_some_iff.1 ho').1 ho' hd') (fun n hn hkn => ?_)
      have hnl : n < l.length := by have := hn.lt; rw [h.size] at this; exact this
      have := List.all_eq_true.1 hall n (by simpa using hnl)
      simp at this
      exact this hkn
    have hget : ∀ t, a'.tmps.getD t undef = if t ∈ ds then a'.tmps.getD t undef else ρ t := fun t => by
      by_cases hn : t ∈ ds
      · rw [if_pos hn]
      · rw [if_neg hn, ← ha.get]
        exact h.old t fun k o ho hd _ => hn (by
          rw [← hds]
          unfold slotsW
          rw [List.mem_eraseDups, List.mem_filterMap]
          exact ⟨o, List.mem_of_getElem? ho, hd⟩)
    have hcl := h.cls L (by omega) hoff
    have hend : EndF ds ρ (fun t => a'.tmps.getD t undef) := ⟨fun t ht => by rw [hget t, if_neg (by simpa using ht)]⟩
    have := hQ (fun t => a'.tmps.getD t undef) w' hcl hend (endFacts_of hw ds)
    rw [evalR_eq] at this
    exact Yp.mono' this (fun v w'' hq => ⟨_, ⟨h.tmps, h.defers.trans ha.defers, fun t => rfl⟩, hq⟩) (fun ch w'' hq => ⟨_, ⟨h.tmps, h.defers.trans ha.defers, fun t => rfl⟩, hq⟩)
  · intro h
    unfold On at h
    rw [Array.getD_eq_getD_getElem?, Array.getElem?_replicate] at h
    split at h <;> simp at h
  · have hno : ∀ i, ¬ On (Array.replicate l.toArray.size false) i := fun i h => by
      unfold On at h
      rw [Array.getD_eq_getD_getElem?, Array.getElem?_replicate] at h
      split at h <;> simp at h
    exact ⟨Array.size_replicate, fun i o _ h => absurd h (hno i), rfl, rfl, fun n hn _ => h0 n hn, trivial, fun t _ => rfl, fun t k o _ _ h => absurd h (hno k)⟩
end
open Go.RowKit
set_option maxRecDepth 100000
def stopE (e : Nat) : PanicEntry := { v := .iface 69 (.agg ([NI e] : List Value).toArray), recovered := false }
theorem bcmp {vx vy : Value} {x y : Bs} {w : World} (hx : RB w vx x) (hy : RB w vy y) : (callFunc 86 #[vx, vy]).run Tryd.prog w = .ok (.value (.int .i64 (Lib.compareBytes x y))) w := by
 rw [run_callFunc_extern (e := Extern.BytealgCompare.compare) Tryd.func86 (by kernel_rfl) (by kernel_rfl) (by kernel_rfl) (by kernel_rfl), run_compareRB hx hy]
 rfl
theorem pk4_bd69i_0 (z0 : Int) (w : World) : (Instr.build 69 #[(0, .int .i64 z0)]).run Tryd.prog w = .ok (.agg ([.int .i64 z0] : List Value).toArray) w := by kernel_rfl
theorem pk4_ty69 : ∃ fs, Tryd.prog.underlying 69 = some (.struct fs) := struct_of (by kernel_rfl)
theorem pk4_ty38 : Tryd.prog.underlying 38 = some (.array 32 5) := by kernel_rfl
theorem pk4_sz5 : ∀ w' : World, (sizeOf 5).run Tryd.prog w' = .ok 1 w' := fun _ => by kernel_rfl
theorem pk4_pl73 : Plain Tryd.prog 73 := fun _ _ => by kernel_rfl
theorem need_any (w : World) (b : Bool) (e : Nat) :
  Calls Tryd.prog 64 #[.bool b, NI e] w fun r w' => (∃ v, r = .returned v ∧ v = .tuple #[] ∧ b = true ∧ Ext w w') ∨ ∃ ch, r = .panicked ch ∧ ch = [stopE e] ∧ b = false ∧ Ext w w' := by
 refine calls_of_wpP (args := [.bool (b), NI e]) Tryd.func64 rfl 9 rfl (Nat.le_of_ble_eq_true rfl) ?_
 intro ρ0 hb
 have T0 : ρ0 0 = (.bool (b) : Value) := hb.get 0
 have T1 : ρ0 1 = (NI e : Value) := hb.get 1
 clear hb
 have hE := Ext.refl w
 refine sk fun K1 hK1 => (wt (oM rfl (oS rfl (Yk.notB T0 (oZ (tN (hK1 _ _ ?_)))))))
 refine wpF_condB (!(b)) (vr (.bool (!(b))) rfl) (fun hc0 => ?_) (fun hc0 => ?_)
 ·refine wt (oM rfl (oS rfl (Yk.build1 T1 (fun w => pk4_bd69i_0 (((e : Nat) : Int)) w) (oS rfl (Yk.mkIface (pk4_ty69).choose_spec (vr (.agg ([NI e]).toArray) rfl) (oP rfl (Yp.panic (vr (.iface 69 (.agg ([NI e]).toArray)) rfl) (postP_panic ?_))))))))
  exact .inr ⟨_, rfl, rfl, by simpa using hc0, hE⟩
 refine wpF_skip (postP_end (fn := Tryd.f64) [] rfl [] (.tuple #[]) rfl trivial ?_)
 exact .inl ⟨_, rfl, rfl, by simpa using hc0, hE⟩

theorem bytesCompare_any (w : World) (vx vy : Value) (x y : Bs) (hx : RB w vx x) (hy : RB w vy y) :
  Calls Tryd.prog 73 #[vx, vy] w fun e w' => e = .returned (.int .i64 (Lib.compareBytes x y)) ∧ Ext w w' := by
 refine calls_of_wpF (args := [vx, vy]) Tryd.func73 rfl 8 rfl (Nat.le_of_ble_eq_true rfl) ?_
 intro ρ0 hb
 have T0 : ρ0 0 = (vx : Value) := hb.get 0
 have T1 : ρ0 1 = (vy : Value) := hb.get 1
 clear hb
 have hE := Ext.refl w
 refine sk fun K1 hK1 => (wt (oA rfl (oZ (tN (hK1 _ _ (sk fun K2 hK2 => (wt (oM rfl (oM rfl (oS rfl (Yk.extern2 T0 T1 (bcmp (hx.keep hE) (hy.keep hE)) (oA rfl (oZ (tN (hK2 _ _ (wpF_ret (postF_ret (fn := Tryd.f73) _ rfl [.int .i64 (Lib.compareBytes x y : Int)] (.int .i64 (Lib.compareBytes x y : Int)) rfl ⟨rfl, trivial⟩ ?_)))))))))))))))))
 exact ⟨rfl, hE⟩

theorem compare_any (w : World) (x y : Bs) (hxl : x.length = 32) (hyl : y.length = 32) :
  Calls Tryd.prog 57 #[AB x, AB y] w fun e w' => e = .returned (.int .i64 (Lib.compareBytes x y)) ∧ Ext w w' := by
 refine calls_of_wpF (args := [AB x, AB y]) Tryd.func57 rfl 8 rfl (Nat.le_of_ble_eq_true rfl) ?_
 intro ρ0 hb
 have T0 : ρ0 0 = (AB x : Value) := hb.get 0
 have T1 : ρ0 1 = (AB y : Value) := hb.get 1
 clear hb
 have hE := Ext.refl w
 refine sk fun K1 hK1 => (wt (oS rfl (Yk.box (cs := (Lib.byteCells x : List Value).toArray) T0 fun n2 w3 hn4 hb5 hx6 hs7 => ?_)))
 have hE := hE.trans hx6
 have hb8 := hb5; clear hb5
 have hl9 : n2 < w3.heap.size := by omega
 refine oS rfl (Yk.box (cs := (Lib.byteCells y : List Value).toArray) T1 fun n10 w11 hn12 hb13 hx14 hs15 => ?_)
 have hA16 := Ext.refl w3
 have hea17 := hE
 have hz18 := hE.size
 have hlt19 := lte (bl hb8) hn12
 have hE := hE.trans hx14
 have hb8 := eb hx14 hb8
 have hA16 := hA16.trans hx14
 have hb20 := hb13; clear hb13
 have hl21 : n10 < w11.heap.size := by omega
 refine oA rfl (oZ (tN (hK1 _ _ (sk fun K22 hK22 => ?_))))
 refine wpF_draw [Is (.slice (some ⟨n2, 0, none⟩) 32 32), Is (.slice (some ⟨n10, 0, none⟩) 32 32), Is (.int .i64 (Lib.compareBytes x y : Int)), Is (.int .i64 (Lib.compareBytes x y : Int))] (by kernel_rfl) [5, 6, 7, 4] (by kernel_rfl) (by kernel_rfl) (si4 trivial) ?hs1001 ?hQ1001
 case hs1001 =>
  refine ⟨?_, ?_, ?_, ?_, trivial⟩
  ·refine stepN rfl fun σ w1 hC h => ?_
   have e2 : σ 2 = PQ n2 0 := (eqo (h 2 (by decide))).trans rfl
   exact Yk.sliceArr pk4_ty38 pk4_sz5 e2 ⟨Ext.refl _, rfl⟩
  ·refine stepN rfl fun σ w1 hC h => ?_
   have e3 : σ 3 = PQ n10 0 := (eqo (h 3 (by decide))).trans rfl
   exact Yk.sliceArr pk4_ty38 pk4_sz5 e3 ⟨Ext.refl _, rfl⟩
  ·refine stepN rfl fun σ w1 hC h => ?_
   have e5 := eqo (h 5 (by decide))
   have e6 := eqo (h 6 (by decide))
   refine Yk.callA2 pk4_pl73 e5 e6 ((bytesCompare_any _ _ _ x y (RB.ofBlkN (eb hC hb8) hxl (by decide)) (RB.ofBlkN (eb hC hb20) hyl (by decide))).mono ?_)
   rintro e w2 ⟨rfl, hx⟩
   exact ⟨_, rfl, hx, rfl⟩
  ·refine stepN rfl fun σ w1 hC h => ?_
   have e7 := eqo (h 7 (by decide))
   exact Yk.assign e7 ⟨Ext.refl _, rfl⟩
 intro ρ23 w24 hx25 he hf
 obtain ⟨-, -, -, k4, -⟩ := hf
 obtain ⟨T0, T1, T2, T3, -⟩ := he.hold [(0, _), (1, _), (2, PQ n2 0), (3, PQ n10 0)] ⟨T0, T1, rfl, rfl, trivial⟩ rfl
 clear he
 have hE := hE.trans hx25
 have hb8 := eb hx25 hb8
 have hA16 := hA16.trans hx25
 have hb20 := eb hx25 hb20
 have T4 : ρ23 4 = .int .i64 (Lib.compareBytes x y : Int) := k4
 clear k4
 refine tN (hK22 _ _ (wpF_ret (postF_ret (fn := Tryd.f57) _ rfl [.int .i64 (Lib.compareBytes x y : Int)] (.int .i64 (Lib.compareBytes x y : Int)) rfl ⟨T4, trivial⟩ ?_)))
 exact ⟨rfl, hE⟩
open Go.RowKit
set_option maxRecDepth 100000
theorem firstL_le (ids : List Bs) (c : Nat) : (firstL ids).getD c 0 ≤ ids.length := by
 by_cases h : c < 256
 ·rw [firstL_get _ _ h]
  exact List.countP_le_length
 ·rw [List.getD_eq_getElem?_getD, List.getElem?_eq_none (by rw [firstL_len]; omega)]
  simp
theorem fanStep_sum (ids : List Bs) (c : Nat) (h0 : 0 < c) (h : c < 256) : (fanStep ids c).getD c 0 + (fanStep ids c).getD (c - 1) 0 ≤ ids.length := by
 have h1 := fanStep_succ ids c h0 h
 have h2 : (fanStep ids (c + 1)).getD c 0 = (fanL ids).getD c 0 := by
  unfold fanStep
  rw [List.getD_eq_getElem?_getD, List.getElem?_append_left (by rw [List.length_take, fanL_len]; omega), List.getElem?_take, if_pos (by omega), ← List.getD_eq_getElem?_getD]
 rw [h1, List.getD_eq_getElem?_getD, List.getElem?_set_self (by rw [fanStep_len _ _ (by omega)]; exact h)] at h2
 have h3 := fanL_le ids c
 rw [Option.getD_some] at h2
 omega
theorem pk5_isz59 : (Tryd.prog.info? 59).map (·.size) = some 256 := by kernel_rfl
theorem pk5_al59 {d : Option Tmp} {ty : TypeId} {pos : String} {af : Array Edge} {gd : Option (Nat × Bool)} (σ : Operand → Value) (w : World) : (execOp σ ⟨d, .alloc 59, ty, pos, af, gd⟩).run Tryd.prog w = .ok (.value (PQ w.heap.size 0)) (w.alloc (.cells ((List.replicate 256 0).map fun x => NI x).toArray 59)) := by kernel_rfl
theorem pk5_ty47 : Tryd.prog.underlying 47 = some (.slice 38) := by kernel_rfl
theorem pk5_szg38 : ∀ w' : World, (sizeOf 38).run Tryd.prog w' = .ok 32 w' := fun _ => by kernel_rfl
theorem pk5_ty38 : Tryd.prog.underlying 38 = some (.array 32 5) := by kernel_rfl
theorem pk5_isz38 : (Tryd.prog.info? 38).map (·.size) = some 32 := by kernel_rfl
theorem pk5_al38 {d : Option Tmp} {ty : TypeId} {pos : String} {af : Array Edge} {gd : Option (Nat × Bool)} (σ : Operand → Value) (w : World) : (execOp σ ⟨d, .alloc 38, ty, pos, af, gd⟩).run Tryd.prog w = .ok (.value (PQ w.heap.size 0)) (w.alloc (.cells (Lib.byteCells (List.replicate 32 0)).toArray 38)) := by kernel_rfl
theorem pk5_sz5 : ∀ w' : World, (sizeOf 5).run Tryd.prog w' = .ok 1 w' := fun _ => by kernel_rfl
theorem pk5_ty5 : Tryd.prog.underlying 5 = some (.int .u8) := by kernel_rfl
theorem pk5_ty59 : Tryd.prog.underlying 59 = some (.array 256 3) := by kernel_rfl
theorem pk5_sz3 : ∀ w' : World, (sizeOf 3).run Tryd.prog w' = .ok 1 w' := fun _ => by kernel_rfl
theorem pk5_ty3 : Tryd.prog.underlying 3 = some (.int .i64) := by kernel_rfl
theorem pk5_isz3 : (Tryd.prog.info? 3).map (·.size) = some 1 := by kernel_rfl
theorem fan_any (w : World) (v : Value) (ids : List Bs) (hr : RG 32 Lib.byteCells w v ids) :
  Calls Tryd.prog 26 #[v] w fun e w' => e = .returned (.agg ((fanL ids).map fun x => NI x).toArray) ∧ Ext w w' := by
 have hil := hr.lenLt
 refine calls_of_wpF (args := [v]) Tryd.func26 rfl 34 rfl (Nat.le_of_ble_eq_true rfl) ?_
 intro ρ0 hb
 have T0 : ρ0 0 = (v : Value) := hb.get 0
 clear hb
 have hE := Ext.refl w
 refine sk fun K1 hK1 => (wt (oS rfl (Yk.alloc (cs := ((List.replicate 256 0).map fun x => NI x).toArray) pk5_al59 fun n2 w3 hn4 hb5 hx6 hs7 => ?_)))
 have hE := hE.trans hx6
 have hb8 := hb5; clear hb5
 have hl9 : n2 < w3.heap.size := by omega
 refine oZ (tN (hK1 _ _ (sk fun K10 hK10 => (wt (oS rfl (Yk.alloc (cs := ((List.replicate 256 0).map fun x => NI x).toArray) pk5_al59 fun n11 w12 hn13 hb14 hx15 hs16 => ?_))))))
 have hA17 := Ext.refl w3
 have hea18 := hE
 have hz19 := hE.size
 have hlt20 := lte (bl hb8) hn13
 have hE := hE.trans hx15
 have hb8 := eb hx15 hb8
 have hA17 := hA17.trans hx15
 have hb21 := hb14; clear hb14
 have hl22 : n11 < w12.heap.size := by omega
 refine oZ (tN (hK10 _ _ (sk fun K23 hK23 => (sk fun K24 hK24 => (wt (oM rfl (oS rfl (Yk.lenRG pk5_ty47 (RG.of (hr.keep hE) T0) (oM rfl (oL_ [(0, v), (2, PQ n2 0), (3, PQ n11 0), (7, v), (8, NI ids.length), (9, NI 0)] ⟨T0, rfl, rfl, T0, rfl, rfl, trivial⟩ fun ρ25 ⟨T0, T2, T3, T7, T8, T9, _⟩ => (tN (hK24 _ _ (wpF_block (wpF_loop (fun (ρ : Slots) (wz : World) => ∃ i : Nat, ρ 0 = (v : Value) ∧ ρ 2 = (PQ n2 0 : Value) ∧ ρ 3 = (PQ n11 0 : Value) ∧ ρ 7 = (v : Value) ∧ ρ 8 = (NI ids.length : Value) ∧ ρ 9 = (NI i : Value) ∧ Ext w wz ∧ wz.heap[n2]? = some (.cells ((List.replicate 256 0).map fun x => NI x).toArray 59 (0, 0)) ∧ Ext w3 wz ∧ wz.heap[n11]? = some (.cells ((firstL (ids.take i)).map fun x => NI x).toArray 59 (0, 0)) ∧ (i ≤ ids.length) ∧ True) (fun ρ _ => ids.length - (intOf (ρ 9)).toNat) ⟨0, T0, T2, T3, T7, T8, T9, hE, hb8, hA17, blk_eq hb21 (congrArg (List.map fun x => NI x) (show _ = firstL [] from by decide +kernel)), Nat.zero_le _, trivial⟩ ?_))))))))))))))
 clear hb21
 clear hE hb8 hA17
 rintro ρ26 w27 ⟨i, T0, T2, T3, T7, T8, T9, hE, hb8, hA17, hb21l, hi, -⟩
 have q9 := T9
 refine sk fun K28 hK28 => (wt (oS rfl (Yk.eqI (a := (i : Nat)) (b := (ids.length : Nat)) T9 T8 (k_lss _ _ _ _) (oZ (tN (hK28 _ _ (sk fun K29 hK29 => ?_)))))))
 refine wpF_cond ((i) < (ids.length)) (vr (.bool (decide ((i) < (ids.length)))) rfl) (fun hc0 => ?_) (fun hc0 => ?_)
 ·have hx32 : (ids.getD i []).length = 32 := by have h1 := RG.elem hr [] (show i < ids.length by omega); rwa [Lib.byteCells_length] at h1
  refine wpF_skip (tN (hK29 _ _ (sk fun K30 hK30 => (wpF_block (sk fun K31 hK31 => (wt ?_))))))
  have hl34 : (Lib.byteCells (ids.getD (i) ([] : List UInt8))).length = 32 := (RG.elem (hr.keep hE) ([] : List UInt8) (by omega))
  refine oS rfl (Yk.atRG pk5_ty47 pk5_szg38 (by decide) ([] : List UInt8) (RG.of (hr.keep hE) T7) T9 (by omega) fun v32 hp33 => (oS rfl (Yk.loadPR (PR.of hp33 (vr v32 rfl)) pk5_ty38 rfl (by rw [hl34]; exact pk5_isz38) (oS rfl (Yk.alloc (cs := (Lib.byteCells (List.replicate 32 0)).toArray) pk5_al38 fun n35 w36 hn37 hb38 hx39 hs40 => ?_)))))
  have hA41 := Ext.refl w27
  have hea42 := hE
  have hea43 := hA17
  have hz44 := hE.size
  have hz45 := hA17.size
  have hlt46 := lte (bl hb8) hn37
  have hlt47 := lte (bl hb21l) hn37
  have hE := hE.trans hx39
  have hb8 := eb hx39 hb8
  have hA17 := hA17.trans hx39
  have hb21l := eb hx39 hb21l
  have hA41 := hA41.trans hx39
  have hb48 := hb38; clear hb38
  have hl49 : n35 < w36.heap.size := by omega
  refine oS rfl (Yk.storeAll (vr (PQ n35 0) rfl) (vr (AB (ids.getD (i) ([] : List UInt8))) rfl) hb48 (by exact idsize (bytes_len32 (hl34)) List.length_replicate) (by exact sizeId_of (bytes_len32 (hl34))) (byteCells_one _) fun w50 hb51 hg52 hs53 => ?_)
  have hE := row_fresh hE hg52 (Nat.le_trans hz44 (by omega))
  have hb8 := kb hg52 hb8 (by omega)
  have hA17 := row_fresh hA17 hg52 (Nat.le_trans hz45 (by omega))
  have hb21l := kb hg52 hb21l (by omega)
  have hA41 := row_fresh hA41 hg52 (Nat.le_trans (Nat.le_refl _) (by omega))
  clear hb48
  have hb48 := hb51; clear hb51
  have hl54 := bl hb48
  refine oZ ?_
  clear hp33
  refine tN (hK31 _ _ (wt (oS rfl (Yk.atArr0 (i := 0) pk5_ty38 pk5_sz5 (vr (PQ n35 0) rfl) (vr (NI 0) rfl) (by decide) (oS rfl (Yk.cell1 pk5_ty5 rfl (vr (PQ n35 0) rfl) (cellAt hb48 (byte_at (i := 0) (by rw [hx32]; omega))) (oS rfl (Yk.atArr0 (i := ((ids.getD (i) ([] : List UInt8)).getD (0) 0).toNat) pk5_ty59 pk5_sz3 T3 (vr (B8 ((ids.getD (i) ([] : List UInt8)).getD (0) 0)) rfl) (by exact UInt8.toNat_lt _) (oS rfl (Yk.cell1 pk5_ty3 rfl (vr (.pointer (some ⟨n11, ((ids.getD (i) ([] : List UInt8)).getD (0) 0).toNat, none⟩)) rfl) (cellAt hb21l (nat_at (i := ((ids.getD (i) ([] : List UInt8)).getD (0) 0).toNat) (by rw [firstL_len]; exact UInt8.toNat_lt _))) (oS rfl (Yk.bin (xv := NI ((firstL (ids.take i)).getD (((ids.getD (i) ([] : List UInt8)).getD (0) 0).toNat) 0)) (yv := NI 1) rfl rfl rfl (i64_add _ _ _ (by have := firstL_le (ids.take i) ((ids.getD i []).getD 0 0).toNat; rw [List.length_take] at this; omega)) (oS rfl (Yk.atArr0 (i := ((ids.getD (i) ([] : List UInt8)).getD (0) 0).toNat) pk5_ty59 pk5_sz3 T3 (vr (B8 ((ids.getD (i) ([] : List UInt8)).getD (0) 0)) rfl) (by exact UInt8.toNat_lt _) (oS rfl (Yk.storeN (i := ((ids.getD (i) ([] : List UInt8)).getD (0) 0).toNat) (v := ((firstL (ids.take i)).getD (((ids.getD (i) ([] : List UInt8)).getD (0) 0).toNat) 0) + (1)) (vr (.pointer (some ⟨n11, ((ids.getD (i) ([] : List UInt8)).getD (0) 0).toNat, none⟩)) rfl) (vr (NI (((firstL (ids.take i)).getD (((ids.getD (i) ([] : List UInt8)).getD (0) 0).toNat) 0) + (1))) rfl) hb21l (by rw [firstL_len]; exact UInt8.toNat_lt _) pk5_isz3 fun w55 hb56 hg57 hs58 => ?_))))))))))))))))
  have hE := row_fresh hE hg57 (Nat.le_trans hz19 (by omega))
  have hb8 := kb hg57 hb8 (by omega)
  have hA17 := row_fresh hA17 hg57 (Nat.le_trans (Nat.le_refl _) (by omega))
  clear hb21l
  clear hA41
  have hb48 := kb hg57 hb48 (by omega)
  have hb21l := hb56; clear hb56
  have hl59 := bl hb21l
  refine oZ (bN (tN (hK30 _ _ (wt (oS rfl (Yk.bin (xv := NI i) (yv := NI 1) T9 rfl rfl (i64_add _ _ _ (by omega)) (oM rfl (oL_ [(0, v), (2, PQ n2 0), (3, PQ n11 0), (5, PQ n35 0), (7, v), (8, NI ids.length), (9, NI ((i) + (1)))] ⟨T0, T2, T3, rfl, T7, T8, rfl, trivial⟩ fun ρ60 ⟨T0, T2, T3, T5, T7, T8, T9, _⟩ => ?_))))))))
  refine tN (And.intro ⟨i + 1, T0, T2, T3, T7, T8, T9, hE, hb8, hA17, blk_eq hb21l (congrArg (List.map fun x => NI x) (by rw [List.take_succ_eq_append_getElem (by omega), firstL_snoc]; simp only [List.getD_eq_getElem?_getD, List.getElem?_eq_getElem (show i < ids.length by omega), Option.getD_some]; rfl)), by omega, trivial⟩ ?_)
  show ids.length - (intOf (ρ60 9)).toNat < ids.length - (intOf (ρ26 9)).toNat
  rw [T9, q9]
  simp only [intOf, Int.toNat_natCast]; omega
 refine wpF_exit (thenF_exit (thenF_exit (inBlockF_hit (tN (hK23 _ _ (sk fun K61 hK61 => (sk fun K62 hK62 => (wt (oA rfl (oL_ [(0, v), (2, PQ n2 0), (3, PQ n11 0), (6, NI 1), (7, v), (8, NI ids.length), (9, NI i)] ⟨T0, T2, T3, rfl, T7, T8, T9, trivial⟩ fun ρ63 ⟨T0, T2, T3, T6, T7, T8, T9, _⟩ => (tN (hK62 _ _ (wpF_block (wpF_loop (fun (ρ : Slots) (wz : World) => ∃ c : Nat, ρ 0 = (v : Value) ∧ ρ 2 = (PQ n2 0 : Value) ∧ ρ 3 = (PQ n11 0 : Value) ∧ ρ 7 = (v : Value) ∧ ρ 8 = (NI ids.length : Value) ∧ ρ 9 = (NI i : Value) ∧ ρ 6 = (NI c : Value) ∧ Ext w wz ∧ wz.heap[n2]? = some (.cells ((List.replicate 256 0).map fun x => NI x).toArray 59 (0, 0)) ∧ Ext w3 wz ∧ wz.heap[n11]? = some (.cells ((fanStep ids c).map fun x => NI x).toArray 59 (0, 0)) ∧ (0 < c) ∧ (c ≤ 256) ∧ True) (fun ρ _ => 256 - (intOf (ρ 6)).toNat) ⟨1, T0, T2, T3, T7, T8, T9, T6, hE, hb8, hA17, blk_eq hb21l (congrArg (List.map fun x => NI x) (by rw [fanStep_one, show i = ids.length by omega, List.take_length])), by omega, by omega, trivial⟩ ?_))))))))))))))
 clear hb21l
 clear hE hb8 hA17
 rintro ρ64 w65 ⟨c, T0, T2, T3, T7, T8, T9, T6, hE, hb8, hA17, hb21ll, hc0', hcl, -⟩
 have q6 := T6
 refine sk fun K66 hK66 => (sk fun K67 hK67 => (wt (oM rfl (oS rfl (Yk.eqI (a := (c : Nat)) (b := (256 : Nat)) T6 rfl (k_lss _ _ _ _) (oZ (tN (hK67 _ _ ?_))))))))
 refine wpF_cond ((c) < (256)) (vr (.bool (decide ((c) < (256)))) rfl) (fun hc1 => ?_) (fun hc1 => ?_)
 ·refine wpF_skip (tN (hK66 _ _ (sk fun K68 hK68 => (wpF_block ?_))))
  refine wpF_draw_store 9 (fun (a_ b_ : World) => b_.heap[n11]? = some (.cells (((fanStep ids c).set (c) (((fanStep ids c).getD (c) 0) + ((fanStep ids c).getD ((c) - (1)) 0))).map fun x => NI x).toArray 59 (0, 0)) ∧ a_.grownBy b_ (some n11) ∧ b_.heap.size = a_.heap.size) [Is (NI c), Is (PQ n11 c), Is (NI ((fanStep ids c).getD (c) 0)), Is (NI c), Is (NI ((c) - (1))), Is (.pointer (some ⟨n11, (c) - (1), none⟩)), Is (NI ((fanStep ids c).getD ((c) - (1)) 0)), Is (NI (((fanStep ids c).getD (c) 0) + ((fanStep ids c).getD ((c) - (1)) 0))), Is (PQ n11 c), (fun _ _ => True)] (by kernel_rfl) [24, 25, 26, 27, 28, 29, 30, 31, 32] (by kernel_rfl) (by kernel_rfl) (by kernel_rfl) rfl (si9 ⟨Stab.any, trivial⟩) (si9 ⟨Stab.any, trivial⟩) ?hs1010 ?hQ1010
  case hs1010 =>
   refine ⟨?_, ?_, ?_, ?_, ?_, ?_, ?_, ?_, ?_, ?_, trivial⟩
   ·refine stepN rfl fun σ w1 hC h => ?_
    have e6 := (eqo (h 6 (by decide))).trans T6
    have hC : Ext _ w1 := hC
    exact Yk.move e6 ⟨Ext.refl _, rfl⟩
   ·refine stepN rfl fun σ w1 hC h => ?_
    have e3 := (eqo (h 3 (by decide))).trans T3
    have e24 := eqo (h 24 (by decide))
    have hC : Ext _ w1 := hC
    exact Yk.atArr0 (i := c) pk5_ty59 pk5_sz3 e3 e24 (by omega) ⟨Ext.refl _, rfl⟩
   ·refine stepN rfl fun σ w1 hC h => ?_
    have e25 := eqo (h 25 (by decide))
    have hC : Ext _ w1 := hC
    exact Yk.cell1 pk5_ty3 rfl e25 (cellAt (eb hC hb21ll) (nat_at (i := c) (by rw [fanStep_len _ _ hcl]; omega))) ⟨Ext.refl _, rfl⟩
   ·refine stepN rfl fun σ w1 hC h => ?_
    have e6 := (eqo (h 6 (by decide))).trans T6
    have hC : Ext _ w1 := hC
    exact Yk.move e6 ⟨Ext.refl _, rfl⟩
   ·refine stepN rfl fun σ w1 hC h => ?_
    have e27 := eqo (h 27 (by decide))
    have hC : Ext _ w1 := hC
    exact Yk.bin (xv := NI c) (yv := NI 1) e27 rfl rfl (i64_sub _ _ _ (by omega) (by omega)) ⟨Ext.refl _, rfl⟩
   ·refine stepN rfl fun σ w1 hC h => ?_
    have e3 := (eqo (h 3 (by decide))).trans T3
    have e28 := eqo (h 28 (by decide))
    have hC : Ext _ w1 := hC
    exact Yk.atArr0 (i := (c) - (1)) pk5_ty59 pk5_sz3 e3 e28 (by omega) ⟨Ext.refl _, rfl⟩
   ·refine stepN rfl fun σ w1 hC h => ?_
    have e29 := eqo (h 29 (by decide))
    have hC : Ext _ w1 := hC
    exact Yk.cell1 pk5_ty3 rfl e29 (cellAt (eb hC hb21ll) (nat_at (i := (c) - (1)) (by rw [fanStep_len _ _ hcl]; omega))) ⟨Ext.refl _, rfl⟩
   ·refine stepN rfl fun σ w1 hC h => ?_
    have e26 := eqo (h 26 (by decide))
    have e30 := eqo (h 30 (by decide))
    have hC : Ext _ w1 := hC
    exact Yk.bin (xv := NI ((fanStep ids c).getD (c) 0)) (yv := NI ((fanStep ids c).getD ((c) - (1)) 0)) e26 e30 rfl (i64_add _ _ _ (by have := fanStep_sum ids c hc0' (by omega); omega)) ⟨Ext.refl _, rfl⟩
   ·refine stepN rfl fun σ w1 hC h => ?_
    have e3 := (eqo (h 3 (by decide))).trans T3
    have e24 := eqo (h 24 (by decide))
    have hC : Ext _ w1 := hC
    exact Yk.atArr0 (i := c) pk5_ty59 pk5_sz3 e3 e24 (by omega) ⟨Ext.refl _, rfl⟩
   ·refine stepN rfl fun σ w1 hC h => ?_
    have e32 := eqo (h 32 (by decide))
    have e31 := eqo (h 31 (by decide))
    have hC : Ext _ w1 := hC
    exact Yk.storeN (i := c) (v := ((fanStep ids c).getD (c) 0) + ((fanStep ids c).getD ((c) - (1)) 0)) e32 e31 (eb hC hb21ll) (by rw [fanStep_len _ _ hcl]; omega) pk5_isz3 fun w2 h1 h2 h3 => ⟨⟨h1, h2, h3⟩, trivial⟩
  intro ρ73 w76 w74 hx75 hS77 he hf
  obtain ⟨-, -, -, -, -, -, -, -, -, -⟩ := hf
  obtain ⟨T0, T2, T3, T6, T7, T8, T9, -⟩ := he.hold [(0, _), (2, _), (3, _), (6, _), (7, _), (8, _), (9, _)] ⟨T0, T2, T3, T6, T7, T8, T9, trivial⟩ rfl
  clear he
  have hE := hE.trans hx75
  have hb8 := eb hx75 hb8
  have hA17 := hA17.trans hx75
  have hb21ll := eb hx75 hb21ll
  obtain ⟨hb78, hg79, hs80⟩ := hS77
  have hE := row_fresh hE hg79 (Nat.le_trans hz19 (by omega))
  have hb8 := kb hg79 hb8 (by omega)
  have hA17 := row_fresh hA17 hg79 (Nat.le_trans (Nat.le_refl _) (by omega))
  clear hb21ll
  have hb21ll := hb78; clear hb78
  have hl81 := bl hb21ll
  refine bN (tN (hK68 _ _ (wt (oM rfl (oS rfl (Yk.bin (xv := NI c) (yv := NI 1) T6 rfl rfl (i64_add _ _ _ (by omega)) (oA rfl (oL_ [(0, v), (2, PQ n2 0), (3, PQ n11 0), (6, NI ((c) + (1))), (7, v), (8, NI ids.length), (9, NI i)] ⟨T0, T2, T3, rfl, T7, T8, T9, trivial⟩ fun ρ82 ⟨T0, T2, T3, T6, T7, T8, T9, _⟩ => (tN (And.intro ⟨c + 1, T0, T2, T3, T7, T8, T9, T6, hE, hb8, hA17, blk_eq hb21ll (congrArg (List.map fun x => NI x) (fanStep_succ ids c hc0' (by omega)).symm), by omega, by omega, trivial⟩ ?_))))))))))
  show 256 - (intOf (ρ82 6)).toNat < 256 - (intOf (ρ64 6)).toNat
  rw [T6, q6]
  simp only [intOf, Int.toNat_natCast]; omega
 have hc256 : c = 256 := by omega
 obtain ⟨F, hF⟩ : ∃ F, F = fanL ids := ⟨_, rfl⟩
 have hb21ll : w65.heap[n11]? = some (.cells (F.map fun x => NI x).toArray 59 (0, 0)) := blk_eq hb21ll (by rw [hc256, fanStep_all, hF])
 have hFl : F.length = 256 := by rw [hF, fanL_len]
 refine wpF_exit (thenF_exit (thenF_exit (inBlockF_hit (tN (hK61 _ _ (sk fun K83 hK83 => (wt (oS rfl (Yk.loadAll T3 hb21ll pk5_ty59 rfl (by rw [List.size_toArray, List.length_map, hFl]; exact pk5_isz59) (oS rfl (Yk.storeAll T2 (vr (.agg (F.map fun x => NI x).toArray) rfl) hb8 (by rw [List.size_toArray, List.size_toArray, List.length_map, List.length_map, hFl]; rfl) (by rw [List.size_toArray, List.length_map, hFl]; exact pk5_isz59) (cellsN_one _) fun w84 hb85 hg86 hs87 => ?_)))))))))))
 have hE := row_fresh hE hg86 (Nat.le_trans (Nat.le_refl _) (by omega))
 clear hb8
 clear hA17
 have hb21ll := kb hg86 hb21ll (by omega)
 have hb8 := hb85; clear hb85
 have hl88 := bl hb8
 refine oZ (tN (hK83 _ _ (wpF_ret (postF_ret (fn := Tryd.f26) _ rfl [.agg (F.map fun x => NI x).toArray] (.agg (F.map fun x => NI x).toArray) rfl ⟨ResF.row T2 hb8 pk5_ty59 rfl (by rw [List.size_toArray, List.length_map, hFl]; exact pk5_isz59), trivial⟩ ?_))))
 subst hF
 exact ⟨rfl, hE⟩
open Go.RowKit
section
variable {P : Program}
theorem run_reslice_readsW {t e : TypeId} {size : Nat} (ht : P.underlying t = some (.slice e)) (he : ∀ w' : World, (sizeOf e).run P w' = .ok size w') {w : World} {v : Value} {n : Nat} {xs : List Value} (hr : Reads w size v n xs) (lo hi : Option Value) (l h : Nat) (hlh : l ≤ h) (hn : h ≤ n)
    (hlo : lo = none ∧ l = 0 ∨ ∃ k, lo = some (.int k l)) (hhi : hi = none ∧ h = n ∨ ∃ k, hi = some (.int k h)) :
    ∃ ao c, ((∀ w : World, (Instr.sliceAt t v lo hi none).run P w = .ok (.slice ao (h - l) c) w) ∧ (Value.slice ao (h - l) c).ownBlock = v.ownBlock) ∧ Reads w size (.slice ao (h - l) c) (h - l) ((xs.drop (l * size)).take ((h - l) * size)) := by
  obtain ⟨h1, ao, cap, rfl, h2, h3, h4, h5⟩ := hr
  have hE : P.elem t = e := by simp [Program.elem, ht]
  have ht' : P.underlying t = some (.slice (P.elem t)) := by rw [hE]; exact ht
  refine ⟨if cap = l then ao else ao.map (·.add (l * size)), cap - l, ⟨?_, ?_⟩, ?_, _, _, rfl, by omega, by omega, ?_, ?_⟩
  · intro w
    rw [run_sliceAt_slice (P := P) w t _ _ _ _ ht']
    have hl' : (l : Int) ≤ (h : Int) := by omega
    have hh' : (h : Int) ≤ (cap : Int) := by omega
    have hn' : (l : Int) ≤ (n : Int) := by omega
    rcases hlo with ⟨rfl, rfl⟩ | ⟨k, rfl⟩ <;> rcases hhi with ⟨rfl, rfl⟩ | ⟨k', rfl⟩
    · rw [run_slice_all (P := P) w t ao h cap ht', hE, he]
      simp [Result.andThen, sliced]
    · rw [run_slice_h (P := P) w t ao n cap ht' k' h (by omega) hh', hE, he]
      simp [Result.andThen, sliced]
    · rw [run_slice_l (P := P) w t ao h cap ht' k l (by omega) hl', hE, he]
      simp [Result.andThen, sliced]
    · rw [run_slice_lh (P := P) w t ao n cap ht' k k' l h (by omega) hl' hh', hE, he]
      simp [Result.andThen, sliced]
  · cases ao with
    | none => simp [Value.ownBlock]
    | some x =>
      split
      · rfl
      · simp only [Option.map_some, Value.ownBlock, Option.some.injEq]
        unfold Addr.add
        split <;> rfl
  · rw [List.length_take, List.length_drop, h1]
    have : (h - l) * size ≤ n * size - l * size := by rw [← Nat.sub_mul]; exact Nat.mul_le_mul_right _ (by omega)
    omega
  · intro hnone
    have : ao = none := by
      cases ao with
      | none => rfl
      | some x => split at hnone <;> simp at hnone
    obtain ⟨h6, h7⟩ := h4 this
    omega
  · intro a ha j u hu
    have hj : j < ((xs.drop (l * size)).take ((h - l) * size)).length := (List.getElem?_eq_some_iff.1 hu).1
    have hj2 : j < (h - l) * size := by rw [List.length_take] at hj; omega
    have hhl : h - l ≠ 0 := fun e => by rw [e] at hj2; simp at hj2
    rw [if_neg (by omega)] at ha
    cases ao with
    | none => simp at ha
    | some x =>
      simp at ha
      subst ha
      rw [addr_add_add]
      refine h5 x rfl _ _ ?_
      rw [List.getElem?_take, if_pos hj2, List.getElem?_drop] at hu
      exact hu
end
section
variable {P : Program} {K : Value → World → Prop} {ρ : Slots} {w w0 : World} {d : Option Tmp} {ty : TypeId} {pos : String} {af : Array Edge} {gd : Option (Nat × Bool)}
variable {α : Type} {k : Nat} {enc : α → List Value} {t e : TypeId}
theorem Yk.sliceLoW (ht : P.underlying t = some (.slice e)) (he : ∀ w' : World, (sizeOf e).run P w' = .ok k w') {x lo : Operand} {v : Value} {xs : List α} (hx : evalR ρ x = v) (h : RG k enc w0 v xs) {kd : IntKind} {l : Nat} (hlo : evalR ρ lo = .int kd (l : Int)) (hl : l ≤ xs.length)
    (hk : ∀ v', RG k enc w0 v' (xs.drop l) → v'.ownBlock = v.ownBlock → K v' w) : Yk P K ((execOp (evalR ρ) ⟨d, .slice t x (some lo) none none, ty, pos, af, gd⟩).run P w) := by
  obtain ⟨ao, c, ⟨hrun, hb⟩, hR⟩ := run_reslice_readsW ht he h.2 (some (.int kd l)) none l xs.length hl (Nat.le_refl _) (.inr ⟨kd, rfl⟩) (.inl ⟨rfl, rfl⟩)
  have hR' := RG.cut h.1 hl (Nat.le_refl _) hR
  rw [List.take_of_length_le (by rw [List.length_drop]; exact Nat.le_refl _)] at hR'
  refine Yk.value (v := .slice ao (xs.length - l) c) (w' := w) ?_ (hk _ hR' hb)
  unfold execOp
  simp only [hx, hlo, Option.map_some, Option.map_none, hrun, Sem.run_bind, Sem.run_pure, Result.andThen_ok]
theorem Yk.sliceHiW (ht : P.underlying t = some (.slice e)) (he : ∀ w' : World, (sizeOf e).run P w' = .ok k w') {x hi : Operand} {v : Value} {xs : List α} (hx : evalR ρ x = v) (h : RG k enc w0 v xs) {kd : IntKind} {n : Nat} (hhi : evalR ρ hi = .int kd (n : Int)) (hl : n ≤ xs.length)
    (hk : ∀ v', RG k enc w0 v' (xs.take n) → v'.ownBlock = v.ownBlock → K v' w) : Yk P K ((execOp (evalR ρ) ⟨d, .slice t x none (some hi) none, ty, pos, af, gd⟩).run P w) := by
  obtain ⟨ao, c, ⟨hrun, hb⟩, hR⟩ := run_reslice_readsW ht he h.2 none (some (.int kd n)) 0 n (Nat.zero_le _) hl (.inl ⟨rfl, rfl⟩) (.inr ⟨kd, rfl⟩)
  have hR' := RG.cut h.1 (Nat.zero_le _) hl hR
  rw [List.drop_zero, Nat.sub_zero] at hR'
  refine Yk.value (v := .slice ao (n - 0) c) (w' := w) ?_ (hk _ hR' hb)
  unfold execOp
  simp only [hx, hhi, Option.map_some, Option.map_none, hrun, Sem.run_bind, Sem.run_pure, Result.andThen_ok]
theorem info_ex {P : Program} {e : TypeId} {k b : Nat} (h : (P.info? e).map (fun i => (i.zero.map (fun z => z.cells.size), i.size, i.bytes)) = some (some k, k, b)) : ∃ z, (P.info? e).map (fun i => (i.zero, i.size, i.bytes)) = some (some z, k, b) ∧ z.cells.size = k := by
  cases hi : P.info? e with
  | none => rw [hi] at h; cases h
  | some i =>
    rw [hi] at h
    simp only [Option.map_some, Option.some.injEq, Prod.mk.injEq] at h
    cases hz : i.zero with
    | none => rw [hz] at h; cases h.1
    | some z =>
      rw [hz] at h
      simp only [Option.map_some, Option.some.injEq] at h
      exact ⟨z, by simp [hz, h.2.1, h.2.2], h.1⟩
theorem Yk.makeG (base : Nat) (z : Value) (bytes : Nat) (ht : P.underlying t = some (.slice e)) (hi : (P.info? e).map (fun i => (i.zero, i.size, i.bytes)) = some (some z, k, bytes)) {x y : Operand} {kl kc : IntKind} {n : Nat} (hx : evalR ρ x = .int kl 0) (hy : evalR ρ y = .int kc (n : Int)) (hb : bytes * n ≤ 281474976710656) (hn : n ≤ 9223372036854775807) (hbase : base ≤ w.heap.size)
    (hk : ∀ v w', OG base e k enc w' v ([] : List α) → Ext w w' → K v w') : Yk P K ((execOp (evalR ρ) ⟨d, .makeSlice t x y, ty, pos, af, gd⟩).run P w) := by
  obtain ⟨i, hi, hz, hsize, hby⟩ := info_parts hi
  obtain ⟨w', hr, h2, h3⟩ := run_make_own (P := P) (w := w) base t e i z k ht hi hz hsize kl kc n (by rw [hby]; exact hb) (by unfold maxLen; omega) hbase
  refine Yk.value (v := .slice (some ⟨w.heap.size, 0, none⟩) 0 n) (w' := w') ?_ (hk _ w' ⟨by simp, h2⟩ (Ext.of h3))
  unfold execOp
  simp only [hx, hy, hr, Sem.run_bind, Sem.run_pure, Result.andThen_ok]
theorem Yk.makeN (bytes : Nat) (ht : P.underlying t = some (.slice e)) (hi : (P.info? e).map (fun i => (i.zero, i.size, i.bytes)) = some (some (.int .i64 0), 1, bytes)) {x y : Operand} {kl kc : IntKind} {n : Nat} (hx : evalR ρ x = .int kl (n : Int)) (hy : evalR ρ y = .int kc (n : Int)) (hb : bytes * n ≤ 281474976710656) (hn : n ≤ 9223372036854775807)
    (hk : ∀ g w', w.heap.size = g → w'.heap[g]? = some (.cells ((List.replicate n 0).map fun x => NI x).toArray e (0, 0)) → Ext w w' → w'.heap.size = g + 1 → K (.slice (some ⟨g, 0, none⟩) n n) w') : Yk P K ((execOp (evalR ρ) ⟨d, .makeSlice t x y, ty, pos, af, gd⟩).run P w) := by
  obtain ⟨i, hi, hz, hsize, hby⟩ := info_parts hi
  have hb' : (i.bytes : Int) * (n : Int) ≤ 281474976710656 := by
    have h : ((i.bytes * n : Nat) : Int) ≤ 281474976710656 := by rw [hby]; omega
    rwa [Int.natCast_mul] at h
  have hr := run_make (P := P) w t e i _ ht hi hz kl kc (n : Int) n (by omega) (by omega) hb' (by omega)
  have hm : madeCells (Value.int .i64 0).cells (n * i.size) = ((List.replicate n 0).map fun x => NI x).toArray := by
    rw [hsize, Nat.mul_one]
    apply Array.ext
    · simp [madeCells]
    · intro j h1 h2
      simp [madeCells, Value.cells, Nat.mod_one]
  simp only [Int.toNat_natCast] at hr
  rw [hm] at hr
  refine Yk.value (v := .slice (some ⟨w.heap.size, 0, none⟩) n n) (w' := w.alloc (.cells ((List.replicate n 0).map fun x => NI x).toArray e)) ?_ (hk w.heap.size _ rfl (heap_alloc_new w _) ((Below.refl _ _).alloc (Nat.le_refl _) _) (by simp))
  unfold execOp
  simp only [hx, hy, hr, Sem.run_bind, Sem.run_pure, Result.andThen_ok]
theorem Yk.atSl0 (ht : P.underlying t = some (.slice e)) (he : ∀ w' : World, (sizeOf e).run P w' = .ok 1 w') {x y : Operand} {b i n c : Nat} {kd : IntKind} (hx : evalR ρ x = .slice (some ⟨b, 0, none⟩) n c) (hy : evalR ρ y = .int kd (i : Int)) (hi : i < n) (hk : K (.pointer (some ⟨b, i, none⟩)) w) : Yk P K ((execOp (evalR ρ) ⟨d, .indexAddr t x y, ty, pos, af, gd⟩).run P w) :=
  Yk.atSl ht he hx hy hi (by rw [Nat.zero_add]; exact hk)
theorem OG.base {α : Type} {b b' k : Nat} {e : TypeId} {enc : α → List Value} {v : Value} {l : List α} (h : OG b e k enc w v l) (hb : b' ≤ b) : OG b' e k enc w v l := ⟨h.1, ownsRow_base h.2 hb⟩
theorem og_eq {α : Type} {b k : Nat} {e : TypeId} {enc : α → List Value} {v : Value} {l l' : List α} (h : OG b e k enc w v l) (e' : l = l') : OG b e k enc w v l' := by rw [← e']; exact h
theorem map_eq {α β : Type} {ek : α → Value} {ev : β → Value} {D : α → Prop} {b : Nat} {G G' : α → Option β} (h : MapF ek ev D w b G) (e : G = G') : MapF ek ev D w b G' := by rw [← e]; exact h
def RowG {α : Type} (B N : Nat) (e : TypeId) (k : Nat) (enc : α → List Value) (r : Option Nat) (l : List α) (x : Value) (w' : World) : Prop := OG B e k enc w' x l ∧ ∀ k, x.ownBlock = some k → r = some k ∨ N ≤ k
theorem RG.nilOwn (w : World) (b : Nat) (e : TypeId) : OG b e k enc w (.slice none 0 0) ([] : List α) := OG.nil b e k enc w
structure MI (l O A B : List (List UInt8)) : Prop where
  perm : (O ++ (A ++ B)).Perm l
  ascO : Asc O
  ascA : Asc A
  ascB : Asc B
  le : ∀ x ∈ O, ∀ y ∈ A ++ B, Lib.compareBytes x y ≤ 0
theorem MI.start {l A B : List (List UInt8)} {h : Nat} (hA : A.Perm (l.take h)) (hB : B.Perm (l.drop h)) (a1 : Asc A) (b1 : Asc B) : MI l [] A B :=
  ⟨by rw [List.nil_append]; exact (hA.append hB).trans (by rw [List.take_append_drop]), List.Pairwise.nil, a1, b1, by simp⟩
theorem MI.left {l O A B : List (List UInt8)} (h : MI l O A B) (hA : 0 < A.length) (hB : 0 < B.length) (hc : Lib.compareBytes (A.getD 0 []) (B.getD 0 []) ≤ 0) : MI l (O ++ [A.getD 0 []]) (A.drop 1) B := by
  match A, B, hA, hB, h, hc with
  | a :: A, b :: B, _, _, h, hc =>
    simp only [List.getD_cons_zero, List.drop_succ_cons, List.drop_zero] at hc ⊢
    have hp := List.pairwise_cons.1 h.ascA
    have hq := List.pairwise_cons.1 h.ascB
    have hall : ∀ y ∈ A ++ b :: B, Lib.compareBytes a y ≤ 0 := fun y hy => by
      rcases List.mem_append.1 hy with h1 | h1
      · exact hp.1 y h1
      · rcases List.mem_cons.1 h1 with rfl | h1
        · exact hc
        · exact cmp_trans hc (hq.1 y h1)
    refine ⟨by rw [List.append_assoc]; exact h.perm, ?_, hp.2, h.ascB, ?_⟩
    · unfold Asc
      rw [List.pairwise_append]
      exact ⟨h.ascO, by simp, fun x hx y hy => by rw [List.mem_singleton.1 hy]; exact h.le x hx a (by simp)⟩
    · intro x hx y hy
      rcases List.mem_append.1 hx with h1 | h1
      · exact h.le x h1 y (by simp only [List.cons_append, List.mem_cons]; exact .inr hy)
      · rw [List.mem_singleton.1 h1]; exact hall y hy
theorem MI.right {l O A B : List (List UInt8)} (h : MI l O A B) (hA : 0 < A.length) (hB : 0 < B.length) (hc : ¬ Lib.compareBytes (A.getD 0 []) (B.getD 0 []) ≤ 0) : MI l (O ++ [B.getD 0 []]) A (B.drop 1) := by
  match A, B, hA, hB, h, hc with
  | a :: A, b :: B, _, _, h, hc =>
    simp only [List.getD_cons_zero, List.drop_succ_cons, List.drop_zero] at hc ⊢
    have hp := List.pairwise_cons.1 h.ascA
    have hq := List.pairwise_cons.1 h.ascB
    have hba : Lib.compareBytes b a ≤ 0 := by have := cmp_neg a b; omega
    have hall : ∀ y ∈ a :: A ++ B, Lib.compareBytes b y ≤ 0 := fun y hy => by
      rcases List.mem_append.1 hy with h1 | h1
      · rcases List.mem_cons.1 h1 with rfl | h1
        · exact hba
        · exact cmp_trans hba (hp.1 y h1)
      · exact hq.1 y h1
    refine ⟨?_, ?_, h.ascA, hq.2, ?_⟩
    · refine List.Perm.trans ?_ h.perm
      rw [List.append_assoc]
      refine List.Perm.append_left O ?_
      simp only [List.singleton_append]
      exact (List.perm_middle (l₁ := a :: A) (l₂ := B) (a := b)).symm
    · unfold Asc
      rw [List.pairwise_append]
      exact ⟨h.ascO, by simp, fun x hx y hy => by rw [List.mem_singleton.1 hy]; exact h.le x hx b (by simp)⟩
    · intro x hx y hy
      rcases List.mem_append.1 hx with h1 | h1
      · exact h.le x h1 y (by
          rcases List.mem_append.1 hy with h2 | h2
          · exact List.mem_append_left _ h2
          · exact List.mem_append_right _ (by simp [h2]))
      · rw [List.mem_singleton.1 h1]; exact hall y hy
theorem MI.done {l O A B : List (List UInt8)} (h : MI l O A B) (he : A.length = 0 ∨ B.length = 0) : ((O ++ A) ++ B).Perm l ∧ Asc ((O ++ A) ++ B) := by
  refine ⟨by rw [List.append_assoc]; exact h.perm, ?_⟩
  rw [List.append_assoc]
  unfold Asc
  rw [List.pairwise_append]
  refine ⟨h.ascO, ?_, h.le⟩
  rcases he with he | he
  · rw [List.eq_nil_of_length_eq_zero he, List.nil_append]; exact h.ascB
  · rw [List.eq_nil_of_length_eq_zero he, List.append_nil]; exact h.ascA
theorem asc_short {l : List (List UInt8)} (h : l.length < 2) : Asc l := by
  match l, h with
  | [], _ => exact List.Pairwise.nil
  | [a], _ => simp [Asc]
end
open Go.RowKit
set_option maxRecDepth 100000
theorem pk6_ty47 : Tryd.prog.underlying 47 = some (.slice 38) := by kernel_rfl
theorem pk6_ig38 : ∃ z, (Tryd.prog.info? 38).map (fun i => (i.zero, i.size, i.bytes)) = some (some z, 32, 32) ∧ z.cells.size = 32 := info_ex (by kernel_rfl)
theorem pk6_szg38 : ∀ w' : World, (sizeOf 38).run Tryd.prog w' = .ok 32 w' := fun _ => by kernel_rfl
theorem pk6_pl56 : Plain Tryd.prog 56 := fun _ _ => by kernel_rfl
theorem pk6_ty38 : Tryd.prog.underlying 38 = some (.array 32 5) := by kernel_rfl
theorem pk6_isz38 : (Tryd.prog.info? 38).map (·.size) = some 32 := by kernel_rfl
theorem pk6_pl57 : Plain Tryd.prog 57 := fun _ _ => by kernel_rfl
theorem pk6_lh47 (c0 c1 c2 c3 c4 c5 c6 c7 c8 c9 c10 c11 c12 c13 c14 c15 c16 c17 c18 c19 c20 c21 c22 c23 c24 c25 c26 c27 c28 c29 c30 c31 : Value) (w : World) : (Instr.buildSlice 47 1 #[(0, .agg #[c0, c1, c2, c3, c4, c5, c6, c7, c8, c9, c10, c11, c12, c13, c14, c15, c16, c17, c18, c19, c20, c21, c22, c23, c24, c25, c26, c27, c28, c29, c30, c31])]).run Tryd.prog w = .ok (.slice (some ⟨w.heap.size, 0, none⟩) 1 1) (w.alloc (.cells #[c0, c1, c2, c3, c4, c5, c6, c7, c8, c9, c10, c11, c12, c13, c14, c15, c16, c17, c18, c19, c20, c21, c22, c23, c24, c25, c26, c27, c28, c29, c30, c31] 38)) := by kernel_rfl
theorem pk6_lg47 : ∀ (cs : Array Value), cs.size = 32 → ∀ w : World, (Instr.buildSlice 47 1 #[(0, .agg cs)]).run Tryd.prog w = .ok (.slice (some ⟨w.heap.size, 0, none⟩) 1 1) (w.alloc (.cells cs 38))
 | ⟨[c0, c1, c2, c3, c4, c5, c6, c7, c8, c9, c10, c11, c12, c13, c14, c15, c16, c17, c18, c19, c20, c21, c22, c23, c24, c25, c26, c27, c28, c29, c30, c31]⟩, _, w => pk6_lh47 c0 c1 c2 c3 c4 c5 c6 c7 c8 c9 c10 c11 c12 c13 c14 c15 c16 c17 c18 c19 c20 c21 c22 c23 c24 c25 c26 c27 c28 c29 c30 c31 w
theorem merge_step (n : Nat) (ih : ∀ l : List Bs, l.length < n → ∀ (w : World) (v : Value), RG 32 Lib.byteCells w v l → Calls Tryd.prog 56 #[v, .func (.func 57) #[] #[]] w fun e w' => ∃ v' m, e = .returned v' ∧ OG w.heap.size 38 32 Lib.byteCells w' v' m ∧ m.Perm l ∧ Asc m ∧ Ext w w') (l : List Bs) (hn : l.length = n) (hlim : l.length ≤ 1048576) (w : World) (v : Value) (hr : RG 32 Lib.byteCells w v l) :
  Calls Tryd.prog 56 #[v, .func (.func 57) #[] #[]] w fun e w' => ∃ v' m, e = .returned v' ∧ OG w.heap.size 38 32 Lib.byteCells w' v' m ∧ m.Perm l ∧ Asc m ∧ Ext w w' := by
 refine calls_of_wpF (args := [v, .func (.func 57) #[] #[]]) Tryd.func56 rfl 68 rfl (Nat.le_of_ble_eq_true rfl) ?_
 intro ρ0 hb
 have T0 : ρ0 0 = (v : Value) := hb.get 0
 have T1 : ρ0 1 = (.func (.func 57) #[] #[] : Value) := hb.get 1
 clear hb
 have hE := Ext.refl w
 refine sk fun K1 hK1 => (wt (oA rfl (oZ (tN (hK1 _ _ (sk fun K2 hK2 => (sk fun K3 hK3 => (wt (oM rfl (oS rfl (Yk.lenRG pk6_ty47 (RG.of hr T0) (oS rfl (Yk.eqI (a := (l.length : Nat)) (b := (2 : Nat)) rfl rfl (k_lss _ _ _ _) (oZ (tN (hK3 _ _ ?_))))))))))))))))
 refine wpF_cond ((l.length) < (2)) (vr (.bool (decide ((l.length) < (2)))) rfl) (fun hc0 => ?_) (fun hc0 => ?_)
 ·refine sk fun K4 hK4 => (wt (oM rfl (oS rfl (Yk.appendRG _ _ w.heap.size _ 32 pk6_ty47 pk6_ig38.choose_spec.1 pk6_ig38.choose_spec.2 pk6_ty47 ([]) (l) (RG.nilOwn _ _ _) (RG.of hr T0) (fun _ _ => byteCells_one _) (by simp only [List.length_nil]; omega) (by simp only [List.length_nil]; omega) hE.size fun v5 w6 ho7 hg8 => ?_))))
  have hg8 : Grew w w6 (.slice none 0 0) v5 := hg8
  have hx_ : Ext w w6 := Ext.of (by have := hg8.by_; exact this)
  have hE := hE.trans hx_
  refine oA rfl (oZ (tN (hK4 _ _ (wpF_ret (thenF_ret (postF_ret (fn := Tryd.f56) _ rfl [v5] (v5) rfl ⟨rfl, trivial⟩ ?_))))))
  exact ⟨_, l, rfl, OG.base (og_eq ho7 (List.nil_append l)) (by omega), List.Perm.refl _, asc_short hc0, hE⟩
 refine wpF_skip (tN (hK2 _ _ (sk fun K9 hK9 => ?_)))
 refine wpF_draw [Is (v), Is (v), Is (NI l.length), Is (NI ((l.length) / (2))), fun x _ => RG 32 (Lib.byteCells) w x (l.take ((l.length) / (2))), Is (.func (.func 57) #[] #[]), fun x w' => ∃ m, RG 32 Lib.byteCells w' x m ∧ m.Perm (l.take ((l.length) / (2))) ∧ Asc m, Is (v), Is (v), Is (NI l.length), Is (NI ((l.length) / (2))), fun x _ => RG 32 (Lib.byteCells) w x (l.drop ((l.length) / (2))), Is (.func (.func 57) #[] #[]), fun x w' => ∃ m, RG 32 Lib.byteCells w' x m ∧ m.Perm (l.drop ((l.length) / (2))) ∧ Asc m, fun x w' => ∃ m, RG 32 Lib.byteCells w' x m ∧ m.Perm (l.take ((l.length) / (2))) ∧ Asc m, fun x w' => ∃ m, RG 32 Lib.byteCells w' x m ∧ m.Perm (l.drop ((l.length) / (2))) ∧ Asc m] (by kernel_rfl) [13, 14, 15, 16, 17, 18, 19, 20, 21, 22, 23, 24, 25, 26, 5, 6] (by kernel_rfl) (by kernel_rfl) (si4 ⟨(fun _ _ _ h _ => h), Stab.is _, (fun _ _ _ ⟨m, h1, h2⟩ k => ⟨m, h1.keep k, h2⟩), (si4 ⟨(fun _ _ _ h _ => h), Stab.is _, (fun _ _ _ ⟨m, h1, h2⟩ k => ⟨m, h1.keep k, h2⟩), (fun _ _ _ ⟨m, h1, h2⟩ k => ⟨m, h1.keep k, h2⟩), (fun _ _ _ ⟨m, h1, h2⟩ k => ⟨m, h1.keep k, h2⟩), trivial⟩)⟩) ?hs1003 ?hQ1003
 case hs1003 =>
  refine ⟨?_, ?_, ?_, ?_, ?_, ?_, ?_, ?_, ?_, ?_, ?_, ?_, ?_, ?_, ?_, ?_, trivial⟩
  ·refine stepN rfl fun σ w1 hC h => ?_
   have e0 := (eqo (h 0 (by decide))).trans T0
   exact Yk.move e0 ⟨Ext.refl _, rfl⟩
  ·refine stepN rfl fun σ w1 hC h => ?_
   have e0 := (eqo (h 0 (by decide))).trans T0
   exact Yk.move e0 ⟨Ext.refl _, rfl⟩
  ·refine stepN rfl fun σ w1 hC h => ?_
   have e14 := eqo (h 14 (by decide))
   exact Yk.lenRG pk6_ty47 (RG.of (hr.keep hC) e14) ⟨Ext.refl _, rfl⟩
  ·refine stepN rfl fun σ w1 hC h => ?_
   have e15 := eqo (h 15 (by decide))
   exact Yk.bin (xv := NI l.length) (yv := NI 2) e15 rfl rfl (i64_quo _ _ _ (by omega) (by omega)) ⟨Ext.refl _, rfl⟩
  ·refine stepN rfl fun σ w1 hC h => ?_
   have e13 := eqo (h 13 (by decide))
   have e16 := eqo (h 16 (by decide))
   exact Yk.sliceHiW pk6_ty47 pk6_szg38 e13 hr e16 (by omega) fun v h _ => ⟨Ext.refl _, h⟩
  ·refine stepN rfl fun σ w1 hC h => ?_
   have e1 := (eqo (h 1 (by decide))).trans T1
   exact Yk.move e1 ⟨Ext.refl _, rfl⟩
  ·refine stepN rfl fun σ w1 hC h => ?_
   have e17 : (fun x _ => RG 32 (Lib.byteCells) w x (l.take ((l.length) / (2)))) (σ 17) w1 := h 17 (by decide)
   have e18 := eqo (h 18 (by decide))
   refine Yk.callA2 pk6_pl56 rfl e18 ((ih (l.take ((l.length) / (2))) (by have hlen_ := List.length_take_le (l.length / 2) l; first | (simp only [List.length_take]; omega) | (simp only [List.length_drop]; omega)) _ _ (RG.keep e17 hC)).mono ?_)
   rintro e w2 ⟨_, m, rfl, h1, h2, h3, h4⟩
   exact ⟨_, rfl, h4, m, RG.ofOwn h1, h2, h3⟩
  ·refine stepN rfl fun σ w1 hC h => ?_
   have e0 := (eqo (h 0 (by decide))).trans T0
   exact Yk.move e0 ⟨Ext.refl _, rfl⟩
  ·refine stepN rfl fun σ w1 hC h => ?_
   have e0 := (eqo (h 0 (by decide))).trans T0
   exact Yk.move e0 ⟨Ext.refl _, rfl⟩
  ·refine stepN rfl fun σ w1 hC h => ?_
   have e21 := eqo (h 21 (by decide))
   exact Yk.lenRG pk6_ty47 (RG.of (hr.keep hC) e21) ⟨Ext.refl _, rfl⟩
  ·refine stepN rfl fun σ w1 hC h => ?_
   have e22 := eqo (h 22 (by decide))
   exact Yk.bin (xv := NI l.length) (yv := NI 2) e22 rfl rfl (i64_quo _ _ _ (by omega) (by omega)) ⟨Ext.refl _, rfl⟩
  ·refine stepN rfl fun σ w1 hC h => ?_
   have e20 := eqo (h 20 (by decide))
   have e23 := eqo (h 23 (by decide))
   exact Yk.sliceLoW pk6_ty47 pk6_szg38 e20 hr e23 (by omega) fun v h _ => ⟨Ext.refl _, h⟩
  ·refine stepN rfl fun σ w1 hC h => ?_
   have e1 := (eqo (h 1 (by decide))).trans T1
   exact Yk.move e1 ⟨Ext.refl _, rfl⟩
  ·refine stepN rfl fun σ w1 hC h => ?_
   have e24 : (fun x _ => RG 32 (Lib.byteCells) w x (l.drop ((l.length) / (2)))) (σ 24) w1 := h 24 (by decide)
   have e25 := eqo (h 25 (by decide))
   refine Yk.callA2 pk6_pl56 rfl e25 ((ih (l.drop ((l.length) / (2))) (by have hlen_ := List.length_take_le (l.length / 2) l; first | (simp only [List.length_take]; omega) | (simp only [List.length_drop]; omega)) _ _ (RG.keep e24 hC)).mono ?_)
   rintro e w2 ⟨_, m, rfl, h1, h2, h3, h4⟩
   exact ⟨_, rfl, h4, m, RG.ofOwn h1, h2, h3⟩
  ·refine stepN rfl fun σ w1 hC h => ?_
   have e19 : (fun x w' => ∃ m, RG 32 Lib.byteCells w' x m ∧ m.Perm (l.take ((l.length) / (2))) ∧ Asc m) (σ 19) w1 := h 19 (by decide)
   exact Yk.assign rfl ⟨Ext.refl _, e19⟩
  ·refine stepN rfl fun σ w1 hC h => ?_
   have e26 : (fun x w' => ∃ m, RG 32 Lib.byteCells w' x m ∧ m.Perm (l.drop ((l.length) / (2))) ∧ Asc m) (σ 26) w1 := h 26 (by decide)
   exact Yk.assign rfl ⟨Ext.refl _, e26⟩
 intro ρ10 w11 hx12 he hf
 obtain ⟨-, -, -, -, -, -, -, -, -, -, -, -, -, -, k5, k6, -⟩ := hf
 obtain ⟨T0, T1, T4, -⟩ := he.hold [(0, _), (1, _), (4, (Value.slice none 0 0))] ⟨T0, T1, rfl, trivial⟩ rfl
 clear he
 have hr := hr.keep hx12
 have hE := hE.trans hx12
 have k5 : (fun x w' => ∃ m, RG 32 Lib.byteCells w' x m ∧ m.Perm (l.take ((l.length) / (2))) ∧ Asc m) (ρ10 5) w11 := k5
 obtain ⟨v13, T5⟩ : ∃ v, ρ10 5 = v := ⟨_, rfl⟩
 rw [T5] at k5
 have hk14 := k5; clear k5
 obtain ⟨A, hr15, hp16, ha17⟩ := hk14
 have k6 : (fun x w' => ∃ m, RG 32 Lib.byteCells w' x m ∧ m.Perm (l.drop ((l.length) / (2))) ∧ Asc m) (ρ10 6) w11 := k6
 obtain ⟨v18, T6⟩ : ∃ v, ρ10 6 = v := ⟨_, rfl⟩
 rw [T6] at k6
 have hk19 := k6; clear k6
 obtain ⟨B, hr20, hp21, ha22⟩ := hk19
 refine tN (hK9 _ _ (sk fun K23 hK23 => (wt (oM rfl (oS rfl (Yk.lenRG pk6_ty47 (RG.of hr T0) ?_))))))
 have hA28 := Ext.refl w11
 have hea29 := hE
 have hz30 := hE.size
 refine oS rfl (Yk.makeG (enc := Lib.byteCells) w11.heap.size _ 32 pk6_ty47 pk6_ig38.choose_spec.1 (vr (NI 0) rfl) (vr (NI l.length) rfl) (by omega) (by omega) (Nat.le_refl _) fun v24 w25 ho26 hx27 => ?_)
 have hE := hE.trans hx27
 have hA28 := hA28.trans hx27
 refine oA rfl (oL_ [(0, v), (1, .func (.func 57) #[] #[]), (4, (Value.slice none 0 0)), (5, v13), (6, v18), (7, v24)] ⟨T0, T1, T4, T5, T6, rfl, trivial⟩ fun ρ31 ⟨T0, T1, T4, T5, T6, T7, _⟩ => (tN (hK23 _ _ (sk fun K32 hK32 => (wpF_block (wpF_loop (fun (ρ : Slots) (wz : World) => ∃ va : Value, ∃ vb : Value, ∃ Al : List Bs, ∃ Bl : List Bs, ∃ Ol : List Bs, ∃ vo : Value, ρ 0 = (v : Value) ∧ ρ 1 = (.func (.func 57) #[] #[] : Value) ∧ ρ 4 = ((Value.slice none 0 0) : Value) ∧ ρ 5 = (va : Value) ∧ ρ 6 = (vb : Value) ∧ ρ 7 = (vo : Value) ∧ Ext w wz ∧ Ext w11 wz ∧ RG 32 Lib.byteCells w11 va Al ∧ RG 32 Lib.byteCells w11 vb Bl ∧ OG w11.heap.size 38 32 (Lib.byteCells) wz vo Ol ∧ (MI l Ol Al Bl) ∧ True) (fun ρ _ => sliceLen (ρ 5) + sliceLen (ρ 6)) ⟨v13, v18, A, B, [], v24, T0, T1, T4, T5, T6, T7, hE, hA28, hr15, hr20, ho26, MI.start hp16 hp21 ha17 ha22, trivial⟩ ?_))))))
 clear ho26
 clear hE hA28
 rintro ρ33 w34 ⟨va, vb, Al, Bl, Ol, vo, T0, T1, T4, T5, T6, T7, hE, hA28, hfa, hfb, hfo, hMI, -⟩
 have q5 := T5
 have q6 := T6
 have qa := hfa.sliceLen
 have qb := hfb.sliceLen
 have hla := hMI.perm.length_eq
 simp only [List.length_append] at hla
 by_cases hga : 0 < Al.length
 ·by_cases hgb : 0 < Bl.length
  ·refine sk fun K35 hK35 => (sk fun K36 hK36 => (wt (oM rfl (oS rfl (Yk.lenRG pk6_ty47 (RG.of (hfa.keep hA28) T5) (oS rfl (Yk.eqI (a := (Al.length : Nat)) (b := (0 : Nat)) rfl rfl (k_gtr _ _ _ _) (oM rfl (oY (d := 33) rfl rfl (vr (.bool (true)) (congrArg Value.bool (decide_eq_true (hga)))) (Yk.move T6 (oY (d := 33) rfl rfl (vr (.bool (true)) (congrArg Value.bool (decide_eq_true (hga)))) (Yk.lenRG pk6_ty47 (RG.of (hfb.keep hA28) (vr vb rfl)) (oY (d := 33) rfl rfl (vr (.bool (true)) (congrArg Value.bool (decide_eq_true (hga)))) (Yk.eqI (a := (Bl.length : Nat)) (b := (0 : Nat)) rfl rfl (k_gtr _ _ _ _) (oS rfl (Yk.pickT (vr (.bool (true)) (congrArg Value.bool (decide_eq_true (hga)))) (vr (.bool (true)) (congrArg Value.bool (decide_eq_true (hgb)))) (oZ (tN (hK36 _ _ (wpF_true (vr (.bool (true)) rfl) (wpF_skip (tN (hK35 _ _ ?_)))))))))))))))))))))))
   refine wpF_block (sk fun K37 hK37 => ?_)
   refine wpF_draw [Is (.func (.func 57) #[] #[]), Is (va), fun x w' => PR (Lib.byteCells (Al.getD (0) ([] : List UInt8))) x w', Is (AB (Al.getD (0) ([] : List UInt8))), Is (vb), fun x w' => PR (Lib.byteCells (Bl.getD (0) ([] : List UInt8))) x w', Is (AB (Bl.getD (0) ([] : List UInt8))), Is (.int .i64 (Lib.compareBytes (Al.getD (0) ([] : List UInt8)) (Bl.getD (0) ([] : List UInt8)) : Int)), Is (.bool (decide ((Lib.compareBytes (Al.getD (0) ([] : List UInt8)) (Bl.getD (0) ([] : List UInt8)) : Int) ≤ ((0 : Nat) : Int))))] (by kernel_rfl) [38, 39, 40, 41, 42, 43, 44, 45, 46] (by kernel_rfl) (by kernel_rfl) (si2 ⟨(fun _ _ _ h k => PR.keep h k), (si2 ⟨(fun _ _ _ h k => PR.keep h k), (si3 trivial)⟩)⟩) ?hs2006 ?hQ2006
   case hs2006 =>
    refine ⟨?_, ?_, ?_, ?_, ?_, ?_, ?_, ?_, ?_, trivial⟩
    ·refine stepN rfl fun σ w1 hC h => ?_
     have e1 := (eqo (h 1 (by decide))).trans T1
     exact Yk.move e1 ⟨Ext.refl _, rfl⟩
    ·refine stepN rfl fun σ w1 hC h => ?_
     have e5 := (eqo (h 5 (by decide))).trans T5
     exact Yk.move e5 ⟨Ext.refl _, rfl⟩
    ·refine stepN rfl fun σ w1 hC h => ?_
     have e39 := eqo (h 39 (by decide))
     exact Yk.atRG pk6_ty47 pk6_szg38 (by decide) ([] : List UInt8) (RG.of (hfa.keep (hA28.trans hC)) e39) (vr (NI 0) rfl) (by omega) fun v h => ⟨Ext.refl _, h⟩
    ·refine stepN rfl fun σ w1 hC h => ?_
     have e40 : (fun x w' => PR (Lib.byteCells (Al.getD (0) ([] : List UInt8))) x w') (σ 40) w1 := h 40 (by decide)
     exact Yk.loadPR e40 pk6_ty38 rfl (by rw [RG.elem hfa ([] : List UInt8) (by omega)]; exact pk6_isz38) ⟨Ext.refl _, rfl⟩
    ·refine stepN rfl fun σ w1 hC h => ?_
     have e6 := (eqo (h 6 (by decide))).trans T6
     exact Yk.move e6 ⟨Ext.refl _, rfl⟩
    ·refine stepN rfl fun σ w1 hC h => ?_
     have e42 := eqo (h 42 (by decide))
     exact Yk.atRG pk6_ty47 pk6_szg38 (by decide) ([] : List UInt8) (RG.of (hfb.keep (hA28.trans hC)) e42) (vr (NI 0) rfl) (by omega) fun v h => ⟨Ext.refl _, h⟩
    ·refine stepN rfl fun σ w1 hC h => ?_
     have e43 : (fun x w' => PR (Lib.byteCells (Bl.getD (0) ([] : List UInt8))) x w') (σ 43) w1 := h 43 (by decide)
     exact Yk.loadPR e43 pk6_ty38 rfl (by rw [RG.elem hfb ([] : List UInt8) (by omega)]; exact pk6_isz38) ⟨Ext.refl _, rfl⟩
    ·refine stepN rfl fun σ w1 hC h => ?_
     have e38 := eqo (h 38 (by decide))
     have e41 := eqo (h 41 (by decide))
     have e44 := eqo (h 44 (by decide))
     refine Yk.clo pk6_pl57 (caps := #[]) e38 #[AB (Al.getD (0) ([] : List UInt8)), AB (Bl.getD (0) ([] : List UInt8))] (by simp only [List.map_toArray, List.map_cons, List.map_nil, List.append_toArray, List.cons_append, List.nil_append]; exact congrArg List.toArray (list2 e41 e44)) ((compare_any _ (Al.getD (0) ([] : List UInt8)) (Bl.getD (0) ([] : List UInt8)) ((bytes_len32 (RG.elem hfa ([] : List UInt8) (by omega)))) ((bytes_len32 (RG.elem hfb ([] : List UInt8) (by omega))))).mono ?_)
     rintro e w2 ⟨rfl, hx⟩
     exact ⟨_, rfl, hx, rfl⟩
    ·refine stepN rfl fun σ w1 hC h => ?_
     have e45 := eqo (h 45 (by decide))
     exact Yk.eqI e45 (vr (NI 0) rfl) (z_leq _ .i64 (Lib.compareBytes (Al.getD (0) ([] : List UInt8)) (Bl.getD (0) ([] : List UInt8)) : Int) ((0 : Nat) : Int)) ⟨Ext.refl _, rfl⟩
   intro ρ38 w39 hx40 he hf
   obtain ⟨-, -, -, -, -, -, -, -, k46, -⟩ := hf
   obtain ⟨T0, T1, T4, T5, T6, T7, T37, -⟩ := he.hold [(0, _), (1, _), (4, _), (5, _), (6, _), (7, _), (37, .bool (true))] ⟨T0, T1, T4, T5, T6, T7, rfl, trivial⟩ rfl
   clear he
   have hE := hE.trans hx40
   have hA28 := hA28.trans hx40
   have hfo := hfo.keep hx40
   have T46 : ρ38 46 = .bool (decide ((Lib.compareBytes (Al.getD (0) ([] : List UInt8)) (Bl.getD (0) ([] : List UInt8)) : Int) ≤ ((0 : Nat) : Int))) := k46
   clear k46
   refine tN (hK37 _ _ ?_)
   refine wpF_cond ((Lib.compareBytes (Al.getD (0) ([] : List UInt8)) (Bl.getD (0) ([] : List UInt8)) : Int) ≤ ((0 : Nat) : Int)) T46 (fun hc2 => ?_) (fun hc2 => ?_)
   ·have hlow41 : ∀ k, Value.ownBlock vo = some k → w11.heap.size ≤ k := fun k hk => (hfo.2.lt k hk).1
    have hsz_ : w11.heap.size ≤ w39.heap.size := hA28.size
    refine wpF_draw_rowsX (Value.ownBlock vo) [5] [0] (fun m => if m = 5 then [0, 2, 4] else []) (fun m => if m = 5 then [0, 2, 4, 5, 8] else []) [fun x w' => RowG w11.heap.size w39.heap.size 38 32 (Lib.byteCells) (Value.ownBlock vo) (Ol) x w', Is (va), fun x w' => PR (Lib.byteCells (Al.getD (0) ([] : List UInt8))) x w', Is (AB (Al.getD (0) ([] : List UInt8))), fun x w' => RG 32 (Lib.byteCells) w' x ([(Al.getD (0) ([] : List UInt8))]), fun x w' => RowG w11.heap.size w39.heap.size 38 32 (Lib.byteCells) (Value.ownBlock vo) ((Ol) ++ [(Al.getD (0) ([] : List UInt8))]) x w', Is (va), fun x _ => RG 32 (Lib.byteCells) w11 x (Al.drop (1)), fun x w' => RowG w11.heap.size w39.heap.size 38 32 (Lib.byteCells) (Value.ownBlock vo) ((Ol) ++ [(Al.getD (0) ([] : List UInt8))]) x w', fun x _ => RG 32 (Lib.byteCells) w11 x (Al.drop (1))] (by kernel_rfl) [47, 48, 49, 50, 51, 52, 53, 54, 7, 5] (by kernel_rfl) (by kernel_rfl) (by kernel_rfl) (by kernel_rfl) (by kernel_rfl) rfl ⟨(fun _ _ _ h k => ⟨OG.keep h.1 k, h.2⟩), Stab.is _, (fun _ _ _ h k => PR.keep h k), Stab.is _, (fun _ _ _ h k => RG.keep h k), (fun _ _ _ h k => ⟨OG.keep h.1 k, h.2⟩), Stab.is _, (fun _ _ _ h _ => h), (fun _ _ _ h k => ⟨OG.keep h.1 k, h.2⟩), (fun _ _ _ h _ => h), trivial⟩ ⟨⟨.inl rfl, .inr (Stab.is _), .inl rfl, .inr (Stab.is _), .inl rfl, .inl rfl, .inr (Stab.is _), .inr ((fun _ _ _ h _ => h)), .inl rfl, .inr ((fun _ _ _ h _ => h)), trivial⟩, trivial⟩ ?hs3007 ?hQ3007
    case hs3007 =>
     refine ⟨?_, ?_, ?_, ?_, ?_, ?_, ?_, ?_, ?_, ?_, trivial⟩
     ·refine stepN rfl fun σ w1 hC h => ?_
      have hX : Ext w39 w1 := hC
      have hC : BX w39.heap.size (Value.ownBlock vo) w39 w1 := BX.ofExt hX (Nat.le_refl _)
      have e7 := (eqo (h 7 (by decide))).trans T7
      exact Yk.move e7 ⟨Ext.refl _, OG.keep hfo hX, fun k hk => .inl hk⟩
     ·refine stepN rfl fun σ w1 hC h => ?_
      have hC : BX w39.heap.size (Value.ownBlock vo) w39 w1 := hC
      have e5 := (eqo (h 5 (by decide))).trans T5
      exact Yk.move e5 ⟨Ext.refl _, rfl⟩
     ·refine stepN rfl fun σ w1 hC h => ?_
      have hC : BX w39.heap.size (Value.ownBlock vo) w39 w1 := hC
      have e48 := eqo (h 48 (by decide))
      exact Yk.atRG pk6_ty47 pk6_szg38 (by decide) ([] : List UInt8) (RG.of (hfa.keep (ext_bx hA28 hC (by omega) (fun k hk => by have := hlow41 k hk; omega))) e48) (vr (NI 0) rfl) (by omega) fun v h => ⟨Ext.refl _, h⟩
     ·refine stepN rfl fun σ w1 hC h => ?_
      have hC : BX w39.heap.size (Value.ownBlock vo) w39 w1 := hC
      have e49 : (fun x w' => PR (Lib.byteCells (Al.getD (0) ([] : List UInt8))) x w') (σ 49) w1 := h 49 (by decide)
      exact Yk.loadPR e49 pk6_ty38 rfl (by rw [RG.elem hfa ([] : List UInt8) (by omega)]; exact pk6_isz38) ⟨Ext.refl _, rfl⟩
     ·refine stepN rfl fun σ w1 hC h => ?_
      have hC : BX w39.heap.size (Value.ownBlock vo) w39 w1 := hC
      have e50 := eqo (h 50 (by decide))
      exact Yk.lit1G (a := (Al.getD (0) ([] : List UInt8))) (enc := Lib.byteCells) e50 (by rw [Lib.byteCells_length]; exact (bytes_len32 (RG.elem hfa ([] : List UInt8) (by omega)))) pk6_lg47 fun v w2 h hx => ⟨hx, h⟩
     ·refine stepN rfl fun σ w1 hC h => ?_
      have hC : BX w39.heap.size (Value.ownBlock vo) w39 w1 := hC
      have e47 : (fun x w' => RowG w11.heap.size w39.heap.size 38 32 (Lib.byteCells) (Value.ownBlock vo) (Ol) x w') (σ 47) w1 := h 47 (by decide)
      have e51 : (fun x w' => RG 32 (Lib.byteCells) w' x ([(Al.getD (0) ([] : List UInt8))])) (σ 51) w1 := h 51 (by decide)
      exact Yk.appendRG _ _ w11.heap.size _ 32 pk6_ty47 pk6_ig38.choose_spec.1 pk6_ig38.choose_spec.2 pk6_ty47 (Ol) ([(Al.getD (0) ([] : List UInt8))]) e47.1 e51 (fun _ _ => byteCells_one _) (by simp only [List.length_cons, List.length_nil]; omega) (by simp only [List.length_cons, List.length_nil]; omega) (Nat.le_trans hsz_ hC.size) fun v w2 ho hg => ⟨BX.ofGrown hg.by_ hC.size e47.2, ho, fun k hk => (hg.fresh k hk).elim (e47.2 k) (fun x => .inr (Nat.le_trans hC.size x))⟩
     ·refine stepN rfl fun σ w1 hC h => ?_
      have hC : BX w39.heap.size (Value.ownBlock vo) w39 w1 := hC
      have e5 := (eqo (h 5 (by decide))).trans T5
      exact Yk.move e5 ⟨Ext.refl _, rfl⟩
     ·refine stepN rfl fun σ w1 hC h => ?_
      have hC : BX w39.heap.size (Value.ownBlock vo) w39 w1 := hC
      have e53 := eqo (h 53 (by decide))
      exact Yk.sliceLoW pk6_ty47 pk6_szg38 e53 hfa (vr (NI 1) rfl) (by omega) fun v h _ => ⟨Ext.refl _, h⟩
     ·refine stepN rfl fun σ w1 hC h => ?_
      have hC : BX w39.heap.size (Value.ownBlock vo) w39 w1 := hC
      have e52 : (fun x w' => RowG w11.heap.size w39.heap.size 38 32 (Lib.byteCells) (Value.ownBlock vo) ((Ol) ++ [(Al.getD (0) ([] : List UInt8))]) x w') (σ 52) w1 := h 52 (by decide)
      exact Yk.assign rfl ⟨Ext.refl _, e52⟩
     ·refine stepN rfl fun σ w1 hC h => ?_
      have hC : BX w39.heap.size (Value.ownBlock vo) w39 w1 := hC
      have e54 : (fun x _ => RG 32 (Lib.byteCells) w11 x (Al.drop (1))) (σ 54) w1 := h 54 (by decide)
      exact Yk.assign rfl ⟨Ext.refl _, e54⟩
    intro ρ42 w43 hx44 he hf
    obtain ⟨-, -, -, -, -, -, -, -, k7, k5, -⟩ := hf
    obtain ⟨T0, T1, T4, T6, T37, -⟩ := he.hold [(0, _), (1, _), (4, _), (6, _), (37, _)] ⟨T0, T1, T4, T6, T37, trivial⟩ rfl
    clear he
    have k7 : (fun x w' => RowG w11.heap.size w39.heap.size 38 32 (Lib.byteCells) (Value.ownBlock vo) ((Ol) ++ [(Al.getD (0) ([] : List UInt8))]) x w') (ρ42 7) w43 := k7
    obtain ⟨v45, T7⟩ : ∃ v, ρ42 7 = v := ⟨_, rfl⟩
    rw [T7] at k7
    have hg46 : Grew w39 w43 vo v45 := ⟨hx44.grown, k7.2⟩
    have ho47 := k7.1; clear k7
    have hE := ext_grew hE hg46 hfo.2 hz30
    have hA28 := ext_grew hA28 hg46 hfo.2 (Nat.le_refl _)
    clear hfo
    have k5 : (fun x _ => RG 32 (Lib.byteCells) w11 x (Al.drop (1))) (ρ42 5) w43 := k5
    obtain ⟨v48, T5⟩ : ∃ v, ρ42 5 = v := ⟨_, rfl⟩
    rw [T5] at k5
    have hk49 := k5; clear k5
    refine bN (tN (And.intro ⟨v48, vb, Al.drop (1), Bl, (Ol) ++ [(Al.getD (0) ([] : List UInt8))], v45, T0, T1, T4, T5, T6, T7, hE, hA28, hk49, hfb, ho47, hMI.left (by omega) (by omega) hc2, trivial⟩ ?_))
    show sliceLen (ρ42 5) + sliceLen (ρ42 6) < sliceLen (ρ33 5) + sliceLen (ρ33 6)
    rw [T5, T6, q5, q6]
    have n5 := hk49.sliceLen
    have n6 := hfb.sliceLen
    simp only [n5, n6, qa, qb, List.length_drop]
    omega
   have hlow50 : ∀ k, Value.ownBlock vo = some k → w11.heap.size ≤ k := fun k hk => (hfo.2.lt k hk).1
   have hsz_ : w11.heap.size ≤ w39.heap.size := hA28.size
   refine wpF_draw_rowsX (Value.ownBlock vo) [5] [0] (fun m => if m = 5 then [0, 2, 4] else []) (fun m => if m = 5 then [0, 2, 4, 5, 8] else []) [fun x w' => RowG w11.heap.size w39.heap.size 38 32 (Lib.byteCells) (Value.ownBlock vo) (Ol) x w', Is (vb), fun x w' => PR (Lib.byteCells (Bl.getD (0) ([] : List UInt8))) x w', Is (AB (Bl.getD (0) ([] : List UInt8))), fun x w' => RG 32 (Lib.byteCells) w' x ([(Bl.getD (0) ([] : List UInt8))]), fun x w' => RowG w11.heap.size w39.heap.size 38 32 (Lib.byteCells) (Value.ownBlock vo) ((Ol) ++ [(Bl.getD (0) ([] : List UInt8))]) x w', Is (vb), fun x _ => RG 32 (Lib.byteCells) w11 x (Bl.drop (1)), fun x w' => RowG w11.heap.size w39.heap.size 38 32 (Lib.byteCells) (Value.ownBlock vo) ((Ol) ++ [(Bl.getD (0) ([] : List UInt8))]) x w', fun x _ => RG 32 (Lib.byteCells) w11 x (Bl.drop (1))] (by kernel_rfl) [55, 56, 57, 58, 59, 60, 61, 62, 7, 6] (by kernel_rfl) (by kernel_rfl) (by kernel_rfl) (by kernel_rfl) (by kernel_rfl) rfl ⟨(fun _ _ _ h k => ⟨OG.keep h.1 k, h.2⟩), Stab.is _, (fun _ _ _ h k => PR.keep h k), Stab.is _, (fun _ _ _ h k => RG.keep h k), (fun _ _ _ h k => ⟨OG.keep h.1 k, h.2⟩), Stab.is _, (fun _ _ _ h _ => h), (fun _ _ _ h k => ⟨OG.keep h.1 k, h.2⟩), (fun _ _ _ h _ => h), trivial⟩ ⟨⟨.inl rfl, .inr (Stab.is _), .inl rfl, .inr (Stab.is _), .inl rfl, .inl rfl, .inr (Stab.is _), .inr ((fun _ _ _ h _ => h)), .inl rfl, .inr ((fun _ _ _ h _ => h)), trivial⟩, trivial⟩ ?hs4008 ?hQ4008
   case hs4008 =>
    refine ⟨?_, ?_, ?_, ?_, ?_, ?_, ?_, ?_, ?_, ?_, trivial⟩
    ·refine stepN rfl fun σ w1 hC h => ?_
     have hX : Ext w39 w1 := hC
     have hC : BX w39.heap.size (Value.ownBlock vo) w39 w1 := BX.ofExt hX (Nat.le_refl _)
     have e7 := (eqo (h 7 (by decide))).trans T7
     exact Yk.move e7 ⟨Ext.refl _, OG.keep hfo hX, fun k hk => .inl hk⟩
    ·refine stepN rfl fun σ w1 hC h => ?_
     have hC : BX w39.heap.size (Value.ownBlock vo) w39 w1 := hC
     have e6 := (eqo (h 6 (by decide))).trans T6
     exact Yk.move e6 ⟨Ext.refl _, rfl⟩
    ·refine stepN rfl fun σ w1 hC h => ?_
     have hC : BX w39.heap.size (Value.ownBlock vo) w39 w1 := hC
     have e56 := eqo (h 56 (by decide))
     exact Yk.atRG pk6_ty47 pk6_szg38 (by decide) ([] : List UInt8) (RG.of (hfb.keep (ext_bx hA28 hC (by omega) (fun k hk => by have := hlow50 k hk; omega))) e56) (vr (NI 0) rfl) (by omega) fun v h => ⟨Ext.refl _, h⟩
    ·refine stepN rfl fun σ w1 hC h => ?_
     have hC : BX w39.heap.size (Value.ownBlock vo) w39 w1 := hC
     have e57 : (fun x w' => PR (Lib.byteCells (Bl.getD (0) ([] : List UInt8))) x w') (σ 57) w1 := h 57 (by decide)
     exact Yk.loadPR e57 pk6_ty38 rfl (by rw [RG.elem hfb ([] : List UInt8) (by omega)]; exact pk6_isz38) ⟨Ext.refl _, rfl⟩
    ·refine stepN rfl fun σ w1 hC h => ?_
     have hC : BX w39.heap.size (Value.ownBlock vo) w39 w1 := hC
     have e58 := eqo (h 58 (by decide))
     exact Yk.lit1G (a := (Bl.getD (0) ([] : List UInt8))) (enc := Lib.byteCells) e58 (by rw [Lib.byteCells_length]; exact (bytes_len32 (RG.elem hfb ([] : List UInt8) (by omega)))) pk6_lg47 fun v w2 h hx => ⟨hx, h⟩
    ·refine stepN rfl fun σ w1 hC h => ?_
     have hC : BX w39.heap.size (Value.ownBlock vo) w39 w1 := hC
     have e55 : (fun x w' => RowG w11.heap.size w39.heap.size 38 32 (Lib.byteCells) (Value.ownBlock vo) (Ol) x w') (σ 55) w1 := h 55 (by decide)
     have e59 : (fun x w' => RG 32 (Lib.byteCells) w' x ([(Bl.getD (0) ([] : List UInt8))])) (σ 59) w1 := h 59 (by decide)
     exact Yk.appendRG _ _ w11.heap.size _ 32 pk6_ty47 pk6_ig38.choose_spec.1 pk6_ig38.choose_spec.2 pk6_ty47 (Ol) ([(Bl.getD (0) ([] : List UInt8))]) e55.1 e59 (fun _ _ => byteCells_one _) (by simp only [List.length_cons, List.length_nil]; omega) (by simp only [List.length_cons, List.length_nil]; omega) (Nat.le_trans hsz_ hC.size) fun v w2 ho hg => ⟨BX.ofGrown hg.by_ hC.size e55.2, ho, fun k hk => (hg.fresh k hk).elim (e55.2 k) (fun x => .inr (Nat.le_trans hC.size x))⟩
    ·refine stepN rfl fun σ w1 hC h => ?_
     have hC : BX w39.heap.size (Value.ownBlock vo) w39 w1 := hC
     have e6 := (eqo (h 6 (by decide))).trans T6
     exact Yk.move e6 ⟨Ext.refl _, rfl⟩
    ·refine stepN rfl fun σ w1 hC h => ?_
     have hC : BX w39.heap.size (Value.ownBlock vo) w39 w1 := hC
     have e61 := eqo (h 61 (by decide))
     exact Yk.sliceLoW pk6_ty47 pk6_szg38 e61 hfb (vr (NI 1) rfl) (by omega) fun v h _ => ⟨Ext.refl _, h⟩
    ·refine stepN rfl fun σ w1 hC h => ?_
     have hC : BX w39.heap.size (Value.ownBlock vo) w39 w1 := hC
     have e60 : (fun x w' => RowG w11.heap.size w39.heap.size 38 32 (Lib.byteCells) (Value.ownBlock vo) ((Ol) ++ [(Bl.getD (0) ([] : List UInt8))]) x w') (σ 60) w1 := h 60 (by decide)
     exact Yk.assign rfl ⟨Ext.refl _, e60⟩
    ·refine stepN rfl fun σ w1 hC h => ?_
     have hC : BX w39.heap.size (Value.ownBlock vo) w39 w1 := hC
     have e62 : (fun x _ => RG 32 (Lib.byteCells) w11 x (Bl.drop (1))) (σ 62) w1 := h 62 (by decide)
     exact Yk.assign rfl ⟨Ext.refl _, e62⟩
   intro ρ51 w52 hx53 he hf
   obtain ⟨-, -, -, -, -, -, -, -, k7, k6, -⟩ := hf
   obtain ⟨T0, T1, T4, T5, T37, -⟩ := he.hold [(0, _), (1, _), (4, _), (5, _), (37, _)] ⟨T0, T1, T4, T5, T37, trivial⟩ rfl
   clear he
   have k7 : (fun x w' => RowG w11.heap.size w39.heap.size 38 32 (Lib.byteCells) (Value.ownBlock vo) ((Ol) ++ [(Bl.getD (0) ([] : List UInt8))]) x w') (ρ51 7) w52 := k7
   obtain ⟨v54, T7⟩ : ∃ v, ρ51 7 = v := ⟨_, rfl⟩
   rw [T7] at k7
   have hg55 : Grew w39 w52 vo v54 := ⟨hx53.grown, k7.2⟩
   have ho56 := k7.1; clear k7
   have hE := ext_grew hE hg55 hfo.2 hz30
   have hA28 := ext_grew hA28 hg55 hfo.2 (Nat.le_refl _)
   clear hfo
   have k6 : (fun x _ => RG 32 (Lib.byteCells) w11 x (Bl.drop (1))) (ρ51 6) w52 := k6
   obtain ⟨v57, T6⟩ : ∃ v, ρ51 6 = v := ⟨_, rfl⟩
   rw [T6] at k6
   have hk58 := k6; clear k6
   refine bN (tN (And.intro ⟨va, v57, Al, Bl.drop (1), (Ol) ++ [(Bl.getD (0) ([] : List UInt8))], v54, T0, T1, T4, T5, T6, T7, hE, hA28, hfa, hk58, ho56, hMI.right (by omega) (by omega) hc2, trivial⟩ ?_))
   show sliceLen (ρ51 5) + sliceLen (ρ51 6) < sliceLen (ρ33 5) + sliceLen (ρ33 6)
   rw [T5, T6, q5, q6]
   have n5 := hfa.sliceLen
   have n6 := hk58.sliceLen
   simp only [n5, n6, qa, qb, List.length_drop]
   omega
  refine sk fun K59 hK59 => (sk fun K60 hK60 => (wt (oM rfl (oS rfl (Yk.lenRG pk6_ty47 (RG.of (hfa.keep hA28) T5) (oS rfl (Yk.eqI (a := (Al.length : Nat)) (b := (0 : Nat)) rfl rfl (k_gtr _ _ _ _) (oM rfl (oY (d := 33) rfl rfl (vr (.bool (true)) (congrArg Value.bool (decide_eq_true (hga)))) (Yk.move T6 (oY (d := 33) rfl rfl (vr (.bool (true)) (congrArg Value.bool (decide_eq_true (hga)))) (Yk.lenRG pk6_ty47 (RG.of (hfb.keep hA28) (vr vb rfl)) (oY (d := 33) rfl rfl (vr (.bool (true)) (congrArg Value.bool (decide_eq_true (hga)))) (Yk.eqI (a := (Bl.length : Nat)) (b := (0 : Nat)) rfl rfl (k_gtr _ _ _ _) (oS rfl (Yk.pickT (vr (.bool (true)) (congrArg Value.bool (decide_eq_true (hga)))) (vr (.bool (false)) (congrArg Value.bool (decide_eq_false (hgb)))) (oZ (tN (hK60 _ _ (wpF_false (vr (.bool (false)) rfl) (wpF_exit (thenF_exit (thenF_exit (inBlockF_hit (tN (hK32 _ _ ?_))))))))))))))))))))))))))
  refine sk fun K61 hK61 => (wt (oM rfl (oM rfl (oS rfl (Yk.appendRG _ _ w11.heap.size _ 32 pk6_ty47 pk6_ig38.choose_spec.1 pk6_ig38.choose_spec.2 pk6_ty47 (Ol) (Al) (OG.of hfo T7) (RG.of (hfa.keep hA28) T5) (fun _ _ => byteCells_one _) (by omega) (by omega) hA28.size fun v62 w63 ho64 hg65 => ?_)))))
  have hg65 : Grew w34 w63 vo v62 := .eqv T7 hg65
  have hE := ext_grew hE hg65 hfo.2 hz30
  have hA28 := ext_grew hA28 hg65 hfo.2 (Nat.le_refl _)
  clear hfo
  refine oM rfl (oS rfl (Yk.appendRG _ _ w11.heap.size _ 32 pk6_ty47 pk6_ig38.choose_spec.1 pk6_ig38.choose_spec.2 pk6_ty47 ((Ol) ++ Al) (Bl) (OG.of ho64 (vr v62 rfl)) (RG.of (hfb.keep hA28) T6) (fun _ _ => byteCells_one _) (by simp only [List.length_append]; omega) (by simp only [List.length_append]; omega) hA28.size fun v66 w67 ho68 hg69 => ?_))
  have hg69 : Grew w63 w67 v62 v66 := hg69
  have hE := ext_grew hE hg69 ho64.2 hz30
  have hA28 := ext_grew hA28 hg69 ho64.2 (Nat.le_refl _)
  clear ho64
  refine oA rfl (oZ (tN (hK61 _ _ (wpF_ret (postF_ret (fn := Tryd.f56) _ rfl [v66] (v66) rfl ⟨rfl, trivial⟩ ?_)))))
  obtain ⟨hpm, hasc⟩ := hMI.done (by omega)
  exact ⟨_, _, rfl, OG.base ho68 (by omega), hpm, hasc, hE⟩
 refine sk fun K70 hK70 => (sk fun K71 hK71 => (wt (oM rfl (oS rfl (Yk.lenRG pk6_ty47 (RG.of (hfa.keep hA28) T5) (oS rfl (Yk.eqI (a := (Al.length : Nat)) (b := (0 : Nat)) rfl rfl (k_gtr _ _ _ _) (oM rfl (oN (d := 33) rfl rfl rfl (vr (.bool (false)) (congrArg Value.bool (decide_eq_false (hga)))) rfl (oN (d := 33) rfl rfl rfl (vr (.bool (false)) (congrArg Value.bool (decide_eq_false (hga)))) rfl (oN (d := 33) rfl rfl rfl (vr (.bool (false)) (congrArg Value.bool (decide_eq_false (hga)))) rfl (oS rfl (Yk.pickF (vr (.bool (false)) (congrArg Value.bool (decide_eq_false (hga)))) (vr (.bool (false)) rfl) (oZ (tN (hK71 _ _ (wpF_false (vr (.bool (false)) rfl) (wpF_exit (thenF_exit (thenF_exit (inBlockF_hit (tN (hK32 _ _ ?_)))))))))))))))))))))))
 refine sk fun K72 hK72 => (wt (oM rfl (oM rfl (oS rfl (Yk.appendRG _ _ w11.heap.size _ 32 pk6_ty47 pk6_ig38.choose_spec.1 pk6_ig38.choose_spec.2 pk6_ty47 (Ol) (Al) (OG.of hfo T7) (RG.of (hfa.keep hA28) T5) (fun _ _ => byteCells_one _) (by omega) (by omega) hA28.size fun v73 w74 ho75 hg76 => ?_)))))
 have hg76 : Grew w34 w74 vo v73 := .eqv T7 hg76
 have hE := ext_grew hE hg76 hfo.2 hz30
 have hA28 := ext_grew hA28 hg76 hfo.2 (Nat.le_refl _)
 clear hfo
 refine oM rfl (oS rfl (Yk.appendRG _ _ w11.heap.size _ 32 pk6_ty47 pk6_ig38.choose_spec.1 pk6_ig38.choose_spec.2 pk6_ty47 ((Ol) ++ Al) (Bl) (OG.of ho75 (vr v73 rfl)) (RG.of (hfb.keep hA28) T6) (fun _ _ => byteCells_one _) (by simp only [List.length_append]; omega) (by simp only [List.length_append]; omega) hA28.size fun v77 w78 ho79 hg80 => ?_))
 have hg80 : Grew w74 w78 v73 v77 := hg80
 have hE := ext_grew hE hg80 ho75.2 hz30
 have hA28 := ext_grew hA28 hg80 ho75.2 (Nat.le_refl _)
 clear ho75
 refine oA rfl (oZ (tN (hK72 _ _ (wpF_ret (postF_ret (fn := Tryd.f56) _ rfl [v77] (v77) rfl ⟨rfl, trivial⟩ ?_)))))
 obtain ⟨hpm, hasc⟩ := hMI.done (by omega)
 exact ⟨_, _, rfl, OG.base ho79 (by omega), hpm, hasc, hE⟩

theorem merge_any : ∀ (n : Nat) (l : List Bs), l.length = n → l.length ≤ 1048576 → ∀ (w : World) (v : Value), RG 32 Lib.byteCells w v l → Calls Tryd.prog 56 #[v, .func (.func 57) #[] #[]] w fun e w' => ∃ v' m, e = .returned v' ∧ OG w.heap.size 38 32 Lib.byteCells w' v' m ∧ m.Perm l ∧ Asc m ∧ Ext w w' := by
 intro n
 induction n using Nat.strongRecOn with
 | _ n ih => exact fun l hn hlim w v hr => merge_step n (fun l' hl w v hr => ih l'.length hl l' rfl (by omega) w v hr) l hn hlim w v hr

theorem sort_any (w : World) (v : Value) (l : List Bs) (hlim : l.length ≤ 1048576) (hr : RG 32 Lib.byteCells w v l) :
  Calls Tryd.prog 28 #[v] w fun e w' => ∃ v', e = .returned v' ∧ OG w.heap.size 38 32 Lib.byteCells w' v' (sortB l) ∧ Ext w w' := by
 refine calls_of_wpF (args := [v]) Tryd.func28 rfl 5 rfl (Nat.le_of_ble_eq_true rfl) ?_
 intro ρ0 hb
 have T0 : ρ0 0 = (v : Value) := hb.get 0
 clear hb
 have hE := Ext.refl w
 refine sk fun K1 hK1 => (wt (oA rfl (oZ (tN (hK1 _ _ (sk fun K2 hK2 => (wt (oM rfl (oS rfl (Yk.callA2 pk6_pl56 T0 rfl ((merge_any _ l rfl hlim _ v hr).mono ?_)))))))))))
 rintro e w9 ⟨v3, m4, rfl, hr5, hp6, ha7, hx8⟩
 refine ⟨_, rfl, ?_⟩
 have hms := asc_sortB ha7 hp6
 subst hms
 have hr := hr.keep hx8
 have hE := hE.trans hx8
 refine oA rfl (oZ (tN (hK2 _ _ (wpF_ret (postF_ret (fn := Tryd.f28) _ rfl [v3] (v3) rfl ⟨rfl, trivial⟩ ?_)))))
 exact ⟨_, rfl, hr5, hE⟩
open Go.RowKit
set_option maxHeartbeats 400000 in
theorem dnumber_any (w : World) (B : Nat) (v : Value) (l : List UInt8) (hown : w.ownsRow B 5 1 v l.length (Lib.byteCells l)) (hB : B ≤ w.heap.size) (n : Nat) (hn : n ≤ 9223372036854775807) (hl : l.length + 16 ≤ 140737488355328) :
    Calls Tryd.prog 52 #[v, .int .i64 n] w fun e w' => ∃ v', e = .returned v' ∧ w'.ownsRow B 5 1 v' (l ++ Lib.uvarint n).length (Lib.byteCells (l ++ Lib.uvarint n)) ∧ Grew w w' v v' := by
  obtain ⟨i0, hi, hz0, hz1, hz2⟩ := info_parts infoB
  have h9 := uvarint_len63 n (by omega)
  go_enter Tryd.func52, Tryd.ntmps52
  go_wp2_with fail
  refine (put_any w (.slice none 0 0) [] (RB.nil w) (by simp) n hn).mono ?_
  rintro e w1 ⟨v1, rfl, h1⟩
  have ho1 : w1.ownsRow B 5 1 v l.length (Lib.byteCells l) := Stab.own _ _ _ _ _ _ _ _ hown h1.ext
  have hs := h1.rb.src u22
  have hE := h1.ext
  rw [List.nil_append] at hs
  have hz := h1.ext.size
  go_wp2_with (at_builtin; refine wpList_append_src _ rfl _ _ 24 24 rfl B 5 i0 (.int .u8 0) 1 1 u22 hi hz0 hz1 hz2 rfl _ _ _ rfl ho1 v1 _ _ rfl hs ?c1 ?c2 ?c3 ?_)
  case c1 => unfold maxLen; omega
  case c2 => omega
  case c3 => omega
  intro v' w3 hown' hgrow
  go_wp2
  go_ret
  exact ⟨v', rfl, by rw [List.length_append, Lib.byteCells_append]; exact hown', Grew.after hE hgrow⟩
def lcp : List UInt8 → List UInt8 → Nat
  | a :: u, b :: z => if a = b then lcp u z + 1 else 0
  | _, _ => 0
theorem lcp_step {a b : List UInt8} {i : Nat} (h1 : i < a.length) (h2 : i < b.length) (h : a.getD i 0 = b.getD i 0) : lcp (a.drop i) (b.drop i) = lcp (a.drop (i + 1)) (b.drop (i + 1)) + 1 := by
  rw [List.drop_eq_getElem_cons h1, List.drop_eq_getElem_cons h2]
  rw [lcp, if_pos (by simpa [List.getD, h1, h2] using h)]
theorem lcp_ne {a b : List UInt8} {i : Nat} (h1 : i < a.length) (h2 : i < b.length) (h : a.getD i 0 ≠ b.getD i 0) : lcp (a.drop i) (b.drop i) = 0 := by
  rw [List.drop_eq_getElem_cons h1, List.drop_eq_getElem_cons h2]
  unfold lcp
  rw [if_neg (by simpa [List.getD, h1, h2] using h)]
theorem lcp_endA {a b : List UInt8} {i : Nat} (h : a.length ≤ i) : lcp (a.drop i) (b.drop i) = 0 := by
  rw [List.drop_of_length_le h]
  unfold lcp
  rfl
theorem lcp_endB {a b : List UInt8} {i : Nat} (h : b.length ≤ i) : lcp (a.drop i) (b.drop i) = 0 := by
  rw [List.drop_of_length_le h]
  cases a.drop i <;> rfl
theorem lcp_le : ∀ a b : List UInt8, lcp a b ≤ a.length ∧ lcp a b ≤ b.length
  | [], b => by simp [lcp]
  | a :: u, [] => by simp [lcp]
  | a :: u, b :: z => by
    unfold lcp
    have := lcp_le u z
    split <;> simp <;> omega
theorem getNo (w : World) (v : Value) (l : List UInt8) (hr : RB w v l) (a : Nat) (ha : a ≤ l.length) (h : lebDec 0 (l.drop a) = none) :
    Calls Tryd.prog 63 #[v, .int .i64 a] w fun e w' => e = .returned (.tuple #[.int .i64 0, .int .i64 0, .int .i64 6]) ∧ Ext w w' :=
  (get_in w v l hr a ha).mono fun e w' ⟨h1, h2⟩ => by
    rw [h] at h1
    exact ⟨h1, h2 ▸ Ext.refl w⟩
theorem getYes (w : World) (v : Value) (l : List UInt8) (hr : RB w v l) (a : Nat) (ha : a ≤ l.length) (x k : Nat) (h : lebDec 0 (l.drop a) = some (x, k)) :
    Calls Tryd.prog 63 #[v, .int .i64 a] w fun e w' => e = .returned (.tuple #[.int .i64 (x : Nat), .int .i64 ((a + k : Nat) : Int), .int .i64 0]) ∧ Ext w w' :=
  (get_in w v l hr a ha).mono fun e w' ⟨h1, h2⟩ => by
    rw [h] at h1
    exact ⟨h1, h2 ▸ Ext.refl w⟩
theorem lebDec_bound {l : List UInt8} {a x k : Nat} (ha : a ≤ l.length) (h : lebDec 0 (l.drop a) = some (x, k)) : x < 9223372036854775808 ∧ a + k ≤ l.length ∧ 1 ≤ k := by
  have h1 := lebDec_pos _ _ _ h
  have h2 := lebDec_lt _ _ _ h
  have h3 : k ≤ 9 := by have := h1.2.2; simp at this; omega
  have h4 : 128 ^ k ≤ 128 ^ 9 := Nat.pow_le_pow_right (by decide) h3
  have h5 := h1.2.1
  rw [List.length_drop] at h5
  exact ⟨Nat.lt_of_lt_of_le h2 h4, by omega, h1.1⟩
open Go.RowKit
set_option maxRecDepth 100000
theorem del2_ty24 : Tryd.prog.underlying 24 = some (.slice 5) := by kernel_rfl
theorem del2_sz5 : ∀ w' : World, (sizeOf 5).run Tryd.prog w' = .ok 1 w' := fun _ => by kernel_rfl
theorem del2_ty5 : Tryd.prog.underlying 5 = some (.int .u8) := by kernel_rfl
theorem common_any (w : World) (va vb : Value) (a b : List UInt8) (hra : RB w va a) (hrb : RB w vb b) (hal : a.length ≤ 4611686018427387904) :
  Calls Tryd.prog 55 #[va, vb] w fun e w' => e = .returned (NI (lcp a b)) ∧ Ext w w' := by
 refine calls_of_wpF (args := [va, vb]) Tryd.func55 rfl 30 rfl (Nat.le_of_ble_eq_true rfl) ?_
 intro ρ0 hb
 have T0 : ρ0 0 = (va : Value) := hb.get 0
 have T1 : ρ0 1 = (vb : Value) := hb.get 1
 clear hb
 have hE := Ext.refl w
 refine sk fun K1 hK1 => (wt (oA rfl (oZ (tN (hK1 _ _ (sk fun K2 hK2 => (wt (oA rfl (oL_ [(0, va), (1, vb), (4, NI 0), (5, NI 0)] ⟨T0, T1, rfl, rfl, trivial⟩ fun ρ3 ⟨T0, T1, T4, T5, _⟩ => (tN (hK2 _ _ (sk fun K4 hK4 => (wpF_block (wpF_loop (fun (ρ : Slots) (wz : World) => ∃ i : Nat, ρ 0 = (va : Value) ∧ ρ 1 = (vb : Value) ∧ ρ 4 = (NI 0 : Value) ∧ ρ 5 = (NI i : Value) ∧ Ext w wz ∧ (i ≤ a.length) ∧ (i ≤ b.length) ∧ (lcp a b = i + lcp (a.drop i) (b.drop i)) ∧ True) (fun ρ _ => a.length - (intOf (ρ 5)).toNat) ⟨0, T0, T1, T4, T5, hE, Nat.zero_le _, Nat.zero_le _, by simp, trivial⟩ ?_))))))))))))))
 clear hE
 rintro ρ5 w6 ⟨i, T0, T1, T4, T5, hE, hia, hib, hlc, -⟩
 have q5 := T5
 by_cases h1 : i < a.length
 ·by_cases h2 : i < b.length
  ·by_cases h3 : a.getD i 0 = b.getD i 0
   ·refine sk fun K7 hK7 => (sk fun K8 hK8 => ?_)
    refine wpF_draw [Is (NI i), Is (va), Is (NI a.length), Is (.bool (true)), Is (.bool (true)), Is (NI i), Is (vb), Is (NI b.length), Is (.bool (true)), Is (.bool (true)), Is (.bool (true)), Is (va), Is (NI i), PCell (B8 (a.getD (i) 0)), Is (B8 (a.getD (i) 0)), Is (vb), Is (NI i), PCell (B8 (b.getD (i) 0)), Is (B8 (b.getD (i) 0)), Is (.bool (true)), Is (.bool (true))] (by kernel_rfl) [6, 7, 8, 9, 10, 11, 12, 13, 14, 15, 16, 17, 18, 19, 20, 21, 22, 23, 24, 25, 26] (by kernel_rfl) (by kernel_rfl) ⟨Stab.is _, (si12 ⟨Stab.pcell _, (si3 ⟨Stab.pcell _, (si3 trivial)⟩)⟩)⟩ ?hs1002 ?hQ1002
    case hs1002 =>
     refine ⟨?_, ?_, ?_, ?_, ?_, ?_, ?_, ?_, ?_, ?_, ?_, ?_, ?_, ?_, ?_, ?_, ?_, ?_, ?_, ?_, ?_, trivial⟩
     ·refine stepN rfl fun σ w1 hC h => ?_
      have e5 := (eqo (h 5 (by decide))).trans T5
      exact Yk.move e5 ⟨Ext.refl _, rfl⟩
     ·refine stepN rfl fun σ w1 hC h => ?_
      have e0 := (eqo (h 0 (by decide))).trans T0
      exact Yk.move e0 ⟨Ext.refl _, rfl⟩
     ·refine stepN rfl fun σ w1 hC h => ?_
      have e7 := eqo (h 7 (by decide))
      exact Yk.lenRB del2_ty24 (RB.of (hra.keep (hE.trans hC)) e7) ⟨Ext.refl _, rfl⟩
     ·refine stepN rfl fun σ w1 hC h => ?_
      have e6 := eqo (h 6 (by decide))
      have e8 := eqo (h 8 (by decide))
      exact Yk.eqI (a := (i : Nat)) (b := (a.length : Nat)) e6 e8 (k_lss _ _ _ _) ⟨Ext.refl _, (congrArg Value.bool (decide_eq_true (h1)))⟩
     ·refine stepN rfl fun σ w1 hC h => ?_
      have e9 := eqo (h 9 (by decide))
      exact Yk.move e9 ⟨Ext.refl _, rfl⟩
     ·refine stepY 4 true 10 rfl rfl (fun _ _ h => h) fun σ w1 hC h => ?_
      have e5 := (eqo (h 5 (by decide))).trans T5
      exact Yk.move e5 ⟨Ext.refl _, rfl⟩
     ·refine stepY 4 true 10 rfl rfl (fun _ _ h => h) fun σ w1 hC h => ?_
      have e1 := (eqo (h 1 (by decide))).trans T1
      exact Yk.move e1 ⟨Ext.refl _, rfl⟩
     ·refine stepY 4 true 10 rfl rfl (fun _ _ h => h) fun σ w1 hC h => ?_
      have e12 := eqo (h 12 (by decide))
      exact Yk.lenRB del2_ty24 (RB.of (hrb.keep (hE.trans hC)) e12) ⟨Ext.refl _, rfl⟩
     ·refine stepY 4 true 10 rfl rfl (fun _ _ h => h) fun σ w1 hC h => ?_
      have e11 := eqo (h 11 (by decide))
      have e13 := eqo (h 13 (by decide))
      exact Yk.eqI (a := (i : Nat)) (b := (b.length : Nat)) e11 e13 (k_lss _ _ _ _) ⟨Ext.refl _, (congrArg Value.bool (decide_eq_true (h2)))⟩
     ·refine stepN rfl fun σ w1 hC h => ?_
      have e10 := eqo (h 10 (by decide))
      have e14 := eqo (h 14 (by decide))
      exact Yk.pickT e10 e14 ⟨Ext.refl _, rfl⟩
     ·refine stepN rfl fun σ w1 hC h => ?_
      have e15 := eqo (h 15 (by decide))
      exact Yk.move e15 ⟨Ext.refl _, rfl⟩
     ·refine stepY 10 true 16 rfl rfl (fun _ _ h => h) fun σ w1 hC h => ?_
      have e0 := (eqo (h 0 (by decide))).trans T0
      exact Yk.move e0 ⟨Ext.refl _, rfl⟩
     ·refine stepY 10 true 16 rfl rfl (fun _ _ h => h) fun σ w1 hC h => ?_
      have e5 := (eqo (h 5 (by decide))).trans T5
      exact Yk.move e5 ⟨Ext.refl _, rfl⟩
     ·refine stepY 10 true 16 rfl rfl (fun _ _ h => h) fun σ w1 hC h => ?_
      have e17 := eqo (h 17 (by decide))
      have e18 := eqo (h 18 (by decide))
      exact Yk.atRB (l := a) (i := i) del2_ty24 del2_sz5 (RB.of (hra.keep (hE.trans hC)) e17) e18 (h1) fun _ h => ⟨Ext.refl _, h⟩
     ·refine stepY 10 true 16 rfl rfl (fun _ _ h => h) fun σ w1 hC h => ?_
      have e19 : (PCell (B8 (a.getD (i) 0))) (σ 19) w1 := h 19 (by decide)
      exact Yk.loadC del2_ty5 rfl e19 ⟨Ext.refl _, rfl⟩
     ·refine stepY 10 true 16 rfl rfl (fun _ _ h => h) fun σ w1 hC h => ?_
      have e1 := (eqo (h 1 (by decide))).trans T1
      exact Yk.move e1 ⟨Ext.refl _, rfl⟩
     ·refine stepY 10 true 16 rfl rfl (fun _ _ h => h) fun σ w1 hC h => ?_
      have e5 := (eqo (h 5 (by decide))).trans T5
      exact Yk.move e5 ⟨Ext.refl _, rfl⟩
     ·refine stepY 10 true 16 rfl rfl (fun _ _ h => h) fun σ w1 hC h => ?_
      have e21 := eqo (h 21 (by decide))
      have e22 := eqo (h 22 (by decide))
      exact Yk.atRB (l := b) (i := i) del2_ty24 del2_sz5 (RB.of (hrb.keep (hE.trans hC)) e21) e22 (h2) fun _ h => ⟨Ext.refl _, h⟩
     ·refine stepY 10 true 16 rfl rfl (fun _ _ h => h) fun σ w1 hC h => ?_
      have e23 : (PCell (B8 (b.getD (i) 0))) (σ 23) w1 := h 23 (by decide)
      exact Yk.loadC del2_ty5 rfl e23 ⟨Ext.refl _, rfl⟩
     ·refine stepY 10 true 16 rfl rfl (fun _ _ h => h) fun σ w1 hC h => ?_
      have e20 := eqo (h 20 (by decide))
      have e24 := eqo (h 24 (by decide))
      exact Yk.eqI (a := ((a.getD (i) 0).toNat : Nat)) (b := ((b.getD (i) 0).toNat : Nat)) e20 e24 (k_eql _ _ _ _) ⟨Ext.refl _, (congrArg Value.bool (decide_eq_true (congrArg UInt8.toNat h3)))⟩
     ·refine stepN rfl fun σ w1 hC h => ?_
      have e16 := eqo (h 16 (by decide))
      have e25 := eqo (h 25 (by decide))
      exact Yk.pickT e16 e25 ⟨Ext.refl _, rfl⟩
    intro ρ9 w10 hx11 he hf
    obtain ⟨-, -, -, -, -, -, -, -, -, -, -, -, -, -, -, -, -, -, -, -, k26, -⟩ := hf
    obtain ⟨T0, T1, T4, T5, -⟩ := he.hold [(0, _), (1, _), (4, _), (5, _)] ⟨T0, T1, T4, T5, trivial⟩ rfl
    clear he
    have hE := hE.trans hx11
    have T26 : ρ9 26 = .bool (true) := k26
    clear k26
    refine tN (hK8 _ _ (wpF_true T26 (wpF_skip (tN (hK7 _ _ (wpF_block (wt (oM rfl (oS rfl (Yk.bin (xv := NI i) (yv := NI 1) T5 rfl rfl (i64_add _ _ _ (by omega)) (oA rfl (oL_ [(0, va), (1, vb), (4, NI 0), (5, NI ((i) + (1))), (26, .bool (true))] ⟨T0, T1, T4, rfl, T26, trivial⟩ fun ρ12 ⟨T0, T1, T4, T5, T26, _⟩ => (bN (tN (And.intro ⟨i + 1, T0, T1, T4, T5, hE, by omega, by omega, by rw [hlc, lcp_step h1 h2 h3]; omega, trivial⟩ ?_)))))))))))))))
    show a.length - (intOf (ρ12 5)).toNat < a.length - (intOf (ρ5 5)).toNat
    rw [T5, q5]
    simp only [intOf, Int.toNat_natCast]; omega
   have hz0 := lcp_ne h1 h2 h3
   refine sk fun K13 hK13 => (sk fun K14 hK14 => ?_)
   refine wpF_draw [Is (NI i), Is (va), Is (NI a.length), Is (.bool (true)), Is (.bool (true)), Is (NI i), Is (vb), Is (NI b.length), Is (.bool (true)), Is (.bool (true)), Is (.bool (true)), Is (va), Is (NI i), PCell (B8 (a.getD (i) 0)), Is (B8 (a.getD (i) 0)), Is (vb), Is (NI i), PCell (B8 (b.getD (i) 0)), Is (B8 (b.getD (i) 0)), Is (.bool (false)), Is (.bool (false))] (by kernel_rfl) [6, 7, 8, 9, 10, 11, 12, 13, 14, 15, 16, 17, 18, 19, 20, 21, 22, 23, 24, 25, 26] (by kernel_rfl) (by kernel_rfl) ⟨Stab.is _, (si12 ⟨Stab.pcell _, (si3 ⟨Stab.pcell _, (si3 trivial)⟩)⟩)⟩ ?hs2002 ?hQ2002
   case hs2002 =>
    refine ⟨?_, ?_, ?_, ?_, ?_, ?_, ?_, ?_, ?_, ?_, ?_, ?_, ?_, ?_, ?_, ?_, ?_, ?_, ?_, ?_, ?_, trivial⟩
    ·refine stepN rfl fun σ w1 hC h => ?_
     have e5 := (eqo (h 5 (by decide))).trans T5
     exact Yk.move e5 ⟨Ext.refl _, rfl⟩
    ·refine stepN rfl fun σ w1 hC h => ?_
     have e0 := (eqo (h 0 (by decide))).trans T0
     exact Yk.move e0 ⟨Ext.refl _, rfl⟩
    ·refine stepN rfl fun σ w1 hC h => ?_
     have e7 := eqo (h 7 (by decide))
     exact Yk.lenRB del2_ty24 (RB.of (hra.keep (hE.trans hC)) e7) ⟨Ext.refl _, rfl⟩
    ·refine stepN rfl fun σ w1 hC h => ?_
     have e6 := eqo (h 6 (by decide))
     have e8 := eqo (h 8 (by decide))
     exact Yk.eqI (a := (i : Nat)) (b := (a.length : Nat)) e6 e8 (k_lss _ _ _ _) ⟨Ext.refl _, (congrArg Value.bool (decide_eq_true (h1)))⟩
    ·refine stepN rfl fun σ w1 hC h => ?_
     have e9 := eqo (h 9 (by decide))
     exact Yk.move e9 ⟨Ext.refl _, rfl⟩
    ·refine stepY 4 true 10 rfl rfl (fun _ _ h => h) fun σ w1 hC h => ?_
     have e5 := (eqo (h 5 (by decide))).trans T5
     exact Yk.move e5 ⟨Ext.refl _, rfl⟩
    ·refine stepY 4 true 10 rfl rfl (fun _ _ h => h) fun σ w1 hC h => ?_
     have e1 := (eqo (h 1 (by decide))).trans T1
     exact Yk.move e1 ⟨Ext.refl _, rfl⟩
    ·refine stepY 4 true 10 rfl rfl (fun _ _ h => h) fun σ w1 hC h => ?_
     have e12 := eqo (h 12 (by decide))
     exact Yk.lenRB del2_ty24 (RB.of (hrb.keep (hE.trans hC)) e12) ⟨Ext.refl _, rfl⟩
    ·refine stepY 4 true 10 rfl rfl (fun _ _ h => h) fun σ w1 hC h => ?_
     have e11 := eqo (h 11 (by decide))
     have e13 := eqo (h 13 (by decide))
     exact Yk.eqI (a := (i : Nat)) (b := (b.length : Nat)) e11 e13 (k_lss _ _ _ _) ⟨Ext.refl _, (congrArg Value.bool (decide_eq_true (h2)))⟩
    ·refine stepN rfl fun σ w1 hC h => ?_
     have e10 := eqo (h 10 (by decide))
     have e14 := eqo (h 14 (by decide))
     exact Yk.pickT e10 e14 ⟨Ext.refl _, rfl⟩
    ·refine stepN rfl fun σ w1 hC h => ?_
     have e15 := eqo (h 15 (by decide))
     exact Yk.move e15 ⟨Ext.refl _, rfl⟩
    ·refine stepY 10 true 16 rfl rfl (fun _ _ h => h) fun σ w1 hC h => ?_
     have e0 := (eqo (h 0 (by decide))).trans T0
     exact Yk.move e0 ⟨Ext.refl _, rfl⟩
    ·refine stepY 10 true 16 rfl rfl (fun _ _ h => h) fun σ w1 hC h => ?_
     have e5 := (eqo (h 5 (by decide))).trans T5
     exact Yk.move e5 ⟨Ext.refl _, rfl⟩
    ·refine stepY 10 true 16 rfl rfl (fun _ _ h => h) fun σ w1 hC h => ?_
     have e17 := eqo (h 17 (by decide))
     have e18 := eqo (h 18 (by decide))
     exact Yk.atRB (l := a) (i := i) del2_ty24 del2_sz5 (RB.of (hra.keep (hE.trans hC)) e17) e18 (h1) fun _ h => ⟨Ext.refl _, h⟩
    ·refine stepY 10 true 16 rfl rfl (fun _ _ h => h) fun σ w1 hC h => ?_
     have e19 : (PCell (B8 (a.getD (i) 0))) (σ 19) w1 := h 19 (by decide)
     exact Yk.loadC del2_ty5 rfl e19 ⟨Ext.refl _, rfl⟩
    ·refine stepY 10 true 16 rfl rfl (fun _ _ h => h) fun σ w1 hC h => ?_
     have e1 := (eqo (h 1 (by decide))).trans T1
     exact Yk.move e1 ⟨Ext.refl _, rfl⟩
    ·refine stepY 10 true 16 rfl rfl (fun _ _ h => h) fun σ w1 hC h => ?_
     have e5 := (eqo (h 5 (by decide))).trans T5
     exact Yk.move e5 ⟨Ext.refl _, rfl⟩
    ·refine stepY 10 true 16 rfl rfl (fun _ _ h => h) fun σ w1 hC h => ?_
     have e21 := eqo (h 21 (by decide))
     have e22 := eqo (h 22 (by decide))
     exact Yk.atRB (l := b) (i := i) del2_ty24 del2_sz5 (RB.of (hrb.keep (hE.trans hC)) e21) e22 (h2) fun _ h => ⟨Ext.refl _, h⟩
    ·refine stepY 10 true 16 rfl rfl (fun _ _ h => h) fun σ w1 hC h => ?_
     have e23 : (PCell (B8 (b.getD (i) 0))) (σ 23) w1 := h 23 (by decide)
     exact Yk.loadC del2_ty5 rfl e23 ⟨Ext.refl _, rfl⟩
    ·refine stepY 10 true 16 rfl rfl (fun _ _ h => h) fun σ w1 hC h => ?_
     have e20 := eqo (h 20 (by decide))
     have e24 := eqo (h 24 (by decide))
     exact Yk.eqI (a := ((a.getD (i) 0).toNat : Nat)) (b := ((b.getD (i) 0).toNat : Nat)) e20 e24 (k_eql _ _ _ _) ⟨Ext.refl _, (congrArg Value.bool (decide_eq_false (fun h => h3 (UInt8.toNat_inj.1 h))))⟩
    ·refine stepN rfl fun σ w1 hC h => ?_
     have e16 := eqo (h 16 (by decide))
     have e25 := eqo (h 25 (by decide))
     exact Yk.pickT e16 e25 ⟨Ext.refl _, rfl⟩
   intro ρ15 w16 hx17 he hf
   obtain ⟨-, -, -, -, -, -, -, -, -, -, -, -, -, -, -, -, -, -, -, -, k26, -⟩ := hf
   obtain ⟨T0, T1, T4, T5, -⟩ := he.hold [(0, _), (1, _), (4, _), (5, _)] ⟨T0, T1, T4, T5, trivial⟩ rfl
   clear he
   have hE := hE.trans hx17
   have T26 : ρ15 26 = .bool (false) := k26
   clear k26
   refine tN (hK14 _ _ (wpF_false T26 (wpF_exit (thenF_exit (thenF_exit (inBlockF_hit (tN (hK4 _ _ (sk fun K18 hK18 => (wt (oM rfl (oA rfl (oZ (tN (hK18 _ _ (wpF_ret (postF_ret (fn := Tryd.f55) _ rfl [NI i] (NI i) rfl ⟨T5, trivial⟩ ?_)))))))))))))))))
   rw [hlc, hz0]
   exact ⟨rfl, hE⟩
  have hz0 := lcp_endB (a := a) (i := i) (b := b) (by omega)
  refine sk fun K19 hK19 => (sk fun K20 hK20 => ?_)
  refine wpF_draw [Is (NI i), Is (va), Is (NI a.length), Is (.bool (true)), Is (.bool (true)), Is (NI i), Is (vb), Is (NI b.length), Is (.bool (false)), Is (.bool (false)), Is (.bool (false)), Is undef, Is undef, Is undef, Is undef, Is undef, Is undef, Is undef, Is undef, Is undef, Is (.bool (false))] (by kernel_rfl) [6, 7, 8, 9, 10, 11, 12, 13, 14, 15, 16, 17, 18, 19, 20, 21, 22, 23, 24, 25, 26] (by kernel_rfl) (by kernel_rfl) (si9 (si12 trivial)) ?hs3002 ?hQ3002
  case hs3002 =>
   refine ⟨?_, ?_, ?_, ?_, ?_, ?_, ?_, ?_, ?_, ?_, ?_, ?_, ?_, ?_, ?_, ?_, ?_, ?_, ?_, ?_, ?_, trivial⟩
   ·refine stepN rfl fun σ w1 hC h => ?_
    have e5 := (eqo (h 5 (by decide))).trans T5
    exact Yk.move e5 ⟨Ext.refl _, rfl⟩
   ·refine stepN rfl fun σ w1 hC h => ?_
    have e0 := (eqo (h 0 (by decide))).trans T0
    exact Yk.move e0 ⟨Ext.refl _, rfl⟩
   ·refine stepN rfl fun σ w1 hC h => ?_
    have e7 := eqo (h 7 (by decide))
    exact Yk.lenRB del2_ty24 (RB.of (hra.keep (hE.trans hC)) e7) ⟨Ext.refl _, rfl⟩
   ·refine stepN rfl fun σ w1 hC h => ?_
    have e6 := eqo (h 6 (by decide))
    have e8 := eqo (h 8 (by decide))
    exact Yk.eqI (a := (i : Nat)) (b := (a.length : Nat)) e6 e8 (k_lss _ _ _ _) ⟨Ext.refl _, (congrArg Value.bool (decide_eq_true (h1)))⟩
   ·refine stepN rfl fun σ w1 hC h => ?_
    have e9 := eqo (h 9 (by decide))
    exact Yk.move e9 ⟨Ext.refl _, rfl⟩
   ·refine stepY 4 true 10 rfl rfl (fun _ _ h => h) fun σ w1 hC h => ?_
    have e5 := (eqo (h 5 (by decide))).trans T5
    exact Yk.move e5 ⟨Ext.refl _, rfl⟩
   ·refine stepY 4 true 10 rfl rfl (fun _ _ h => h) fun σ w1 hC h => ?_
    have e1 := (eqo (h 1 (by decide))).trans T1
    exact Yk.move e1 ⟨Ext.refl _, rfl⟩
   ·refine stepY 4 true 10 rfl rfl (fun _ _ h => h) fun σ w1 hC h => ?_
    have e12 := eqo (h 12 (by decide))
    exact Yk.lenRB del2_ty24 (RB.of (hrb.keep (hE.trans hC)) e12) ⟨Ext.refl _, rfl⟩
   ·refine stepY 4 true 10 rfl rfl (fun _ _ h => h) fun σ w1 hC h => ?_
    have e11 := eqo (h 11 (by decide))
    have e13 := eqo (h 13 (by decide))
    exact Yk.eqI (a := (i : Nat)) (b := (b.length : Nat)) e11 e13 (k_lss _ _ _ _) ⟨Ext.refl _, (congrArg Value.bool (decide_eq_false (by omega)))⟩
   ·refine stepN rfl fun σ w1 hC h => ?_
    have e10 := eqo (h 10 (by decide))
    have e14 := eqo (h 14 (by decide))
    exact Yk.pickT e10 e14 ⟨Ext.refl _, rfl⟩
   ·refine stepN rfl fun σ w1 hC h => ?_
    have e15 := eqo (h 15 (by decide))
    exact Yk.move e15 ⟨Ext.refl _, rfl⟩
   ·refine stepX 10 true 16 rfl rfl (fun x _ (h : x = .bool false) => by rw [h]; intro h; cases h) fun _ => rfl
   ·refine stepX 10 true 16 rfl rfl (fun x _ (h : x = .bool false) => by rw [h]; intro h; cases h) fun _ => rfl
   ·refine stepX 10 true 16 rfl rfl (fun x _ (h : x = .bool false) => by rw [h]; intro h; cases h) fun _ => rfl
   ·refine stepX 10 true 16 rfl rfl (fun x _ (h : x = .bool false) => by rw [h]; intro h; cases h) fun _ => rfl
   ·refine stepX 10 true 16 rfl rfl (fun x _ (h : x = .bool false) => by rw [h]; intro h; cases h) fun _ => rfl
   ·refine stepX 10 true 16 rfl rfl (fun x _ (h : x = .bool false) => by rw [h]; intro h; cases h) fun _ => rfl
   ·refine stepX 10 true 16 rfl rfl (fun x _ (h : x = .bool false) => by rw [h]; intro h; cases h) fun _ => rfl
   ·refine stepX 10 true 16 rfl rfl (fun x _ (h : x = .bool false) => by rw [h]; intro h; cases h) fun _ => rfl
   ·refine stepX 10 true 16 rfl rfl (fun x _ (h : x = .bool false) => by rw [h]; intro h; cases h) fun _ => rfl
   ·refine stepN rfl fun σ w1 hC h => ?_
    have e16 := eqo (h 16 (by decide))
    exact Yk.pickF e16 (vr (.bool (false)) rfl) ⟨Ext.refl _, rfl⟩
  intro ρ21 w22 hx23 he hf
  obtain ⟨-, -, -, -, -, -, -, -, -, -, -, -, -, -, -, -, -, -, -, -, k26, -⟩ := hf
  obtain ⟨T0, T1, T4, T5, -⟩ := he.hold [(0, _), (1, _), (4, _), (5, _)] ⟨T0, T1, T4, T5, trivial⟩ rfl
  clear he
  have hE := hE.trans hx23
  have T26 : ρ21 26 = .bool (false) := k26
  clear k26
  refine tN (hK20 _ _ (wpF_false T26 (wpF_exit (thenF_exit (thenF_exit (inBlockF_hit (tN (hK4 _ _ (sk fun K24 hK24 => (wt (oM rfl (oA rfl (oZ (tN (hK24 _ _ (wpF_ret (postF_ret (fn := Tryd.f55) _ rfl [NI i] (NI i) rfl ⟨T5, trivial⟩ ?_)))))))))))))))))
  rw [hlc, hz0]
  exact ⟨rfl, hE⟩
 have hz0 := lcp_endA (a := a) (i := i) (b := b) (by omega)
 refine sk fun K25 hK25 => (sk fun K26 hK26 => ?_)
 refine wpF_draw [Is (NI i), Is (va), Is (NI a.length), Is (.bool (false)), Is (.bool (false)), Is undef, Is undef, Is undef, Is undef, Is (.bool (false)), Is (.bool (false)), Is undef, Is undef, Is undef, Is undef, Is undef, Is undef, Is undef, Is undef, Is undef, Is (.bool (false))] (by kernel_rfl) [6, 7, 8, 9, 10, 11, 12, 13, 14, 15, 16, 17, 18, 19, 20, 21, 22, 23, 24, 25, 26] (by kernel_rfl) (by kernel_rfl) (si9 (si12 trivial)) ?hs4002 ?hQ4002
 case hs4002 =>
  refine ⟨?_, ?_, ?_, ?_, ?_, ?_, ?_, ?_, ?_, ?_, ?_, ?_, ?_, ?_, ?_, ?_, ?_, ?_, ?_, ?_, ?_, trivial⟩
  ·refine stepN rfl fun σ w1 hC h => ?_
   have e5 := (eqo (h 5 (by decide))).trans T5
   exact Yk.move e5 ⟨Ext.refl _, rfl⟩
  ·refine stepN rfl fun σ w1 hC h => ?_
   have e0 := (eqo (h 0 (by decide))).trans T0
   exact Yk.move e0 ⟨Ext.refl _, rfl⟩
  ·refine stepN rfl fun σ w1 hC h => ?_
   have e7 := eqo (h 7 (by decide))
   exact Yk.lenRB del2_ty24 (RB.of (hra.keep (hE.trans hC)) e7) ⟨Ext.refl _, rfl⟩
  ·refine stepN rfl fun σ w1 hC h => ?_
   have e6 := eqo (h 6 (by decide))
   have e8 := eqo (h 8 (by decide))
   exact Yk.eqI (a := (i : Nat)) (b := (a.length : Nat)) e6 e8 (k_lss _ _ _ _) ⟨Ext.refl _, (congrArg Value.bool (decide_eq_false (by omega)))⟩
  ·refine stepN rfl fun σ w1 hC h => ?_
   have e9 := eqo (h 9 (by decide))
   exact Yk.move e9 ⟨Ext.refl _, rfl⟩
  ·refine stepX 4 true 10 rfl rfl (fun x _ (h : x = .bool false) => by rw [h]; intro h; cases h) fun _ => rfl
  ·refine stepX 4 true 10 rfl rfl (fun x _ (h : x = .bool false) => by rw [h]; intro h; cases h) fun _ => rfl
  ·refine stepX 4 true 10 rfl rfl (fun x _ (h : x = .bool false) => by rw [h]; intro h; cases h) fun _ => rfl
  ·refine stepX 4 true 10 rfl rfl (fun x _ (h : x = .bool false) => by rw [h]; intro h; cases h) fun _ => rfl
  ·refine stepN rfl fun σ w1 hC h => ?_
   have e10 := eqo (h 10 (by decide))
   exact Yk.pickF e10 (vr (.bool (false)) rfl) ⟨Ext.refl _, rfl⟩
  ·refine stepN rfl fun σ w1 hC h => ?_
   have e15 := eqo (h 15 (by decide))
   exact Yk.move e15 ⟨Ext.refl _, rfl⟩
  ·refine stepX 10 true 16 rfl rfl (fun x _ (h : x = .bool false) => by rw [h]; intro h; cases h) fun _ => rfl
  ·refine stepX 10 true 16 rfl rfl (fun x _ (h : x = .bool false) => by rw [h]; intro h; cases h) fun _ => rfl
  ·refine stepX 10 true 16 rfl rfl (fun x _ (h : x = .bool false) => by rw [h]; intro h; cases h) fun _ => rfl
  ·refine stepX 10 true 16 rfl rfl (fun x _ (h : x = .bool false) => by rw [h]; intro h; cases h) fun _ => rfl
  ·refine stepX 10 true 16 rfl rfl (fun x _ (h : x = .bool false) => by rw [h]; intro h; cases h) fun _ => rfl
  ·refine stepX 10 true 16 rfl rfl (fun x _ (h : x = .bool false) => by rw [h]; intro h; cases h) fun _ => rfl
  ·refine stepX 10 true 16 rfl rfl (fun x _ (h : x = .bool false) => by rw [h]; intro h; cases h) fun _ => rfl
  ·refine stepX 10 true 16 rfl rfl (fun x _ (h : x = .bool false) => by rw [h]; intro h; cases h) fun _ => rfl
  ·refine stepX 10 true 16 rfl rfl (fun x _ (h : x = .bool false) => by rw [h]; intro h; cases h) fun _ => rfl
  ·refine stepN rfl fun σ w1 hC h => ?_
   have e16 := eqo (h 16 (by decide))
   exact Yk.pickF e16 (vr (.bool (false)) rfl) ⟨Ext.refl _, rfl⟩
 intro ρ27 w28 hx29 he hf
 obtain ⟨-, -, -, -, -, -, -, -, -, -, -, -, -, -, -, -, -, -, -, -, k26, -⟩ := hf
 obtain ⟨T0, T1, T4, T5, -⟩ := he.hold [(0, _), (1, _), (4, _), (5, _)] ⟨T0, T1, T4, T5, trivial⟩ rfl
 clear he
 have hE := hE.trans hx29
 have T26 : ρ27 26 = .bool (false) := k26
 clear k26
 refine tN (hK26 _ _ (wpF_false T26 (wpF_exit (thenF_exit (thenF_exit (inBlockF_hit (tN (hK4 _ _ (sk fun K30 hK30 => (wt (oM rfl (oA rfl (oZ (tN (hK30 _ _ (wpF_ret (postF_ret (fn := Tryd.f55) _ rfl [NI i] (NI i) rfl ⟨T5, trivial⟩ ?_)))))))))))))))))
 rw [hlc, hz0]
 exact ⟨rfl, hE⟩
end Go.Proofs.YtcegdjpdnlaleaaDoor
