/- Part 5 of what stands behind these statements: laws and walks of the functions that are reached. Conditions: those that each theorem names. -/
import Derived.Test.YtejpjjhkjdpeaaaDoorX4
set_option linter.unusedVariables false
set_option linter.unusedSimpArgs false
namespace Go.Proofs.YtejpjjhkjdpeaaaDoor
open Go.RowKit
set_option maxRecDepth 100000
namespace Sha
theorem tail_length (n : Nat) : (tail n).length = 9 + (119 - n % 64) % 64 := by
 simp [tail, be64]
 omega
theorem be4_of (P B : List UInt8) (a : Nat) (h : ∀ i, i < 64 → B.getD i 0 = P.getD (a + i) 0) (t : Nat) (ht : t < 16) :
  (P.getD (a + 4 * t) 0).toUInt32 <<< 24 ||| (P.getD (a + 4 * t + 1) 0).toUInt32 <<< 16 ||| (P.getD (a + 4 * t + 2) 0).toUInt32 <<< 8 ||| (P.getD (a + 4 * t + 3) 0).toUInt32 = be4 B t := by
 unfold be4
 rw [h _ (by omega), h _ (by omega), h _ (by omega), h _ (by omega)]
 simp only [Nat.add_assoc]
theorem added_comm : ∀ (v s : List UInt32), added v s = added s v
 | [], [] => rfl
 | [], _ :: _ => rfl
 | _ :: _, [] => rfl
 | a :: v, b :: s => by
  have := added_comm v s
  unfold added at this ⊢
  rw [List.zipWith_cons_cons, List.zipWith_cons_cons, this, UInt32.add_comm]
theorem add8 {S T : List UInt32} (hS : S.length = 8) (hT : T.length = 8) : adding S T 8 = added T S := by
 have := adding_all S T (by omega)
 rw [hS] at this
 rw [this, added_comm]
end Sha
theorem sha9_isz94 : (Tryd.prog.info? 94).map (·.size) = some 8 := by kernel_rfl
theorem sha9_isz26 : (Tryd.prog.info? 26).map (·.size) = some 32 := by kernel_rfl
theorem sha9_al26 {d : Option Tmp} {ty : TypeId} {pos : String} {af : Array Edge} {gd : Option (Nat × Bool)} (σ : Operand → Value) (w : World) : (execOp σ ⟨d, .alloc 26, ty, pos, af, gd⟩).run Tryd.prog w = .ok (.value (PQ w.heap.size 0)) (w.alloc (.cells (Lib.byteCells (List.replicate 32 0)).toArray 26)) := by kernel_rfl
theorem sha9_al94 {d : Option Tmp} {ty : TypeId} {pos : String} {af : Array Edge} {gd : Option (Nat × Bool)} (σ : Operand → Value) (w : World) : (execOp σ ⟨d, .alloc 94, ty, pos, af, gd⟩).run Tryd.prog w = .ok (.value (PQ w.heap.size 0)) (w.alloc (.cells ((List.replicate 8 0).map fun x => U x).toArray 94)) := by kernel_rfl
theorem sha9_pl58 : Plain Tryd.prog 58 := fun _ _ => by kernel_rfl
theorem sha9_ty22 : Tryd.prog.underlying 22 = some (.slice 5) := by kernel_rfl
theorem sha9_al95 {d : Option Tmp} {ty : TypeId} {pos : String} {af : Array Edge} {gd : Option (Nat × Bool)} (σ : Operand → Value) (w : World) : (execOp σ ⟨d, .alloc 95, ty, pos, af, gd⟩).run Tryd.prog w = .ok (.value (PQ w.heap.size 0)) (w.alloc (.cells ((List.replicate 64 0).map fun x => U x).toArray 95)) := by kernel_rfl
theorem sha9_sz5 : ∀ w' : World, (sizeOf 5).run Tryd.prog w' = .ok 1 w' := fun _ => by kernel_rfl
theorem sha9_ty5 : Tryd.prog.underlying 5 = some (.int .u8) := by kernel_rfl
theorem sha9_ty93 : Tryd.prog.underlying 93 = some (.int .u32) := by kernel_rfl
theorem sha9_ty95 : Tryd.prog.underlying 95 = some (.array 64 93) := by kernel_rfl
theorem sha9_sz93 : ∀ w' : World, (sizeOf 93).run Tryd.prog w' = .ok 1 w' := fun _ => by kernel_rfl
theorem sha9_isz93 : (Tryd.prog.info? 93).map (·.size) = some 1 := by kernel_rfl
theorem sha9_pl59 : Plain Tryd.prog 59 := fun _ _ => by kernel_rfl
theorem sha9_ty94 : Tryd.prog.underlying 94 = some (.array 8 93) := by kernel_rfl
theorem sha9_pl60 : Plain Tryd.prog 60 := fun _ _ => by kernel_rfl
theorem sha9_ty26 : Tryd.prog.underlying 26 = some (.array 32 5) := by kernel_rfl
theorem sha9_isz5 : (Tryd.prog.info? 5).map (·.size) = some 1 := by kernel_rfl
set_option maxRecDepth 4000 in
set_option maxHeartbeats 1000000 in
theorem refSum_any (w : World) (v : Value) (l : List UInt8) (hr : RB w v l) (hl : l.length ≤ 70368744177664) :
  Calls Tryd.prog 34 #[v] w fun e w' => e = .returned (AB (Sha.sum l)) ∧ Ext w w' := by
 refine calls_of_wpF (args := [v]) Tryd.func34 rfl 275 rfl (Nat.le_of_ble_eq_true rfl) ?_
 intro ρ0 hb
 have T0 : ρ0 0 = (v : Value) := hb.get 0
 clear hb
 have hE := Ext.refl w
 refine sk fun K1 hK1 => (wt (oS rfl (Yk.alloc (cs := (Lib.byteCells (List.replicate 32 0)).toArray) sha9_al26 fun n2 w3 hn4 hb5 hx6 hs7 => ?_)))
 have hE := hE.trans hx6
 have hb8 := hb5; clear hb5
 have hl9 : n2 < w3.heap.size := by omega
 refine oZ (tN (hK1 _ _ (sk fun K10 hK10 => (wt (oS rfl (Yk.run (v := .agg (Sha.first.map fun x => U x).toArray) (by kernel_rfl) (oS rfl (Yk.alloc (cs := ((List.replicate 8 0).map fun x => U x).toArray) sha9_al94 fun n11 w12 hn13 hb14 hx15 hs16 => ?_))))))))
 have hA17 := Ext.refl w3
 have hea18 := hE
 have hz19 := hE.size
 have hlt20 := lte (bl hb8) hn13
 have hE := hE.trans hx15
 have hb8 := eb hx15 hb8
 have hA17 := hA17.trans hx15
 have hb21 := hb14; clear hb14
 have hl22 : n11 < w12.heap.size := by omega
 refine oS rfl (Yk.storeAll (vr (PQ n11 0) rfl) (vr (.agg (Sha.first.map fun x => U x).toArray) rfl) hb21 (rfl) (sha9_isz94) (cellsU_one _) fun w23 hb24 hg25 hs26 => ?_)
 have hE := row_fresh hE hg25 (Nat.le_trans hz19 (by omega))
 have hb8 := kb hg25 hb8 (by omega)
 have hA17 := row_fresh hA17 hg25 (Nat.le_trans (Nat.le_refl _) (by omega))
 clear hb21
 have hb21 := hb24; clear hb24
 have hl27 := bl hb21
 refine oZ (tN (hK10 _ _ (sk fun K28 hK28 => (wt (oM rfl (oS rfl (Yk.callA1 sha9_pl58 T0 ((padded_any _ v l (hr.keep hE) (by omega)).mono ?_))))))))
 rintro e w31 ⟨v29, rfl, hN30⟩
 refine ⟨_, rfl, ?_⟩
 have hA32 := Ext.refl w23
 have hea33 := hE
 have hea34 := hA17
 have hz35 := hE.size
 have hz36 := hA17.size
 have hap37 : OB v29 n2 := own_older hN30.own (bl hb8)
 have hap38 : OB v29 n11 := own_older hN30.own (bl hb21)
 have hE := hE.trans hN30.ext
 have hb8 := eb hN30.ext hb8
 have hA17 := hA17.trans hN30.ext
 have hb21 := eb hN30.ext hb21
 have hA32 := hA32.trans hN30.ext
 have ho39 := hN30.own; clear hN30
 refine oA rfl (oZ ?_)
 obtain ⟨P, hP⟩ : ∃ P, P = l ++ Sha.tail l.length := ⟨_, rfl⟩
 have ho39 : w31.ownsRow w23.heap.size 5 1 v29 (P : List UInt8).length (Lib.byteCells (P)) := (hP.symm : l ++ Sha.tail l.length = P) ▸ ho39
 have hPl : P.length = l.length + (Sha.tail l.length).length := by rw [hP, List.length_append]
 obtain ⟨K, hK⟩ : ∃ K, P.length = 64 * K := ⟨P.length / 64, by rw [hPl, Sha.tail_length]; omega⟩
 have hPb : P.length < 72057594037927936 := by rw [hPl, Sha.tail_length]; omega
 refine tN (hK28 _ _ (sk fun K40 hK40 => (sk fun K41 hK41 => (wt (oA rfl (oL_ [(0, v), (2, PQ n2 0), (3, PQ n11 0), (4, v29), (5, NI 0)] ⟨T0, rfl, rfl, rfl, rfl, trivial⟩ fun ρ42 ⟨T0, T2, T3, T4, T5, _⟩ => (tN (hK41 _ _ (wpF_block (wpF_loop (fun (ρ : Slots) (wz : World) => ∃ j : Nat, ρ 0 = (v : Value) ∧ ρ 2 = (PQ n2 0 : Value) ∧ ρ 3 = (PQ n11 0 : Value) ∧ ρ 4 = (v29 : Value) ∧ ρ 5 = (NI (64 * j) : Value) ∧ Ext w wz ∧ wz.heap[n2]? = some (.cells (Lib.byteCells (List.replicate 32 0)).toArray 26 (0, 0)) ∧ Ext w3 wz ∧ wz.ownsRow w23.heap.size 5 1 v29 (P : List UInt8).length (Lib.byteCells (P)) ∧ wz.heap[n11]? = some (.cells ((Sha.blocks Sha.first P j).map fun x => U x).toArray 94 (0, 0)) ∧ (j ≤ K) ∧ True) (fun ρ _ => P.length - (intOf (ρ 5)).toNat) ⟨0, T0, T2, T3, T4, T5, hE, hb8, hA17, ho39, blk_eq hb21 (rfl), Nat.zero_le _, trivial⟩ ?_))))))))))
 clear hb21
 clear hA32
 clear hE hb8 hA17 ho39
 rintro ρ43 w44 ⟨j, T0, T2, T3, T4, T5, hE, hb8, hA17, ho39, hb21l, hj, -⟩
 have q5 := T5
 refine sk fun K45 hK45 => (sk fun K46 hK46 => (wt (oM rfl (oM rfl (oS rfl (Yk.lenRB sha9_ty22 (RB.of (RB.ofOwn ho39) T4) (oS rfl (Yk.eqI (a := (64 * j : Nat)) (b := (P.length : Nat)) T5 rfl (k_lss _ _ _ _) (oL_ [(0, v), (2, PQ n2 0), (3, PQ n11 0), (4, v29), (5, NI (64 * j)), (29, .bool (decide ((64 * j) < (P.length))))] ⟨T0, T2, T3, T4, T5, rfl, trivial⟩ fun ρ47 ⟨T0, T2, T3, T4, T5, T29, _⟩ => (tN (hK46 _ _ ?_)))))))))))
 refine wpF_cond ((64 * j) < (P.length)) T29 (fun hc0 => ?_) (fun hc0 => ?_)
 ·obtain ⟨Sj, hSj⟩ : ∃ Sj, Sj = Sha.blocks Sha.first P j := ⟨_, rfl⟩
  have hb21l : w44.heap[n11]? = some (.cells (Sj.map fun x => U x).toArray 94 (0, 0)) := blk_eq hb21l (by rw [hSj])
  have hSl : Sj.length = 8 := by rw [hSj, Sha.blocks_length _ _ _ rfl]
  obtain ⟨B, hB⟩ : ∃ B, B = (P.drop (64 * j)).take 64 := ⟨_, rfl⟩
  have hBget : ∀ i, i < 64 → B.getD i 0 = P.getD (64 * j + i) 0 := fun i hi => by rw [hB]; simp [hi]
  refine wpF_skip (tN (hK45 _ _ (sk fun K48 hK48 => (wpF_block (sk fun K49 hK49 => (wt (oS rfl (Yk.alloc (cs := ((List.replicate 64 0).map fun x => U x).toArray) sha9_al95 fun n50 w51 hn52 hb53 hx54 hs55 => ?_))))))))
  have hA56 := Ext.refl w44
  have hea57 := hE
  have hea58 := hA17
  have hz59 := hE.size
  have hz60 := hA17.size
  have hlt61 := lte (bl hb8) hn52
  have hlt62 := lte (bl hb21l) hn52
  have hap63 : OB v29 n50 := own_newer ho39 (by omega)
  have hE := hE.trans hx54
  have hb8 := eb hx54 hb8
  have hA17 := hA17.trans hx54
  have ho39 := Stab.own _ _ _ _ _ _ _ _ ho39 hx54
  have hb21l := eb hx54 hb21l
  have hA56 := hA56.trans hx54
  have hb64 := hb53; clear hb53
  have hl65 : n50 < w51.heap.size := by omega
  refine oZ (tN (hK49 _ _ (sk fun K66 hK66 => (sk fun K67 hK67 => (wt (oA rfl (oL_ [(0, v), (2, PQ n2 0), (3, PQ n11 0), (4, v29), (5, NI (64 * j)), (6, PQ n50 0), (7, NI 0)] ⟨T0, T2, T3, T4, T5, rfl, rfl, trivial⟩ fun ρ68 ⟨T0, T2, T3, T4, T5, T6, T7, _⟩ => (tN (hK67 _ _ (wpF_block (wpF_loop (fun (ρ : Slots) (wz : World) => ∃ t : Nat, ρ 0 = (v : Value) ∧ ρ 2 = (PQ n2 0 : Value) ∧ ρ 3 = (PQ n11 0 : Value) ∧ ρ 4 = (v29 : Value) ∧ ρ 5 = (NI (64 * j) : Value) ∧ ρ 6 = (PQ n50 0 : Value) ∧ ρ 7 = (NI t : Value) ∧ Ext w wz ∧ wz.heap[n2]? = some (.cells (Lib.byteCells (List.replicate 32 0)).toArray 26 (0, 0)) ∧ Ext w3 wz ∧ wz.ownsRow w23.heap.size 5 1 v29 (P : List UInt8).length (Lib.byteCells (P)) ∧ wz.heap[n11]? = some (.cells (Sj.map fun x => U x).toArray 94 (0, 0)) ∧ Ext w44 wz ∧ wz.heap[n50]? = some (.cells ((Sha.pad64 (Sha.sched B t)).map fun x => U x).toArray 95 (0, 0)) ∧ (t ≤ 64) ∧ True) (fun ρ _ => 64 - (intOf (ρ 7)).toNat) ⟨0, T0, T2, T3, T4, T5, T6, T7, hE, hb8, hA17, ho39, hb21l, hA56, blk_eq hb64 (rfl), Nat.zero_le _, trivial⟩ ?_)))))))))))
  clear hb64
  clear hE hb8 hA17 ho39 hb21l hA56
  rintro ρ69 w70 ⟨t, T0, T2, T3, T4, T5, T6, T7, hE, hb8, hA17, ho39, hb21l, hA56, hb64l, ht, -⟩
  have q7 := T7
  have hpl : (Sha.pad64 (Sha.sched B t)).length = 64 := Sha.pad64_length _ (by rw [Sha.sched_length]; exact ht)
  refine sk fun K71 hK71 => (sk fun K72 hK72 => (wt (oM rfl (oS rfl (Yk.eqI (a := (t : Nat)) (b := (64 : Nat)) T7 rfl (k_lss _ _ _ _) (oZ (tN (hK72 _ _ ?_))))))))
  refine wpF_cond ((t) < (64)) (vr (.bool (decide ((t) < (64)))) rfl) (fun hc1 => ?_) (fun hc1 => ?_)
  ·refine wpF_skip (tN (hK71 _ _ (sk fun K73 hK73 => (wpF_block (sk fun K74 hK74 => (wt (oM rfl (oS rfl (Yk.eqI (a := (t : Nat)) (b := (16 : Nat)) T7 rfl (k_lss _ _ _ _) (oZ (tN (hK74 _ _ ?_))))))))))))
   refine wpF_cond ((t) < (16)) (vr (.bool (decide ((t) < (16)))) rfl) (fun hc2 => ?_) (fun hc2 => ?_)
   ·refine wpF_draw_storeK 43 [6, 16, 27, 38] (fun (a_ b_ : World) => b_.heap[n50]? = some (.cells (((Sha.pad64 (Sha.sched B t)).set (t) ((((((P.getD ((64 * j) + ((4) * (t))) 0).toUInt32) <<< 24) ||| (((P.getD (((64 * j) + ((4) * (t))) + (1)) 0).toUInt32) <<< 16)) ||| (((P.getD (((64 * j) + ((4) * (t))) + (2)) 0).toUInt32) <<< 8)) ||| ((P.getD (((64 * j) + ((4) * (t))) + (3)) 0).toUInt32))).map fun x => U x).toArray 95 (0, 0)) ∧ a_.grownBy b_ (some n50) ∧ b_.heap.size = a_.heap.size) [Is (NI t), Is (v29), Is (NI (64 * j)), Is (NI t), Is (NI ((4) * (t))), Is (NI ((64 * j) + ((4) * (t)))), PCell (B8 (P.getD ((64 * j) + ((4) * (t))) 0)), Is (B8 (P.getD ((64 * j) + ((4) * (t))) 0)), Is (U ((P.getD ((64 * j) + ((4) * (t))) 0).toUInt32)), Is (U (((P.getD ((64 * j) + ((4) * (t))) 0).toUInt32) <<< 24)), Is (v29), Is (NI (64 * j)), Is (NI t), Is (NI ((4) * (t))), Is (NI ((64 * j) + ((4) * (t)))), Is (NI (((64 * j) + ((4) * (t))) + (1))), PCell (B8 (P.getD (((64 * j) + ((4) * (t))) + (1)) 0)), Is (B8 (P.getD (((64 * j) + ((4) * (t))) + (1)) 0)), Is (U ((P.getD (((64 * j) + ((4) * (t))) + (1)) 0).toUInt32)), Is (U (((P.getD (((64 * j) + ((4) * (t))) + (1)) 0).toUInt32) <<< 16)), Is (U ((((P.getD ((64 * j) + ((4) * (t))) 0).toUInt32) <<< 24) ||| (((P.getD (((64 * j) + ((4) * (t))) + (1)) 0).toUInt32) <<< 16))), Is (v29), Is (NI (64 * j)), Is (NI t), Is (NI ((4) * (t))), Is (NI ((64 * j) + ((4) * (t)))), Is (NI (((64 * j) + ((4) * (t))) + (2))), PCell (B8 (P.getD (((64 * j) + ((4) * (t))) + (2)) 0)), Is (B8 (P.getD (((64 * j) + ((4) * (t))) + (2)) 0)), Is (U ((P.getD (((64 * j) + ((4) * (t))) + (2)) 0).toUInt32)), Is (U (((P.getD (((64 * j) + ((4) * (t))) + (2)) 0).toUInt32) <<< 8)), Is (U (((((P.getD ((64 * j) + ((4) * (t))) 0).toUInt32) <<< 24) ||| (((P.getD (((64 * j) + ((4) * (t))) + (1)) 0).toUInt32) <<< 16)) ||| (((P.getD (((64 * j) + ((4) * (t))) + (2)) 0).toUInt32) <<< 8))), Is (v29), Is (NI (64 * j)), Is (NI t), Is (NI ((4) * (t))), Is (NI ((64 * j) + ((4) * (t)))), Is (NI (((64 * j) + ((4) * (t))) + (3))), PCell (B8 (P.getD (((64 * j) + ((4) * (t))) + (3)) 0)), Is (B8 (P.getD (((64 * j) + ((4) * (t))) + (3)) 0)), Is (U ((P.getD (((64 * j) + ((4) * (t))) + (3)) 0).toUInt32)), Is (U ((((((P.getD ((64 * j) + ((4) * (t))) 0).toUInt32) <<< 24) ||| (((P.getD (((64 * j) + ((4) * (t))) + (1)) 0).toUInt32) <<< 16)) ||| (((P.getD (((64 * j) + ((4) * (t))) + (2)) 0).toUInt32) <<< 8)) ||| ((P.getD (((64 * j) + ((4) * (t))) + (3)) 0).toUInt32))), Is (PQ n50 t), (fun _ _ => True)] (by kernel_rfl) [38, 39, 40, 41, 42, 43, 44, 45, 46, 47, 48, 49, 50, 51, 52, 53, 54, 55, 56, 57, 58, 59, 60, 61, 62, 63, 64, 65, 66, 67, 68, 69, 70, 71, 72, 73, 74, 75, 76, 77, 78, 79, 80] (by kernel_rfl) (by kernel_rfl) (by kernel_rfl) (by kernel_rfl) rfl (si6 ⟨Stab.pcell _, (si9 ⟨Stab.pcell _, (si10 ⟨Stab.pcell _, (si10 ⟨Stab.pcell _, (si4 ⟨Stab.any, trivial⟩)⟩)⟩)⟩)⟩) ⟨.inr (Stab.is _), .inr (Stab.is _), .inr (Stab.is _), .inr (Stab.is _), .inr (Stab.is _), .inr (Stab.is _), .inl rfl, .inr (Stab.is _), .inr (Stab.is _), .inr (Stab.is _), .inr (Stab.is _), .inr (Stab.is _), .inr (Stab.is _), .inr (Stab.is _), .inr (Stab.is _), .inr (Stab.is _), .inl rfl, .inr (Stab.is _), .inr (Stab.is _), .inr (Stab.is _), .inr (Stab.is _), .inr (Stab.is _), .inr (Stab.is _), .inr (Stab.is _), .inr (Stab.is _), .inr (Stab.is _), .inr (Stab.is _), .inl rfl, .inr (Stab.is _), .inr (Stab.is _), .inr (Stab.is _), .inr (Stab.is _), .inr (Stab.is _), .inr (Stab.is _), .inr (Stab.is _), .inr (Stab.is _), .inr (Stab.is _), .inr (Stab.is _), .inl rfl, .inr (Stab.is _), .inr (Stab.is _), .inr (Stab.is _), .inr (Stab.is _), .inr (Stab.any), trivial⟩ ?hs6011 ?hQ6011
    case hs6011 =>
     refine ⟨?_, ?_, ?_, ?_, ?_, ?_, ?_, ?_, ?_, ?_, ?_, ?_, ?_, ?_, ?_, ?_, ?_, ?_, ?_, ?_, ?_, ?_, ?_, ?_, ?_, ?_, ?_, ?_, ?_, ?_, ?_, ?_, ?_, ?_, ?_, ?_, ?_, ?_, ?_, ?_, ?_, ?_, ?_, ?_, trivial⟩
     ·refine stepN rfl fun σ w1 hC h => ?_
      have e7 := (eqo (h 7 (by decide))).trans T7
      have hC : Ext _ w1 := hC
      exact Yk.move e7 ⟨Ext.refl _, rfl⟩
     ·refine stepN rfl fun σ w1 hC h => ?_
      have e4 := (eqo (h 4 (by decide))).trans T4
      have hC : Ext _ w1 := hC
      exact Yk.move e4 ⟨Ext.refl _, rfl⟩
     ·refine stepN rfl fun σ w1 hC h => ?_
      have e5 := (eqo (h 5 (by decide))).trans T5
      have hC : Ext _ w1 := hC
      exact Yk.move e5 ⟨Ext.refl _, rfl⟩
     ·refine stepN rfl fun σ w1 hC h => ?_
      have e7 := (eqo (h 7 (by decide))).trans T7
      have hC : Ext _ w1 := hC
      exact Yk.move e7 ⟨Ext.refl _, rfl⟩
     ·refine stepN rfl fun σ w1 hC h => ?_
      have e41 := eqo (h 41 (by decide))
      have hC : Ext _ w1 := hC
      exact Yk.bin (xv := NI 4) (yv := NI t) rfl e41 rfl (i64_mul _ _ _ (by omega)) ⟨Ext.refl _, rfl⟩
     ·refine stepN rfl fun σ w1 hC h => ?_
      have e40 := eqo (h 40 (by decide))
      have e42 := eqo (h 42 (by decide))
      have hC : Ext _ w1 := hC
      exact Yk.bin (xv := NI (64 * j)) (yv := NI ((4) * (t))) e40 e42 rfl (i64_add _ _ _ (by omega)) ⟨Ext.refl _, rfl⟩
     ·refine stepN rfl fun σ w1 hC h => ?_
      have e39 := eqo (h 39 (by decide))
      have e43 := eqo (h 43 (by decide))
      have hC : Ext _ w1 := hC
      exact Yk.atRB (l := P) (i := (64 * j) + ((4) * (t))) sha9_ty22 sha9_sz5 (RB.of (RB.ofOwn (Stab.own _ _ _ _ _ _ _ _ ho39 hC)) e39) e43 (by omega) fun _ h => ⟨Ext.refl _, h⟩
     ·refine stepN rfl fun σ w1 hC h => ?_
      have e44 : (PCell (B8 (P.getD ((64 * j) + ((4) * (t))) 0))) (σ 44) w1 := h 44 (by decide)
      have hC : Ext _ w1 := hC
      exact Yk.loadC sha9_ty5 rfl e44 ⟨Ext.refl _, rfl⟩
     ·refine stepN rfl fun σ w1 hC h => ?_
      have e45 := eqo (h 45 (by decide))
      have hC : Ext _ w1 := hC
      exact Yk.wide sha9_ty5 sha9_ty93 e45 ⟨Ext.refl _, rfl⟩
     ·refine stepN rfl fun σ w1 hC h => ?_
      have e46 := eqo (h 46 (by decide))
      have hC : Ext _ w1 := hC
      exact Yk.bin e46 (vr (.int .u64 ((24 : Nat) : Int)) rfl) rfl (u_shl _ _ _ 24 (by decide)) ⟨Ext.refl _, rfl⟩
     ·refine stepN rfl fun σ w1 hC h => ?_
      have e4 := (eqo (h 4 (by decide))).trans T4
      have hC : Ext _ w1 := hC
      exact Yk.move e4 ⟨Ext.refl _, rfl⟩
     ·refine stepN rfl fun σ w1 hC h => ?_
      have e5 := (eqo (h 5 (by decide))).trans T5
      have hC : Ext _ w1 := hC
      exact Yk.move e5 ⟨Ext.refl _, rfl⟩
     ·refine stepN rfl fun σ w1 hC h => ?_
      have e7 := (eqo (h 7 (by decide))).trans T7
      have hC : Ext _ w1 := hC
      exact Yk.move e7 ⟨Ext.refl _, rfl⟩
     ·refine stepN rfl fun σ w1 hC h => ?_
      have e50 := eqo (h 50 (by decide))
      have hC : Ext _ w1 := hC
      exact Yk.bin (xv := NI 4) (yv := NI t) rfl e50 rfl (i64_mul _ _ _ (by omega)) ⟨Ext.refl _, rfl⟩
     ·refine stepN rfl fun σ w1 hC h => ?_
      have e49 := eqo (h 49 (by decide))
      have e51 := eqo (h 51 (by decide))
      have hC : Ext _ w1 := hC
      exact Yk.bin (xv := NI (64 * j)) (yv := NI ((4) * (t))) e49 e51 rfl (i64_add _ _ _ (by omega)) ⟨Ext.refl _, rfl⟩
     ·refine stepN rfl fun σ w1 hC h => ?_
      have e52 := eqo (h 52 (by decide))
      have hC : Ext _ w1 := hC
      exact Yk.bin (xv := NI ((64 * j) + ((4) * (t)))) (yv := NI 1) e52 rfl rfl (i64_add _ _ _ (by omega)) ⟨Ext.refl _, rfl⟩
     ·refine stepN rfl fun σ w1 hC h => ?_
      have e48 := eqo (h 48 (by decide))
      have e53 := eqo (h 53 (by decide))
      have hC : Ext _ w1 := hC
      exact Yk.atRB (l := P) (i := ((64 * j) + ((4) * (t))) + (1)) sha9_ty22 sha9_sz5 (RB.of (RB.ofOwn (Stab.own _ _ _ _ _ _ _ _ ho39 hC)) e48) e53 (by omega) fun _ h => ⟨Ext.refl _, h⟩
     ·refine stepN rfl fun σ w1 hC h => ?_
      have e54 : (PCell (B8 (P.getD (((64 * j) + ((4) * (t))) + (1)) 0))) (σ 54) w1 := h 54 (by decide)
      have hC : Ext _ w1 := hC
      exact Yk.loadC sha9_ty5 rfl e54 ⟨Ext.refl _, rfl⟩
     ·refine stepN rfl fun σ w1 hC h => ?_
      have e55 := eqo (h 55 (by decide))
      have hC : Ext _ w1 := hC
      exact Yk.wide sha9_ty5 sha9_ty93 e55 ⟨Ext.refl _, rfl⟩
     ·refine stepN rfl fun σ w1 hC h => ?_
      have e56 := eqo (h 56 (by decide))
      have hC : Ext _ w1 := hC
      exact Yk.bin e56 (vr (.int .u64 ((16 : Nat) : Int)) rfl) rfl (u_shl _ _ _ 16 (by decide)) ⟨Ext.refl _, rfl⟩
     ·refine stepN rfl fun σ w1 hC h => ?_
      have e47 := eqo (h 47 (by decide))
      have e57 := eqo (h 57 (by decide))
      have hC : Ext _ w1 := hC
      exact Yk.bin e47 e57 rfl (u_or _ _ _) ⟨Ext.refl _, rfl⟩
     ·refine stepN rfl fun σ w1 hC h => ?_
      have e4 := (eqo (h 4 (by decide))).trans T4
      have hC : Ext _ w1 := hC
      exact Yk.move e4 ⟨Ext.refl _, rfl⟩
     ·refine stepN rfl fun σ w1 hC h => ?_
      have e5 := (eqo (h 5 (by decide))).trans T5
      have hC : Ext _ w1 := hC
      exact Yk.move e5 ⟨Ext.refl _, rfl⟩
     ·refine stepN rfl fun σ w1 hC h => ?_
      have e7 := (eqo (h 7 (by decide))).trans T7
      have hC : Ext _ w1 := hC
      exact Yk.move e7 ⟨Ext.refl _, rfl⟩
     ·refine stepN rfl fun σ w1 hC h => ?_
      have e61 := eqo (h 61 (by decide))
      have hC : Ext _ w1 := hC
      exact Yk.bin (xv := NI 4) (yv := NI t) rfl e61 rfl (i64_mul _ _ _ (by omega)) ⟨Ext.refl _, rfl⟩
     ·refine stepN rfl fun σ w1 hC h => ?_
      have e60 := eqo (h 60 (by decide))
      have e62 := eqo (h 62 (by decide))
      have hC : Ext _ w1 := hC
      exact Yk.bin (xv := NI (64 * j)) (yv := NI ((4) * (t))) e60 e62 rfl (i64_add _ _ _ (by omega)) ⟨Ext.refl _, rfl⟩
     ·refine stepN rfl fun σ w1 hC h => ?_
      have e63 := eqo (h 63 (by decide))
      have hC : Ext _ w1 := hC
      exact Yk.bin (xv := NI ((64 * j) + ((4) * (t)))) (yv := NI 2) e63 rfl rfl (i64_add _ _ _ (by omega)) ⟨Ext.refl _, rfl⟩
     ·refine stepN rfl fun σ w1 hC h => ?_
      have e59 := eqo (h 59 (by decide))
      have e64 := eqo (h 64 (by decide))
      have hC : Ext _ w1 := hC
      exact Yk.atRB (l := P) (i := ((64 * j) + ((4) * (t))) + (2)) sha9_ty22 sha9_sz5 (RB.of (RB.ofOwn (Stab.own _ _ _ _ _ _ _ _ ho39 hC)) e59) e64 (by omega) fun _ h => ⟨Ext.refl _, h⟩
     ·refine stepN rfl fun σ w1 hC h => ?_
      have e65 : (PCell (B8 (P.getD (((64 * j) + ((4) * (t))) + (2)) 0))) (σ 65) w1 := h 65 (by decide)
      have hC : Ext _ w1 := hC
      exact Yk.loadC sha9_ty5 rfl e65 ⟨Ext.refl _, rfl⟩
     ·refine stepN rfl fun σ w1 hC h => ?_
      have e66 := eqo (h 66 (by decide))
      have hC : Ext _ w1 := hC
      exact Yk.wide sha9_ty5 sha9_ty93 e66 ⟨Ext.refl _, rfl⟩
     ·refine stepN rfl fun σ w1 hC h => ?_
      have e67 := eqo (h 67 (by decide))
      have hC : Ext _ w1 := hC
      exact Yk.bin e67 (vr (.int .u64 ((8 : Nat) : Int)) rfl) rfl (u_shl _ _ _ 8 (by decide)) ⟨Ext.refl _, rfl⟩
     ·refine stepN rfl fun σ w1 hC h => ?_
      have e58 := eqo (h 58 (by decide))
      have e68 := eqo (h 68 (by decide))
      have hC : Ext _ w1 := hC
      exact Yk.bin e58 e68 rfl (u_or _ _ _) ⟨Ext.refl _, rfl⟩
     ·refine stepN rfl fun σ w1 hC h => ?_
      have e4 := (eqo (h 4 (by decide))).trans T4
      have hC : Ext _ w1 := hC
      exact Yk.move e4 ⟨Ext.refl _, rfl⟩
     ·refine stepN rfl fun σ w1 hC h => ?_
      have e5 := (eqo (h 5 (by decide))).trans T5
      have hC : Ext _ w1 := hC
      exact Yk.move e5 ⟨Ext.refl _, rfl⟩
     ·refine stepN rfl fun σ w1 hC h => ?_
      have e7 := (eqo (h 7 (by decide))).trans T7
      have hC : Ext _ w1 := hC
      exact Yk.move e7 ⟨Ext.refl _, rfl⟩
     ·refine stepN rfl fun σ w1 hC h => ?_
      have e72 := eqo (h 72 (by decide))
      have hC : Ext _ w1 := hC
      exact Yk.bin (xv := NI 4) (yv := NI t) rfl e72 rfl (i64_mul _ _ _ (by omega)) ⟨Ext.refl _, rfl⟩
     ·refine stepN rfl fun σ w1 hC h => ?_
      have e71 := eqo (h 71 (by decide))
      have e73 := eqo (h 73 (by decide))
      have hC : Ext _ w1 := hC
      exact Yk.bin (xv := NI (64 * j)) (yv := NI ((4) * (t))) e71 e73 rfl (i64_add _ _ _ (by omega)) ⟨Ext.refl _, rfl⟩
     ·refine stepN rfl fun σ w1 hC h => ?_
      have e74 := eqo (h 74 (by decide))
      have hC : Ext _ w1 := hC
      exact Yk.bin (xv := NI ((64 * j) + ((4) * (t)))) (yv := NI 3) e74 rfl rfl (i64_add _ _ _ (by omega)) ⟨Ext.refl _, rfl⟩
     ·refine stepN rfl fun σ w1 hC h => ?_
      have e70 := eqo (h 70 (by decide))
      have e75 := eqo (h 75 (by decide))
      have hC : Ext _ w1 := hC
      exact Yk.atRB (l := P) (i := ((64 * j) + ((4) * (t))) + (3)) sha9_ty22 sha9_sz5 (RB.of (RB.ofOwn (Stab.own _ _ _ _ _ _ _ _ ho39 hC)) e70) e75 (by omega) fun _ h => ⟨Ext.refl _, h⟩
     ·refine stepN rfl fun σ w1 hC h => ?_
      have e76 : (PCell (B8 (P.getD (((64 * j) + ((4) * (t))) + (3)) 0))) (σ 76) w1 := h 76 (by decide)
      have hC : Ext _ w1 := hC
      exact Yk.loadC sha9_ty5 rfl e76 ⟨Ext.refl _, rfl⟩
     ·refine stepN rfl fun σ w1 hC h => ?_
      have e77 := eqo (h 77 (by decide))
      have hC : Ext _ w1 := hC
      exact Yk.wide sha9_ty5 sha9_ty93 e77 ⟨Ext.refl _, rfl⟩
     ·refine stepN rfl fun σ w1 hC h => ?_
      have e69 := eqo (h 69 (by decide))
      have e78 := eqo (h 78 (by decide))
      have hC : Ext _ w1 := hC
      exact Yk.bin e69 e78 rfl (u_or _ _ _) ⟨Ext.refl _, rfl⟩
     ·refine stepN rfl fun σ w1 hC h => ?_
      have e6 := (eqo (h 6 (by decide))).trans T6
      have e38 := eqo (h 38 (by decide))
      have hC : Ext _ w1 := hC
      exact Yk.atArr0 (i := t) sha9_ty95 sha9_sz93 e6 e38 (by omega) ⟨Ext.refl _, rfl⟩
     ·refine stepN rfl fun σ w1 hC h => ?_
      have e80 := eqo (h 80 (by decide))
      have e79 := eqo (h 79 (by decide))
      have hC : Ext _ w1 := hC
      exact Yk.storeU32 (i := t) (v := (((((P.getD ((64 * j) + ((4) * (t))) 0).toUInt32) <<< 24) ||| (((P.getD (((64 * j) + ((4) * (t))) + (1)) 0).toUInt32) <<< 16)) ||| (((P.getD (((64 * j) + ((4) * (t))) + (2)) 0).toUInt32) <<< 8)) ||| ((P.getD (((64 * j) + ((4) * (t))) + (3)) 0).toUInt32)) e80 e79 (eb hC hb64l) (by rw [hpl]; omega) sha9_isz93 fun w2 h1 h2 h3 => ⟨⟨h1, h2, h3⟩, trivial⟩
    intro ρ79 w82 w80 hx81 hS83 he hf
    obtain ⟨-, -, -, -, -, -, -, -, -, -, -, -, -, -, -, -, -, -, -, -, -, -, -, -, -, -, -, -, -, -, -, -, -, -, -, -, -, -, -, -, -, -, -, -⟩ := hf
    obtain ⟨T0, T2, T3, T4, T5, T6, T7, -⟩ := he.hold [(0, _), (2, _), (3, _), (4, _), (5, _), (6, _), (7, _)] ⟨T0, T2, T3, T4, T5, T6, T7, trivial⟩ rfl
    clear he
    have hE := hE.trans hx81
    have hb8 := eb hx81 hb8
    have hA17 := hA17.trans hx81
    have ho39 := Stab.own _ _ _ _ _ _ _ _ ho39 hx81
    have hb21l := eb hx81 hb21l
    have hA56 := hA56.trans hx81
    have hb64l := eb hx81 hb64l
    obtain ⟨hb84, hg85, hs86⟩ := hS83
    have hE := row_fresh hE hg85 (Nat.le_trans hz59 (by omega))
    have hb8 := kb hg85 hb8 (by omega)
    have hA17 := row_fresh hA17 hg85 (Nat.le_trans hz60 (by omega))
    have ho39 := own_kept ho39 hg85 hap63
    have hb21l := kb hg85 hb21l (by omega)
    have hA56 := row_fresh hA56 hg85 (Nat.le_trans (Nat.le_refl _) (by omega))
    clear hb64l
    have hb64l := hb84; clear hb84
    have hl87 := bl hb64l
    have hb64l : w80.heap[n50]? = some (.cells ((Sha.pad64 (Sha.sched B (t + 1))).map fun x => U x).toArray 95 (0, 0)) := blk_eq hb64l (congrArg (List.map fun x => U x) ((congrArg (fun z => (Sha.pad64 (Sha.sched B t)).set t z) (Sha.be4_of P B (64 * j) hBget t hc2)).trans (Sha.sched_step1 B t hc2)))
    refine bN (tN (hK73 _ _ (wt (oM rfl (oS rfl (Yk.bin (xv := NI t) (yv := NI 1) T7 rfl rfl (i64_add _ _ _ (by omega)) (oA rfl (oL_ [(0, v), (2, PQ n2 0), (3, PQ n11 0), (4, v29), (5, NI (64 * j)), (6, PQ n50 0), (7, NI ((t) + (1)))] ⟨T0, T2, T3, T4, T5, T6, rfl, trivial⟩ fun ρ88 ⟨T0, T2, T3, T4, T5, T6, T7, _⟩ => (tN (And.intro ⟨t + 1, T0, T2, T3, T4, T5, T6, T7, hE, hb8, hA17, ho39, hb21l, hA56, blk_eq hb64l (rfl), by omega, trivial⟩ ?_))))))))))
    show 64 - (intOf (ρ88 7)).toNat < 64 - (intOf (ρ69 7)).toNat
    rw [T7, q7]
    simp only [intOf, Int.toNat_natCast]; omega
   refine sk fun K89 hK89 => ?_
   refine wpF_draw [Is (NI t), Is (NI ((t) - (15))), Is (.pointer (some ⟨n50, (t) - (15), none⟩)), Is (U ((Sha.pad64 (Sha.sched B t)).getD ((t) - (15)) 0)), Is (NI t), Is (NI ((t) - (2))), Is (.pointer (some ⟨n50, (t) - (2), none⟩)), Is (U ((Sha.pad64 (Sha.sched B t)).getD ((t) - (2)) 0)), Is (U ((Sha.pad64 (Sha.sched B t)).getD ((t) - (15)) 0)), Is (U ((Sha.pad64 (Sha.sched B t)).getD ((t) - (2)) 0))] (by kernel_rfl) [81, 82, 83, 84, 85, 86, 87, 88, 8, 9] (by kernel_rfl) (by kernel_rfl) (si10 trivial) ?hs7012 ?hQ7012
   case hs7012 =>
    refine ⟨?_, ?_, ?_, ?_, ?_, ?_, ?_, ?_, ?_, ?_, trivial⟩
    ·refine stepN rfl fun σ w1 hC h => ?_
     have e7 := (eqo (h 7 (by decide))).trans T7
     exact Yk.move e7 ⟨Ext.refl _, rfl⟩
    ·refine stepN rfl fun σ w1 hC h => ?_
     have e81 := eqo (h 81 (by decide))
     exact Yk.bin (xv := NI t) (yv := NI 15) e81 rfl rfl (i64_sub _ _ _ (by omega) (by omega)) ⟨Ext.refl _, rfl⟩
    ·refine stepN rfl fun σ w1 hC h => ?_
     have e6 := (eqo (h 6 (by decide))).trans T6
     have e82 := eqo (h 82 (by decide))
     exact Yk.atArr0 (i := (t) - (15)) sha9_ty95 sha9_sz93 e6 e82 (by omega) ⟨Ext.refl _, rfl⟩
    ·refine stepN rfl fun σ w1 hC h => ?_
     have e83 := eqo (h 83 (by decide))
     exact Yk.cell1 sha9_ty93 rfl e83 (cellAt (eb hC hb64l) (word_at (i := (t) - (15)) (by rw [hpl]; omega))) ⟨Ext.refl _, rfl⟩
    ·refine stepN rfl fun σ w1 hC h => ?_
     have e7 := (eqo (h 7 (by decide))).trans T7
     exact Yk.move e7 ⟨Ext.refl _, rfl⟩
    ·refine stepN rfl fun σ w1 hC h => ?_
     have e85 := eqo (h 85 (by decide))
     exact Yk.bin (xv := NI t) (yv := NI 2) e85 rfl rfl (i64_sub _ _ _ (by omega) (by omega)) ⟨Ext.refl _, rfl⟩
    ·refine stepN rfl fun σ w1 hC h => ?_
     have e6 := (eqo (h 6 (by decide))).trans T6
     have e86 := eqo (h 86 (by decide))
     exact Yk.atArr0 (i := (t) - (2)) sha9_ty95 sha9_sz93 e6 e86 (by omega) ⟨Ext.refl _, rfl⟩
    ·refine stepN rfl fun σ w1 hC h => ?_
     have e87 := eqo (h 87 (by decide))
     exact Yk.cell1 sha9_ty93 rfl e87 (cellAt (eb hC hb64l) (word_at (i := (t) - (2)) (by rw [hpl]; omega))) ⟨Ext.refl _, rfl⟩
    ·refine stepN rfl fun σ w1 hC h => ?_
     have e84 := eqo (h 84 (by decide))
     exact Yk.assign e84 ⟨Ext.refl _, rfl⟩
    ·refine stepN rfl fun σ w1 hC h => ?_
     have e88 := eqo (h 88 (by decide))
     exact Yk.assign e88 ⟨Ext.refl _, rfl⟩
   intro ρ90 w91 hx92 he hf
   obtain ⟨-, -, -, -, -, -, -, -, k8, k9, -⟩ := hf
   obtain ⟨T0, T2, T3, T4, T5, T6, T7, -⟩ := he.hold [(0, _), (2, _), (3, _), (4, _), (5, _), (6, _), (7, _)] ⟨T0, T2, T3, T4, T5, T6, T7, trivial⟩ rfl
   clear he
   have hE := hE.trans hx92
   have hb8 := eb hx92 hb8
   have hA17 := hA17.trans hx92
   have ho39 := Stab.own _ _ _ _ _ _ _ _ ho39 hx92
   have hb21l := eb hx92 hb21l
   have hA56 := hA56.trans hx92
   have hb64l := eb hx92 hb64l
   have T8 : ρ90 8 = U ((Sha.pad64 (Sha.sched B t)).getD ((t) - (15)) 0) := k8
   have T9 : ρ90 9 = U ((Sha.pad64 (Sha.sched B t)).getD ((t) - (2)) 0) := k9
   clear k8 k9
   refine tN (hK89 _ _ ?_)
   refine wpF_draw_store 29 (fun (a_ b_ : World) => b_.heap[n50]? = some (.cells (((Sha.pad64 (Sha.sched B t)).set (t) ((((((Sha.rotr ((Sha.pad64 (Sha.sched B t)).getD ((t) - (2)) 0) 17) ^^^ (Sha.rotr ((Sha.pad64 (Sha.sched B t)).getD ((t) - (2)) 0) 19)) ^^^ (((Sha.pad64 (Sha.sched B t)).getD ((t) - (2)) 0) >>> 10)) + ((Sha.pad64 (Sha.sched B t)).getD ((t) - (7)) 0)) + (((Sha.rotr ((Sha.pad64 (Sha.sched B t)).getD ((t) - (15)) 0) 7) ^^^ (Sha.rotr ((Sha.pad64 (Sha.sched B t)).getD ((t) - (15)) 0) 18)) ^^^ (((Sha.pad64 (Sha.sched B t)).getD ((t) - (15)) 0) >>> 3))) + ((Sha.pad64 (Sha.sched B t)).getD ((t) - (16)) 0))).map fun x => U x).toArray 95 (0, 0)) ∧ a_.grownBy b_ (some n50) ∧ b_.heap.size = a_.heap.size) [Is (NI t), Is (U ((Sha.pad64 (Sha.sched B t)).getD ((t) - (2)) 0)), Is (U (Sha.rotr ((Sha.pad64 (Sha.sched B t)).getD ((t) - (2)) 0) 17)), Is (U ((Sha.pad64 (Sha.sched B t)).getD ((t) - (2)) 0)), Is (U (Sha.rotr ((Sha.pad64 (Sha.sched B t)).getD ((t) - (2)) 0) 19)), Is (U ((Sha.rotr ((Sha.pad64 (Sha.sched B t)).getD ((t) - (2)) 0) 17) ^^^ (Sha.rotr ((Sha.pad64 (Sha.sched B t)).getD ((t) - (2)) 0) 19))), Is (U ((Sha.pad64 (Sha.sched B t)).getD ((t) - (2)) 0)), Is (U (((Sha.pad64 (Sha.sched B t)).getD ((t) - (2)) 0) >>> 10)), Is (U (((Sha.rotr ((Sha.pad64 (Sha.sched B t)).getD ((t) - (2)) 0) 17) ^^^ (Sha.rotr ((Sha.pad64 (Sha.sched B t)).getD ((t) - (2)) 0) 19)) ^^^ (((Sha.pad64 (Sha.sched B t)).getD ((t) - (2)) 0) >>> 10))), Is (NI t), Is (NI ((t) - (7))), Is (.pointer (some ⟨n50, (t) - (7), none⟩)), Is (U ((Sha.pad64 (Sha.sched B t)).getD ((t) - (7)) 0)), Is (U ((((Sha.rotr ((Sha.pad64 (Sha.sched B t)).getD ((t) - (2)) 0) 17) ^^^ (Sha.rotr ((Sha.pad64 (Sha.sched B t)).getD ((t) - (2)) 0) 19)) ^^^ (((Sha.pad64 (Sha.sched B t)).getD ((t) - (2)) 0) >>> 10)) + ((Sha.pad64 (Sha.sched B t)).getD ((t) - (7)) 0))), Is (U ((Sha.pad64 (Sha.sched B t)).getD ((t) - (15)) 0)), Is (U (Sha.rotr ((Sha.pad64 (Sha.sched B t)).getD ((t) - (15)) 0) 7)), Is (U ((Sha.pad64 (Sha.sched B t)).getD ((t) - (15)) 0)), Is (U (Sha.rotr ((Sha.pad64 (Sha.sched B t)).getD ((t) - (15)) 0) 18)), Is (U ((Sha.rotr ((Sha.pad64 (Sha.sched B t)).getD ((t) - (15)) 0) 7) ^^^ (Sha.rotr ((Sha.pad64 (Sha.sched B t)).getD ((t) - (15)) 0) 18))), Is (U ((Sha.pad64 (Sha.sched B t)).getD ((t) - (15)) 0)), Is (U (((Sha.pad64 (Sha.sched B t)).getD ((t) - (15)) 0) >>> 3)), Is (U (((Sha.rotr ((Sha.pad64 (Sha.sched B t)).getD ((t) - (15)) 0) 7) ^^^ (Sha.rotr ((Sha.pad64 (Sha.sched B t)).getD ((t) - (15)) 0) 18)) ^^^ (((Sha.pad64 (Sha.sched B t)).getD ((t) - (15)) 0) >>> 3))), Is (U (((((Sha.rotr ((Sha.pad64 (Sha.sched B t)).getD ((t) - (2)) 0) 17) ^^^ (Sha.rotr ((Sha.pad64 (Sha.sched B t)).getD ((t) - (2)) 0) 19)) ^^^ (((Sha.pad64 (Sha.sched B t)).getD ((t) - (2)) 0) >>> 10)) + ((Sha.pad64 (Sha.sched B t)).getD ((t) - (7)) 0)) + (((Sha.rotr ((Sha.pad64 (Sha.sched B t)).getD ((t) - (15)) 0) 7) ^^^ (Sha.rotr ((Sha.pad64 (Sha.sched B t)).getD ((t) - (15)) 0) 18)) ^^^ (((Sha.pad64 (Sha.sched B t)).getD ((t) - (15)) 0) >>> 3)))), Is (NI t), Is (NI ((t) - (16))), Is (.pointer (some ⟨n50, (t) - (16), none⟩)), Is (U ((Sha.pad64 (Sha.sched B t)).getD ((t) - (16)) 0)), Is (U ((((((Sha.rotr ((Sha.pad64 (Sha.sched B t)).getD ((t) - (2)) 0) 17) ^^^ (Sha.rotr ((Sha.pad64 (Sha.sched B t)).getD ((t) - (2)) 0) 19)) ^^^ (((Sha.pad64 (Sha.sched B t)).getD ((t) - (2)) 0) >>> 10)) + ((Sha.pad64 (Sha.sched B t)).getD ((t) - (7)) 0)) + (((Sha.rotr ((Sha.pad64 (Sha.sched B t)).getD ((t) - (15)) 0) 7) ^^^ (Sha.rotr ((Sha.pad64 (Sha.sched B t)).getD ((t) - (15)) 0) 18)) ^^^ (((Sha.pad64 (Sha.sched B t)).getD ((t) - (15)) 0) >>> 3))) + ((Sha.pad64 (Sha.sched B t)).getD ((t) - (16)) 0))), Is (PQ n50 t), (fun _ _ => True)] (by kernel_rfl) [89, 90, 91, 92, 93, 94, 95, 96, 97, 98, 99, 100, 101, 102, 103, 104, 105, 106, 107, 108, 109, 110, 111, 112, 113, 114, 115, 116, 117] (by kernel_rfl) (by kernel_rfl) (by kernel_rfl) rfl (si5 (si12 (si12 ⟨Stab.any, trivial⟩))) (si5 (si12 (si12 ⟨Stab.any, trivial⟩))) ?hs8013 ?hQ8013
   case hs8013 =>
    refine ⟨?_, ?_, ?_, ?_, ?_, ?_, ?_, ?_, ?_, ?_, ?_, ?_, ?_, ?_, ?_, ?_, ?_, ?_, ?_, ?_, ?_, ?_, ?_, ?_, ?_, ?_, ?_, ?_, ?_, ?_, trivial⟩
    ·refine stepN rfl fun σ w1 hC h => ?_
     have e7 := (eqo (h 7 (by decide))).trans T7
     have hC : Ext _ w1 := hC
     exact Yk.move e7 ⟨Ext.refl _, rfl⟩
    ·refine stepN rfl fun σ w1 hC h => ?_
     have e9 := (eqo (h 9 (by decide))).trans T9
     have hC : Ext _ w1 := hC
     exact Yk.move e9 ⟨Ext.refl _, rfl⟩
    ·refine stepN rfl fun σ w1 hC h => ?_
     have e90 := eqo (h 90 (by decide))
     have hC : Ext _ w1 := hC
     refine Yk.callA2 sha9_pl59 e90 (vr (.int .u64 ((17 : Nat) : Int)) rfl) ((rot_any _ ((Sha.pad64 (Sha.sched B t)).getD ((t) - (2)) 0) 17 (by decide) (by decide)).mono ?_)
     rintro e w2 ⟨rfl, hx⟩
     exact ⟨_, rfl, hx, rfl⟩
    ·refine stepN rfl fun σ w1 hC h => ?_
     have e9 := (eqo (h 9 (by decide))).trans T9
     have hC : Ext _ w1 := hC
     exact Yk.move e9 ⟨Ext.refl _, rfl⟩
    ·refine stepN rfl fun σ w1 hC h => ?_
     have e92 := eqo (h 92 (by decide))
     have hC : Ext _ w1 := hC
     refine Yk.callA2 sha9_pl59 e92 (vr (.int .u64 ((19 : Nat) : Int)) rfl) ((rot_any _ ((Sha.pad64 (Sha.sched B t)).getD ((t) - (2)) 0) 19 (by decide) (by decide)).mono ?_)
     rintro e w2 ⟨rfl, hx⟩
     exact ⟨_, rfl, hx, rfl⟩
    ·refine stepN rfl fun σ w1 hC h => ?_
     have e91 := eqo (h 91 (by decide))
     have e93 := eqo (h 93 (by decide))
     have hC : Ext _ w1 := hC
     exact Yk.bin e91 e93 rfl (u_xor _ _ _) ⟨Ext.refl _, rfl⟩
    ·refine stepN rfl fun σ w1 hC h => ?_
     have e9 := (eqo (h 9 (by decide))).trans T9
     have hC : Ext _ w1 := hC
     exact Yk.move e9 ⟨Ext.refl _, rfl⟩
    ·refine stepN rfl fun σ w1 hC h => ?_
     have e95 := eqo (h 95 (by decide))
     have hC : Ext _ w1 := hC
     exact Yk.bin e95 (vr (.int .u64 ((10 : Nat) : Int)) rfl) rfl (u_shr _ _ _ 10 (by decide)) ⟨Ext.refl _, rfl⟩
    ·refine stepN rfl fun σ w1 hC h => ?_
     have e94 := eqo (h 94 (by decide))
     have e96 := eqo (h 96 (by decide))
     have hC : Ext _ w1 := hC
     exact Yk.bin e94 e96 rfl (u_xor _ _ _) ⟨Ext.refl _, rfl⟩
    ·refine stepN rfl fun σ w1 hC h => ?_
     have e7 := (eqo (h 7 (by decide))).trans T7
     have hC : Ext _ w1 := hC
     exact Yk.move e7 ⟨Ext.refl _, rfl⟩
    ·refine stepN rfl fun σ w1 hC h => ?_
     have e98 := eqo (h 98 (by decide))
     have hC : Ext _ w1 := hC
     exact Yk.bin (xv := NI t) (yv := NI 7) e98 rfl rfl (i64_sub _ _ _ (by omega) (by omega)) ⟨Ext.refl _, rfl⟩
    ·refine stepN rfl fun σ w1 hC h => ?_
     have e6 := (eqo (h 6 (by decide))).trans T6
     have e99 := eqo (h 99 (by decide))
     have hC : Ext _ w1 := hC
     exact Yk.atArr0 (i := (t) - (7)) sha9_ty95 sha9_sz93 e6 e99 (by omega) ⟨Ext.refl _, rfl⟩
    ·refine stepN rfl fun σ w1 hC h => ?_
     have e100 := eqo (h 100 (by decide))
     have hC : Ext _ w1 := hC
     exact Yk.cell1 sha9_ty93 rfl e100 (cellAt (eb hC hb64l) (word_at (i := (t) - (7)) (by rw [hpl]; omega))) ⟨Ext.refl _, rfl⟩
    ·refine stepN rfl fun σ w1 hC h => ?_
     have e97 := eqo (h 97 (by decide))
     have e101 := eqo (h 101 (by decide))
     have hC : Ext _ w1 := hC
     exact Yk.bin e97 e101 rfl (u_add _ _ _) ⟨Ext.refl _, rfl⟩
    ·refine stepN rfl fun σ w1 hC h => ?_
     have e8 := (eqo (h 8 (by decide))).trans T8
     have hC : Ext _ w1 := hC
     exact Yk.move e8 ⟨Ext.refl _, rfl⟩
    ·refine stepN rfl fun σ w1 hC h => ?_
     have e103 := eqo (h 103 (by decide))
     have hC : Ext _ w1 := hC
     refine Yk.callA2 sha9_pl59 e103 (vr (.int .u64 ((7 : Nat) : Int)) rfl) ((rot_any _ ((Sha.pad64 (Sha.sched B t)).getD ((t) - (15)) 0) 7 (by decide) (by decide)).mono ?_)
     rintro e w2 ⟨rfl, hx⟩
     exact ⟨_, rfl, hx, rfl⟩
    ·refine stepN rfl fun σ w1 hC h => ?_
     have e8 := (eqo (h 8 (by decide))).trans T8
     have hC : Ext _ w1 := hC
     exact Yk.move e8 ⟨Ext.refl _, rfl⟩
    ·refine stepN rfl fun σ w1 hC h => ?_
     have e105 := eqo (h 105 (by decide))
     have hC : Ext _ w1 := hC
     refine Yk.callA2 sha9_pl59 e105 (vr (.int .u64 ((18 : Nat) : Int)) rfl) ((rot_any _ ((Sha.pad64 (Sha.sched B t)).getD ((t) - (15)) 0) 18 (by decide) (by decide)).mono ?_)
     rintro e w2 ⟨rfl, hx⟩
     exact ⟨_, rfl, hx, rfl⟩
    ·refine stepN rfl fun σ w1 hC h => ?_
     have e104 := eqo (h 104 (by decide))
     have e106 := eqo (h 106 (by decide))
     have hC : Ext _ w1 := hC
     exact Yk.bin e104 e106 rfl (u_xor _ _ _) ⟨Ext.refl _, rfl⟩
    ·refine stepN rfl fun σ w1 hC h => ?_
     have e8 := (eqo (h 8 (by decide))).trans T8
     have hC : Ext _ w1 := hC
     exact Yk.move e8 ⟨Ext.refl _, rfl⟩
    ·refine stepN rfl fun σ w1 hC h => ?_
     have e108 := eqo (h 108 (by decide))
     have hC : Ext _ w1 := hC
     exact Yk.bin e108 (vr (.int .u64 ((3 : Nat) : Int)) rfl) rfl (u_shr _ _ _ 3 (by decide)) ⟨Ext.refl _, rfl⟩
    ·refine stepN rfl fun σ w1 hC h => ?_
     have e107 := eqo (h 107 (by decide))
     have e109 := eqo (h 109 (by decide))
     have hC : Ext _ w1 := hC
     exact Yk.bin e107 e109 rfl (u_xor _ _ _) ⟨Ext.refl _, rfl⟩
    ·refine stepN rfl fun σ w1 hC h => ?_
     have e102 := eqo (h 102 (by decide))
     have e110 := eqo (h 110 (by decide))
     have hC : Ext _ w1 := hC
     exact Yk.bin e102 e110 rfl (u_add _ _ _) ⟨Ext.refl _, rfl⟩
    ·refine stepN rfl fun σ w1 hC h => ?_
     have e7 := (eqo (h 7 (by decide))).trans T7
     have hC : Ext _ w1 := hC
     exact Yk.move e7 ⟨Ext.refl _, rfl⟩
    ·refine stepN rfl fun σ w1 hC h => ?_
     have e112 := eqo (h 112 (by decide))
     have hC : Ext _ w1 := hC
     exact Yk.bin (xv := NI t) (yv := NI 16) e112 rfl rfl (i64_sub _ _ _ (by omega) (by omega)) ⟨Ext.refl _, rfl⟩
    ·refine stepN rfl fun σ w1 hC h => ?_
     have e6 := (eqo (h 6 (by decide))).trans T6
     have e113 := eqo (h 113 (by decide))
     have hC : Ext _ w1 := hC
     exact Yk.atArr0 (i := (t) - (16)) sha9_ty95 sha9_sz93 e6 e113 (by omega) ⟨Ext.refl _, rfl⟩
    ·refine stepN rfl fun σ w1 hC h => ?_
     have e114 := eqo (h 114 (by decide))
     have hC : Ext _ w1 := hC
     exact Yk.cell1 sha9_ty93 rfl e114 (cellAt (eb hC hb64l) (word_at (i := (t) - (16)) (by rw [hpl]; omega))) ⟨Ext.refl _, rfl⟩
    ·refine stepN rfl fun σ w1 hC h => ?_
     have e111 := eqo (h 111 (by decide))
     have e115 := eqo (h 115 (by decide))
     have hC : Ext _ w1 := hC
     exact Yk.bin e111 e115 rfl (u_add _ _ _) ⟨Ext.refl _, rfl⟩
    ·refine stepN rfl fun σ w1 hC h => ?_
     have e6 := (eqo (h 6 (by decide))).trans T6
     have e89 := eqo (h 89 (by decide))
     have hC : Ext _ w1 := hC
     exact Yk.atArr0 (i := t) sha9_ty95 sha9_sz93 e6 e89 (by omega) ⟨Ext.refl _, rfl⟩
    ·refine stepN rfl fun σ w1 hC h => ?_
     have e117 := eqo (h 117 (by decide))
     have e116 := eqo (h 116 (by decide))
     have hC : Ext _ w1 := hC
     exact Yk.storeU32 (i := t) (v := (((((Sha.rotr ((Sha.pad64 (Sha.sched B t)).getD ((t) - (2)) 0) 17) ^^^ (Sha.rotr ((Sha.pad64 (Sha.sched B t)).getD ((t) - (2)) 0) 19)) ^^^ (((Sha.pad64 (Sha.sched B t)).getD ((t) - (2)) 0) >>> 10)) + ((Sha.pad64 (Sha.sched B t)).getD ((t) - (7)) 0)) + (((Sha.rotr ((Sha.pad64 (Sha.sched B t)).getD ((t) - (15)) 0) 7) ^^^ (Sha.rotr ((Sha.pad64 (Sha.sched B t)).getD ((t) - (15)) 0) 18)) ^^^ (((Sha.pad64 (Sha.sched B t)).getD ((t) - (15)) 0) >>> 3))) + ((Sha.pad64 (Sha.sched B t)).getD ((t) - (16)) 0)) e117 e116 (eb hC hb64l) (by rw [hpl]; omega) sha9_isz93 fun w2 h1 h2 h3 => ⟨⟨h1, h2, h3⟩, trivial⟩
   intro ρ97 w100 w98 hx99 hS101 he hf
   obtain ⟨-, -, -, -, -, -, -, -, -, -, -, -, -, -, -, -, -, -, -, -, -, -, -, -, -, -, -, -, -, -⟩ := hf
   obtain ⟨T0, T2, T3, T4, T5, T6, T7, T8, T9, -⟩ := he.hold [(0, _), (2, _), (3, _), (4, _), (5, _), (6, _), (7, _), (8, _), (9, _)] ⟨T0, T2, T3, T4, T5, T6, T7, T8, T9, trivial⟩ rfl
   clear he
   have hE := hE.trans hx99
   have hb8 := eb hx99 hb8
   have hA17 := hA17.trans hx99
   have ho39 := Stab.own _ _ _ _ _ _ _ _ ho39 hx99
   have hb21l := eb hx99 hb21l
   have hA56 := hA56.trans hx99
   have hb64l := eb hx99 hb64l
   obtain ⟨hb102, hg103, hs104⟩ := hS101
   have hE := row_fresh hE hg103 (Nat.le_trans hz59 (by omega))
   have hb8 := kb hg103 hb8 (by omega)
   have hA17 := row_fresh hA17 hg103 (Nat.le_trans hz60 (by omega))
   have ho39 := own_kept ho39 hg103 hap63
   have hb21l := kb hg103 hb21l (by omega)
   have hA56 := row_fresh hA56 hg103 (Nat.le_trans (Nat.le_refl _) (by omega))
   clear hb64l
   have hb64l := hb102; clear hb102
   have hl105 := bl hb64l
   have hb64l : w98.heap[n50]? = some (.cells ((Sha.pad64 (Sha.sched B (t + 1))).map fun x => U x).toArray 95 (0, 0)) := blk_eq hb64l (congrArg (List.map fun x => U x) (Sha.sched_step2 B t (by omega) hc1))
   refine bN (tN (hK73 _ _ (wt (oM rfl (oS rfl (Yk.bin (xv := NI t) (yv := NI 1) T7 rfl rfl (i64_add _ _ _ (by omega)) (oA rfl (oL_ [(0, v), (2, PQ n2 0), (3, PQ n11 0), (4, v29), (5, NI (64 * j)), (6, PQ n50 0), (7, NI ((t) + (1))), (8, U ((Sha.pad64 (Sha.sched B t)).getD ((t) - (15)) 0)), (9, U ((Sha.pad64 (Sha.sched B t)).getD ((t) - (2)) 0))] ⟨T0, T2, T3, T4, T5, T6, rfl, T8, T9, trivial⟩ fun ρ106 ⟨T0, T2, T3, T4, T5, T6, T7, T8, T9, _⟩ => (tN (And.intro ⟨t + 1, T0, T2, T3, T4, T5, T6, T7, hE, hb8, hA17, ho39, hb21l, hA56, blk_eq hb64l (rfl), by omega, trivial⟩ ?_))))))))))
   show 64 - (intOf (ρ106 7)).toNat < 64 - (intOf (ρ69 7)).toNat
   rw [T7, q7]
   simp only [intOf, Int.toNat_natCast]; omega
  obtain ⟨F, hF⟩ : ∃ F, F = Sha.sched B 64 := ⟨_, rfl⟩
  have hb64l : w70.heap[n50]? = some (.cells (F.map fun x => U x).toArray 95 (0, 0)) := blk_eq hb64l (by rw [show t = 64 by omega, ← hF, Sha.pad64_full _ (by rw [hF, Sha.sched_length])])
  have hFl : F.length = 64 := by rw [hF, Sha.sched_length]
  refine wpF_exit (thenF_exit (thenF_exit (inBlockF_hit (tN (hK66 _ _ (sk fun K107 hK107 => ?_))))))
  refine wpF_draw [Is (PQ n11 0), Is (U ((Sj).getD (0) 0)), Is (PQ n11 1), Is (U ((Sj).getD (1) 0)), Is (PQ n11 2), Is (U ((Sj).getD (2) 0)), Is (PQ n11 3), Is (U ((Sj).getD (3) 0)), Is (PQ n11 4), Is (U ((Sj).getD (4) 0)), Is (PQ n11 5), Is (U ((Sj).getD (5) 0)), Is (PQ n11 6), Is (U ((Sj).getD (6) 0)), Is (PQ n11 7), Is (U ((Sj).getD (7) 0)), Is (U ((Sj).getD (0) 0)), Is (U ((Sj).getD (1) 0)), Is (U ((Sj).getD (2) 0)), Is (U ((Sj).getD (3) 0)), Is (U ((Sj).getD (4) 0)), Is (U ((Sj).getD (5) 0)), Is (U ((Sj).getD (6) 0)), Is (U ((Sj).getD (7) 0))] (by kernel_rfl) [118, 119, 120, 121, 122, 123, 124, 125, 126, 127, 128, 129, 130, 131, 132, 133, 10, 11, 12, 13, 14, 15, 16, 17] (by kernel_rfl) (by kernel_rfl) (si12 (si12 trivial)) ?hs9014 ?hQ9014
  case hs9014 =>
   refine ⟨?_, ?_, ?_, ?_, ?_, ?_, ?_, ?_, ?_, ?_, ?_, ?_, ?_, ?_, ?_, ?_, ?_, ?_, ?_, ?_, ?_, ?_, ?_, ?_, trivial⟩
   ·refine stepN rfl fun σ w1 hC h => ?_
    have e3 := (eqo (h 3 (by decide))).trans T3
    exact Yk.atArr0 (i := 0) sha9_ty94 sha9_sz93 e3 (vr (NI 0) rfl) (by omega) ⟨Ext.refl _, rfl⟩
   ·refine stepN rfl fun σ w1 hC h => ?_
    have e118 := eqo (h 118 (by decide))
    exact Yk.cell1 sha9_ty93 rfl e118 (cellAt (eb hC hb21l) (word_at (i := 0) (by rw [hSl]; omega))) ⟨Ext.refl _, rfl⟩
   ·refine stepN rfl fun σ w1 hC h => ?_
    have e3 := (eqo (h 3 (by decide))).trans T3
    exact Yk.atArr0 (i := 1) sha9_ty94 sha9_sz93 e3 (vr (NI 1) rfl) (by omega) ⟨Ext.refl _, rfl⟩
   ·refine stepN rfl fun σ w1 hC h => ?_
    have e120 := eqo (h 120 (by decide))
    exact Yk.cell1 sha9_ty93 rfl e120 (cellAt (eb hC hb21l) (word_at (i := 1) (by rw [hSl]; omega))) ⟨Ext.refl _, rfl⟩
   ·refine stepN rfl fun σ w1 hC h => ?_
    have e3 := (eqo (h 3 (by decide))).trans T3
    exact Yk.atArr0 (i := 2) sha9_ty94 sha9_sz93 e3 (vr (NI 2) rfl) (by omega) ⟨Ext.refl _, rfl⟩
   ·refine stepN rfl fun σ w1 hC h => ?_
    have e122 := eqo (h 122 (by decide))
    exact Yk.cell1 sha9_ty93 rfl e122 (cellAt (eb hC hb21l) (word_at (i := 2) (by rw [hSl]; omega))) ⟨Ext.refl _, rfl⟩
   ·refine stepN rfl fun σ w1 hC h => ?_
    have e3 := (eqo (h 3 (by decide))).trans T3
    exact Yk.atArr0 (i := 3) sha9_ty94 sha9_sz93 e3 (vr (NI 3) rfl) (by omega) ⟨Ext.refl _, rfl⟩
   ·refine stepN rfl fun σ w1 hC h => ?_
    have e124 := eqo (h 124 (by decide))
    exact Yk.cell1 sha9_ty93 rfl e124 (cellAt (eb hC hb21l) (word_at (i := 3) (by rw [hSl]; omega))) ⟨Ext.refl _, rfl⟩
   ·refine stepN rfl fun σ w1 hC h => ?_
    have e3 := (eqo (h 3 (by decide))).trans T3
    exact Yk.atArr0 (i := 4) sha9_ty94 sha9_sz93 e3 (vr (NI 4) rfl) (by omega) ⟨Ext.refl _, rfl⟩
   ·refine stepN rfl fun σ w1 hC h => ?_
    have e126 := eqo (h 126 (by decide))
    exact Yk.cell1 sha9_ty93 rfl e126 (cellAt (eb hC hb21l) (word_at (i := 4) (by rw [hSl]; omega))) ⟨Ext.refl _, rfl⟩
   ·refine stepN rfl fun σ w1 hC h => ?_
    have e3 := (eqo (h 3 (by decide))).trans T3
    exact Yk.atArr0 (i := 5) sha9_ty94 sha9_sz93 e3 (vr (NI 5) rfl) (by omega) ⟨Ext.refl _, rfl⟩
   ·refine stepN rfl fun σ w1 hC h => ?_
    have e128 := eqo (h 128 (by decide))
    exact Yk.cell1 sha9_ty93 rfl e128 (cellAt (eb hC hb21l) (word_at (i := 5) (by rw [hSl]; omega))) ⟨Ext.refl _, rfl⟩
   ·refine stepN rfl fun σ w1 hC h => ?_
    have e3 := (eqo (h 3 (by decide))).trans T3
    exact Yk.atArr0 (i := 6) sha9_ty94 sha9_sz93 e3 (vr (NI 6) rfl) (by omega) ⟨Ext.refl _, rfl⟩
   ·refine stepN rfl fun σ w1 hC h => ?_
    have e130 := eqo (h 130 (by decide))
    exact Yk.cell1 sha9_ty93 rfl e130 (cellAt (eb hC hb21l) (word_at (i := 6) (by rw [hSl]; omega))) ⟨Ext.refl _, rfl⟩
   ·refine stepN rfl fun σ w1 hC h => ?_
    have e3 := (eqo (h 3 (by decide))).trans T3
    exact Yk.atArr0 (i := 7) sha9_ty94 sha9_sz93 e3 (vr (NI 7) rfl) (by omega) ⟨Ext.refl _, rfl⟩
   ·refine stepN rfl fun σ w1 hC h => ?_
    have e132 := eqo (h 132 (by decide))
    exact Yk.cell1 sha9_ty93 rfl e132 (cellAt (eb hC hb21l) (word_at (i := 7) (by rw [hSl]; omega))) ⟨Ext.refl _, rfl⟩
   ·refine stepN rfl fun σ w1 hC h => ?_
    have e119 := eqo (h 119 (by decide))
    exact Yk.assign e119 ⟨Ext.refl _, rfl⟩
   ·refine stepN rfl fun σ w1 hC h => ?_
    have e121 := eqo (h 121 (by decide))
    exact Yk.assign e121 ⟨Ext.refl _, rfl⟩
   ·refine stepN rfl fun σ w1 hC h => ?_
    have e123 := eqo (h 123 (by decide))
    exact Yk.assign e123 ⟨Ext.refl _, rfl⟩
   ·refine stepN rfl fun σ w1 hC h => ?_
    have e125 := eqo (h 125 (by decide))
    exact Yk.assign e125 ⟨Ext.refl _, rfl⟩
   ·refine stepN rfl fun σ w1 hC h => ?_
    have e127 := eqo (h 127 (by decide))
    exact Yk.assign e127 ⟨Ext.refl _, rfl⟩
   ·refine stepN rfl fun σ w1 hC h => ?_
    have e129 := eqo (h 129 (by decide))
    exact Yk.assign e129 ⟨Ext.refl _, rfl⟩
   ·refine stepN rfl fun σ w1 hC h => ?_
    have e131 := eqo (h 131 (by decide))
    exact Yk.assign e131 ⟨Ext.refl _, rfl⟩
   ·refine stepN rfl fun σ w1 hC h => ?_
    have e133 := eqo (h 133 (by decide))
    exact Yk.assign e133 ⟨Ext.refl _, rfl⟩
  intro ρ108 w109 hx110 he hf
  obtain ⟨-, -, -, -, -, -, -, -, -, -, -, -, -, -, -, -, k10, k11, k12, k13, k14, k15, k16, k17, -⟩ := hf
  obtain ⟨T0, T2, T3, T4, T5, T6, T7, -⟩ := he.hold [(0, _), (2, _), (3, _), (4, _), (5, _), (6, _), (7, _)] ⟨T0, T2, T3, T4, T5, T6, T7, trivial⟩ rfl
  clear he
  have hE := hE.trans hx110
  have hb8 := eb hx110 hb8
  have hA17 := hA17.trans hx110
  have ho39 := Stab.own _ _ _ _ _ _ _ _ ho39 hx110
  have hb21l := eb hx110 hb21l
  have hA56 := hA56.trans hx110
  have hb64l := eb hx110 hb64l
  have T10 : ρ108 10 = U ((Sj).getD (0) 0) := k10
  have T11 : ρ108 11 = U ((Sj).getD (1) 0) := k11
  have T12 : ρ108 12 = U ((Sj).getD (2) 0) := k12
  have T13 : ρ108 13 = U ((Sj).getD (3) 0) := k13
  have T14 : ρ108 14 = U ((Sj).getD (4) 0) := k14
  have T15 : ρ108 15 = U ((Sj).getD (5) 0) := k15
  have T16 : ρ108 16 = U ((Sj).getD (6) 0) := k16
  have T17 : ρ108 17 = U ((Sj).getD (7) 0) := k17
  clear k10 k11 k12 k13 k14 k15 k16 k17
  refine tN (hK107 _ _ (sk fun K111 hK111 => (sk fun K112 hK112 => (wt (oA rfl (oL_ [(0, v), (2, PQ n2 0), (3, PQ n11 0), (4, v29), (5, NI (64 * j)), (6, PQ n50 0), (7, NI t), (10, U ((Sj).getD (0) 0)), (11, U ((Sj).getD (1) 0)), (12, U ((Sj).getD (2) 0)), (13, U ((Sj).getD (3) 0)), (14, U ((Sj).getD (4) 0)), (15, U ((Sj).getD (5) 0)), (16, U ((Sj).getD (6) 0)), (17, U ((Sj).getD (7) 0)), (18, NI 0)] ⟨T0, T2, T3, T4, T5, T6, T7, T10, T11, T12, T13, T14, T15, T16, T17, rfl, trivial⟩ fun ρ113 ⟨T0, T2, T3, T4, T5, T6, T7, T10, T11, T12, T13, T14, T15, T16, T17, T18, _⟩ => (tN (hK112 _ _ (wpF_block (wpF_loop (fun (ρ : Slots) (wz : World) => ∃ r : Nat, ρ 0 = (v : Value) ∧ ρ 2 = (PQ n2 0 : Value) ∧ ρ 3 = (PQ n11 0 : Value) ∧ ρ 4 = (v29 : Value) ∧ ρ 5 = (NI (64 * j) : Value) ∧ ρ 6 = (PQ n50 0 : Value) ∧ ρ 7 = (NI t : Value) ∧ ρ 18 = (NI r : Value) ∧ ρ 10 = (U ((Sha.turned Sj F r).getD 0 0) : Value) ∧ ρ 11 = (U ((Sha.turned Sj F r).getD 1 0) : Value) ∧ ρ 12 = (U ((Sha.turned Sj F r).getD 2 0) : Value) ∧ ρ 13 = (U ((Sha.turned Sj F r).getD 3 0) : Value) ∧ ρ 14 = (U ((Sha.turned Sj F r).getD 4 0) : Value) ∧ ρ 15 = (U ((Sha.turned Sj F r).getD 5 0) : Value) ∧ ρ 16 = (U ((Sha.turned Sj F r).getD 6 0) : Value) ∧ ρ 17 = (U ((Sha.turned Sj F r).getD 7 0) : Value) ∧ Ext w wz ∧ wz.heap[n2]? = some (.cells (Lib.byteCells (List.replicate 32 0)).toArray 26 (0, 0)) ∧ Ext w3 wz ∧ wz.ownsRow w23.heap.size 5 1 v29 (P : List UInt8).length (Lib.byteCells (P)) ∧ wz.heap[n11]? = some (.cells (Sj.map fun x => U x).toArray 94 (0, 0)) ∧ Ext w44 wz ∧ wz.heap[n50]? = some (.cells (F.map fun x => U x).toArray 95 (0, 0)) ∧ (r ≤ 64) ∧ True) (fun ρ _ => 64 - (intOf (ρ 18)).toNat) ⟨0, T0, T2, T3, T4, T5, T6, T7, T18, T10, T11, T12, T13, T14, T15, T16, T17, hE, hb8, hA17, ho39, hb21l, hA56, hb64l, Nat.zero_le _, trivial⟩ ?_))))))))))
  clear hE hb8 hA17 ho39 hb21l hA56 hb64l
  rintro ρ114 w115 ⟨r, T0, T2, T3, T4, T5, T6, T7, T18, T10, T11, T12, T13, T14, T15, T16, T17, hE, hb8, hA17, ho39, hb21l, hA56, hb64l, hr64, -⟩
  have q18 := T18
  refine sk fun K116 hK116 => (sk fun K117 hK117 => (wt (oM rfl (oS rfl (Yk.eqI (a := (r : Nat)) (b := (64 : Nat)) T18 rfl (k_lss _ _ _ _) (oL_ [(0, v), (2, PQ n2 0), (3, PQ n11 0), (4, v29), (5, NI (64 * j)), (6, PQ n50 0), (7, NI t), (10, U ((Sha.turned Sj F r).getD 0 0)), (11, U ((Sha.turned Sj F r).getD 1 0)), (12, U ((Sha.turned Sj F r).getD 2 0)), (13, U ((Sha.turned Sj F r).getD 3 0)), (14, U ((Sha.turned Sj F r).getD 4 0)), (15, U ((Sha.turned Sj F r).getD 5 0)), (16, U ((Sha.turned Sj F r).getD 6 0)), (17, U ((Sha.turned Sj F r).getD 7 0)), (18, NI r), (135, .bool (decide ((r) < (64))))] ⟨T0, T2, T3, T4, T5, T6, T7, T10, T11, T12, T13, T14, T15, T16, T17, T18, rfl, trivial⟩ fun ρ118 ⟨T0, T2, T3, T4, T5, T6, T7, T10, T11, T12, T13, T14, T15, T16, T17, T18, T135, _⟩ => (tN (hK117 _ _ ?_))))))))
  refine wpF_cond ((r) < (64)) T135 (fun hc3 => ?_) (fun hc3 => ?_)
  ·refine wpF_skip (tN (hK116 _ _ (sk fun K119 hK119 => (wpF_block (sk fun K120 hK120 => ?_)))))
   refine wpF_draw [Is (U ((Sha.turned Sj F r).getD 7 0)), Is (U ((Sha.turned Sj F r).getD 4 0)), Is (U (Sha.rotr ((Sha.turned Sj F r).getD 4 0) 6)), Is (U ((Sha.turned Sj F r).getD 4 0)), Is (U (Sha.rotr ((Sha.turned Sj F r).getD 4 0) 11)), Is (U ((Sha.rotr ((Sha.turned Sj F r).getD 4 0) 6) ^^^ (Sha.rotr ((Sha.turned Sj F r).getD 4 0) 11))), Is (U ((Sha.turned Sj F r).getD 4 0)), Is (U (Sha.rotr ((Sha.turned Sj F r).getD 4 0) 25)), Is (U (((Sha.rotr ((Sha.turned Sj F r).getD 4 0) 6) ^^^ (Sha.rotr ((Sha.turned Sj F r).getD 4 0) 11)) ^^^ (Sha.rotr ((Sha.turned Sj F r).getD 4 0) 25))), Is (U (((Sha.turned Sj F r).getD 7 0) + (((Sha.rotr ((Sha.turned Sj F r).getD 4 0) 6) ^^^ (Sha.rotr ((Sha.turned Sj F r).getD 4 0) 11)) ^^^ (Sha.rotr ((Sha.turned Sj F r).getD 4 0) 25)))), Is (U ((Sha.turned Sj F r).getD 4 0)), Is (U ((Sha.turned Sj F r).getD 5 0)), Is (U (((Sha.turned Sj F r).getD 4 0) &&& ((Sha.turned Sj F r).getD 5 0))), Is (U ((Sha.turned Sj F r).getD 4 0)), Is (U (~~~((Sha.turned Sj F r).getD 4 0))), Is (U ((Sha.turned Sj F r).getD 6 0)), Is (U ((~~~((Sha.turned Sj F r).getD 4 0)) &&& ((Sha.turned Sj F r).getD 6 0))), Is (U ((((Sha.turned Sj F r).getD 4 0) &&& ((Sha.turned Sj F r).getD 5 0)) ^^^ ((~~~((Sha.turned Sj F r).getD 4 0)) &&& ((Sha.turned Sj F r).getD 6 0)))), Is (U ((((Sha.turned Sj F r).getD 7 0) + (((Sha.rotr ((Sha.turned Sj F r).getD 4 0) 6) ^^^ (Sha.rotr ((Sha.turned Sj F r).getD 4 0) 11)) ^^^ (Sha.rotr ((Sha.turned Sj F r).getD 4 0) 25))) + ((((Sha.turned Sj F r).getD 4 0) &&& ((Sha.turned Sj F r).getD 5 0)) ^^^ ((~~~((Sha.turned Sj F r).getD 4 0)) &&& ((Sha.turned Sj F r).getD 6 0))))), Is (NI r), Is (U (Sha.words.getD (r) 0)), Is (U (((((Sha.turned Sj F r).getD 7 0) + (((Sha.rotr ((Sha.turned Sj F r).getD 4 0) 6) ^^^ (Sha.rotr ((Sha.turned Sj F r).getD 4 0) 11)) ^^^ (Sha.rotr ((Sha.turned Sj F r).getD 4 0) 25))) + ((((Sha.turned Sj F r).getD 4 0) &&& ((Sha.turned Sj F r).getD 5 0)) ^^^ ((~~~((Sha.turned Sj F r).getD 4 0)) &&& ((Sha.turned Sj F r).getD 6 0)))) + (Sha.words.getD (r) 0))), Is (NI r), Is (PQ n50 r), Is (U ((F).getD (r) 0)), Is (U ((((((Sha.turned Sj F r).getD 7 0) + (((Sha.rotr ((Sha.turned Sj F r).getD 4 0) 6) ^^^ (Sha.rotr ((Sha.turned Sj F r).getD 4 0) 11)) ^^^ (Sha.rotr ((Sha.turned Sj F r).getD 4 0) 25))) + ((((Sha.turned Sj F r).getD 4 0) &&& ((Sha.turned Sj F r).getD 5 0)) ^^^ ((~~~((Sha.turned Sj F r).getD 4 0)) &&& ((Sha.turned Sj F r).getD 6 0)))) + (Sha.words.getD (r) 0)) + ((F).getD (r) 0))), Is (U ((((((Sha.turned Sj F r).getD 7 0) + (((Sha.rotr ((Sha.turned Sj F r).getD 4 0) 6) ^^^ (Sha.rotr ((Sha.turned Sj F r).getD 4 0) 11)) ^^^ (Sha.rotr ((Sha.turned Sj F r).getD 4 0) 25))) + ((((Sha.turned Sj F r).getD 4 0) &&& ((Sha.turned Sj F r).getD 5 0)) ^^^ ((~~~((Sha.turned Sj F r).getD 4 0)) &&& ((Sha.turned Sj F r).getD 6 0)))) + (Sha.words.getD (r) 0)) + ((F).getD (r) 0)))] (by kernel_rfl) [138, 139, 140, 141, 142, 143, 144, 145, 146, 147, 148, 149, 150, 151, 152, 153, 154, 155, 156, 157, 158, 159, 160, 161, 162, 163, 19] (by kernel_rfl) (by kernel_rfl) (si3 (si12 (si12 trivial))) ?hs10018 ?hQ10018
   case hs10018 =>
    refine ⟨?_, ?_, ?_, ?_, ?_, ?_, ?_, ?_, ?_, ?_, ?_, ?_, ?_, ?_, ?_, ?_, ?_, ?_, ?_, ?_, ?_, ?_, ?_, ?_, ?_, ?_, ?_, trivial⟩
    ·refine stepN rfl fun σ w1 hC h => ?_
     have e17 := (eqo (h 17 (by decide))).trans T17
     exact Yk.move e17 ⟨Ext.refl _, rfl⟩
    ·refine stepN rfl fun σ w1 hC h => ?_
     have e14 := (eqo (h 14 (by decide))).trans T14
     exact Yk.move e14 ⟨Ext.refl _, rfl⟩
    ·refine stepN rfl fun σ w1 hC h => ?_
     have e139 := eqo (h 139 (by decide))
     refine Yk.callA2 sha9_pl59 e139 (vr (.int .u64 ((6 : Nat) : Int)) rfl) ((rot_any _ ((Sha.turned Sj F r).getD 4 0) 6 (by decide) (by decide)).mono ?_)
     rintro e w2 ⟨rfl, hx⟩
     exact ⟨_, rfl, hx, rfl⟩
    ·refine stepN rfl fun σ w1 hC h => ?_
     have e14 := (eqo (h 14 (by decide))).trans T14
     exact Yk.move e14 ⟨Ext.refl _, rfl⟩
    ·refine stepN rfl fun σ w1 hC h => ?_
     have e141 := eqo (h 141 (by decide))
     refine Yk.callA2 sha9_pl59 e141 (vr (.int .u64 ((11 : Nat) : Int)) rfl) ((rot_any _ ((Sha.turned Sj F r).getD 4 0) 11 (by decide) (by decide)).mono ?_)
     rintro e w2 ⟨rfl, hx⟩
     exact ⟨_, rfl, hx, rfl⟩
    ·refine stepN rfl fun σ w1 hC h => ?_
     have e140 := eqo (h 140 (by decide))
     have e142 := eqo (h 142 (by decide))
     exact Yk.bin e140 e142 rfl (u_xor _ _ _) ⟨Ext.refl _, rfl⟩
    ·refine stepN rfl fun σ w1 hC h => ?_
     have e14 := (eqo (h 14 (by decide))).trans T14
     exact Yk.move e14 ⟨Ext.refl _, rfl⟩
    ·refine stepN rfl fun σ w1 hC h => ?_
     have e144 := eqo (h 144 (by decide))
     refine Yk.callA2 sha9_pl59 e144 (vr (.int .u64 ((25 : Nat) : Int)) rfl) ((rot_any _ ((Sha.turned Sj F r).getD 4 0) 25 (by decide) (by decide)).mono ?_)
     rintro e w2 ⟨rfl, hx⟩
     exact ⟨_, rfl, hx, rfl⟩
    ·refine stepN rfl fun σ w1 hC h => ?_
     have e143 := eqo (h 143 (by decide))
     have e145 := eqo (h 145 (by decide))
     exact Yk.bin e143 e145 rfl (u_xor _ _ _) ⟨Ext.refl _, rfl⟩
    ·refine stepN rfl fun σ w1 hC h => ?_
     have e138 := eqo (h 138 (by decide))
     have e146 := eqo (h 146 (by decide))
     exact Yk.bin e138 e146 rfl (u_add _ _ _) ⟨Ext.refl _, rfl⟩
    ·refine stepN rfl fun σ w1 hC h => ?_
     have e14 := (eqo (h 14 (by decide))).trans T14
     exact Yk.move e14 ⟨Ext.refl _, rfl⟩
    ·refine stepN rfl fun σ w1 hC h => ?_
     have e15 := (eqo (h 15 (by decide))).trans T15
     exact Yk.move e15 ⟨Ext.refl _, rfl⟩
    ·refine stepN rfl fun σ w1 hC h => ?_
     have e148 := eqo (h 148 (by decide))
     have e149 := eqo (h 149 (by decide))
     exact Yk.bin e148 e149 rfl (u_and _ _ _) ⟨Ext.refl _, rfl⟩
    ·refine stepN rfl fun σ w1 hC h => ?_
     have e14 := (eqo (h 14 (by decide))).trans T14
     exact Yk.move e14 ⟨Ext.refl _, rfl⟩
    ·refine stepN rfl fun σ w1 hC h => ?_
     have e151 := eqo (h 151 (by decide))
     exact Yk.not32 e151 ⟨Ext.refl _, rfl⟩
    ·refine stepN rfl fun σ w1 hC h => ?_
     have e16 := (eqo (h 16 (by decide))).trans T16
     exact Yk.move e16 ⟨Ext.refl _, rfl⟩
    ·refine stepN rfl fun σ w1 hC h => ?_
     have e152 := eqo (h 152 (by decide))
     have e153 := eqo (h 153 (by decide))
     exact Yk.bin e152 e153 rfl (u_and _ _ _) ⟨Ext.refl _, rfl⟩
    ·refine stepN rfl fun σ w1 hC h => ?_
     have e150 := eqo (h 150 (by decide))
     have e154 := eqo (h 154 (by decide))
     exact Yk.bin e150 e154 rfl (u_xor _ _ _) ⟨Ext.refl _, rfl⟩
    ·refine stepN rfl fun σ w1 hC h => ?_
     have e147 := eqo (h 147 (by decide))
     have e155 := eqo (h 155 (by decide))
     exact Yk.bin e147 e155 rfl (u_add _ _ _) ⟨Ext.refl _, rfl⟩
    ·refine stepN rfl fun σ w1 hC h => ?_
     have e18 := (eqo (h 18 (by decide))).trans T18
     exact Yk.move e18 ⟨Ext.refl _, rfl⟩
    ·refine stepN rfl fun σ w1 hC h => ?_
     have e157 := eqo (h 157 (by decide))
     refine Yk.callA1 sha9_pl60 e157 ((key_any _ (r) (by omega)).mono ?_)
     rintro e w2 ⟨rfl, hx⟩
     exact ⟨_, rfl, hx, rfl⟩
    ·refine stepN rfl fun σ w1 hC h => ?_
     have e156 := eqo (h 156 (by decide))
     have e158 := eqo (h 158 (by decide))
     exact Yk.bin e156 e158 rfl (u_add _ _ _) ⟨Ext.refl _, rfl⟩
    ·refine stepN rfl fun σ w1 hC h => ?_
     have e18 := (eqo (h 18 (by decide))).trans T18
     exact Yk.move e18 ⟨Ext.refl _, rfl⟩
    ·refine stepN rfl fun σ w1 hC h => ?_
     have e6 := (eqo (h 6 (by decide))).trans T6
     have e160 := eqo (h 160 (by decide))
     exact Yk.atArr0 (i := r) sha9_ty95 sha9_sz93 e6 e160 (by omega) ⟨Ext.refl _, rfl⟩
    ·refine stepN rfl fun σ w1 hC h => ?_
     have e161 := eqo (h 161 (by decide))
     exact Yk.cell1 sha9_ty93 rfl e161 (cellAt (eb hC hb64l) (word_at (i := r) (by rw [hFl]; omega))) ⟨Ext.refl _, rfl⟩
    ·refine stepN rfl fun σ w1 hC h => ?_
     have e159 := eqo (h 159 (by decide))
     have e162 := eqo (h 162 (by decide))
     exact Yk.bin e159 e162 rfl (u_add _ _ _) ⟨Ext.refl _, rfl⟩
    ·refine stepN rfl fun σ w1 hC h => ?_
     have e163 := eqo (h 163 (by decide))
     exact Yk.assign e163 ⟨Ext.refl _, rfl⟩
   intro ρ121 w122 hx123 he hf
   obtain ⟨-, -, -, -, -, -, -, -, -, -, -, -, -, -, -, -, -, -, -, -, -, -, -, -, -, -, k19, -⟩ := hf
   obtain ⟨T0, T2, T3, T4, T5, T6, T7, T10, T11, T12, T13, T14, T15, T16, T17, T18, -⟩ := he.hold [(0, _), (2, _), (3, _), (4, _), (5, _), (6, _), (7, _), (10, _), (11, _), (12, _), (13, _), (14, _), (15, _), (16, _), (17, _), (18, _)] ⟨T0, T2, T3, T4, T5, T6, T7, T10, T11, T12, T13, T14, T15, T16, T17, T18, trivial⟩ rfl
   clear he
   have hE := hE.trans hx123
   have hb8 := eb hx123 hb8
   have hA17 := hA17.trans hx123
   have ho39 := Stab.own _ _ _ _ _ _ _ _ ho39 hx123
   have hb21l := eb hx123 hb21l
   have hA56 := hA56.trans hx123
   have hb64l := eb hx123 hb64l
   have T19 : ρ121 19 = U ((((((Sha.turned Sj F r).getD 7 0) + (((Sha.rotr ((Sha.turned Sj F r).getD 4 0) 6) ^^^ (Sha.rotr ((Sha.turned Sj F r).getD 4 0) 11)) ^^^ (Sha.rotr ((Sha.turned Sj F r).getD 4 0) 25))) + ((((Sha.turned Sj F r).getD 4 0) &&& ((Sha.turned Sj F r).getD 5 0)) ^^^ ((~~~((Sha.turned Sj F r).getD 4 0)) &&& ((Sha.turned Sj F r).getD 6 0)))) + (Sha.words.getD (r) 0)) + ((F).getD (r) 0)) := k19
   clear k19
   refine tN (hK120 _ _ (sk fun K124 hK124 => (wt (oM rfl (oS rfl (Yk.callA2 sha9_pl59 T10 (vr (.int .u64 ((2 : Nat) : Int)) rfl) ((rot_any _ ((Sha.turned Sj F r).getD 0 0) 2 (by decide) (by decide)).mono ?_)))))))
   rintro e w126 ⟨rfl, hx125⟩
   refine ⟨_, rfl, ?_⟩
   have hE := hE.trans hx125
   have hb8 := eb hx125 hb8
   have hA17 := hA17.trans hx125
   have ho39 := Stab.own _ _ _ _ _ _ _ _ ho39 hx125
   have hb21l := eb hx125 hb21l
   have hA56 := hA56.trans hx125
   have hb64l := eb hx125 hb64l
   refine oM rfl (oS rfl (Yk.callA2 sha9_pl59 T10 (vr (.int .u64 ((13 : Nat) : Int)) rfl) ((rot_any _ ((Sha.turned Sj F r).getD 0 0) 13 (by decide) (by decide)).mono ?_)))
   rintro e w128 ⟨rfl, hx127⟩
   refine ⟨_, rfl, ?_⟩
   have hE := hE.trans hx127
   have hb8 := eb hx127 hb8
   have hA17 := hA17.trans hx127
   have ho39 := Stab.own _ _ _ _ _ _ _ _ ho39 hx127
   have hb21l := eb hx127 hb21l
   have hA56 := hA56.trans hx127
   have hb64l := eb hx127 hb64l
   refine oS rfl (Yk.bin (vr (U (Sha.rotr ((Sha.turned Sj F r).getD 0 0) 2)) rfl) (vr (U (Sha.rotr ((Sha.turned Sj F r).getD 0 0) 13)) rfl) rfl (u_xor _ _ _) (oM rfl (oS rfl (Yk.callA2 sha9_pl59 T10 (vr (.int .u64 ((22 : Nat) : Int)) rfl) ((rot_any _ ((Sha.turned Sj F r).getD 0 0) 22 (by decide) (by decide)).mono ?_)))))
   rintro e w130 ⟨rfl, hx129⟩
   refine ⟨_, rfl, ?_⟩
   have hE := hE.trans hx129
   have hb8 := eb hx129 hb8
   have hA17 := hA17.trans hx129
   have ho39 := Stab.own _ _ _ _ _ _ _ _ ho39 hx129
   have hb21l := eb hx129 hb21l
   have hA56 := hA56.trans hx129
   have hb64l := eb hx129 hb64l
   refine oS rfl (Yk.bin (vr (U ((Sha.rotr ((Sha.turned Sj F r).getD 0 0) 2) ^^^ (Sha.rotr ((Sha.turned Sj F r).getD 0 0) 13))) rfl) (vr (U (Sha.rotr ((Sha.turned Sj F r).getD 0 0) 22)) rfl) rfl (u_xor _ _ _) (oM rfl (oM rfl (oS rfl (Yk.bin T10 T11 rfl (u_and _ _ _) (oM rfl (oM rfl (oS rfl (Yk.bin T10 T12 rfl (u_and _ _ _) (oS rfl (Yk.bin (vr (U (((Sha.turned Sj F r).getD 0 0) &&& ((Sha.turned Sj F r).getD 1 0))) rfl) (vr (U (((Sha.turned Sj F r).getD 0 0) &&& ((Sha.turned Sj F r).getD 2 0))) rfl) rfl (u_xor _ _ _) (oM rfl (oM rfl (oS rfl (Yk.bin T11 T12 rfl (u_and _ _ _) (oS rfl (Yk.bin (vr (U ((((Sha.turned Sj F r).getD 0 0) &&& ((Sha.turned Sj F r).getD 1 0)) ^^^ (((Sha.turned Sj F r).getD 0 0) &&& ((Sha.turned Sj F r).getD 2 0)))) rfl) (vr (U (((Sha.turned Sj F r).getD 1 0) &&& ((Sha.turned Sj F r).getD 2 0))) rfl) rfl (u_xor _ _ _) (oS rfl (Yk.bin (vr (U (((Sha.rotr ((Sha.turned Sj F r).getD 0 0) 2) ^^^ (Sha.rotr ((Sha.turned Sj F r).getD 0 0) 13)) ^^^ (Sha.rotr ((Sha.turned Sj F r).getD 0 0) 22))) rfl) (vr (U (((((Sha.turned Sj F r).getD 0 0) &&& ((Sha.turned Sj F r).getD 1 0)) ^^^ (((Sha.turned Sj F r).getD 0 0) &&& ((Sha.turned Sj F r).getD 2 0))) ^^^ (((Sha.turned Sj F r).getD 1 0) &&& ((Sha.turned Sj F r).getD 2 0)))) rfl) rfl (u_add _ _ _) (oA rfl (oZ (tN (hK124 _ _ ?_)))))))))))))))))))))))
   refine wt (oM rfl (oM rfl (oM rfl (oM rfl (oM rfl (oS rfl (Yk.bin T13 T19 rfl (u_add _ _ _) (oM rfl (oM rfl (oM rfl (oM rfl (oM rfl (oS rfl (Yk.bin T19 (vr (U ((((Sha.rotr ((Sha.turned Sj F r).getD 0 0) 2) ^^^ (Sha.rotr ((Sha.turned Sj F r).getD 0 0) 13)) ^^^ (Sha.rotr ((Sha.turned Sj F r).getD 0 0) 22)) + (((((Sha.turned Sj F r).getD 0 0) &&& ((Sha.turned Sj F r).getD 1 0)) ^^^ (((Sha.turned Sj F r).getD 0 0) &&& ((Sha.turned Sj F r).getD 2 0))) ^^^ (((Sha.turned Sj F r).getD 1 0) &&& ((Sha.turned Sj F r).getD 2 0))))) rfl) rfl (u_add _ _ _) (oA rfl (oA rfl (oA rfl ?_)))))))))))))))))
   refine oA rfl (oA rfl (oA rfl (oA rfl (oA rfl (oL_ [(0, v), (2, PQ n2 0), (3, PQ n11 0), (4, v29), (5, NI (64 * j)), (6, PQ n50 0), (7, NI t), (10, U (((((((Sha.turned Sj F r).getD 7 0) + (((Sha.rotr ((Sha.turned Sj F r).getD 4 0) 6) ^^^ (Sha.rotr ((Sha.turned Sj F r).getD 4 0) 11)) ^^^ (Sha.rotr ((Sha.turned Sj F r).getD 4 0) 25))) + ((((Sha.turned Sj F r).getD 4 0) &&& ((Sha.turned Sj F r).getD 5 0)) ^^^ ((~~~((Sha.turned Sj F r).getD 4 0)) &&& ((Sha.turned Sj F r).getD 6 0)))) + (Sha.words.getD (r) 0)) + ((F).getD (r) 0)) + ((((Sha.rotr ((Sha.turned Sj F r).getD 0 0) 2) ^^^ (Sha.rotr ((Sha.turned Sj F r).getD 0 0) 13)) ^^^ (Sha.rotr ((Sha.turned Sj F r).getD 0 0) 22)) + (((((Sha.turned Sj F r).getD 0 0) &&& ((Sha.turned Sj F r).getD 1 0)) ^^^ (((Sha.turned Sj F r).getD 0 0) &&& ((Sha.turned Sj F r).getD 2 0))) ^^^ (((Sha.turned Sj F r).getD 1 0) &&& ((Sha.turned Sj F r).getD 2 0)))))), (11, U ((Sha.turned Sj F r).getD 0 0)), (12, U ((Sha.turned Sj F r).getD 1 0)), (13, U ((Sha.turned Sj F r).getD 2 0)), (14, U (((Sha.turned Sj F r).getD 3 0) + ((((((Sha.turned Sj F r).getD 7 0) + (((Sha.rotr ((Sha.turned Sj F r).getD 4 0) 6) ^^^ (Sha.rotr ((Sha.turned Sj F r).getD 4 0) 11)) ^^^ (Sha.rotr ((Sha.turned Sj F r).getD 4 0) 25))) + ((((Sha.turned Sj F r).getD 4 0) &&& ((Sha.turned Sj F r).getD 5 0)) ^^^ ((~~~((Sha.turned Sj F r).getD 4 0)) &&& ((Sha.turned Sj F r).getD 6 0)))) + (Sha.words.getD (r) 0)) + ((F).getD (r) 0)))), (15, U ((Sha.turned Sj F r).getD 4 0)), (16, U ((Sha.turned Sj F r).getD 5 0)), (17, U ((Sha.turned Sj F r).getD 6 0)), (18, NI r), (19, U ((((((Sha.turned Sj F r).getD 7 0) + (((Sha.rotr ((Sha.turned Sj F r).getD 4 0) 6) ^^^ (Sha.rotr ((Sha.turned Sj F r).getD 4 0) 11)) ^^^ (Sha.rotr ((Sha.turned Sj F r).getD 4 0) 25))) + ((((Sha.turned Sj F r).getD 4 0) &&& ((Sha.turned Sj F r).getD 5 0)) ^^^ ((~~~((Sha.turned Sj F r).getD 4 0)) &&& ((Sha.turned Sj F r).getD 6 0)))) + (Sha.words.getD (r) 0)) + ((F).getD (r) 0))), (20, U ((((Sha.rotr ((Sha.turned Sj F r).getD 0 0) 2) ^^^ (Sha.rotr ((Sha.turned Sj F r).getD 0 0) 13)) ^^^ (Sha.rotr ((Sha.turned Sj F r).getD 0 0) 22)) + (((((Sha.turned Sj F r).getD 0 0) &&& ((Sha.turned Sj F r).getD 1 0)) ^^^ (((Sha.turned Sj F r).getD 0 0) &&& ((Sha.turned Sj F r).getD 2 0))) ^^^ (((Sha.turned Sj F r).getD 1 0) &&& ((Sha.turned Sj F r).getD 2 0)))))] ⟨T0, T2, T3, T4, T5, T6, T7, rfl, T10, T11, T12, rfl, T14, T15, T16, T18, T19, rfl, trivial⟩ fun ρ131 ⟨T0, T2, T3, T4, T5, T6, T7, T10, T11, T12, T13, T14, T15, T16, T17, T18, T19, T20, _⟩ => (bN (tN (hK119 _ _ (wt (oM rfl (oS rfl (Yk.bin (xv := NI r) (yv := NI 1) T18 rfl rfl (i64_add _ _ _ (by omega)) (oA rfl (oL_ [(0, v), (2, PQ n2 0), (3, PQ n11 0), (4, v29), (5, NI (64 * j)), (6, PQ n50 0), (7, NI t), (10, U (((((((Sha.turned Sj F r).getD 7 0) + (((Sha.rotr ((Sha.turned Sj F r).getD 4 0) 6) ^^^ (Sha.rotr ((Sha.turned Sj F r).getD 4 0) 11)) ^^^ (Sha.rotr ((Sha.turned Sj F r).getD 4 0) 25))) + ((((Sha.turned Sj F r).getD 4 0) &&& ((Sha.turned Sj F r).getD 5 0)) ^^^ ((~~~((Sha.turned Sj F r).getD 4 0)) &&& ((Sha.turned Sj F r).getD 6 0)))) + (Sha.words.getD (r) 0)) + ((F).getD (r) 0)) + ((((Sha.rotr ((Sha.turned Sj F r).getD 0 0) 2) ^^^ (Sha.rotr ((Sha.turned Sj F r).getD 0 0) 13)) ^^^ (Sha.rotr ((Sha.turned Sj F r).getD 0 0) 22)) + (((((Sha.turned Sj F r).getD 0 0) &&& ((Sha.turned Sj F r).getD 1 0)) ^^^ (((Sha.turned Sj F r).getD 0 0) &&& ((Sha.turned Sj F r).getD 2 0))) ^^^ (((Sha.turned Sj F r).getD 1 0) &&& ((Sha.turned Sj F r).getD 2 0)))))), (11, U ((Sha.turned Sj F r).getD 0 0)), (12, U ((Sha.turned Sj F r).getD 1 0)), (13, U ((Sha.turned Sj F r).getD 2 0)), (14, U (((Sha.turned Sj F r).getD 3 0) + ((((((Sha.turned Sj F r).getD 7 0) + (((Sha.rotr ((Sha.turned Sj F r).getD 4 0) 6) ^^^ (Sha.rotr ((Sha.turned Sj F r).getD 4 0) 11)) ^^^ (Sha.rotr ((Sha.turned Sj F r).getD 4 0) 25))) + ((((Sha.turned Sj F r).getD 4 0) &&& ((Sha.turned Sj F r).getD 5 0)) ^^^ ((~~~((Sha.turned Sj F r).getD 4 0)) &&& ((Sha.turned Sj F r).getD 6 0)))) + (Sha.words.getD (r) 0)) + ((F).getD (r) 0)))), (15, U ((Sha.turned Sj F r).getD 4 0)), (16, U ((Sha.turned Sj F r).getD 5 0)), (17, U ((Sha.turned Sj F r).getD 6 0)), (18, NI ((r) + (1))), (19, U ((((((Sha.turned Sj F r).getD 7 0) + (((Sha.rotr ((Sha.turned Sj F r).getD 4 0) 6) ^^^ (Sha.rotr ((Sha.turned Sj F r).getD 4 0) 11)) ^^^ (Sha.rotr ((Sha.turned Sj F r).getD 4 0) 25))) + ((((Sha.turned Sj F r).getD 4 0) &&& ((Sha.turned Sj F r).getD 5 0)) ^^^ ((~~~((Sha.turned Sj F r).getD 4 0)) &&& ((Sha.turned Sj F r).getD 6 0)))) + (Sha.words.getD (r) 0)) + ((F).getD (r) 0))), (20, U ((((Sha.rotr ((Sha.turned Sj F r).getD 0 0) 2) ^^^ (Sha.rotr ((Sha.turned Sj F r).getD 0 0) 13)) ^^^ (Sha.rotr ((Sha.turned Sj F r).getD 0 0) 22)) + (((((Sha.turned Sj F r).getD 0 0) &&& ((Sha.turned Sj F r).getD 1 0)) ^^^ (((Sha.turned Sj F r).getD 0 0) &&& ((Sha.turned Sj F r).getD 2 0))) ^^^ (((Sha.turned Sj F r).getD 1 0) &&& ((Sha.turned Sj F r).getD 2 0)))))] ⟨T0, T2, T3, T4, T5, T6, T7, T10, T11, T12, T13, T14, T15, T16, T17, rfl, T19, T20, trivial⟩ fun ρ132 ⟨T0, T2, T3, T4, T5, T6, T7, T10, T11, T12, T13, T14, T15, T16, T17, T18, T19, T20, _⟩ => ?_))))))))))))))
   refine tN (And.intro ⟨r + 1, T0, T2, T3, T4, T5, T6, T7, T18, T10.trans (congrArg (fun z => U z) (UInt32.add_assoc _ _ _).symm), T11, T12, T13, T14, T15, T16, T17, hE, hb8, hA17, ho39, hb21l, hA56, hb64l, by omega, trivial⟩ ?_)
   show 64 - (intOf (ρ132 18)).toNat < 64 - (intOf (ρ114 18)).toNat
   rw [T18, q18]
   simp only [intOf, Int.toNat_natCast]; omega
  obtain ⟨T, hT⟩ : ∃ T, T = Sha.turned Sj F 64 := ⟨_, rfl⟩
  have hTl : T.length = 8 := by rw [hT, Sha.turned_length _ _ hSl]
  have hr64e : r = 64 := by omega
  rw [hr64e, ← hT] at T10 T11 T12 T13 T14 T15 T16 T17
  refine wpF_exit (thenF_exit (thenF_exit (inBlockF_hit (tN (hK111 _ _ (sk fun K133 hK133 => (wt (oS rfl (Yk.atArr0 (i := 0) sha9_ty94 sha9_sz93 T3 (vr (NI 0) rfl) (by omega) (oS rfl (Yk.cell1 sha9_ty93 rfl (vr (PQ n11 0) rfl) (cellAt hb21l (word_at (i := 0) (by rw [hSl]; omega))) (oM rfl (oS rfl (Yk.bin (vr (U ((Sj).getD (0) 0)) rfl) T10 rfl (u_add _ _ _) (oS rfl (Yk.atArr0 (i := 0) sha9_ty94 sha9_sz93 T3 (vr (NI 0) rfl) (by omega) (oS rfl (Yk.storeU32 (i := 0) (v := ((Sj).getD (0) 0) + (T.getD 0 0)) (vr (PQ n11 0) rfl) (vr (U (((Sj).getD (0) 0) + (T.getD 0 0))) rfl) hb21l (by rw [hSl]; omega) sha9_isz93 fun w134 hb135 hg136 hs137 => ?_))))))))))))))))))
  have hE := row_fresh hE hg136 (Nat.le_trans hz19 (by omega))
  have hb8 := kb hg136 hb8 (by omega)
  have hA17 := row_fresh hA17 hg136 (Nat.le_trans (Nat.le_refl _) (by omega))
  have ho39 := own_kept ho39 hg136 hap38
  clear hA56
  have hb64l := kb hg136 hb64l (by omega)
  clear hb21l
  have hb21l := hb135; clear hb135
  have hl138 := bl hb21l
  refine oZ ?_
  have hb21l : w134.heap[n11]? = some (.cells ((Sha.adding Sj T 1).map fun x => U x).toArray 94 (0, 0)) := blk_eq hb21l (rfl)
  refine tN (hK133 _ _ (sk fun K139 hK139 => (wt (oS rfl (Yk.atArr0 (i := 1) sha9_ty94 sha9_sz93 T3 (vr (NI 1) rfl) (by omega) (oS rfl (Yk.cell1 sha9_ty93 rfl (vr (PQ n11 1) rfl) (cellAt hb21l (word_at (i := 1) (by rw [Sha.adding_length, hSl]; omega))) (oM rfl (oS rfl (Yk.bin (vr (U ((Sha.adding Sj T 1).getD (1) 0)) rfl) T11 rfl (u_add _ _ _) (oS rfl (Yk.atArr0 (i := 1) sha9_ty94 sha9_sz93 T3 (vr (NI 1) rfl) (by omega) (oS rfl (Yk.storeU32 (i := 1) (v := ((Sha.adding Sj T 1).getD (1) 0) + (T.getD 1 0)) (vr (PQ n11 1) rfl) (vr (U (((Sha.adding Sj T 1).getD (1) 0) + (T.getD 1 0))) rfl) hb21l (by rw [Sha.adding_length, hSl]; omega) sha9_isz93 fun w140 hb141 hg142 hs143 => ?_))))))))))))))
  have hE := row_fresh hE hg142 (Nat.le_trans hz19 (by omega))
  have hb8 := kb hg142 hb8 (by omega)
  have hA17 := row_fresh hA17 hg142 (Nat.le_trans (Nat.le_refl _) (by omega))
  have ho39 := own_kept ho39 hg142 hap38
  have hb64l := kb hg142 hb64l (by omega)
  clear hb21l
  have hb21l := hb141; clear hb141
  have hl144 := bl hb21l
  refine oZ ?_
  have hb21l : w140.heap[n11]? = some (.cells ((Sha.adding Sj T 2).map fun x => U x).toArray 94 (0, 0)) := blk_eq hb21l (rfl)
  refine tN (hK139 _ _ (sk fun K145 hK145 => (wt (oS rfl (Yk.atArr0 (i := 2) sha9_ty94 sha9_sz93 T3 (vr (NI 2) rfl) (by omega) (oS rfl (Yk.cell1 sha9_ty93 rfl (vr (PQ n11 2) rfl) (cellAt hb21l (word_at (i := 2) (by rw [Sha.adding_length, hSl]; omega))) (oM rfl (oS rfl (Yk.bin (vr (U ((Sha.adding Sj T 2).getD (2) 0)) rfl) T12 rfl (u_add _ _ _) (oS rfl (Yk.atArr0 (i := 2) sha9_ty94 sha9_sz93 T3 (vr (NI 2) rfl) (by omega) (oS rfl (Yk.storeU32 (i := 2) (v := ((Sha.adding Sj T 2).getD (2) 0) + (T.getD 2 0)) (vr (PQ n11 2) rfl) (vr (U (((Sha.adding Sj T 2).getD (2) 0) + (T.getD 2 0))) rfl) hb21l (by rw [Sha.adding_length, hSl]; omega) sha9_isz93 fun w146 hb147 hg148 hs149 => ?_))))))))))))))
  have hE := row_fresh hE hg148 (Nat.le_trans hz19 (by omega))
  have hb8 := kb hg148 hb8 (by omega)
  have hA17 := row_fresh hA17 hg148 (Nat.le_trans (Nat.le_refl _) (by omega))
  have ho39 := own_kept ho39 hg148 hap38
  have hb64l := kb hg148 hb64l (by omega)
  clear hb21l
  have hb21l := hb147; clear hb147
  have hl150 := bl hb21l
  refine oZ ?_
  have hb21l : w146.heap[n11]? = some (.cells ((Sha.adding Sj T 3).map fun x => U x).toArray 94 (0, 0)) := blk_eq hb21l (rfl)
  refine tN (hK145 _ _ (sk fun K151 hK151 => (wt (oS rfl (Yk.atArr0 (i := 3) sha9_ty94 sha9_sz93 T3 (vr (NI 3) rfl) (by omega) (oS rfl (Yk.cell1 sha9_ty93 rfl (vr (PQ n11 3) rfl) (cellAt hb21l (word_at (i := 3) (by rw [Sha.adding_length, hSl]; omega))) (oM rfl (oS rfl (Yk.bin (vr (U ((Sha.adding Sj T 3).getD (3) 0)) rfl) T13 rfl (u_add _ _ _) (oS rfl (Yk.atArr0 (i := 3) sha9_ty94 sha9_sz93 T3 (vr (NI 3) rfl) (by omega) (oS rfl (Yk.storeU32 (i := 3) (v := ((Sha.adding Sj T 3).getD (3) 0) + (T.getD 3 0)) (vr (PQ n11 3) rfl) (vr (U (((Sha.adding Sj T 3).getD (3) 0) + (T.getD 3 0))) rfl) hb21l (by rw [Sha.adding_length, hSl]; omega) sha9_isz93 fun w152 hb153 hg154 hs155 => ?_))))))))))))))
  have hE := row_fresh hE hg154 (Nat.le_trans hz19 (by omega))
  have hb8 := kb hg154 hb8 (by omega)
  have hA17 := row_fresh hA17 hg154 (Nat.le_trans (Nat.le_refl _) (by omega))
  have ho39 := own_kept ho39 hg154 hap38
  have hb64l := kb hg154 hb64l (by omega)
  clear hb21l
  have hb21l := hb153; clear hb153
  have hl156 := bl hb21l
  refine oZ ?_
  have hb21l : w152.heap[n11]? = some (.cells ((Sha.adding Sj T 4).map fun x => U x).toArray 94 (0, 0)) := blk_eq hb21l (rfl)
  refine tN (hK151 _ _ (sk fun K157 hK157 => (wt (oS rfl (Yk.atArr0 (i := 4) sha9_ty94 sha9_sz93 T3 (vr (NI 4) rfl) (by omega) (oS rfl (Yk.cell1 sha9_ty93 rfl (vr (PQ n11 4) rfl) (cellAt hb21l (word_at (i := 4) (by rw [Sha.adding_length, hSl]; omega))) (oM rfl (oS rfl (Yk.bin (vr (U ((Sha.adding Sj T 4).getD (4) 0)) rfl) T14 rfl (u_add _ _ _) (oS rfl (Yk.atArr0 (i := 4) sha9_ty94 sha9_sz93 T3 (vr (NI 4) rfl) (by omega) (oS rfl (Yk.storeU32 (i := 4) (v := ((Sha.adding Sj T 4).getD (4) 0) + (T.getD 4 0)) (vr (PQ n11 4) rfl) (vr (U (((Sha.adding Sj T 4).getD (4) 0) + (T.getD 4 0))) rfl) hb21l (by rw [Sha.adding_length, hSl]; omega) sha9_isz93 fun w158 hb159 hg160 hs161 => ?_))))))))))))))
  have hE := row_fresh hE hg160 (Nat.le_trans hz19 (by omega))
  have hb8 := kb hg160 hb8 (by omega)
  have hA17 := row_fresh hA17 hg160 (Nat.le_trans (Nat.le_refl _) (by omega))
  have ho39 := own_kept ho39 hg160 hap38
  have hb64l := kb hg160 hb64l (by omega)
  clear hb21l
  have hb21l := hb159; clear hb159
  have hl162 := bl hb21l
  refine oZ ?_
  have hb21l : w158.heap[n11]? = some (.cells ((Sha.adding Sj T 5).map fun x => U x).toArray 94 (0, 0)) := blk_eq hb21l (rfl)
  refine tN (hK157 _ _ (sk fun K163 hK163 => (wt (oS rfl (Yk.atArr0 (i := 5) sha9_ty94 sha9_sz93 T3 (vr (NI 5) rfl) (by omega) (oS rfl (Yk.cell1 sha9_ty93 rfl (vr (PQ n11 5) rfl) (cellAt hb21l (word_at (i := 5) (by rw [Sha.adding_length, hSl]; omega))) (oM rfl (oS rfl (Yk.bin (vr (U ((Sha.adding Sj T 5).getD (5) 0)) rfl) T15 rfl (u_add _ _ _) (oS rfl (Yk.atArr0 (i := 5) sha9_ty94 sha9_sz93 T3 (vr (NI 5) rfl) (by omega) (oS rfl (Yk.storeU32 (i := 5) (v := ((Sha.adding Sj T 5).getD (5) 0) + (T.getD 5 0)) (vr (PQ n11 5) rfl) (vr (U (((Sha.adding Sj T 5).getD (5) 0) + (T.getD 5 0))) rfl) hb21l (by rw [Sha.adding_length, hSl]; omega) sha9_isz93 fun w164 hb165 hg166 hs167 => ?_))))))))))))))
  have hE := row_fresh hE hg166 (Nat.le_trans hz19 (by omega))
  have hb8 := kb hg166 hb8 (by omega)
  have hA17 := row_fresh hA17 hg166 (Nat.le_trans (Nat.le_refl _) (by omega))
  have ho39 := own_kept ho39 hg166 hap38
  have hb64l := kb hg166 hb64l (by omega)
  clear hb21l
  have hb21l := hb165; clear hb165
  have hl168 := bl hb21l
  refine oZ ?_
  have hb21l : w164.heap[n11]? = some (.cells ((Sha.adding Sj T 6).map fun x => U x).toArray 94 (0, 0)) := blk_eq hb21l (rfl)
  refine tN (hK163 _ _ (sk fun K169 hK169 => (wt (oS rfl (Yk.atArr0 (i := 6) sha9_ty94 sha9_sz93 T3 (vr (NI 6) rfl) (by omega) (oS rfl (Yk.cell1 sha9_ty93 rfl (vr (PQ n11 6) rfl) (cellAt hb21l (word_at (i := 6) (by rw [Sha.adding_length, hSl]; omega))) (oM rfl (oS rfl (Yk.bin (vr (U ((Sha.adding Sj T 6).getD (6) 0)) rfl) T16 rfl (u_add _ _ _) (oS rfl (Yk.atArr0 (i := 6) sha9_ty94 sha9_sz93 T3 (vr (NI 6) rfl) (by omega) (oS rfl (Yk.storeU32 (i := 6) (v := ((Sha.adding Sj T 6).getD (6) 0) + (T.getD 6 0)) (vr (PQ n11 6) rfl) (vr (U (((Sha.adding Sj T 6).getD (6) 0) + (T.getD 6 0))) rfl) hb21l (by rw [Sha.adding_length, hSl]; omega) sha9_isz93 fun w170 hb171 hg172 hs173 => ?_))))))))))))))
  have hE := row_fresh hE hg172 (Nat.le_trans hz19 (by omega))
  have hb8 := kb hg172 hb8 (by omega)
  have hA17 := row_fresh hA17 hg172 (Nat.le_trans (Nat.le_refl _) (by omega))
  have ho39 := own_kept ho39 hg172 hap38
  have hb64l := kb hg172 hb64l (by omega)
  clear hb21l
  have hb21l := hb171; clear hb171
  have hl174 := bl hb21l
  refine oZ ?_
  have hb21l : w170.heap[n11]? = some (.cells ((Sha.adding Sj T 7).map fun x => U x).toArray 94 (0, 0)) := blk_eq hb21l (rfl)
  refine tN (hK169 _ _ (wt (oS rfl (Yk.atArr0 (i := 7) sha9_ty94 sha9_sz93 T3 (vr (NI 7) rfl) (by omega) (oS rfl (Yk.cell1 sha9_ty93 rfl (vr (PQ n11 7) rfl) (cellAt hb21l (word_at (i := 7) (by rw [Sha.adding_length, hSl]; omega))) (oM rfl (oS rfl (Yk.bin (vr (U ((Sha.adding Sj T 7).getD (7) 0)) rfl) T17 rfl (u_add _ _ _) (oS rfl (Yk.atArr0 (i := 7) sha9_ty94 sha9_sz93 T3 (vr (NI 7) rfl) (by omega) (oS rfl (Yk.storeU32 (i := 7) (v := ((Sha.adding Sj T 7).getD (7) 0) + (T.getD 7 0)) (vr (PQ n11 7) rfl) (vr (U (((Sha.adding Sj T 7).getD (7) 0) + (T.getD 7 0))) rfl) hb21l (by rw [Sha.adding_length, hSl]; omega) sha9_isz93 fun w175 hb176 hg177 hs178 => ?_)))))))))))))
  have hE := row_fresh hE hg177 (Nat.le_trans hz19 (by omega))
  have hb8 := kb hg177 hb8 (by omega)
  have hA17 := row_fresh hA17 hg177 (Nat.le_trans (Nat.le_refl _) (by omega))
  have ho39 := own_kept ho39 hg177 hap38
  have hb64l := kb hg177 hb64l (by omega)
  clear hb21l
  have hb21l := hb176; clear hb176
  have hl179 := bl hb21l
  refine oL_ [(0, v), (2, PQ n2 0), (3, PQ n11 0), (4, v29), (5, NI (64 * j)), (6, PQ n50 0), (7, NI t), (10, U (T.getD 0 0)), (11, U (T.getD 1 0)), (12, U (T.getD 2 0)), (13, U (T.getD 3 0)), (14, U (T.getD 4 0)), (15, U (T.getD 5 0)), (16, U (T.getD 6 0)), (17, U (T.getD 7 0)), (18, NI r)] ⟨T0, T2, T3, T4, T5, T6, T7, T10, T11, T12, T13, T14, T15, T16, T17, T18, trivial⟩ fun ρ180 ⟨T0, T2, T3, T4, T5, T6, T7, T10, T11, T12, T13, T14, T15, T16, T17, T18, _⟩ => ?_
  have hb21l : w175.heap[n11]? = some (.cells ((Sha.adding Sj T 8).map fun x => U x).toArray 94 (0, 0)) := blk_eq hb21l (rfl)
  refine bN (tN (hK48 _ _ (wt (oM rfl (oS rfl (Yk.bin (xv := NI (64 * j)) (yv := NI 64) T5 rfl rfl (i64_add _ _ _ (by omega)) (oA rfl (oL_ [(0, v), (2, PQ n2 0), (3, PQ n11 0), (4, v29), (5, NI ((64 * j) + (64))), (6, PQ n50 0), (7, NI t), (10, U (T.getD 0 0)), (11, U (T.getD 1 0)), (12, U (T.getD 2 0)), (13, U (T.getD 3 0)), (14, U (T.getD 4 0)), (15, U (T.getD 5 0)), (16, U (T.getD 6 0)), (17, U (T.getD 7 0)), (18, NI r)] ⟨T0, T2, T3, T4, rfl, T6, T7, T10, T11, T12, T13, T14, T15, T16, T17, T18, trivial⟩ fun ρ181 ⟨T0, T2, T3, T4, T5, T6, T7, T10, T11, T12, T13, T14, T15, T16, T17, T18, _⟩ => (tN (And.intro ⟨j + 1, T0, T2, T3, T4, T5, hE, hb8, hA17, ho39, blk_eq hb21l (congrArg (List.map fun x => U x) (by rw [Sha.add8 hSl hTl, hT, hF, Sha.blocks_snoc, ← hSj, ← hB]; rfl)), by omega, trivial⟩ ?_))))))))))
  show P.length - (intOf (ρ181 5)).toNat < P.length - (intOf (ρ43 5)).toNat
  rw [T5, q5]
  simp only [intOf, Int.toNat_natCast]; omega
 obtain ⟨Sf, hSe⟩ : ∃ Sf, Sf = Sha.blocks Sha.first P j := ⟨_, rfl⟩
 have hb21l : w44.heap[n11]? = some (.cells (Sf.map fun x => U x).toArray 94 (0, 0)) := blk_eq hb21l (by rw [hSe])
 have hSf : Sf.length = 8 := by rw [hSe, Sha.blocks_length _ _ _ rfl]
 have hjK : j = P.length / 64 := by omega
 refine wpF_exit (thenF_exit (thenF_exit (inBlockF_hit (tN (hK40 _ _ (sk fun K182 hK182 => (wt (oS rfl (Yk.alloc (cs := (Lib.byteCells (List.replicate 32 0)).toArray) sha9_al26 fun n183 w184 hn185 hb186 hx187 hs188 => ?_)))))))))
 have hA189 := Ext.refl w44
 have hea190 := hE
 have hea191 := hA17
 have hz192 := hE.size
 have hz193 := hA17.size
 have hlt194 := lte (bl hb8) hn185
 have hlt195 := lte (bl hb21l) hn185
 have hap196 : OB v29 n183 := own_newer ho39 (by omega)
 have hE := hE.trans hx187
 have hb8 := eb hx187 hb8
 have hA17 := hA17.trans hx187
 have ho39 := Stab.own _ _ _ _ _ _ _ _ ho39 hx187
 have hb21l := eb hx187 hb21l
 have hA189 := hA189.trans hx187
 have hb197 := hb186; clear hb186
 have hl198 : n183 < w184.heap.size := by omega
 refine oZ (tN (hK182 _ _ (sk fun K199 hK199 => (sk fun K200 hK200 => (wt (oA rfl (oL_ [(0, v), (2, PQ n2 0), (3, PQ n11 0), (4, v29), (5, NI (64 * j)), (21, PQ n183 0), (22, NI 0)] ⟨T0, T2, T3, T4, T5, rfl, rfl, trivial⟩ fun ρ201 ⟨T0, T2, T3, T4, T5, T21, T22, _⟩ => (tN (hK200 _ _ (wpF_block (wpF_loop (fun (ρ : Slots) (wz : World) => ∃ q : Nat, ρ 0 = (v : Value) ∧ ρ 2 = (PQ n2 0 : Value) ∧ ρ 3 = (PQ n11 0 : Value) ∧ ρ 4 = (v29 : Value) ∧ ρ 5 = (NI (64 * j) : Value) ∧ ρ 21 = (PQ n183 0 : Value) ∧ ρ 22 = (NI q : Value) ∧ Ext w wz ∧ wz.heap[n2]? = some (.cells (Lib.byteCells (List.replicate 32 0)).toArray 26 (0, 0)) ∧ Ext w3 wz ∧ wz.ownsRow w23.heap.size 5 1 v29 (P : List UInt8).length (Lib.byteCells (P)) ∧ wz.heap[n11]? = some (.cells (Sf.map fun x => U x).toArray 94 (0, 0)) ∧ Ext w44 wz ∧ wz.heap[n183]? = some (.cells (Lib.byteCells (Sha.outs Sf q)).toArray 26 (0, 0)) ∧ (q ≤ 8) ∧ True) (fun ρ _ => 8 - (intOf (ρ 22)).toNat) ⟨0, T0, T2, T3, T4, T5, T21, T22, hE, hb8, hA17, ho39, hb21l, hA189, blk_eq hb197 (rfl), Nat.zero_le _, trivial⟩ ?_)))))))))))
 clear hb197
 clear hE hb8 hA17 ho39 hb21l hA189
 rintro ρ202 w203 ⟨q, T0, T2, T3, T4, T5, T21, T22, hE, hb8, hA17, ho39, hb21l, hA189, hb197l, hq, -⟩
 have q22 := T22
 refine sk fun K204 hK204 => (sk fun K205 hK205 => (wt (oM rfl (oS rfl (Yk.eqI (a := (q : Nat)) (b := (8 : Nat)) T22 rfl (k_lss _ _ _ _) (oZ (tN (hK205 _ _ ?_))))))))
 refine wpF_cond ((q) < (8)) (vr (.bool (decide ((q) < (8)))) rfl) (fun hc4 => ?_) (fun hc4 => ?_)
 ·refine wpF_skip (tN (hK204 _ _ (sk fun K206 hK206 => (wpF_block (sk fun K207 hK207 => (wt (oM rfl (oS rfl (Yk.bin (xv := NI 4) (yv := NI q) rfl T22 rfl (i64_mul _ _ _ (by omega)) (oM rfl (oS rfl (Yk.atArr0 (i := q) sha9_ty94 sha9_sz93 T3 T22 (by omega) (oS rfl (Yk.cell1 sha9_ty93 rfl (vr (PQ n11 q) rfl) (cellAt hb21l (word_at (i := q) (by rw [hSf]; omega))) (oS rfl (Yk.bin (vr (U ((Sf).getD (q) 0)) rfl) (vr (.int .u64 ((24 : Nat) : Int)) rfl) rfl (u_shr _ _ _ 24 (by decide)) (oS rfl (Yk.narrow sha9_ty93 sha9_ty5 (vr (U (((Sf).getD (q) 0) >>> 24)) rfl) (oS rfl (Yk.atArr0 (i := (4) * (q)) sha9_ty26 sha9_sz5 T21 (vr (NI ((4) * (q))) rfl) (by omega) (oS rfl (Yk.storeB8 (i := (4) * (q)) (v := (((Sf).getD (q) 0) >>> 24).toUInt8) (vr (.pointer (some ⟨n183, (4) * (q), none⟩)) rfl) (vr (B8 ((((Sf).getD (q) 0) >>> 24).toUInt8)) rfl) hb197l (by rw [Sha.outs_length _ hSf _ (by omega)]; omega) sha9_isz5 fun w208 hb209 hg210 hs211 => ?_))))))))))))))))))))))
  have hE := row_fresh hE hg210 (Nat.le_trans hz192 (by omega))
  have hb8 := kb hg210 hb8 (by omega)
  have hA17 := row_fresh hA17 hg210 (Nat.le_trans hz193 (by omega))
  have ho39 := own_kept ho39 hg210 hap196
  have hb21l := kb hg210 hb21l (by omega)
  have hA189 := row_fresh hA189 hg210 (Nat.le_trans (Nat.le_refl _) (by omega))
  clear hb197l
  have hb197l := hb209; clear hb209
  have hl212 := bl hb197l
  refine oZ (tN (hK207 _ _ (sk fun K213 hK213 => (wt (oM rfl (oS rfl (Yk.bin (xv := NI 4) (yv := NI q) rfl T22 rfl (i64_mul _ _ _ (by omega)) (oS rfl (Yk.bin (xv := NI ((4) * (q))) (yv := NI 1) rfl rfl rfl (i64_add _ _ _ (by omega)) (oM rfl (oS rfl (Yk.atArr0 (i := q) sha9_ty94 sha9_sz93 T3 T22 (by omega) (oS rfl (Yk.cell1 sha9_ty93 rfl (vr (PQ n11 q) rfl) (cellAt hb21l (word_at (i := q) (by rw [hSf]; omega))) (oS rfl (Yk.bin (vr (U ((Sf).getD (q) 0)) rfl) (vr (.int .u64 ((16 : Nat) : Int)) rfl) rfl (u_shr _ _ _ 16 (by decide)) (oS rfl (Yk.narrow sha9_ty93 sha9_ty5 (vr (U (((Sf).getD (q) 0) >>> 16)) rfl) (oS rfl (Yk.atArr0 (i := ((4) * (q)) + (1)) sha9_ty26 sha9_sz5 T21 (vr (NI (((4) * (q)) + (1))) rfl) (by omega) (oS rfl (Yk.storeB8 (i := ((4) * (q)) + (1)) (v := (((Sf).getD (q) 0) >>> 16).toUInt8) (vr (.pointer (some ⟨n183, ((4) * (q)) + (1), none⟩)) rfl) (vr (B8 ((((Sf).getD (q) 0) >>> 16).toUInt8)) rfl) hb197l (by rw [List.length_set, Sha.outs_length _ hSf _ (by omega)]; omega) sha9_isz5 fun w214 hb215 hg216 hs217 => ?_))))))))))))))))))))))
  have hE := row_fresh hE hg216 (Nat.le_trans hz192 (by omega))
  have hb8 := kb hg216 hb8 (by omega)
  have hA17 := row_fresh hA17 hg216 (Nat.le_trans hz193 (by omega))
  have ho39 := own_kept ho39 hg216 hap196
  have hb21l := kb hg216 hb21l (by omega)
  have hA189 := row_fresh hA189 hg216 (Nat.le_trans (Nat.le_refl _) (by omega))
  clear hb197l
  have hb197l := hb215; clear hb215
  have hl218 := bl hb197l
  refine oZ (tN (hK213 _ _ (sk fun K219 hK219 => (wt (oM rfl (oS rfl (Yk.bin (xv := NI 4) (yv := NI q) rfl T22 rfl (i64_mul _ _ _ (by omega)) (oS rfl (Yk.bin (xv := NI ((4) * (q))) (yv := NI 2) rfl rfl rfl (i64_add _ _ _ (by omega)) (oM rfl (oS rfl (Yk.atArr0 (i := q) sha9_ty94 sha9_sz93 T3 T22 (by omega) (oS rfl (Yk.cell1 sha9_ty93 rfl (vr (PQ n11 q) rfl) (cellAt hb21l (word_at (i := q) (by rw [hSf]; omega))) (oS rfl (Yk.bin (vr (U ((Sf).getD (q) 0)) rfl) (vr (.int .u64 ((8 : Nat) : Int)) rfl) rfl (u_shr _ _ _ 8 (by decide)) (oS rfl (Yk.narrow sha9_ty93 sha9_ty5 (vr (U (((Sf).getD (q) 0) >>> 8)) rfl) (oS rfl (Yk.atArr0 (i := ((4) * (q)) + (2)) sha9_ty26 sha9_sz5 T21 (vr (NI (((4) * (q)) + (2))) rfl) (by omega) (oS rfl (Yk.storeB8 (i := ((4) * (q)) + (2)) (v := (((Sf).getD (q) 0) >>> 8).toUInt8) (vr (.pointer (some ⟨n183, ((4) * (q)) + (2), none⟩)) rfl) (vr (B8 ((((Sf).getD (q) 0) >>> 8).toUInt8)) rfl) hb197l (by rw [List.length_set, List.length_set, Sha.outs_length _ hSf _ (by omega)]; omega) sha9_isz5 fun w220 hb221 hg222 hs223 => ?_))))))))))))))))))))))
  have hE := row_fresh hE hg222 (Nat.le_trans hz192 (by omega))
  have hb8 := kb hg222 hb8 (by omega)
  have hA17 := row_fresh hA17 hg222 (Nat.le_trans hz193 (by omega))
  have ho39 := own_kept ho39 hg222 hap196
  have hb21l := kb hg222 hb21l (by omega)
  have hA189 := row_fresh hA189 hg222 (Nat.le_trans (Nat.le_refl _) (by omega))
  clear hb197l
  have hb197l := hb221; clear hb221
  have hl224 := bl hb197l
  refine oZ (tN (hK219 _ _ (wt (oM rfl (oS rfl (Yk.bin (xv := NI 4) (yv := NI q) rfl T22 rfl (i64_mul _ _ _ (by omega)) (oS rfl (Yk.bin (xv := NI ((4) * (q))) (yv := NI 3) rfl rfl rfl (i64_add _ _ _ (by omega)) (oM rfl (oS rfl (Yk.atArr0 (i := q) sha9_ty94 sha9_sz93 T3 T22 (by omega) (oS rfl (Yk.cell1 sha9_ty93 rfl (vr (PQ n11 q) rfl) (cellAt hb21l (word_at (i := q) (by rw [hSf]; omega))) (oS rfl (Yk.narrow sha9_ty93 sha9_ty5 (vr (U ((Sf).getD (q) 0)) rfl) (oS rfl (Yk.atArr0 (i := ((4) * (q)) + (3)) sha9_ty26 sha9_sz5 T21 (vr (NI (((4) * (q)) + (3))) rfl) (by omega) (oS rfl (Yk.storeB8 (i := ((4) * (q)) + (3)) (v := ((Sf).getD (q) 0).toUInt8) (vr (.pointer (some ⟨n183, ((4) * (q)) + (3), none⟩)) rfl) (vr (B8 (((Sf).getD (q) 0).toUInt8)) rfl) hb197l (by rw [List.length_set, List.length_set, List.length_set, Sha.outs_length _ hSf _ (by omega)]; omega) sha9_isz5 fun w225 hb226 hg227 hs228 => ?_)))))))))))))))))))
  have hE := row_fresh hE hg227 (Nat.le_trans hz192 (by omega))
  have hb8 := kb hg227 hb8 (by omega)
  have hA17 := row_fresh hA17 hg227 (Nat.le_trans hz193 (by omega))
  have ho39 := own_kept ho39 hg227 hap196
  have hb21l := kb hg227 hb21l (by omega)
  have hA189 := row_fresh hA189 hg227 (Nat.le_trans (Nat.le_refl _) (by omega))
  clear hb197l
  have hb197l := hb226; clear hb226
  have hl229 := bl hb197l
  refine oZ (bN (tN (hK206 _ _ (wt (oM rfl (oS rfl (Yk.bin (xv := NI q) (yv := NI 1) T22 rfl rfl (i64_add _ _ _ (by omega)) (oA rfl (oL_ [(0, v), (2, PQ n2 0), (3, PQ n11 0), (4, v29), (5, NI (64 * j)), (21, PQ n183 0), (22, NI ((q) + (1)))] ⟨T0, T2, T3, T4, T5, T21, rfl, trivial⟩ fun ρ230 ⟨T0, T2, T3, T4, T5, T21, T22, _⟩ => (tN (And.intro ⟨q + 1, T0, T2, T3, T4, T5, T21, T22, hE, hb8, hA17, ho39, hb21l, hA189, blk_eq hb197l (congrArg Lib.byteCells (Sha.outs_step Sf hSf q hc4)), by omega, trivial⟩ ?_)))))))))))
  show 8 - (intOf (ρ230 22)).toNat < 8 - (intOf (ρ202 22)).toNat
  rw [T22, q22]
  simp only [intOf, Int.toNat_natCast]; omega
 refine wpF_exit (thenF_exit (thenF_exit (inBlockF_hit (tN (hK199 _ _ (sk fun K231 hK231 => (wt (oS rfl (Yk.loadAll T21 hb197l sha9_ty26 rfl (by rw [List.size_toArray, Lib.byteCells_length, Sha.outs_length _ hSf _ (by omega)]; exact sha9_isz26) (oS rfl (Yk.storeAll T2 (vr (AB (Sha.outs Sf q)) rfl) hb8 (by rw [List.size_toArray, Lib.byteCells_length, Sha.outs_length _ hSf _ (by omega)]; rfl) (by rw [List.size_toArray, Lib.byteCells_length, Sha.outs_length _ hSf _ (by omega)]; exact sha9_isz26) (byteCells_one _) fun w232 hb233 hg234 hs235 => ?_)))))))))))
 have hE := row_fresh hE hg234 (Nat.le_trans (Nat.le_refl _) (by omega))
 clear hA17
 have ho39 := own_kept ho39 hg234 hap37
 have hb21l := kb hg234 hb21l (by omega)
 clear hA189
 have hb197l := kb hg234 hb197l (by omega)
 clear hb8
 have hb8 := hb233; clear hb233
 have hl236 := bl hb8
 refine oZ (tN (hK231 _ _ (wpF_ret (postF_ret (fn := Tryd.f34) _ rfl [AB (Sha.outs Sf q)] (AB (Sha.outs Sf q)) rfl ⟨ResF.row T2 hb8 sha9_ty26 rfl (by rw [List.size_toArray, Lib.byteCells_length, Sha.outs_length _ hSf _ (by omega)]; exact sha9_isz26), trivial⟩ ?_))))
 refine ⟨?_, hE⟩
 have e : Sha.outs Sf q = Sha.sum l := by rw [show q = 8 by omega, Sha.outs_all Sf hSf, hSe, hjK, hP]; rfl
 rw [e]
open Go.RowKit
set_option maxRecDepth 100000
set_option linter.unusedVariables false
set_option linter.unusedSimpArgs false
theorem put_len {D : Dsk} {b : List UInt8} {r : Dsk × List UInt8 × List UInt8 × Nat} (h : putL D b = r) : r.2.1.length = 32 := by
 have hf : ∀ x : Dsk × Nat, (finL x (Sha.sum b)).2.1.length = 32 := fun x => by
  unfold finL
  split
  ·rfl
  ·exact Sha.sum_length b
 subst h
 unfold putL
 split
 ·exact hf _
 split
 ·rfl
 split
 ·exact hf _
 split
 ·exact Sha.sum_length b
 ·exact hf _
section
variable (wb w : World) (g : Nat) (H : Dk) (D : Dsk) (hD : DkG wb w g H D) (hG : Laid wb)
include hD hG
theorem put_nm (vb : Value) (b : List UInt8) (hr : RB w vb b) (hoff : b = [] ∨ ∀ i, vb.ownBlock = some i → ¬ Foot H D.files.length i) (hbl : b.length ≤ 300) (n : Nat) (hB : DBd n D) (hn : n ≤ 99000) (r : Dsk × List UInt8 × List UInt8 × Nat) (hrr : putL D b = r) :
  Calls Tryd.prog 7 #[PQ g 0, vb] w fun e w' => ∃ H' vo, e = .returned (.tuple #[AB r.2.1, vo, NI r.2.2.2]) ∧ RB w' vo r.2.2.1 ∧ DkW wb w g H D w' H' r.1 := by
 subst hrr
 exact put_at wb w g H D hD hG vb b hr hoff hbl n hB hn
theorem get_nm (hL : DLt D) (id : List UInt8) (hid : id.length = 32) (r : List UInt8 × Nat) (hrr : getL D id = r) :
  Calls Tryd.prog 16 #[PQ g 0, AB id] w fun e w' => ∃ v, e = .returned (.tuple #[v, NI r.2]) ∧ RB w' v r.1 ∧ Ext w w' := by
 subst hrr
 exact get_at wb w g H D hD hG hL id hid
end
theorem sasc_len {a b : List (List UInt8)} {m : List (List UInt8)} (ha : SAsc a) (hb : SAsc b) (h1 : ∀ x, x ∈ a ↔ x ∈ m) (h2 : ∀ x, x ∈ b ↔ x ∈ m) : a.length = b.length := by
 have hn : ∀ {l : List (List UInt8)}, SAsc l → l.Nodup := fun h => h.imp fun hab e => by rw [e, cmp_self] at hab; omega
 exact ((List.perm_ext_iff_of_nodup (hn ha) (hn hb)).2 fun x => (h1 x).trans (h2 x).symm).length_eq
theorem sasc_one {a : List (List UInt8)} {m : List (List UInt8)} {x : List UInt8} (ha : SAsc a) (h1 : ∀ y, y ∈ a ↔ y ∈ m) (hm : m = [x]) : a = [x] := by
 subst hm
 have h2 := sasc_len ha (List.pairwise_singleton _ x) h1 (fun _ => Iff.rfl)
 match a, h2 with
 | [y], _ => rw [List.mem_singleton.1 ((h1 y).1 (List.mem_singleton.2 rfl))]
def aid1 : List UInt8 := 1 :: List.replicate 31 0
theorem abc_sum : (Sha.sum [97, 98, 99]).getD 0 0 = 186 := by decide +kernel
theorem awP {r : Dsk × List UInt8 × List UInt8 × Nat} (h : putL (newD 1000) [97, 98, 99] = r) :
  DLt r.1 ∧ (listD r.1).length ≤ 100000 ∧ r.2.2.2 = 0 ∧ r.2.1 = Sha.sum [97, 98, 99] ∧ getL r.1 r.2.1 = ([97, 98, 99], 0) ∧ (getL r.1 aid1).2 = 12 ∧ idsL r.1 = [r.2.1] := by
 have hm : mayD (nmO (Sha.sum [97, 98, 99])) = true := nmO_may (Sha.sum_length _)
 have r0 : ReadyL (newD 1000) := ⟨rfl, rfl, ⟨DirOk.nil _, DirOk.nil _, (fun _ h => by cases h), (fun _ h => by cases h)⟩, List.Pairwise.nil⟩
 have hb : DBd 0 (newD 1000) := DBd.new (by decide)
 have e1 : appendD (newD 1000) (nmO (Sha.sum [97, 98, 99])) [97, 98, 99] = (addD (newD 1000) (nmO (Sha.sum [97, 98, 99])) [97, 98, 99], 0) := append_ok rfl rfl hm (by decide)
 have hbD := (DBd.append hb (nmO (Sha.sum [97, 98, 99])) (b := [97, 98, 99]) (by decide)).sync (nmO (Sha.sum [97, 98, 99]))
 rw [e1] at hbD
 have hnow : (addD (newD 1000) (nmO (Sha.sum [97, 98, 99])) [97, 98, 99]).now = [(nmO (Sha.sum [97, 98, 99]), 0)] := by
  rw [addL_new rfl]
  show turnD [] ⟨[], nmO (Sha.sum [97, 98, 99]), 0⟩ = _
  unfold turnD
  rw [if_neg (by have := (mayD_pos hm).1; show ¬ (nmO (Sha.sum [97, 98, 99])).length = 0; omega)]
  rfl
 obtain ⟨l1, l2⟩ := add_look (D := newD 1000) (b := [97, 98, 99]) hm rfl
 have e2 := sync_ok (r0.add hm [97, 98, 99]).down (r0.add hm [97, 98, 99]).arm hm l1
 obtain ⟨-, hSy⟩ := Sy.sync (r0.add hm [97, 98, 99]) hm l1
 rw [l2] at hSy
 have hp : putL (newD 1000) [97, 98, 99] = ((syncD (addD (newD 1000) (nmO (Sha.sum [97, 98, 99])) [97, 98, 99]) (nmO (Sha.sum [97, 98, 99]))).1, Sha.sum [97, 98, 99], [], 0) := by
  unfold putL
  rw [read_none rfl hm rfl, if_pos rfl, step_zero (a := .add _) (by show (appendD _ _ _).2 = 0; rw [e1])]
  show finL (stepsD (appendD _ _ _).1 _ _) _ = _
  rw [e1, step_zero (a := .sync) (by show (syncD _ _).2 = 0; rw [e2])]
  show finL ((syncD _ _).1, 0) _ = _
  exact fin_ok _ _
 rw [hp] at h
 subst h
 have hnow2 : (syncD (addD (newD 1000) (nmO (Sha.sum [97, 98, 99])) [97, 98, 99]) (nmO (Sha.sum [97, 98, 99]))).1.now = [(nmO (Sha.sum [97, 98, 99]), 0)] := by rw [e2]; exact hnow
 generalize (syncD (addD (newD 1000) (nmO (Sha.sum [97, 98, 99])) [97, 98, 99]) (nmO (Sha.sum [97, 98, 99]))).1 = E at *
 have hr : readD E (nmO (Sha.sum [97, 98, 99])) = ([97, 98, 99], 0) := by rw [read_ok hSy.down hm hSy.now, hSy.file]
 have hg : getL E (Sha.sum [97, 98, 99]) = ([97, 98, 99], 0) := by
  unfold getL
  rw [hr, if_neg (fun q => q.elim (by decide) fun q => q.2 rfl)]
 have hl : listD E = [nmO (Sha.sum [97, 98, 99])] := by
  unfold listD
  rw [if_neg (by rw [hSy.down]; decide), hnow2]
  rfl
 have hc : cutP [111, 45] (nmO (Sha.sum [97, 98, 99])) = (hexOf (Sha.sum [97, 98, 99]), true) := rfl
 refine ⟨hbD.lt (by decide), by rw [hl]; decide, rfl, rfl, hg, ?_, ?_⟩
 ·have hne : nmO aid1 ≠ nmO (Sha.sum [97, 98, 99]) := fun q => by
   have q1 : hexOf aid1 = hexOf (Sha.sum [97, 98, 99]) := List.append_cancel_left q
   have q2 := unhex_hexOf aid1 rfl
   rw [q1, unhex_hexOf _ (Sha.sum_length _)] at q2
   have q3 := congrArg (fun x : List UInt8 × Bool => x.1.getD 0 0) q2
   have q4 : (Sha.sum [97, 98, 99]).getD 0 0 = 1 := q3
   rw [abc_sum] at q4
   cases q4
  have hn : lookD E.now (nmO aid1) = none := by
   rw [hnow2, look_cons, if_neg (fun q => hne q.symm)]
   rfl
  unfold getL
  rw [read_none hSy.down (nmO_may rfl) hn, if_pos (.inl rfl)]
 ·unfold idsL
  rw [hl]
  have : idOf E (nmO (Sha.sum [97, 98, 99])) = some (Sha.sum [97, 98, 99]) := by
   unfold idOf
   rw [hc, unhex_hexOf _ (Sha.sum_length _)]
   show (if true = true ∧ true = true ∧ (getL E (Sha.sum [97, 98, 99])).2 = 0 then some _ else none) = _
   rw [hg, if_pos ⟨rfl, rfl, rfl⟩]
  rw [List.filterMap_cons_some this]
  rfl
theorem ls7_pl6 : Plain Tryd.prog 6 := fun _ _ => by kernel_rfl
theorem ls7_ty22 : Tryd.prog.underlying 22 = some (.slice 5) := by kernel_rfl
theorem ls7_ty5 : Tryd.prog.underlying 5 = some (.int .u8) := by kernel_rfl
theorem ls7_pl7 : Plain Tryd.prog 7 := fun _ _ => by kernel_rfl
theorem ls7_al26 {d : Option Tmp} {ty : TypeId} {pos : String} {af : Array Edge} {gd : Option (Nat × Bool)} (σ : Operand → Value) (w : World) : (execOp σ ⟨d, .alloc 26, ty, pos, af, gd⟩).run Tryd.prog w = .ok (.value (PQ w.heap.size 0)) (w.alloc (.cells (Lib.byteCells (List.replicate 32 0)).toArray 26)) := by kernel_rfl
theorem ls7_ty26 : Tryd.prog.underlying 26 = some (.array 32 5) := by kernel_rfl
theorem ls7_pl16 : Plain Tryd.prog 16 := fun _ _ => by kernel_rfl
theorem ls7_aid (w : World) : (Instr.build 26 #[(0, .int .u8 1)]).run Tryd.prog w = .ok (AB aid1) w := by kernel_rfl
theorem ls7_ty9 : Tryd.prog.underlying 9 = some (.string) := by kernel_rfl
theorem ls7_pl9 : Plain Tryd.prog 9 := fun _ _ => by kernel_rfl
theorem ls7_ty31 : Tryd.prog.underlying 31 = some (.slice 26) := by kernel_rfl
theorem ls7_pl34 : Plain Tryd.prog 34 := fun _ _ => by kernel_rfl
theorem ls7_eg26 : Tryd.prog.eqGuardType Tryd.prog.depth 26 = false := by kernel_rfl
theorem ls7_sz5 : ∀ w' : World, (sizeOf 5).run Tryd.prog w' = .ok 1 w' := fun _ => by kernel_rfl
set_option maxHeartbeats 1600000
theorem awake09 (w : World) (hG : Laid w) :
  Calls Tryd.prog 10 #[] w fun e w' => e = .returned (.bool true) ∧ Ext w w' := by
 refine calls_of_wpF (args := []) Tryd.func10 rfl 58 rfl (Nat.le_of_ble_eq_true rfl) ?_
 intro ρ0 hb
 clear hb
 have hE := Ext.refl w
 refine sk fun K1 hK1 => (wt (oA rfl (oZ (tN (hK1 _ _ (sk fun K2 hK2 => (wt (oS rfl (Yk.callA1 ls7_pl6 (vr (NI 1000) rfl) ((new_g w _ hE 1000 (by decide)).mono ?_))))))))))
 rintro e w4 ⟨g1, H1, rfl, hD, hx3⟩
 refine ⟨_, rfl, ?_⟩
 have hE := hE.trans hx3
 refine oA rfl (oZ ?_)
 have hDb0 := hD
 refine tN (hK2 _ _ (sk fun K5 hK5 => (wt (oM rfl (oS rfl (Yk.litN (e := 5) ([97, 98, 99] : List UInt8) (by decide) (fun _ _ => by kernel_rfl) fun v6 w7 hN8 => ?_))))))
 have hA9 := Ext.refl w4
 have hea10 := hE
 have hz11 := hE.size
 have hE := hE.trans hN8.ext
 have hA9 := hA9.trans hN8.ext
 have ho12 := hN8.own; clear hN8
 have hoff0 : ∀ i, v6.ownBlock = some i → ¬ Foot H1 (newD 1000).files.length i := fun i hi q => by have h1 := (hDb0.st.foot q).2.1; have h2 := (ho12.lt i hi).1; omega
 refine oS rfl (Yk.convMark ls7_ty22 ls7_ty5 (vr v6 rfl) ho12 (by decide) fun w13 hr14 hg15 => ?_)
 have hE := ext_grew hE hg15 ho12 hz11
 have hA9 := ext_grew hA9 hg15 ho12 (Nat.le_refl _)
 clear ho12
 have hDb := (hD.keep hA9)
 obtain ⟨r1, hr1⟩ : ∃ r, putL (newD 1000) ([97, 98, 99] : List UInt8) = r := ⟨_, rfl⟩
 have hDc := (hD.keep hA9)
 have hDb2 := hDc
 refine oS rfl (Yk.callA2 ls7_pl7 (vr (PQ g1 0) rfl) (vr v6 rfl) ((put_nm _ _ _ _ _ hDc hG v6 ([97, 98, 99] : List UInt8) hr14 (.inr hoff0) (by decide) 0 (DBd.new (by decide)) (by omega) r1 hr1).mono ?_))
 rintro e w22 ⟨H16, v17, rfl, hr18, hW19⟩
 refine ⟨_, rfl, ?_⟩
 have hD20 := hW19.g
 have hC21 := hW19.chg
 have haw := awP hr1
 have hE : Ext w w22 := hD20.ext
 clear hA9
 clear hr14
 have hD := hD20
 refine oM rfl (oS rfl (Yk.extract (vs := [AB r1.2.1, v17, NI r1.2.2.2]) (vr (.tuple #[AB r1.2.1, v17, NI r1.2.2.2]) rfl) (show _ = some (AB r1.2.1 : Value) from rfl) (oS rfl (Yk.extract (vs := [AB r1.2.1, v17, NI r1.2.2.2]) (vr (.tuple #[AB r1.2.1, v17, NI r1.2.2.2]) rfl) (show _ = some (v17 : Value) from rfl) (oS rfl (Yk.extract (vs := [AB r1.2.1, v17, NI r1.2.2.2]) (vr (.tuple #[AB r1.2.1, v17, NI r1.2.2.2]) rfl) (show _ = some (NI r1.2.2.2 : Value) from rfl) (oS rfl (Yk.alloc (cs := (Lib.byteCells (List.replicate 32 0)).toArray) ls7_al26 fun n23 w24 hn25 hb26 hx27 hs28 => ?_))))))))
 have hA29 := Ext.refl w22
 have hea30 := hE
 have hz31 := hE.size
 have hE := hE.trans hx27
 have hA29 := hA29.trans hx27
 have hb32 := hb26; clear hb26
 have hl33 : n23 < w24.heap.size := by omega
 refine oS rfl (Yk.storeAll (vr (PQ n23 0) rfl) (vr (AB r1.2.1) rfl) hb32 (by exact idsize (put_len hr1) List.length_replicate) (by exact sizeId_of (put_len hr1)) (byteCells_one _) fun w34 hb35 hg36 hs37 => ?_)
 have hE := row_fresh hE hg36 (Nat.le_trans hz31 (by omega))
 have hA29 := row_fresh hA29 hg36 (Nat.le_trans (Nat.le_refl _) (by omega))
 clear hb32
 have hb32 := hb35; clear hb35
 have hl38 := bl hb32
 refine oA rfl (oA rfl (oZ (tN (hK5 _ _ (sk fun K39 hK39 => (wt (oM rfl (oS rfl (Yk.loadAll (vr (PQ n23 0) rfl) hb32 ls7_ty26 rfl (by exact sizeId_of (put_len hr1)) ?_)))))))))
 have hDc := (hD.keep hA29)
 obtain ⟨r2, hr2⟩ : ∃ r, getL (r1.1) r1.2.1 = r := ⟨_, rfl⟩
 refine oS rfl (Yk.callA2 ls7_pl16 (vr (PQ g1 0) rfl) (vr (AB r1.2.1) rfl) ((get_nm _ _ _ _ _ hDc hG haw.1 r1.2.1 (put_len hr1) r2 hr2).mono ?_))
 rintro e w43 ⟨v40, rfl, hr41, hx42⟩
 refine ⟨_, rfl, ?_⟩
 have hE := hE.trans hx42
 have hA29 := hA29.trans hx42
 have hb32 := eb hx42 hb32
 refine oM rfl (oS rfl (Yk.extract (vs := [v40, NI r2.2]) (vr (.tuple #[v40, NI r2.2]) rfl) (show _ = some (v40 : Value) from rfl) (oS rfl (Yk.extract (vs := [v40, NI r2.2]) (vr (.tuple #[v40, NI r2.2]) rfl) (show _ = some (NI r2.2 : Value) from rfl) (oA rfl (oA rfl (oZ (tN (hK39 _ _ (sk fun K44 hK44 => (wt (oM rfl (oS rfl (Yk.build1 rfl (fun w => ls7_aid w) ?_))))))))))))))
 have hDc := (hD.keep hA29)
 obtain ⟨r3, hr3⟩ : ∃ r, getL (r1.1) aid1 = r := ⟨_, rfl⟩
 refine oS rfl (Yk.callA2 ls7_pl16 (vr (PQ g1 0) rfl) (vr (AB aid1) rfl) ((get_nm _ _ _ _ _ hDc hG haw.1 aid1 rfl r3 hr3).mono ?_))
 rintro e w48 ⟨v45, rfl, hr46, hx47⟩
 refine ⟨_, rfl, ?_⟩
 have hE := hE.trans hx47
 have hA29 := hA29.trans hx47
 have hb32 := eb hx47 hb32
 have hr41 := hr41.keep hx47
 refine oM rfl (oS rfl (Yk.extract (vs := [v45, NI r3.2]) (vr (.tuple #[v45, NI r3.2]) rfl) (show _ = some (v45 : Value) from rfl) (oS rfl (Yk.extract (vs := [v45, NI r3.2]) (vr (.tuple #[v45, NI r3.2]) rfl) (show _ = some (NI r3.2 : Value) from rfl) (oA rfl (oA rfl (oZ ?_)))))))
 have h2 : r2 = ([97, 98, 99], 0) := hr2.symm.trans haw.2.2.2.2.1
 have h3 : r3.2 = 12 := by rw [← hr3]; exact haw.2.2.2.2.2.1
 refine tN (hK44 _ _ (sk fun K49 hK49 => ?_))
 have hA50 := Ext.refl w48
 have hea51 := hE
 have hea52 := hA29
 have hz53 := hE.size
 have hz54 := hA29.size
 have hlt55 : n23 < w48.heap.size := (bl hb32)
 refine wpF_draw_rowsG w48.heap.size (Nat.le_refl _) [24] (fun m => if m = 24 then [17, 23] else []) (fun m => if m = 24 then [17, 23, 24] else []) [Is (NI r1.2.2.2), Is (.bool (true)), Is (.bool (true)), Is (NI r2.2), Is (.bool (true)), Is (.bool (true)), Is (.bool (true)), Is (v40), Is (St (r2.1)), Is (.bool (true)), Is (.bool (true)), Is (.bool (true)), Is (NI r3.2), Is (.bool (true)), Is (.bool (true)), Is (.bool (true)), Is (PQ g1 0), fun x w' => RG 32 (Lib.byteCells) w' x ([r1.2.1]), Is (NI (([r1.2.1]).length)), Is (.bool (true)), Is (.bool (true)), Is (.bool (true)), Is (AB r1.2.1), fun x w' => w'.ownsRow w48.heap.size 5 1 x ([97, 98, 99] : List UInt8).length (Lib.byteCells (([97, 98, 99] : List UInt8))), fun x w' => RB w' x (([97, 98, 99] : List UInt8)), Is (AB (Sha.sum ([97, 98, 99] : List UInt8))), Is (.bool (true)), Is (.bool (true)), Is (.bool (true))] (by kernel_rfl) [30, 31, 32, 33, 34, 35, 36, 37, 38, 39, 40, 41, 42, 43, 44, 45, 46, 47, 48, 49, 50, 51, 52, 53, 54, 55, 56, 57, 0] (by kernel_rfl) (by kernel_rfl) (by kernel_rfl) (by kernel_rfl) (si5 (si12 ⟨(fun _ _ _ h k => RG.keep h k), (si5 ⟨(Stab.own _ _ _ _ _), (fun _ _ _ h k => RB.keep h k), (si4 trivial)⟩)⟩)) ⟨⟨.inr (Stab.is _), .inr (Stab.is _), .inr (Stab.is _), .inr (Stab.is _), .inr (Stab.is _), .inr (Stab.is _), .inr (Stab.is _), .inr (Stab.is _), .inr (Stab.is _), .inr (Stab.is _), .inr (Stab.is _), .inr (Stab.is _), .inr (Stab.is _), .inr (Stab.is _), .inr (Stab.is _), .inr (Stab.is _), .inr (Stab.is _), .inl rfl, .inr (Stab.is _), .inr (Stab.is _), .inr (Stab.is _), .inr (Stab.is _), .inr (Stab.is _), .inl rfl, .inl rfl, .inr (Stab.is _), .inr (Stab.is _), .inr (Stab.is _), .inr (Stab.is _), trivial⟩, trivial⟩ ?hs1005 ?hQ1005
 case hs1005 =>
  refine ⟨?_, ?_, ?_, ?_, ?_, ?_, ?_, ?_, ?_, ?_, ?_, ?_, ?_, ?_, ?_, ?_, ?_, ?_, ?_, ?_, ?_, ?_, ?_, ?_, ?_, ?_, ?_, ?_, ?_, trivial⟩
  ·refine stepN rfl fun σ w1 hC h => ?_
   have hC : Ext w48 w1 := hC
   have e4 : σ 4 = NI r1.2.2.2 := (eqo (h 4 (by decide))).trans rfl
   exact Yk.move e4 ⟨Ext.refl _, rfl⟩
  ·refine stepN rfl fun σ w1 hC h => ?_
   have hC : Ext w48 w1 := hC
   have e30 := eqo (h 30 (by decide))
   exact Yk.eqI (a := (r1.2.2.2 : Nat)) (b := (0 : Nat)) e30 rfl (k_eql _ _ _ _) ⟨Ext.refl _, (congrArg Value.bool (decide_eq_true (haw.2.2.1)))⟩
  ·refine stepN rfl fun σ w1 hC h => ?_
   have hC : Ext w48 w1 := hC
   have e31 := eqo (h 31 (by decide))
   exact Yk.move e31 ⟨Ext.refl _, rfl⟩
  ·refine stepY 2 true 32 rfl rfl (fun _ _ h => h) fun σ w1 hC h => ?_
   have hC : Ext w48 w1 := hC
   have e6 : σ 6 = NI r2.2 := (eqo (h 6 (by decide))).trans rfl
   exact Yk.move e6 ⟨Ext.refl _, rfl⟩
  ·refine stepY 2 true 32 rfl rfl (fun _ _ h => h) fun σ w1 hC h => ?_
   have hC : Ext w48 w1 := hC
   have e33 := eqo (h 33 (by decide))
   exact Yk.eqI (a := (r2.2 : Nat)) (b := (0 : Nat)) e33 rfl (k_eql _ _ _ _) ⟨Ext.refl _, (congrArg Value.bool (decide_eq_true (congrArg Prod.snd h2)))⟩
  ·refine stepN rfl fun σ w1 hC h => ?_
   have hC : Ext w48 w1 := hC
   have e32 := eqo (h 32 (by decide))
   have e34 := eqo (h 34 (by decide))
   exact Yk.pickT e32 e34 ⟨Ext.refl _, rfl⟩
  ·refine stepN rfl fun σ w1 hC h => ?_
   have hC : Ext w48 w1 := hC
   have e35 := eqo (h 35 (by decide))
   exact Yk.move e35 ⟨Ext.refl _, rfl⟩
  ·refine stepY 6 true 36 rfl rfl (fun _ _ h => h) fun σ w1 hC h => ?_
   have hC : Ext w48 w1 := hC
   have e5 : σ 5 = v40 := (eqo (h 5 (by decide))).trans rfl
   exact Yk.move e5 ⟨Ext.refl _, rfl⟩
  ·refine stepY 6 true 36 rfl rfl (fun _ _ h => h) fun σ w1 hC h => ?_
   have hC : Ext w48 w1 := hC
   have e37 := eqo (h 37 (by decide))
   exact Yk.convRB ls7_ty22 ls7_ty5 ls7_ty9 (RB.of (hr41.keep (hA50.trans hC)) e37) ⟨Ext.refl _, rfl⟩
  ·refine stepY 6 true 36 rfl rfl (fun _ _ h => h) fun σ w1 hC h => ?_
   have hC : Ext w48 w1 := hC
   have e38 := eqo (h 38 (by decide))
   exact Yk.eqSt (l := r2.1) (m := ([97, 98, 99] : List UInt8)) (.inl rfl) e38 (vr (St (([97, 98, 99] : List UInt8))) rfl) (decide ((r2.1 : List UInt8) = (([97, 98, 99] : List UInt8) : List UInt8))) rfl ⟨Ext.refl _, (congrArg Value.bool (decide_eq_true (congrArg Prod.fst h2)))⟩
  ·refine stepN rfl fun σ w1 hC h => ?_
   have hC : Ext w48 w1 := hC
   have e36 := eqo (h 36 (by decide))
   have e39 := eqo (h 39 (by decide))
   exact Yk.pickT e36 e39 ⟨Ext.refl _, rfl⟩
  ·refine stepN rfl fun σ w1 hC h => ?_
   have hC : Ext w48 w1 := hC
   have e40 := eqo (h 40 (by decide))
   exact Yk.move e40 ⟨Ext.refl _, rfl⟩
  ·refine stepY 11 true 41 rfl rfl (fun _ _ h => h) fun σ w1 hC h => ?_
   have hC : Ext w48 w1 := hC
   have e8 : σ 8 = NI r3.2 := (eqo (h 8 (by decide))).trans rfl
   exact Yk.move e8 ⟨Ext.refl _, rfl⟩
  ·refine stepY 11 true 41 rfl rfl (fun _ _ h => h) fun σ w1 hC h => ?_
   have hC : Ext w48 w1 := hC
   have e42 := eqo (h 42 (by decide))
   exact Yk.eqI (a := (r3.2 : Nat)) (b := (12 : Nat)) e42 rfl (k_eql _ _ _ _) ⟨Ext.refl _, (congrArg Value.bool (decide_eq_true (h3)))⟩
  ·refine stepN rfl fun σ w1 hC h => ?_
   have hC : Ext w48 w1 := hC
   have e41 := eqo (h 41 (by decide))
   have e43 := eqo (h 43 (by decide))
   exact Yk.pickT e41 e43 ⟨Ext.refl _, rfl⟩
  ·refine stepN rfl fun σ w1 hC h => ?_
   have hC : Ext w48 w1 := hC
   have e44 := eqo (h 44 (by decide))
   exact Yk.move e44 ⟨Ext.refl _, rfl⟩
  ·refine stepY 15 true 45 rfl rfl (fun _ _ h => h) fun σ w1 hC h => ?_
   have hC : Ext w48 w1 := hC
   have e1 : σ 1 = PQ g1 0 := (eqo (h 1 (by decide))).trans rfl
   exact Yk.move e1 ⟨Ext.refl _, rfl⟩
  ·refine stepY 15 true 45 rfl rfl (fun _ _ h => h) fun σ w1 hC h => ?_
   have hC : Ext w48 w1 := hC
   have e46 := eqo (h 46 (by decide))
   refine Yk.callA1 ls7_pl9 e46 ((llist_at _ _ _ _ _ (hD.keep (hA29.trans hC)) hG haw.1 haw.2.1).mono ?_)
   rintro e w2 ⟨v, o, rfl, ho, hS, hM, hN, hx⟩
   exact ⟨_, rfl, hx, rg_eq (RG.ofOwn ho) (sasc_one hS hM haw.2.2.2.2.2.2)⟩
  ·refine stepY 15 true 45 rfl rfl (fun _ _ h => h) fun σ w1 hC h => ?_
   have hC : Ext w48 w1 := hC
   have e47 : (fun x w' => RG 32 (Lib.byteCells) w' x ([r1.2.1])) (σ 47) w1 := h 47 (by decide)
   exact Yk.lenRG ls7_ty31 e47 ⟨Ext.refl _, rfl⟩
  ·refine stepY 15 true 45 rfl rfl (fun _ _ h => h) fun σ w1 hC h => ?_
   have hC : Ext w48 w1 := hC
   have e48 := eqo (h 48 (by decide))
   exact Yk.eqI (a := (([r1.2.1]).length : Nat)) (b := (1 : Nat)) e48 rfl (k_eql _ _ _ _) ⟨Ext.refl _, (congrArg Value.bool (decide_eq_true (rfl)))⟩
  ·refine stepN rfl fun σ w1 hC h => ?_
   have hC : Ext w48 w1 := hC
   have e45 := eqo (h 45 (by decide))
   have e49 := eqo (h 49 (by decide))
   exact Yk.pickT e45 e49 ⟨Ext.refl _, rfl⟩
  ·refine stepN rfl fun σ w1 hC h => ?_
   have hC : Ext w48 w1 := hC
   have e50 := eqo (h 50 (by decide))
   exact Yk.move e50 ⟨Ext.refl _, rfl⟩
  ·refine stepY 21 true 51 rfl rfl (fun _ _ h => h) fun σ w1 hC h => ?_
   have hC : Ext w48 w1 := hC
   have e2 : σ 2 = PQ n23 0 := (eqo (h 2 (by decide))).trans rfl
   exact Yk.loadAll e2 (eb hC hb32) ls7_ty26 rfl (by exact sizeId_of (put_len hr1)) ⟨Ext.refl _, rfl⟩
  ·refine stepY 21 true 51 rfl rfl (fun _ _ h => h) fun σ w1 hC h => ?_
   have hC : Ext w48 w1 := hC
   exact Yk.litN (e := 5) ([97, 98, 99] : List UInt8) (by decide) (fun _ _ => by kernel_rfl) fun v w2 hN => ⟨hN.ext, ownsRow_base hN.own hC.size⟩
  ·refine stepY 21 true 51 rfl rfl (fun _ _ h => h) fun σ w1 hC h => ?_
   have hC : Ext w48 w1 := hC
   have e53 : (fun x w' => w'.ownsRow w48.heap.size 5 1 x ([97, 98, 99] : List UInt8).length (Lib.byteCells (([97, 98, 99] : List UInt8)))) (σ 53) w1 := h 53 (by decide)
   exact Yk.convMark ls7_ty22 ls7_ty5 rfl e53 (by decide) fun w2 hr hg => ⟨hg.below hC.size (fun k hk => (e53.lt k hk).1), hr⟩
  ·refine stepY 21 true 51 rfl rfl (fun _ _ h => h) fun σ w1 hC h => ?_
   have hC : Ext w48 w1 := hC
   have e54 : (fun x w' => RB w' x (([97, 98, 99] : List UInt8))) (σ 54) w1 := h 54 (by decide)
   refine Yk.callA1 ls7_pl34 rfl ((refSum_any _ (σ 54) ([97, 98, 99] : List UInt8) e54 (by decide)).mono ?_)
   rintro e w2 ⟨rfl, hx⟩
   exact ⟨_, rfl, hx, rfl⟩
  ·refine stepY 21 true 51 rfl rfl (fun _ _ h => h) fun σ w1 hC h => ?_
   have hC : Ext w48 w1 := hC
   have e52 := eqo (h 52 (by decide))
   have e55 := eqo (h 55 (by decide))
   exact Yk.eqArr (l1 := r1.2.1) (l2 := (Sha.sum ([97, 98, 99] : List UInt8))) ls7_ty26 ls7_ty5 ls7_sz5 ls7_eg26 e52 e55 ((put_len hr1)) ((Sha.sum_length _)) ⟨Ext.refl _, (congrArg Value.bool (decide_eq_true (haw.2.2.2.1)))⟩
  ·refine stepN rfl fun σ w1 hC h => ?_
   have hC : Ext w48 w1 := hC
   have e51 := eqo (h 51 (by decide))
   have e56 := eqo (h 56 (by decide))
   exact Yk.pickT e51 e56 ⟨Ext.refl _, rfl⟩
  ·refine stepN rfl fun σ w1 hC h => ?_
   have hC : Ext w48 w1 := hC
   have e57 := eqo (h 57 (by decide))
   exact Yk.assign e57 ⟨Ext.refl _, rfl⟩
 intro ρ56 w57 hx58 he hf
 obtain ⟨-, -, -, -, -, -, -, -, -, -, -, -, -, -, -, -, -, -, -, -, -, -, -, -, -, -, -, -, k0, -⟩ := hf
 obtain ⟨T1, T2, T4, T5, T6, T8, -⟩ := he.hold [(1, PQ g1 0), (2, PQ n23 0), (4, NI r1.2.2.2), (5, v40), (6, NI r2.2), (8, NI r3.2)] ⟨rfl, rfl, rfl, rfl, rfl, rfl, trivial⟩ rfl
 clear he
 have hx58 : Ext w48 w57 := hx58
 have hE := hE.trans hx58
 have hA29 := hA29.trans hx58
 have hb32 := eb hx58 hb32
 have hA50 := hA50.trans hx58
 have T0 : ρ56 0 = .bool (true) := k0
 clear k0
 refine tN (hK49 _ _ (wpF_ret (postF_ret (fn := Tryd.f10) _ rfl [.bool (true)] (.bool (true)) rfl ⟨T0, trivial⟩ ?_)))
 exact ⟨rfl, hE⟩

open Go.ChangeShapes Go.WideShapes Go.ChangeAt Go.RowKit
theorem g_first : Tryd.prog.globalNamed "variorum/sha.first" = some 0 := by kernel_rfl
theorem gt_first : (Tryd.prog.globals[0]?).map (·.type) = some 94 := by kernel_rfl
theorem gc_first : Tryd.prog.cellsOf 94 = 8 := by kernel_rfl
def zs_first : List Int := [1779033703, 3144134277, 1013904242, 2773480762, 1359893119, 2600822924, 528734635, 1541459225]
theorem zs_first_eq : (zs_first.map fun z => Value.int .u32 z).toArray = cellsU Sha.first := by kernel_rfl
theorem g_words : Tryd.prog.globalNamed "variorum/sha.words" = some 1 := by kernel_rfl
theorem gt_words : (Tryd.prog.globals[1]?).map (·.type) = some 95 := by kernel_rfl
theorem gc_words : Tryd.prog.cellsOf 95 = 64 := by kernel_rfl
def zs_words : List Int := [1116352408, 1899447441, 3049323471, 3921009573, 961987163, 1508970993, 2453635748, 2870763221, 3624381080, 310598401, 607225278, 1426881987, 1925078388, 2162078206, 2614888103, 3248222580, 3835390401, 4022224774, 264347078, 604807628, 770255983, 1249150122, 1555081692, 1996064986, 2554220882, 2821834349, 2952996808, 3210313671, 3336571891, 3584528711, 113926993, 338241895, 666307205, 773529912, 1294757372, 1396182291, 1695183700, 1986661051, 2177026350, 2456956037, 2730485921, 2820302411, 3259730800, 3345764771, 3516065817, 3600352804, 4094571909, 275423344, 430227734, 506948616, 659060556, 883997877, 958139571, 1322822218, 1537002063, 1747873779, 1955562222, 2024104815, 2227730452, 2361852424, 2428436474, 2756734187, 3204031479, 3329325298]
theorem zs_words_eq : (zs_words.map fun z => Value.int .u32 z).toArray = cellsU Sha.words := by kernel_rfl
theorem gc_u : Tryd.prog.cellsOf 93 = 1 := by kernel_rfl
theorem var_block {P : Program} {W : World} {name : String} {g : Nat} {cs : Array Value} (hg : P.globalNamed name = some g) (h : W.var? P name = some cs) : ∃ t fr, W.heap[g]? = some (.cells cs t fr) := by
 unfold World.var? at h
 rw [hg] at h
 simp only [Option.bind_some] at h
 split at h
 ·rename_i cs' t fr he
  cases h
  exact ⟨t, fr, he⟩
 ·cases h
theorem laid_of {W : World} (h : laidMetH Tryd.prog [("variorum/sha.first", Rows.laid_variorum_sha_first), ("variorum/sha.words", Rows.laid_variorum_sha_words)] W) : Laid W := by
 have h1 : Lib.TabIs Tryd.prog W "variorum/sha.first" .u32 zs_first := Lib.tabIs_of_head g_first gt_first Tryd.underlying94 Tryd.underlying93 gc_u gc_first h
 have h2 : Lib.TabIs Tryd.prog W "variorum/sha.words" .u32 zs_words := Lib.tabIs_of_head (rest := []) g_words gt_words Tryd.underlying95 Tryd.underlying93 gc_u gc_words (laidMet.tail h)
 unfold Lib.TabIs at h1 h2
 rw [zs_first_eq] at h1
 rw [zs_words_eq] at h2
 exact ⟨var_block g_first h1, var_block g_words h2⟩
noncomputable def laidWorld (os : Os) : World :=
 let h0 := (World.holding Tryd.prog os ⟨#[], #[], []⟩).heap
 let h1 := h0.modify 0 fun
   | .cells _ t frozen => .cells (cellsU Sha.first) t frozen
   | o => o
 let h2 := h1.modify 1 fun
   | .cells _ t frozen => .cells (cellsU Sha.words) t frozen
   | o => o
 { World.holding Tryd.prog os ⟨#[], #[], []⟩ with heap := h2 }
theorem laid_met (os : Os) (args : Array Value) : laidMet Tryd.prog [("variorum/sha.first", Rows.laid_variorum_sha_first), ("variorum/sha.words", Rows.laid_variorum_sha_words)] ((laidWorld os).forCall (fun _ _ => 0) ⟨#[], args, []⟩).memory :=
 laidMet_of_run' 8 (by kernel_rfl) (by kernel_rfl)
open Go.ChangeShapes Go.WideShapes Go.ChangeAt Go.RowKit Go.Deep
section
variable {H : Type} (enc : TypeId × Value → H) (P : Program) (W : World)
def Opn {α : Type} (t : TypeId) (f : α → List Value) (OK : α → Prop) : Prop :=
  ∀ fuel cs (x : DataW H × List MemPlace), DataW.trod enc P W 0 (fun _ => true) true fuel t cs = some x → ∃ a, cs = f a ∧ OK a
end
section
variable {H : Type} {enc : TypeId × Value → H} {P : Program} {W : World}
theorem Opn.i64 {t : TypeId} (ht : P.underlying t = some (.int .i64)) : Opn enc P W t (fun z : Int => [.int .i64 z]) (fun z => -9223372036854775808 ≤ z ∧ z ≤ 9223372036854775807) := fun fuel cs x h => by
  obtain ⟨n, rfl, -, hw⟩ := DataW.trod_int ht h
  exact ⟨n, rfl, by simpa [Lit.wf, IntKind.min, IntKind.max, IntKind.signed, IntKind.bits] using hw⟩
theorem Opn.bytes {t e : TypeId} (ht : P.underlying t = some (.slice e)) (he : P.underlying e = some (.int .u8)) (hc : P.cellsOf e = 1) : Opn enc P W t (fun v : Value × Bs => [v.1]) (fun v => RB W v.1 v.2) := fun fuel cs x h => by
  obtain ⟨c, l, rfl, h1, -⟩ := open_bytesC ht he hc h
  exact ⟨(c, l), rfl, h1⟩
theorem flatK_get {α : Type} {k : Nat} {f : α → List Value} (d : α) : ∀ (l : List α), (∀ x ∈ l, (f x).length = k) → ∀ i r, r < k → i < l.length → (l.flatMap f)[i * k + r]? = (f (l.getD i d))[r]?
  | [], _, i, r, _, hi => by cases hi
  | a :: l, h, 0, r, hr, _ => by
    rw [List.flatMap_cons, Nat.zero_mul, Nat.zero_add, List.getElem?_append_left (by rw [h a (by simp)]; exact hr)]
    rfl
  | a :: l, h, i + 1, r, hr, hi => by
    have ha := h a (by simp)
    rw [List.flatMap_cons, List.getElem?_append_right (by rw [ha, Nat.add_mul]; omega), ha, show (i + 1) * k + r - k = i * k + r by rw [Nat.add_mul]; omega]
    exact flatK_get d l (fun x hx => h x (by simp [hx])) i r hr (by simpa using hi)
theorem flatK_len {α : Type} {k : Nat} {f : α → List Value} : ∀ (l : List α), (∀ x ∈ l, (f x).length = k) → (l.flatMap f).length = l.length * k
  | [], _ => by simp
  | a :: l, h => by rw [List.flatMap_cons, List.length_append, h a (by simp), flatK_len l (fun x hx => h x (by simp [hx])), List.length_cons, Nat.add_mul]; omega
theorem Opn.slice {α : Type} [Inhabited α] {k : Nat} {f : α → List Value} {OK : α → Prop} {t e : TypeId} (ht : P.underlying t = some (.slice e)) (hc : P.cellsOf e = k) (hk : 0 < k) (hE : Opn enc P W e f OK) (hl : ∀ a, OK a → (f a).length = k) :
    Opn enc P W t (fun v : Value × List α => [v.1]) (fun v => RG k f W v.1 v.2 ∧ ∀ a ∈ v.2, OK a) := fun fuel cs x h => by
  rcases open_slice ht h with ⟨rfl, -⟩ | ⟨a, len, cap, m, n, D, Pl, rfl, -, h1, h2, h3, -, h4⟩
  · exact ⟨(_, []), rfl, RG.nil _ _ _, fun a ha => by cases ha⟩
  · have hm : m = cap := by simpa using h3
    obtain ⟨L, hL⟩ := choose_lt (α := α) (p := fun i q => W.cells? 0 (a.add (i * k)) k = some (f q) ∧ OK q) (fun i (hi : i < len) => by
      obtain ⟨cs', c1, c2⟩ := h4 i (by omega)
      obtain ⟨q, rfl, hq⟩ := hE _ _ _ c2
      rw [hc] at c1
      exact ⟨q, c1, hq⟩)
    have hall : ∀ x ∈ (List.range len).map L, (f x).length = k ∧ OK x := fun x hx => by
      obtain ⟨i, hi, rfl⟩ := List.mem_map.1 hx
      have := hL i (by simpa using hi)
      exact ⟨hl _ this.2, this.2⟩
    have hlen : ((List.range len).map L).length = len := by simp
    refine ⟨(.slice (some a) len cap, (List.range len).map L), rfl, ⟨fun x hx => (hall x hx).1, by rw [flatK_len _ (fun x hx => (hall x hx).1)], some a, cap, by rw [hlen], by rw [hlen]; exact h1, h2, (fun h => by cases h), fun a' ha j u hu => ?_⟩, fun x hx => (hall x hx).2⟩
    cases ha
    have hj : j < len * k := by
      have := (List.getElem?_eq_some_iff.1 hu).1
      rwa [flatK_len _ (fun x hx => (hall x hx).1), hlen] at this
    have hi : j / k < len := Nat.div_lt_of_lt_mul (by rw [Nat.mul_comm]; exact hj)
    have hr : j % k < k := Nat.mod_lt _ hk
    have hjk : j / k * k + j % k = j := by rw [Nat.mul_comm]; exact Nat.div_add_mod j k
    rw [← hjk, flatK_get default _ (fun x hx => (hall x hx).1) _ _ hr (by rw [hlen]; exact hi)] at hu
    have hg : ((List.range len).map L).getD (j / k) default = L (j / k) := by
      rw [List.getD_eq_getElem?_getD, List.getElem?_map, List.getElem?_range hi]; rfl
    rw [hg] at hu
    obtain ⟨-, -, hcell⟩ := World.cells?_some (hL _ hi).1
    have := hcell (j % k) hr
    rw [addr_add_add, hjk, hu] at this
    exact this
theorem seg {cs m : List Value} {o k : Nat} (h : (cs.drop o).take k = m) : cs.drop o = m ++ cs.drop (o + k) := by
  rw [← h, ← List.drop_drop, List.take_append_drop]
theorem field_open {t ty : TypeId} {i o k fuel : Nat} {cs : List Value} {x : DataW H × List MemPlace} {α : Type} {f : α → List Value} {OK : α → Prop} (ht : P.underlying t = some (.struct (P.fieldsOf t))) (h : DataW.trod enc P W 0 (fun _ => true) true fuel t cs = some x)
    (hf : ((P.fieldsOf t)[i]?).map (fun f => (f.type, f.offset)) = some (ty, o)) (hk : P.cellsOf ty = k) (hE : Opn enc P W ty f OK) : ∃ a, cs.drop o = f a ++ cs.drop (o + k) ∧ OK a := by
  obtain ⟨xs, n, -, -, -, hl, hx⟩ := DataW.trod_struct ht h
  obtain ⟨g, hg, he⟩ := Option.map_eq_some_iff.1 hf
  have h1 := hx i g hg
  cases he
  have hi : i < xs.length := by rw [hl]; exact (Array.getElem?_eq_some_iff.1 hg).1
  rw [List.getElem?_eq_getElem hi, hk] at h1
  obtain ⟨a, h2, h3⟩ := hE _ _ _ h1
  exact ⟨a, seg h2, h3⟩
theorem struct_len {t : TypeId} {fuel : Nat} {cs : List Value} {x : DataW H × List MemPlace} (ht : P.underlying t = some (.struct (P.fieldsOf t))) (h : DataW.trod enc P W 0 (fun _ => true) true fuel t cs = some x) : cs.length = P.cellsOf t := by
  obtain ⟨xs, n, -, -, hl, -, -⟩ := DataW.trod_struct ht h
  exact hl
end
open Go.RowKit
set_option maxRecDepth 100000
set_option linter.unusedVariables false
set_option linter.unusedSimpArgs false
structure Lact where
  kind : Int
  bytes : Bs
  other : Bs
  n : Int
  fates : List Int
structure LactW where
  bytes : Value
  other : Value
  fates : Value
abbrev LactV := Lact × LactW
def lacC (x : LactV) : List Value := .int .i64 (x.1.kind) :: x.2.bytes :: x.2.other :: .int .i64 (x.1.n) :: x.2.fates :: []
theorem lac_len (x : LactV) : (lacC x).length = 5 := by simp [lacC, Lib.byteCells_length]
theorem lac_g0 (x : LactV) : (lacC x)[0]? = some (.int .i64 (x.1.kind)) := by
  rfl
theorem lac_g1 (x : LactV) : (lacC x)[1]? = some (x.2.bytes) := by
  rfl
theorem lac_f1 (x : LactV) : ((lacC x).drop 1).take 1 = [x.2.bytes] := by
  exact take1 (lac_g1 x)
theorem lac_g2 (x : LactV) : (lacC x)[2]? = some (x.2.other) := by
  rfl
theorem lac_f2 (x : LactV) : ((lacC x).drop 2).take 1 = [x.2.other] := by
  exact take1 (lac_g2 x)
theorem lac_g3 (x : LactV) : (lacC x)[3]? = some (.int .i64 (x.1.n)) := by
  rfl
theorem lac_g4 (x : LactV) : (lacC x)[4]? = some (x.2.fates) := by
  rfl
theorem lac_f4 (x : LactV) : ((lacC x).drop 4).take 1 = [x.2.fates] := by
  exact take1 (lac_g4 x)
abbrev dLac : LactV := (⟨0, [], [], 0, []⟩, ⟨.slice none 0 0, .slice none 0 0, .slice none 0 0⟩)
open Go.RowKit
set_option maxRecDepth 100000
set_option linter.unusedVariables false
set_option linter.unusedSimpArgs false
def kindL (k : Int) : Nat := (Int.emod k ((5 + 1 : Nat) : Int)).toNat
def didL (D : Dsk) (a : Lact) : Dsk :=
 if kindL a.kind = 0 ∨ kindL a.kind = 1 then (putL D a.bytes).1
 else if kindL a.kind = 2 then (dropL D (Sha.sum a.bytes)).1
 else if kindL a.kind = 4 then crashD D a.fates
 else if kindL a.kind = 5 then { D with arm := a.n.toNat } else D
structure LacAt (w : World) (x : LactV) : Prop where
 bytes : RB w x.2.bytes x.1.bytes
 other : RB w x.2.other x.1.other
 fates : RG 1 enI w x.2.fates x.1.fates
 n : x.1.n ≤ 9223372036854775807
theorem LacAt.keep {w w' : World} {x : LactV} (h : LacAt w x) (k : Ext w w') : LacAt w' x := ⟨h.bytes.keep k, h.other.keep k, h.fates.keep k, h.n⟩
def lightL (l : List LactV) (most : Nat) : Bool := !decide (most < l.length) && l.all fun x => !(decide (200 < x.1.bytes.length) || decide (200 < x.1.other.length) || decide (60 < x.1.fates.length))
theorem lightL_get {l : List LactV} {most : Nat} (h : lightL l most = true) : l.length ≤ most ∧ ∀ x ∈ l, x.1.bytes.length ≤ 200 ∧ x.1.other.length ≤ 200 ∧ x.1.fates.length ≤ 60 := by
 unfold lightL at h
 obtain ⟨h1, h2⟩ := Bool.and_eq_true_iff.1 h
 refine ⟨by simpa using h1, fun x hx => ?_⟩
 have := List.all_eq_true.1 h2 x hx
 simp only [Bool.not_eq_true', Bool.or_eq_false_iff, decide_eq_false_iff_not] at this
 omega
theorem all_stepY {α : Type} {f : α → Bool} {l : List α} {i : Nat} (d : α) (h : i < l.length) (hq : (l.take i).all f = true) (hn : f (l.getD i d) = true) : (l.take (i + 1)).all f = true := by
 rw [List.take_succ_eq_append_getElem h, List.all_append, hq, List.all_cons, List.all_nil]
 rw [List.getD_eq_getElem?_getD, List.getElem?_eq_getElem h] at hn
 simpa using hn
theorem lightL_no {l : List LactV} {most i : Nat} (h : i < l.length) (hn : (decide (200 < (l.getD i dLac).1.bytes.length) || decide (200 < (l.getD i dLac).1.other.length) || decide (60 < (l.getD i dLac).1.fates.length)) = true) : lightL l most = false := by
 cases hb : lightL l most
 ·rfl
 ·have := (lightL_get hb).2 _ (getD_mem_ (d := dLac) h)
  simp only [Bool.or_eq_true, decide_eq_true_eq] at hn
  omega
theorem ls8_ty35 : Tryd.prog.underlying 35 = some (.slice 39) := by kernel_rfl
theorem ls8_szg39 : ∀ w' : World, (sizeOf 39).run Tryd.prog w' = .ok 5 w' := fun _ => by kernel_rfl
theorem ls8_fo39_1 : FieldOff Tryd.prog 39 1 1 := fun b o w => by simp [go_sem]
theorem ls8_ty22 : Tryd.prog.underlying 22 = some (.slice 5) := by kernel_rfl
theorem ls8_fo39_2 : FieldOff Tryd.prog 39 2 2 := fun b o w => by simp [go_sem]
theorem ls8_fo39_4 : FieldOff Tryd.prog 39 4 4 := fun b o w => by simp [go_sem]
theorem ls8_ty37 : Tryd.prog.underlying 37 = some (.slice 3) := by kernel_rfl
theorem ls8_fo39_0 : FieldOff Tryd.prog 39 0 0 := fun b o w => by simp [go_sem]
theorem ls8_ty3 : Tryd.prog.underlying 3 = some (.int .i64) := by kernel_rfl
theorem ls8_pl7 : Plain Tryd.prog 7 := fun _ _ => by kernel_rfl
theorem ls8_rows1_75 (ao : Option Addr) (n c : Nat) (w : World) : (Instr.buildSlice 75 1 #[(0, .slice ao n c)]).run Tryd.prog w = .ok (.slice (some ⟨w.heap.size, 0, none⟩) 1 1) (w.alloc (.cells #[.slice ao n c] 22)) := by kernel_rfl
theorem ls8_pl14 : Plain Tryd.prog 14 := fun _ _ => by kernel_rfl
theorem ls8_pl42 : Plain Tryd.prog 42 := fun _ _ => by kernel_rfl
theorem ls8_pl19 : Plain Tryd.prog 19 := fun _ _ => by kernel_rfl
theorem ls8_fo39_3 : FieldOff Tryd.prog 39 3 3 := fun b o w => by simp [go_sem]
theorem ls8_pl20 : Plain Tryd.prog 20 := fun _ _ => by kernel_rfl
set_option maxHeartbeats 1600000
theorem light_anyL (w : World) (v : Value) (l : List LactV) (hl : RG 5 lacC w v l) (hk : ∀ x ∈ l, LacAt w x) (most : Nat) (hmost : most ≤ 1000) :
  Calls Tryd.prog 11 #[v, NI most] w fun e w' => e = .returned (.bool (lightL l most)) ∧ Ext w w' := by
 refine calls_of_wpF (args := [v, NI most]) Tryd.func11 rfl 41 rfl (Nat.le_of_ble_eq_true rfl) ?_
 intro ρ0 hb
 have T0 : ρ0 0 = (v : Value) := hb.get 0
 have T1 : ρ0 1 = (NI most : Value) := hb.get 1
 clear hb
 have hE := Ext.refl w
 refine sk fun K1 hK1 => (wt (oA rfl (oZ (tN (hK1 _ _ (sk fun K2 hK2 => (sk fun K3 hK3 => (wt (oM rfl (oS rfl (Yk.lenRG ls8_ty35 (RG.of (hl.keep hE) T0) (oM rfl (oS rfl (Yk.eqI (a := (l.length : Nat)) (b := (most : Nat)) rfl T1 (k_gtr _ _ _ _) (oZ (tN (hK3 _ _ ?_)))))))))))))))))
 refine wpF_cond ((most) < (l.length)) (vr (.bool (decide ((most) < (l.length)))) rfl) (fun hc0 => ?_) (fun hc0 => ?_)
 ·have hV : lightL l most = false := by unfold lightL; rw [decide_eq_true (show most < l.length from hc0)]; rfl
  refine sk fun K4 hK4 => (wt (oA rfl (oZ (tN (hK4 _ _ (wpF_ret (thenF_ret (postF_ret (fn := Tryd.f11) _ rfl [.bool (false)] (.bool (false)) rfl ⟨rfl, trivial⟩ ?_))))))))
  exact ⟨by rw [hV], hE⟩
 refine wpF_skip (tN (hK2 _ _ (sk fun K5 hK5 => (sk fun K6 hK6 => (wt (oA rfl (oL_ [(0, v), (1, NI most), (4, .bool (false)), (5, NI 0)] ⟨T0, T1, rfl, rfl, trivial⟩ fun ρ7 ⟨T0, T1, T4, T5, _⟩ => (tN (hK6 _ _ (wpF_block (wpF_loop (fun (ρ : Slots) (wz : World) => ∃ i : Nat, ρ 0 = (v : Value) ∧ ρ 1 = (NI most : Value) ∧ ρ 5 = (NI i : Value) ∧ Ext w wz ∧ (i ≤ l.length) ∧ ((l.take i).all (fun x => !(decide (200 < x.1.bytes.length) || decide (200 < x.1.other.length) || decide (60 < x.1.fates.length))) = true) ∧ True) (fun ρ _ => l.length - (intOf (ρ 5)).toNat) ⟨0, T0, T1, T5, hE, Nat.zero_le _, rfl, trivial⟩ ?_)))))))))))
 clear hE
 rintro ρ8 w9 ⟨i, T0, T1, T5, hE, hi, hq, -⟩
 have q5 := T5
 refine sk fun K10 hK10 => (sk fun K11 hK11 => (wt (oM rfl (oM rfl (oS rfl (Yk.lenRG ls8_ty35 (RG.of (hl.keep hE) T0) (oS rfl (Yk.eqI (a := (i : Nat)) (b := (l.length : Nat)) T5 rfl (k_lss _ _ _ _) (oZ (tN (hK11 _ _ ?_)))))))))))
 refine wpF_cond ((i) < (l.length)) (vr (.bool (decide ((i) < (l.length)))) rfl) (fun hc1 => ?_) (fun hc1 => ?_)
 ·have hlt : i < l.length := hc1
  have hx := hk _ (getD_mem_ (d := dLac) hlt)
  have hxb := (hx.keep hE).bytes
  have hxo := (hx.keep hE).other
  have hxf := (hx.keep hE).fates
  refine wpF_skip (tN (hK10 _ _ (sk fun K12 hK12 => (wpF_block (sk fun K13 hK13 => (wt (oM rfl (oM rfl ?_))))))))
  have hl16 : (lacC (l.getD (i) dLac)).length = 5 := (RG.elem (hl.keep hE) dLac (by omega))
  refine oS rfl (Yk.atRG ls8_ty35 ls8_szg39 (by decide) dLac (RG.of (hl.keep hE) T0) T5 (by omega) fun v14 hp15 => (oS rfl (Yk.fieldPR (n := 1) ls8_fo39_1 (PR.of hp15 (vr v14 rfl)) fun v17 hp18 => ?_)))
  have hp18 : PCell ((l.getD (i) dLac).2.bytes) v17 w9 := PR.pcell ((lac_f1 (l.getD (i) dLac)) ▸ hp18)
  refine oS rfl (Yk.loadC ls8_ty22 rfl (PCell.of hp18 (vr v17 rfl)) (oS rfl (Yk.lenRB ls8_ty22 (RB.of hxb (vr ((l.getD (i) dLac).2.bytes) rfl)) (oS rfl (Yk.eqI (a := (((l.getD (i) dLac).1.bytes : List UInt8).length : Nat)) (b := (200 : Nat)) rfl rfl (k_gtr _ _ _ _) (oM rfl (opsF_mayV (v) rfl rfl (gF (vr (.bool (decide ((200) < (((l.getD (i) dLac).1.bytes : List UInt8).length)))) rfl)) (fun hG19 => Yk.move T0 ⟨rfl, rfl⟩) (opsF_mayV (NI i) rfl rfl (gF (vr (.bool (decide ((200) < (((l.getD (i) dLac).1.bytes : List UInt8).length)))) rfl)) (fun hG20 => Yk.move T5 ⟨rfl, rfl⟩) ?_))))))))
  have hl24 : (!(decide ((200) < (((l.getD (i) dLac).1.bytes : List UInt8).length)))) = true → (lacC (l.getD (i) dLac)).length = 5 := fun hG21 => (RG.elem (hl.keep hE) dLac (by first | omega | (simp only [gA, gB, gC, gD, gE] at hG21; omega)))
  refine opsF_mayX (fun v22 => PR (lacC (l.getD (i) dLac)) v22 w9) rfl rfl (gF (vr (.bool (decide ((200) < (((l.getD (i) dLac).1.bytes : List UInt8).length)))) rfl)) (fun hG21 => Yk.atRG ls8_ty35 ls8_szg39 (by decide) dLac (RG.of (hl.keep hE) (mayT (vr (cond (!(decide ((200) < (((l.getD (i) dLac).1.bytes : List UInt8).length)))) (v) undef) rfl) hG21)) (mayT (vr (cond (!(decide ((200) < (((l.getD (i) dLac).1.bytes : List UInt8).length)))) (NI i) undef) rfl) hG21) (by first | omega | (simp only [gA, gB, gC, gD, gE] at hG21; omega)) fun _ h => ⟨h, rfl⟩) fun v22 hp23 => ?_
  refine opsF_mayX (fun v26 => PCell ((l.getD (i) dLac).2.other) v26 w9) rfl rfl (gF (vr (.bool (decide ((200) < (((l.getD (i) dLac).1.bytes : List UInt8).length)))) rfl)) (fun hG25 => ?_) fun v26 hp27 => ?_
  ·refine Yk.fieldPR (n := 1) ls8_fo39_2 (PR.of (hp23 hG25) (vr v22 rfl)) fun v26 hp27 => ?_
   have hp27 : PCell ((l.getD (i) dLac).2.other) v26 w9 := PR.pcell ((lac_f2 (l.getD (i) dLac)) ▸ hp27)
   exact ⟨hp27, rfl⟩
  refine opsF_mayV ((l.getD (i) dLac).2.other) rfl rfl (gF (vr (.bool (decide ((200) < (((l.getD (i) dLac).1.bytes : List UInt8).length)))) rfl)) (fun hG28 => Yk.loadC ls8_ty22 rfl (PCell.of (hp27 hG28) (vr v26 rfl)) ⟨rfl, rfl⟩) (opsF_mayV (NI (((l.getD (i) dLac).1.other : List UInt8).length)) rfl rfl (gF (vr (.bool (decide ((200) < (((l.getD (i) dLac).1.bytes : List UInt8).length)))) rfl)) (fun hG29 => Yk.lenRB ls8_ty22 (RB.of hxo (mayT (vr (cond (!(decide ((200) < (((l.getD (i) dLac).1.bytes : List UInt8).length)))) ((l.getD (i) dLac).2.other) undef) rfl) hG29)) ⟨rfl, rfl⟩) (opsF_mayV (.bool (decide ((200) < (((l.getD (i) dLac).1.other : List UInt8).length)))) rfl rfl (gF (vr (.bool (decide ((200) < (((l.getD (i) dLac).1.bytes : List UInt8).length)))) rfl)) (fun hG30 => Yk.eqI (a := ((((l.getD (i) dLac).1.other : List UInt8).length : Nat) : Int)) (b := ((200 : Nat) : Int)) (mayT (vr (cond (!(decide ((200) < (((l.getD (i) dLac).1.bytes : List UInt8).length)))) (NI (((l.getD (i) dLac).1.other : List UInt8).length)) undef) rfl) hG30) (vr (NI 200) rfl) (k_gtr _ .i64 (((l.getD (i) dLac).1.other : List UInt8).length) (200)) ⟨rfl, rfl⟩) (oS rfl (Yk.pickOrN (vr (.bool (decide ((200) < (((l.getD (i) dLac).1.bytes : List UInt8).length)))) rfl) (vr (.bool (true)) rfl) (fun hA => (mayT (vr (cond (!(decide ((200) < (((l.getD (i) dLac).1.bytes : List UInt8).length)))) (.bool (decide ((200) < (((l.getD (i) dLac).1.other : List UInt8).length)))) undef) rfl) (not_i hA))) fun bb31 hbb32 => (oM rfl (opsF_mayV (v) rfl rfl (gF (vr (.bool (bb31)) rfl)) (fun hG33 => Yk.move T0 ⟨rfl, rfl⟩) (opsF_mayV (NI i) rfl rfl (gF (vr (.bool (bb31)) rfl)) (fun hG34 => Yk.move T5 ⟨rfl, rfl⟩) ?_)))))))
  have hl38 : (!bb31) = true → (lacC (l.getD (i) dLac)).length = 5 := fun hG35 => (RG.elem (hl.keep hE) dLac (by first | omega | (simp only [hbb32, gA, gB, gC, gD, gE] at hG35; omega)))
  refine opsF_mayX (fun v36 => PR (lacC (l.getD (i) dLac)) v36 w9) rfl rfl (gF (vr (.bool (bb31)) rfl)) (fun hG35 => Yk.atRG ls8_ty35 ls8_szg39 (by decide) dLac (RG.of (hl.keep hE) (mayT (vr (cond (!bb31) (v) undef) rfl) hG35)) (mayT (vr (cond (!bb31) (NI i) undef) rfl) hG35) (by first | omega | (simp only [hbb32, gA, gB, gC, gD, gE] at hG35; omega)) fun _ h => ⟨h, rfl⟩) fun v36 hp37 => ?_
  refine opsF_mayX (fun v40 => PCell ((l.getD (i) dLac).2.fates) v40 w9) rfl rfl (gF (vr (.bool (bb31)) rfl)) (fun hG39 => ?_) fun v40 hp41 => ?_
  ·refine Yk.fieldPR (n := 1) ls8_fo39_4 (PR.of (hp37 hG39) (vr v36 rfl)) fun v40 hp41 => ?_
   have hp41 : PCell ((l.getD (i) dLac).2.fates) v40 w9 := PR.pcell ((lac_f4 (l.getD (i) dLac)) ▸ hp41)
   exact ⟨hp41, rfl⟩
  refine opsF_mayV ((l.getD (i) dLac).2.fates) rfl rfl (gF (vr (.bool (bb31)) rfl)) (fun hG42 => Yk.loadC ls8_ty37 rfl (PCell.of (hp41 hG42) (vr v40 rfl)) ⟨rfl, rfl⟩) (opsF_mayV (NI (((l.getD (i) dLac).1.fates).length)) rfl rfl (gF (vr (.bool (bb31)) rfl)) (fun hG43 => Yk.lenRG ls8_ty37 (RG.of hxf (mayT (vr (cond (!bb31) ((l.getD (i) dLac).2.fates) undef) rfl) hG43)) ⟨rfl, rfl⟩) (opsF_mayV (.bool (decide ((60) < (((l.getD (i) dLac).1.fates).length)))) rfl rfl (gF (vr (.bool (bb31)) rfl)) (fun hG44 => Yk.eqI (a := ((((l.getD (i) dLac).1.fates).length : Nat) : Int)) (b := ((60 : Nat) : Int)) (mayT (vr (cond (!bb31) (NI (((l.getD (i) dLac).1.fates).length)) undef) rfl) hG44) (vr (NI 60) rfl) (k_gtr _ .i64 (((l.getD (i) dLac).1.fates).length) (60)) ⟨rfl, rfl⟩) (oS rfl (Yk.pickOrN (vr (.bool (bb31)) rfl) (vr (.bool (true)) rfl) (fun hA => (mayT (vr (cond (!bb31) (.bool (decide ((60) < (((l.getD (i) dLac).1.fates).length)))) undef) rfl) (not_i hA))) fun bb45 hbb46 => (oZ ?_)))))
  clear hp15
  clear hp18
  clear hp23
  clear hp27
  clear hp37
  clear hp41
  refine tN (hK13 _ _ ?_)
  refine wpF_condB (bb45) (vr (.bool (bb45)) rfl) (fun hc2 => ?_) (fun hc2 => ?_)
  ·subst hbb32 hbb46
   refine sk fun K47 hK47 => (wt (oA rfl (oZ (tN (hK47 _ _ (wpF_ret (inBlockF_ret (thenF_ret (thenF_ret (inBlockF_ret (thenF_ret (postF_ret (fn := Tryd.f11) _ rfl [.bool (false)] (.bool (false)) rfl ⟨rfl, trivial⟩ ?_))))))))))))
   exact ⟨by rw [show lightL l most = false from lightL_no hlt hc2], hE⟩
  subst hbb32 hbb46
  refine wpF_skip (bN (tN (hK12 _ _ (wt (oM rfl (oS rfl (Yk.bin (xv := NI i) (yv := NI 1) T5 rfl rfl (i64_add _ _ _ (by omega)) (oA rfl (oL_ [(0, v), (1, NI most), (5, NI ((i) + (1)))] ⟨T0, T1, rfl, trivial⟩ fun ρ48 ⟨T0, T1, T5, _⟩ => (tN (And.intro ⟨i + 1, T0, T1, T5, hE, by omega, all_stepY dLac hlt hq (by show (!(_ || _ || _)) = true; exact (congrArg not hc2)), trivial⟩ ?_)))))))))))
  show l.length - (intOf (ρ48 5)).toNat < l.length - (intOf (ρ8 5)).toNat
  rw [T5, q5]
  simp only [intOf, Int.toNat_natCast]; omega
 refine wpF_exit (thenF_exit (thenF_exit (inBlockF_hit (tN (hK5 _ _ (sk fun K49 hK49 => (wt (oA rfl (oZ (tN (hK49 _ _ (wpF_ret (postF_ret (fn := Tryd.f11) _ rfl [.bool (true)] (.bool (true)) rfl ⟨rfl, trivial⟩ ?_)))))))))))))
 have hie : i = l.length := by have h := hc1; omega
 rw [hie, List.take_length] at hq
 exact ⟨by rw [show lightL l most = true from by unfold lightL; rw [decide_eq_false hc0, hq]; rfl], hE⟩

theorem did_at (wb w : World) (g : Nat) (H : Dk) (D : Dsk) (hD : DkG wb w g H D) (hG : Laid wb) (x : LactV) (hx : LacAt wb x) (hbl : x.1.bytes.length ≤ 300) (n : Nat) (hB : DBd n D) (hn : n ≤ 99000) (hL : DLt D) :
  Calls Tryd.prog 15 #[PQ g 0, .agg (lacC x).toArray] w fun e w' => ∃ H', e = .returned (.tuple #[]) ∧ DkG wb w' g H' (didL D x.1) ∧ Chg (Foot H D.files.length) w w' := by
 have hE0 := hD.ext
 have hxb := (hx.keep hE0).bytes
 have hxo := (hx.keep hE0).other
 have hxf := (hx.keep hE0).fates
 refine calls_of_wpF (args := [PQ g 0, .agg (lacC x).toArray]) Tryd.func15 rfl 36 rfl (Nat.le_of_ble_eq_true rfl) ?_
 intro ρ0 hb
 have T0 : ρ0 0 = (PQ g 0 : Value) := hb.get 0
 have T1 : ρ0 1 = (.agg (lacC x).toArray : Value) := hb.get 1
 clear hb
 have hE := Ext.refl w
 refine sk fun K1 hK1 => (wt (oS rfl (Yk.box (cs := (lacC x : List Value).toArray) T1 fun n2 w3 hn4 hb5 hx6 hs7 => ?_)))
 have hA8 := Ext.refl w
 have hea9 := hE
 have hea10 := hE0
 have hz11 := hE.size
 have hz12 := hE0.size
 have hE := hE.trans hx6
 have hE0 := hE0.trans hx6
 have hA8 := hA8.trans hx6
 have hb13 := hb5; clear hb5
 have hl14 : n2 < w3.heap.size := by omega
 refine oZ ?_
 have hbd := tmod_bd x.1.kind 5
 refine tN (hK1 _ _ (sk fun K15 hK15 => (wt (oS rfl (Yk.fieldAt ls8_fo39_0 (vr (PQ n2 0) rfl) (oS rfl (Yk.cell1 ls8_ty3 rfl (vr (PQ n2 0) rfl) (cellAt hb13 (show (lacC x)[0]? = some (.int .i64 (x.1.kind : Int) : Value) from lac_g0 x)) (oS rfl (Yk.bin (xv := .int .i64 (x.1.kind)) (yv := NI 6) rfl rfl rfl (zi_rem _ (x.1.kind) _ (by decide)) (oS rfl (Yk.bin (xv := .int .i64 ((Int.tmod (x.1.kind) ((5 + 1 : Nat) : Int)))) (yv := .int .i64 (((6 : Nat) : Int))) rfl rfl rfl (zi_add _ ((Int.tmod (x.1.kind) ((5 + 1 : Nat) : Int))) (((6 : Nat) : Int)) (by omega)) (oS rfl (Yk.bin (xv := .int .i64 ((((Int.tmod (x.1.kind) ((5 + 1 : Nat) : Int))) + (((6 : Nat) : Int))))) (yv := NI 6) rfl rfl rfl (zi_fate _ (x.1.kind) 5 _ (by omega)) (oZ (tN (hK15 _ _ (wpF_block (sk fun K16 hK16 => (sk fun K17 hK17 => (wt (oS rfl (Yk.eqI (a := ((kindL x.1.kind) : Nat)) (b := (0 : Nat)) rfl rfl (k_eql _ _ _ _) (oA rfl ?_)))))))))))))))))))))))
 refine oZ (tN (hK17 _ _ ?_))
 refine wpF_cond (((kindL x.1.kind) : Nat) = (0)) (vr (.bool (decide (((kindL x.1.kind) : Nat) = (0)))) rfl) (fun hc0 => ?_) (fun hc0 => ?_)
 ·have h01 : kindL x.1.kind = 0 ∨ kindL x.1.kind = 1 := .inl hc0
  have hV : didL D x.1 = (putL D x.1.bytes).1 := by unfold didL; rw [if_pos h01]
  refine wpF_skip (tN (hK16 _ _ (wpF_true (vr (.bool (true)) ((show _ = Value.bool (decide (kindL x.1.kind = 0)) from rfl).trans (congrArg Value.bool (decide_eq_true hc0)))) (wt (oM rfl (oS rfl (Yk.fieldAt ls8_fo39_1 (vr (PQ n2 0) rfl) (oS rfl (Yk.cell1 ls8_ty22 rfl (vr (PQ n2 1) rfl) (cellAt hb13 (show (lacC x)[1]? = some (x.2.bytes : Value) from lac_g1 x)) ?_)))))))))
  have hEc := hE
  have hDc := (hD.keep hE)
  refine oS rfl (Yk.callA2 ls8_pl7 T0 (vr x.2.bytes rfl) ((put_at _ _ _ _ _ hDc hG x.2.bytes x.1.bytes (hxb.keep hE) (hDc.off hx.bytes) hbl n hB hn).mono ?_))
  rintro e w18 ⟨H2, vo, rfl, -, hW2⟩
  refine ⟨_, rfl, ?_⟩
  have hD2 := hW2.g
  have hC2 := hW2.chg
  have hC3 : Chg (Foot H D.files.length) w _ := (Chg.ofExt hEc : Chg (Foot H D.files.length) w _).trans hC2 (fun i e => .inl e)
  refine oZ (bN (postF_end (fn := Tryd.f15) [] rfl [] (.tuple #[]) rfl trivial ?_))
  exact ⟨H2, rfl, by rw [hV]; exact hD2, hC3⟩
 refine wt (oS rfl (Yk.eqI (a := ((kindL x.1.kind) : Nat)) (b := (1 : Nat)) rfl rfl (k_eql _ _ _ _) (oA rfl (oZ (tN (hK16 _ _ ?_))))))
 refine wpF_cond (((kindL x.1.kind) : Nat) = (1)) (vr (.bool (decide (((kindL x.1.kind) : Nat) = (1)))) rfl) (fun hc1 => ?_) (fun hc1 => ?_)
 ·have h01 : kindL x.1.kind = 0 ∨ kindL x.1.kind = 1 := .inr hc1
  have hV : didL D x.1 = (putL D x.1.bytes).1 := by unfold didL; rw [if_pos h01]
  refine wt (oM rfl (oS rfl (Yk.fieldAt ls8_fo39_1 (vr (PQ n2 0) rfl) (oS rfl (Yk.cell1 ls8_ty22 rfl (vr (PQ n2 1) rfl) (cellAt hb13 (show (lacC x)[1]? = some (x.2.bytes : Value) from lac_g1 x)) ?_)))))
  have hEc := hE
  have hDc := (hD.keep hE)
  refine oS rfl (Yk.callA2 ls8_pl7 T0 (vr x.2.bytes rfl) ((put_at _ _ _ _ _ hDc hG x.2.bytes x.1.bytes (hxb.keep hE) (hDc.off hx.bytes) hbl n hB hn).mono ?_))
  rintro e w19 ⟨H2, vo, rfl, -, hW2⟩
  refine ⟨_, rfl, ?_⟩
  have hD2 := hW2.g
  have hC2 := hW2.chg
  have hC3 : Chg (Foot H D.files.length) w _ := (Chg.ofExt hEc : Chg (Foot H D.files.length) w _).trans hC2 (fun i e => .inl e)
  refine oZ (bN (postF_end (fn := Tryd.f15) [] rfl [] (.tuple #[]) rfl trivial ?_))
  exact ⟨H2, rfl, by rw [hV]; exact hD2, hC3⟩
 have h01 : ¬ (kindL x.1.kind = 0 ∨ kindL x.1.kind = 1) := fun q => q.elim hc0 hc1
 refine sk fun K20 hK20 => (wt (oS rfl (Yk.eqI (a := ((kindL x.1.kind) : Nat)) (b := (2 : Nat)) rfl rfl (k_eql _ _ _ _) (oA rfl (oZ (tN (hK20 _ _ ?_)))))))
 refine wpF_cond (((kindL x.1.kind) : Nat) = (2)) (vr (.bool (decide (((kindL x.1.kind) : Nat) = (2)))) rfl) (fun hc2 => ?_) (fun hc2 => ?_)
 ·have hV : didL D x.1 = (dropL D (Sha.sum x.1.bytes)).1 := by unfold didL; rw [if_neg h01, if_pos hc2]
  refine wt (oM rfl (oS rfl (Yk.fieldAt ls8_fo39_1 (vr (PQ n2 0) rfl) (oS rfl (Yk.cell1 ls8_ty22 rfl (vr (PQ n2 1) rfl) (cellAt hb13 (show (lacC x)[1]? = some (x.2.bytes : Value) from lac_g1 x)) (oS rfl (Yk.rows1 ls8_rows1_75 (RB.of (hxb.keep hE) (vr x.2.bytes rfl)) fun v21 w22 hr23 hx24 => ?_)))))))
  have hE := hE.trans hx24
  have hE0 := hE0.trans hx24
  have hA8 := hA8.trans hx24
  have hb13 := eb hx24 hb13
  refine oS rfl (Yk.callA1 ls8_pl14 (vr v21 rfl) ((sum_one _ (hG.keep hE0) v21 x.1.bytes hr23 (by omega)).mono ?_))
  rintro e w26 ⟨rfl, hx25⟩
  refine ⟨_, rfl, ?_⟩
  have hE := hE.trans hx25
  have hE0 := hE0.trans hx25
  have hA8 := hA8.trans hx25
  have hb13 := eb hx25 hb13
  have hr23 := hr23.keep hx25
  have hEc := hE
  have hDc := (hD.keep hE)
  refine oS rfl (Yk.callA2 ls8_pl42 T0 (vr (AB (Sha.sum x.1.bytes)) rfl) ((ldrop_at _ _ _ _ _ hDc hL (Sha.sum x.1.bytes) (Sha.sum_length _)).mono ?_))
  rintro e w27 ⟨H2, rfl, hW2⟩
  refine ⟨_, rfl, ?_⟩
  have hD2 := hW2.g
  have hC2 := hW2.chg
  have hC3 : Chg (Foot H D.files.length) w _ := (Chg.ofExt hEc : Chg (Foot H D.files.length) w _).trans hC2 (fun i e => .inl e)
  refine oZ (bN (postF_end (fn := Tryd.f15) [] rfl [] (.tuple #[]) rfl trivial ?_))
  exact ⟨H2, rfl, by rw [hV]; exact hD2, hC3⟩
 refine sk fun K28 hK28 => (wt (oS rfl (Yk.eqI (a := ((kindL x.1.kind) : Nat)) (b := (4 : Nat)) rfl rfl (k_eql _ _ _ _) (oA rfl (oZ (tN (hK28 _ _ ?_)))))))
 refine wpF_cond (((kindL x.1.kind) : Nat) = (4)) (vr (.bool (decide (((kindL x.1.kind) : Nat) = (4)))) rfl) (fun hc3 => ?_) (fun hc3 => ?_)
 ·have hV : didL D x.1 = crashD D x.1.fates := by unfold didL; rw [if_neg h01, if_neg hc2, if_pos hc3]
  refine wt (oM rfl (oS rfl (Yk.fieldAt ls8_fo39_4 (vr (PQ n2 0) rfl) (oS rfl (Yk.cell1 ls8_ty37 rfl (vr (PQ n2 4) rfl) (cellAt hb13 (show (lacC x)[4]? = some (x.2.fates : Value) from lac_g4 x)) ?_)))))
  have hEc := hE
  have hDc := (hD.keep hE)
  refine oS rfl (Yk.callA2 ls8_pl19 T0 (vr x.2.fates rfl) ((hDc.crash x.2.fates x.1.fates (hxf.keep hE) hL).mono ?_))
  rintro e w29 ⟨H2, rfl, hD2, hC2⟩
  refine ⟨_, rfl, ?_⟩
  have hC3 : Chg (Foot H D.files.length) w _ := (Chg.ofExt hEc : Chg (Foot H D.files.length) w _).trans hC2 (fun i e => .inl e)
  refine oZ (bN (postF_end (fn := Tryd.f15) [] rfl [] (.tuple #[]) rfl trivial ?_))
  exact ⟨H2, rfl, by rw [hV]; exact hD2, hC3⟩
 refine sk fun K30 hK30 => (wt (oS rfl (Yk.eqI (a := ((kindL x.1.kind) : Nat)) (b := (5 : Nat)) rfl rfl (k_eql _ _ _ _) (oA rfl (oZ (tN (hK30 _ _ ?_)))))))
 refine wpF_cond (((kindL x.1.kind) : Nat) = (5)) (vr (.bool (decide (((kindL x.1.kind) : Nat) = (5)))) rfl) (fun hc4 => ?_) (fun hc4 => ?_)
 ·have hV : didL D x.1 = { D with arm := x.1.n.toNat } := by unfold didL; rw [if_neg h01, if_neg hc2, if_neg hc3, if_pos hc4]
  refine wt (oM rfl (oS rfl (Yk.fieldAt ls8_fo39_3 (vr (PQ n2 0) rfl) (oS rfl (Yk.cell1 ls8_ty3 rfl (vr (PQ n2 3) rfl) (cellAt hb13 (show (lacC x)[3]? = some (.int .i64 (x.1.n : Int) : Value) from lac_g3 x)) ?_)))))
  have hEc := hE
  have hDc := (hD.keep hE)
  refine oS rfl (Yk.callA2 ls8_pl20 T0 (vr (.int .i64 (x.1.n : Int)) rfl) ((hDc.arm x.1.n).mono ?_))
  rintro e w31 ⟨H2, rfl, hD2, hC2⟩
  refine ⟨_, rfl, ?_⟩
  have hC3 : Chg (Foot H D.files.length) w _ := (Chg.ofExt hEc : Chg (Foot H D.files.length) w _).trans hC2 (fun i e => .inl e)
  refine oZ (bN (postF_end (fn := Tryd.f15) [] rfl [] (.tuple #[]) rfl trivial ?_))
  exact ⟨H2, rfl, by rw [hV]; exact hD2, hC3⟩
 have hV : didL D x.1 = D := by unfold didL; rw [if_neg h01, if_neg hc2, if_neg hc3, if_neg hc4]
 refine wpF_skip (bN (postF_end (fn := Tryd.f15) [] rfl [] (.tuple #[]) rfl trivial ?_))
 exact ⟨H, rfl, by rw [hV]; exact (hD.keep hE), Chg.ofExt hE⟩
open Go.RowKit
set_option maxRecDepth 100000
open Go.ChangeShapes Go.WideShapes Go.ChangeAt Go.Deep
set_option linter.unusedVariables false
set_option linter.unusedSimpArgs false
instance : Inhabited LactV := ⟨dLac⟩
theorem enI1_len (a : Int) : (enI a).length = 1 := rfl
theorem open_lac_39 {H : Type} {enc : TypeId × Value → H} {W : World} : Opn enc Tryd.prog W 39 lacC (fun x : LactV => RB W x.2.bytes x.1.bytes ∧ RB W x.2.other x.1.other ∧ -9223372036854775808 ≤ x.1.n ∧ x.1.n ≤ 9223372036854775807 ∧ RG 1 enI W x.2.fates x.1.fates) := fun fuel cs x h => by
 have ht : Tryd.prog.underlying 39 = some (.struct (Tryd.prog.fieldsOf 39)) := by kernel_rfl
 obtain ⟨a0, e0, k0⟩ := field_open (i := 0) (ty := 3) (o := 0) (k := 1) ht h (by kernel_rfl) (by kernel_rfl) (Opn.i64 (by kernel_rfl))
 obtain ⟨a1, e1, k1⟩ := field_open (i := 1) (ty := 22) (o := 1) (k := 1) ht h (by kernel_rfl) (by kernel_rfl) (Opn.bytes (e := 5) (by kernel_rfl) (by kernel_rfl) (by kernel_rfl))
 obtain ⟨a2, e2, k2⟩ := field_open (i := 2) (ty := 22) (o := 2) (k := 1) ht h (by kernel_rfl) (by kernel_rfl) (Opn.bytes (e := 5) (by kernel_rfl) (by kernel_rfl) (by kernel_rfl))
 obtain ⟨a3, e3, k3⟩ := field_open (i := 3) (ty := 3) (o := 3) (k := 1) ht h (by kernel_rfl) (by kernel_rfl) (Opn.i64 (by kernel_rfl))
 obtain ⟨a4, e4, k4⟩ := field_open (i := 4) (ty := 37) (o := 4) (k := 1) ht h (by kernel_rfl) (by kernel_rfl) (Opn.slice (by kernel_rfl) (by kernel_rfl) (by decide) (Opn.i64 (t := 3) (by kernel_rfl)) (fun a _ => enI1_len a))
 have hl : cs.drop 5 = [] := List.drop_of_length_le (Nat.le_of_eq ((struct_len ht h).trans (by kernel_rfl)))
 refine ⟨(⟨a0, a1.2, a2.2, a3, a4.2⟩, ⟨a1.1, a2.1, a4.1⟩), ?_, ⟨k1, k2, k3.1, k3.2, k4.1⟩⟩
 rw [show cs = cs.drop 0 from rfl]
 rw [e0]
 rw [show cs.drop (0 + 1) = _ from e1]
 rw [show cs.drop (1 + 1) = _ from e2]
 rw [show cs.drop (2 + 1) = _ from e3]
 rw [show cs.drop (3 + 1) = _ from e4]
 rw [show cs.drop (4 + 1) = [] from hl]
 simp [lacC]
theorem opn_lac {H : Type} {enc : TypeId × Value → H} {W : World} : Opn enc Tryd.prog W 39 lacC (fun x : LactV => LacAt W x) := fun fuel cs y h => by
 obtain ⟨x, h1, h2, h3, h4, h5, h6⟩ := open_lac_39 fuel cs y h
 exact ⟨x, h1, h2, h3, h6, h5⟩
theorem open_sl {H : Type} {enc : TypeId × Value → H} {P : Program} {W : World} {α : Type} [Inhabited α] {k : Nat} {f : α → List Value} {OK : α → Prop} {t e : TypeId} (ht : P.underlying t = some (.slice e)) (hc : P.cellsOf e = k) (hk : 0 < k) (hE : Opn enc P W e f OK) (hl : ∀ a, OK a → (f a).length = k)
  {r : Reach} {b0 : Nat} {v : Value} {d : DataW H} {ps : List MemPlace} (hval : Value.okWide P W r b0 t v) (hd : DataW.Trod enc P W 0 (fun _ => true) true t v d ps) : ∃ l, RG k f W v l ∧ (∀ a ∈ l, OK a) ∧ ∀ p ∈ ps, p.block < W.heap.size := by
 obtain ⟨a0, len0, cap0, rfl⟩ := okWide_slice ht hval
 obtain ⟨fuel, hf⟩ := hd
 have hlt := DataW.trod_lt fuel _ _ _ hf
 obtain ⟨a, h1, h2, h3⟩ := Opn.slice ht hc hk hE hl _ _ _ hf
 have h1 : [Value.slice a0 len0 cap0] = [a.1] := h1
 exact ⟨a.2, by rw [(List.cons.inj h1).1]; exact h2, h3, hlt⟩
theorem open_lacs {H : Type} {enc : TypeId × Value → H} {W : World} {r : Reach} {b0 : Nat} {v : Value} {d : DataW H} {ps : List MemPlace} (hval : Value.okWide Tryd.prog W r b0 35 v) (hd : DataW.Trod enc Tryd.prog W 0 (fun _ => true) true 35 v d ps) :
  ∃ l : List LactV, RG 5 lacC W v l ∧ (∀ x ∈ l, LacAt W x) ∧ ∀ p ∈ ps, p.block < W.heap.size :=
 open_sl (by kernel_rfl) (by kernel_rfl) (by decide) opn_lac (fun a _ => lac_len a) hval hd
theorem open_ints {H : Type} {enc : TypeId × Value → H} {W : World} {r : Reach} {b0 : Nat} {v : Value} {d : DataW H} {ps : List MemPlace} (hval : Value.okWide Tryd.prog W r b0 37 v) (hd : DataW.Trod enc Tryd.prog W 0 (fun _ => true) true 37 v d ps) :
  ∃ l : List Int, RG 1 enI W v l ∧ ∀ p ∈ ps, p.block < W.heap.size := by
 obtain ⟨l, h1, -, h3⟩ := open_sl (f := enI) (by kernel_rfl) (by kernel_rfl) (by decide) (Opn.i64 (t := 3) (by kernel_rfl)) (fun a _ => enI1_len a) hval hd
 exact ⟨l, h1, h3⟩
open Go.RowKit
set_option maxRecDepth 100000
set_option linter.unusedVariables false
set_option linter.unusedSimpArgs false
theorem put_o {D : Dsk} {b : List UInt8} {r : Dsk × List UInt8 × List UInt8 × Nat} (hL : DLt D) (h : putL D b = r) : r.2.2.1.length < 1099511627776 := by
 have hf : ∀ x : Dsk × Nat, (finL x (Sha.sum b)).2.2.1.length < 1099511627776 := fun x => by
  unfold finL
  split <;> exact show (0 : Nat) < 1099511627776 by omega
 subst h
 unfold putL
 split
 ·exact hf _
 split
 ·exact show (0 : Nat) < 1099511627776 by omega
 split
 ·exact hf _
 split
 ·exact read_len hL _
 ·exact hf _
structure GoodL (D : Dsk) : Prop where
 ok : DOk D
 inj : InjD D.now
theorem GoodL.new : GoodL (newD 1048576) := ⟨⟨DirOk.nil _, DirOk.nil _, (fun _ h => by cases h), (fun _ h => by cases h)⟩, List.Pairwise.nil⟩
theorem GoodL.ready {D : Dsk} (h : GoodL D) (hd : D.down = false) : ReadyL { D with arm := 0 } := ⟨hd, rfl, ⟨h.ok.now, h.ok.kept, h.ok.acts, h.ok.syn⟩, h.inj⟩
section
variable {D : Dsk} {s b : List UInt8}
theorem GoodL.armed (h : GoodL D) : GoodL (armD D).1 := ⟨h.ok.arm, by rw [armD_now]; exact h.inj⟩
theorem GoodL.did (h : GoodL D) {f : Dsk → Dsk} (hf : GoodL (armD D).1 → GoodL (f (armD D).1)) : GoodL (doD D f).1 := by
 unfold doD
 split
 ·exact h.armed
 ·exact hf h.armed
theorem ready_may {t : List UInt8} (h : readyD D s t = 0) : mayD s = true := by
 unfold readyD at h
 split at h
 ·cases h
 ·split at h
  ·rename_i q; exact q.1
  ·cases h
theorem GoodL.append (h : GoodL D) (s b : List UInt8) : GoodL (appendD D s b).1 := by
 unfold appendD
 split
 ·exact h
 ·rename_i q
  have hm := ready_may (Classical.byContradiction q)
  split
  ·exact ⟨⟨h.ok.now, h.ok.kept, h.ok.acts, h.ok.syn⟩, h.inj⟩
  ·exact h.did (f := fun d => addD d s b) fun hE => ⟨hE.ok.add b hm, hE.inj.add hE.ok s b⟩
theorem GoodL.sync (h : GoodL D) (s : List UInt8) : GoodL (syncD D s).1 := by
 unfold syncD
 split
 ·exact h
 ·rename_i k _
  exact h.did fun hE => ⟨hE.ok.synced k, hE.inj⟩
theorem has_ok {t : List UInt8} {k : Nat} (he : hasD D s t = .ok k) : mayD s = true ∧ lookD D.now s = some k := by
 unfold hasD at he
 split at he
 ·cases he
 ·rename_i q
  split at he
  ·rename_i j hj
   cases he
   exact ⟨ready_may (Classical.byContradiction q), hj⟩
  ·cases he
theorem GoodL.drop (h : GoodL D) (s : List UInt8) : GoodL (dropD D s).1 := by
 unfold dropD
 split
 ·exact h
 ·rename_i k hk
  obtain ⟨hm, hl⟩ := has_ok hk
  refine h.did fun hE => ?_
  have hl2 : lookD (armD D).1.now s = some k := by rw [armD_now]; exact hl
  exact ⟨hE.ok.turned ⟨(hE.ok.now.look hl2).1, fun q => absurd rfl q, (mayD_pos hm).2⟩, InjD.turn hE.inj ⟨s, [], k⟩ fun q => absurd rfl q⟩
theorem GoodL.step (h : GoodL D) (s : List UInt8) : ∀ a : Stp, GoodL (stepD D s a).1
 | .add b => h.append s b
 | .sync => h.sync s
 | .rem => h.drop s
theorem GoodL.steps (s : List UInt8) : ∀ (acs : List Stp) {D : Dsk}, GoodL D → GoodL (stepsD D s acs).1
 | [], _, h => h
 | a :: r, D, h => by
  rw [steps_cons]
  split
  ·exact h.step s a
  ·exact GoodL.steps s r (h.step s a)
theorem GoodL.fin {r : Dsk × Nat} (h : GoodL r.1) (id : List UInt8) : GoodL (finL r id).1 := by
 unfold finL
 split <;> exact h
theorem GoodL.put (h : GoodL D) (b : List UInt8) : GoodL (putL D b).1 := by
 unfold putL
 split
 ·exact (GoodL.steps _ _ h).fin _
 split
 ·exact h
 split
 ·exact (GoodL.steps _ _ h).fin _
 split
 ·exact h
 ·exact (GoodL.steps _ _ h).fin _
theorem GoodL.crash (h : GoodL D) (l : List Int) : GoodL (crashD D l) := ⟨h.ok.crash l, InjD.num _⟩
theorem GoodL.didL (h : GoodL D) (a : Lact) : GoodL (didL D a) := by
 unfold Go.Proofs.YtejpjjhkjdpeaaaDoor.didL
 split
 ·exact h.put _
 split
 ·unfold dropL
  split <;> exact h.drop _
 split
 ·exact h.crash _
 split
 ·exact ⟨⟨h.ok.now, h.ok.kept, h.ok.acts, h.ok.syn⟩, h.inj⟩
 ·exact h
theorem BdL.disarm {n : Nat} (h : BdL n D) : BdL n { D with arm := 0 } := ⟨h.quota, h.refused, Nat.zero_le _, h.acts, h.now, h.files⟩
theorem BdL.didL {n : Nat} (h : BdL (2 * n) D) {a : Lact} (hb : a.bytes.length ≤ 300) (hn : a.n ≤ 9223372036854775807) : BdL (2 * (n + 1)) (didL D a) := by
 unfold Go.Proofs.YtejpjjhkjdpeaaaDoor.didL
 split
 ·exact h.put hb
 split
 ·refine BdL.mono (n := 2 * n + 1) ?_ (by omega)
  unfold dropL
  split <;> exact h.drop
 split
 ·exact (h.crash _).mono (by omega)
 split
 ·exact ⟨h.quota, Nat.le_trans h.refused (by omega), by show a.n.toNat ≤ _; omega, Nat.le_trans h.acts (by omega), Nat.le_trans h.now (by omega), h.files⟩
 ·exact h.mono (by omega)
theorem kept_nm {r : Dsk × List UInt8 × List UInt8 × Nat} (h : ReadyL D) (hq : usedD D + b.length ≤ D.quota) (hr : putL D b = r) :
  (r.2.2.2 = 7 → r.2.2.1 ≠ b ∧ Sha.sum r.2.2.1 = r.2.1 ∧ Sha.sum b = r.2.1) ∧ (r.2.2.2 ≠ 7 → ∀ fs : List Int, r.2.2.2 = 0 ∧ r.2.1 = Sha.sum b ∧ getL (crashD r.1 fs) r.2.1 = (b, 0)) := by
 subst hr
 rcases put_fine (b := b) h hq with ⟨c, q1, q2, q3, q4⟩ | ⟨D', k, q1, q2⟩
 ·rw [q4]
  exact ⟨fun _ => ⟨q2, q3, rfl⟩, fun q => absurd rfl q⟩
 ·rw [q1]
  refine ⟨fun q => (by cases q), fun _ fs => ⟨rfl, rfl, ?_⟩⟩
  obtain ⟨n, h1, h2, h3⟩ := q2.crash fs
  have hn : n = b.length := by omega
  rw [hn, List.take_length] at h3
  show getL (crashD D' fs) (Sha.sum b) = (b, 0)
  unfold getL
  rw [h3, if_neg (fun q => q.elim (fun x => by cases x) fun q => q.2 rfl)]
end
def playK (D : Dsk) (l : List LactV) (n : Nat) : Dsk := (l.take n).foldl (fun d x => didL d x.1) D
theorem playK_succ {D : Dsk} {l : List LactV} {n : Nat} (h : n < l.length) : playK D l (n + 1) = didL (playK D l n) (l.getD n dLac).1 := by
 unfold playK
 rw [List.take_succ_eq_append_getElem h, List.foldl_append, List.getD_eq_getElem?_getD, List.getElem?_eq_getElem h]
 rfl
theorem lsa_pl11 : Plain Tryd.prog 11 := fun _ _ => by kernel_rfl
theorem lsa_ty22 : Tryd.prog.underlying 22 = some (.slice 5) := by kernel_rfl
theorem lsa_ty37 : Tryd.prog.underlying 37 = some (.slice 3) := by kernel_rfl
theorem lsa_pl6 : Plain Tryd.prog 6 := fun _ _ => by kernel_rfl
theorem lsa_ty35 : Tryd.prog.underlying 35 = some (.slice 39) := by kernel_rfl
theorem lsa_szg39 : ∀ w' : World, (sizeOf 39).run Tryd.prog w' = .ok 5 w' := fun _ => by kernel_rfl
theorem lsa_ty39 : ∃ fs, Tryd.prog.underlying 39 = some (.struct fs) := struct_of (by kernel_rfl)
theorem lsa_isz39 : (Tryd.prog.info? 39).map (·.size) = some 5 := by kernel_rfl
theorem lsa_pl15 : Plain Tryd.prog 15 := fun _ _ => by kernel_rfl
theorem lsa_pl20 : Plain Tryd.prog 20 := fun _ _ => by kernel_rfl
theorem lsa_pl7 : Plain Tryd.prog 7 := fun _ _ => by kernel_rfl
theorem lsa_al26 {d : Option Tmp} {ty : TypeId} {pos : String} {af : Array Edge} {gd : Option (Nat × Bool)} (σ : Operand → Value) (w : World) : (execOp σ ⟨d, .alloc 26, ty, pos, af, gd⟩).run Tryd.prog w = .ok (.value (PQ w.heap.size 0)) (w.alloc (.cells (Lib.byteCells (List.replicate 32 0)).toArray 26)) := by kernel_rfl
theorem lsa_ty5 : Tryd.prog.underlying 5 = some (.int .u8) := by kernel_rfl
theorem lsa_ty9 : Tryd.prog.underlying 9 = some (.string) := by kernel_rfl
theorem lsa_rows1_75 (ao : Option Addr) (n c : Nat) (w : World) : (Instr.buildSlice 75 1 #[(0, .slice ao n c)]).run Tryd.prog w = .ok (.slice (some ⟨w.heap.size, 0, none⟩) 1 1) (w.alloc (.cells #[.slice ao n c] 22)) := by kernel_rfl
theorem lsa_pl14 : Plain Tryd.prog 14 := fun _ _ => by kernel_rfl
theorem lsa_ty26 : Tryd.prog.underlying 26 = some (.array 32 5) := by kernel_rfl
theorem lsa_eg26 : Tryd.prog.eqGuardType Tryd.prog.depth 26 = false := by kernel_rfl
theorem lsa_sz5 : ∀ w' : World, (sizeOf 5).run Tryd.prog w' = .ok 1 w' := fun _ => by kernel_rfl
theorem lsa_pl19 : Plain Tryd.prog 19 := fun _ _ => by kernel_rfl
theorem lsa_pl16 : Plain Tryd.prog 16 := fun _ _ => by kernel_rfl
theorem lsa_pl10 : Plain Tryd.prog 10 := fun _ _ => by kernel_rfl
theorem lsa_pl18 : Plain Tryd.prog 18 := fun _ _ => by kernel_rfl
set_option maxHeartbeats 1600000
theorem looseKept_walk (w : World) (hG : Laid w) (v vb vf : Value) (l : List LactV) (b : List UInt8) (fs : List Int) (hl : RG 5 lacC w v l) (hk : ∀ x ∈ l, LacAt w x) (hb : RB w vb b) (hf : RG 1 enI w vf fs) :
  Calls Tryd.prog 5 #[v, vb, vf] w fun e w' => e = .returned (.bool true) ∧ Ext w w' := by
 refine calls_of_wpF (args := [v, vb, vf]) Tryd.func5 rfl 106 rfl (Nat.le_of_ble_eq_true rfl) ?_
 intro ρ0 hb
 have T0 : ρ0 0 = (v : Value) := hb.get 0
 have T1 : ρ0 1 = (vb : Value) := hb.get 1
 have T2 : ρ0 2 = (vf : Value) := hb.get 2
 clear hb
 have hE := Ext.refl w
 refine sk fun K1 hK1 => (wt (oA rfl (oZ (tN (hK1 _ _ (sk fun K2 hK2 => (sk fun K3 hK3 => (wt (oM rfl (oS rfl (Yk.callA2 lsa_pl11 T0 (vr (NI 30) rfl) ((light_anyL _ v l (hl.keep hE) (fun x hx => (hk x hx).keep hE) 30 (by decide)).mono ?_))))))))))))
 rintro e w5 ⟨rfl, hx4⟩
 refine ⟨_, rfl, ?_⟩
 have hE := hE.trans hx4
 refine oS rfl (Yk.notB (vr (.bool ((lightL l 30))) rfl) (oM rfl (opsF_mayV (vb) rfl rfl (gF (vr (.bool (!((lightL l 30)))) rfl)) (fun hG6 => Yk.move T1 ⟨rfl, rfl⟩) (opsF_mayV (NI b.length) rfl rfl (gF (vr (.bool (!((lightL l 30)))) rfl)) (fun hG7 => Yk.lenRB lsa_ty22 (RB.of (hb.keep hE) (mayT (vr (cond (!(!((lightL l 30)))) (vb) undef) rfl) hG7)) ⟨rfl, rfl⟩) (opsF_mayV (.bool (decide ((300) < (b.length)))) rfl rfl (gF (vr (.bool (!((lightL l 30)))) rfl)) (fun hG8 => Yk.eqI (a := ((b.length : Nat) : Int)) (b := ((300 : Nat) : Int)) (mayT (vr (cond (!(!((lightL l 30)))) (NI b.length) undef) rfl) hG8) (vr (NI 300) rfl) (k_gtr _ .i64 (b.length) (300)) ⟨rfl, rfl⟩) (oS rfl (Yk.pickOrN (vr (.bool (!((lightL l 30)))) rfl) (vr (.bool (true)) rfl) (fun hA => (mayT (vr (cond (!(!((lightL l 30)))) (.bool (decide ((300) < (b.length)))) undef) rfl) (not_i hA))) fun bb9 hbb10 => (oM rfl (opsF_mayV (vf) rfl rfl (gF (vr (.bool (bb9)) rfl)) (fun hG11 => Yk.move T2 ⟨rfl, rfl⟩) (opsF_mayV (NI fs.length) rfl rfl (gF (vr (.bool (bb9)) rfl)) (fun hG12 => Yk.lenRG lsa_ty37 (RG.of (hf.keep hE) (mayT (vr (cond (!bb9) (vf) undef) rfl) hG12)) ⟨rfl, rfl⟩) (opsF_mayV (.bool (decide ((60) < (fs.length)))) rfl rfl (gF (vr (.bool (bb9)) rfl)) (fun hG13 => Yk.eqI (a := ((fs.length : Nat) : Int)) (b := ((60 : Nat) : Int)) (mayT (vr (cond (!bb9) (NI fs.length) undef) rfl) hG13) (vr (NI 60) rfl) (k_gtr _ .i64 (fs.length) (60)) ⟨rfl, rfl⟩) (oS rfl (Yk.pickOrN (vr (.bool (bb9)) rfl) (vr (.bool (true)) rfl) (fun hA => (mayT (vr (cond (!bb9) (.bool (decide ((60) < (fs.length)))) undef) rfl) (not_i hA))) fun bb14 hbb15 => (oZ (tN (hK3 _ _ ?_))))))))))))))))
 refine wpF_condB (bb14) (vr (.bool (bb14)) rfl) (fun hc0 => ?_) (fun hc0 => ?_)
 ·refine sk fun K16 hK16 => (wt (oA rfl (oZ (tN (hK16 _ _ (wpF_ret (thenF_ret (postF_ret (fn := Tryd.f5) _ rfl [.bool (true)] (.bool (true)) rfl ⟨rfl, trivial⟩ ?_))))))))
  exact ⟨rfl, hE⟩
 subst hbb10 hbb15
 have hq := Bool.or_eq_false_iff.1 hc0
 have hq2 := Bool.or_eq_false_iff.1 hq.1
 have hL : lightL l 30 = true := by have := hq2.1; simpa using this
 have hln := (lightL_get hL).1
 have hlb : b.length ≤ 300 := by have h := of_decide_eq_false hq2.2; omega
 have hlf : fs.length ≤ 60 := by have h := of_decide_eq_false hq.2; omega
 refine wpF_skip (tN (hK2 _ _ (sk fun K17 hK17 => (wt (oS rfl (Yk.callA1 lsa_pl6 (vr (NI 1048576) rfl) ((new_g w _ hE 1048576 (by decide)).mono ?_)))))))
 rintro e w19 ⟨g1, H1, rfl, hD, hx18⟩
 refine ⟨_, rfl, ?_⟩
 have hE := hE.trans hx18
 refine oA rfl (oZ (tN (hK17 _ _ (sk fun K20 hK20 => (sk fun K21 hK21 => (wt (oA rfl (oL_ [(0, v), (1, vb), (2, vf), (6, .bool (false)), (7, PQ g1 0), (8, NI 0)] ⟨T0, T1, T2, rfl, rfl, rfl, trivial⟩ fun ρ22 ⟨T0, T1, T2, T6, T7, T8, _⟩ => (tN (hK21 _ _ (wpF_block (wpF_loop (fun (ρ : Slots) (wz : World) => ∃ i : Nat, ∃ Hi : Dk, ρ 0 = (v : Value) ∧ ρ 1 = (vb : Value) ∧ ρ 2 = (vf : Value) ∧ ρ 6 = (.bool (false) : Value) ∧ ρ 7 = (PQ g1 0 : Value) ∧ ρ 8 = (NI i : Value) ∧ Ext w wz ∧ DkG w wz g1 Hi (playK (newD 1048576) l i) ∧ (i ≤ l.length) ∧ (BdL (2 * i) (playK (newD 1048576) l i)) ∧ (GoodL (playK (newD 1048576) l i)) ∧ True) (fun ρ _ => l.length - (intOf (ρ 8)).toNat) ⟨0, H1, T0, T1, T2, T6, T7, T8, hE, hD, Nat.zero_le _, BdL.new, GoodL.new, trivial⟩ ?_))))))))))))
 clear hD
 clear hE
 rintro ρ23 w24 ⟨i, Hi, T0, T1, T2, T6, T7, T8, hE, hD, hi, hBl, hOk, -⟩
 have q8 := T8
 refine sk fun K25 hK25 => (sk fun K26 hK26 => (wt (oM rfl (oM rfl (oS rfl (Yk.lenRG lsa_ty35 (RG.of (hl.keep hE) T0) (oS rfl (Yk.eqI (a := (i : Nat)) (b := (l.length : Nat)) T8 rfl (k_lss _ _ _ _) (oZ (tN (hK26 _ _ ?_)))))))))))
 refine wpF_cond ((i) < (l.length)) (vr (.bool (decide ((i) < (l.length)))) rfl) (fun hc1 => ?_) (fun hc1 => ?_)
 ·have hlt : i < l.length := hc1
  have hmem := getD_mem_ (d := dLac) hlt
  have hx := hk _ hmem
  have hxb := hx.bytes
  have hxo := hx.other
  have hxf := hx.fates
  obtain ⟨hbl, hol, hfl⟩ := (lightL_get hL).2 _ hmem
  have hBi := hBl.bd
  have hBj : BdL (2 * (i + 1)) (playK (newD 1048576) l (i + 1)) := by rw [playK_succ hlt]; exact hBl.didL (by omega) hx.n
  have hOj : GoodL (playK (newD 1048576) l (i + 1)) := by rw [playK_succ hlt]; exact hOk.didL _
  refine wpF_skip (tN (hK25 _ _ (sk fun K27 hK27 => (wpF_block (wt (oM rfl (oM rfl (oM rfl ?_))))))))
  have hl30 : (lacC (l.getD (i) dLac)).length = 5 := (RG.elem (hl.keep hE) dLac (by omega))
  refine oS rfl (Yk.atRG lsa_ty35 lsa_szg39 (by decide) dLac (RG.of (hl.keep hE) T0) T8 (by omega) fun v28 hp29 => (oS rfl (Yk.loadPR (PR.of hp29 (vr v28 rfl)) (lsa_ty39).choose_spec rfl (by rw [lac_len]; exact lsa_isz39) ?_)))
  have hps : playK (newD 1048576) l (i + 1) = didL (playK (newD 1048576) l i) (l.getD i dLac).1 := playK_succ hlt
  have hDc := hD
  refine oS rfl (Yk.callA2 lsa_pl15 T7 (vr (.agg (lacC (l.getD (i) dLac)).toArray) rfl) ((did_at _ _ _ _ _ hDc hG (l.getD (i) dLac) hx (by omega) (2 * i + 1) hBi (by omega) (hBi.lt (by omega))).mono ?_))
  rintro e w34 ⟨H31, rfl, hD32, hC33⟩
  refine ⟨_, rfl, ?_⟩
  rw [← hps] at hD32
  have hE : Ext w w34 := hD32.ext
  clear hD
  clear hp29
  have hD := hD32
  refine oZ (bN (tN (hK27 _ _ (wt (oM rfl (oS rfl (Yk.bin (xv := NI i) (yv := NI 1) T8 rfl rfl (i64_add _ _ _ (by omega)) (oA rfl (oL_ [(0, v), (1, vb), (2, vf), (6, .bool (false)), (7, PQ g1 0), (8, NI ((i) + (1)))] ⟨T0, T1, T2, T6, T7, rfl, trivial⟩ fun ρ35 ⟨T0, T1, T2, T6, T7, T8, _⟩ => (tN (And.intro ⟨i + 1, H31, T0, T1, T2, T6, T7, T8, hE, hD, by omega, hBj, hOj, trivial⟩ ?_)))))))))))
  show l.length - (intOf (ρ35 8)).toNat < l.length - (intOf (ρ23 8)).toNat
  rw [T8, q8]
  simp only [intOf, Int.toNat_natCast]; omega
 have hDe := hD
 have hBe := hBl.mono (show 2 * i ≤ 60 by omega)
 have hOe := hOk
 obtain ⟨D0, hD0⟩ : ∃ D, D = playK (newD 1048576) l i := ⟨_, rfl⟩
 rw [← hD0] at hDe hBe hOe
 have hD := hDe
 refine wpF_exit (thenF_exit (thenF_exit (inBlockF_hit (tN (hK20 _ _ (sk fun K36 hK36 => ?_))))))
 have hJK36 : ∀ (ρ : Slots) (wz : World), (∃ Hd : Dk, ∃ D1 : Dsk, ρ 0 = (v : Value) ∧ ρ 1 = (vb : Value) ∧ ρ 2 = (vf : Value) ∧ ρ 6 = (.bool (false) : Value) ∧ ρ 7 = (PQ g1 0 : Value) ∧ ρ 8 = (NI i : Value) ∧ Ext w wz ∧ DkG w wz g1 Hd D1 ∧ (D1.down = false) ∧ (BdL 60 D1) ∧ (GoodL D1) ∧ True) → K36 ρ wz := by
  clear hE
  rintro ρ38 w39 ⟨Hd, D1, T0, T1, T2, T6, T7, T8, hE, hD, hdd, hbd, hid, -⟩
  refine hK36 _ _ (sk fun K40 hK40 => (wt (oM rfl ?_)))
  have hDc := hD
  refine oS rfl (Yk.callA2 lsa_pl20 T7 (vr (NI 0) rfl) ((hDc.arm 0).mono ?_))
  rintro e w44 ⟨H41, rfl, hD42, hC43⟩
  refine ⟨_, rfl, ?_⟩
  change DkG w _ g1 _ { D1 with arm := 0 } at hD42
  have hb2 : BdL 60 { D1 with arm := 0 } := hbd.disarm
  have hr2 : ReadyL { D1 with arm := 0 } := hid.ready hdd
  have hu2 := hb2.used (by decide)
  have hE : Ext w w44 := hD42.ext
  clear hD
  have hD := hD42
  refine oZ (tN (hK40 _ _ (sk fun K45 hK45 => (wt (oM rfl (oM rfl ?_))))))
  have hDc := hD
  obtain ⟨r1, hr1⟩ : ∃ r, putL ({ D1 with arm := 0 }) b = r := ⟨_, rfl⟩
  refine oS rfl (Yk.callA2 lsa_pl7 T7 T1 ((put_nm _ _ _ _ _ hDc hG vb b (hb.keep hE) (hDc.off hb) (by omega) _ (hb2).bd (by omega) r1 hr1).mono ?_))
  rintro e w52 ⟨H46, v47, rfl, hr48, hW49⟩
  refine ⟨_, rfl, ?_⟩
  have hD50 := hW49.g
  have hC51 := hW49.chg
  have hBr1 : BdL (60 + 2) r1.1 := hr1 ▸ hb2.put (by omega)
  have hE : Ext w w52 := hD50.ext
  clear hD
  have hD := hD50
  have hkp := kept_nm hr2 (by omega) hr1
  have hol1 := put_o ((hb2.bd).lt (by decide)) hr1
  refine oM rfl (oS rfl (Yk.extract (vs := [AB r1.2.1, v47, NI r1.2.2.2]) (vr (.tuple #[AB r1.2.1, v47, NI r1.2.2.2]) rfl) (show _ = some (AB r1.2.1 : Value) from rfl) (oS rfl (Yk.extract (vs := [AB r1.2.1, v47, NI r1.2.2.2]) (vr (.tuple #[AB r1.2.1, v47, NI r1.2.2.2]) rfl) (show _ = some (v47 : Value) from rfl) (oS rfl (Yk.extract (vs := [AB r1.2.1, v47, NI r1.2.2.2]) (vr (.tuple #[AB r1.2.1, v47, NI r1.2.2.2]) rfl) (show _ = some (NI r1.2.2.2 : Value) from rfl) (oS rfl (Yk.alloc (cs := (Lib.byteCells (List.replicate 32 0)).toArray) lsa_al26 fun n53 w54 hn55 hb56 hx57 hs58 => ?_))))))))
  have hA59 := Ext.refl w52
  have hea60 := hE
  have hz61 := hE.size
  have hE := hE.trans hx57
  have hA59 := hA59.trans hx57
  have hb62 := hb56; clear hb56
  have hl63 : n53 < w54.heap.size := by omega
  refine oS rfl (Yk.storeAll (vr (PQ n53 0) rfl) (vr (AB r1.2.1) rfl) hb62 (by exact idsize (put_len hr1) List.length_replicate) (by exact sizeId_of (put_len hr1)) (byteCells_one _) fun w64 hb65 hg66 hs67 => ?_)
  have hE := row_fresh hE hg66 (Nat.le_trans hz61 (by omega))
  have hA59 := row_fresh hA59 hg66 (Nat.le_trans (Nat.le_refl _) (by omega))
  clear hb62
  have hb62 := hb65; clear hb65
  have hl68 := bl hb62
  refine oA rfl (oA rfl (oZ (tN (hK45 _ _ (sk fun K69 hK69 => (sk fun K70 hK70 => (wt (oM rfl (oS rfl (Yk.eqI (a := (r1.2.2.2 : Nat)) (b := (7 : Nat)) rfl rfl (k_eql _ _ _ _) (oZ (tN (hK70 _ _ ?_)))))))))))))
  refine wpF_cond ((r1.2.2.2 : Nat) = (7)) (vr (.bool (decide ((r1.2.2.2 : Nat) = (7)))) rfl) (fun hc3 => ?_) (fun hc3 => ?_)
  ·have hk1 := hkp.1 hc3
   refine sk fun K71 hK71 => ?_
   refine wpF_draw [Is (v47), Is (St (r1.2.2.1)), Is (vb), Is (St (b)), Is (.bool (true)), Is (.bool (true)), Is (v47), fun x w' => RBs w' x [r1.2.2.1], Is (AB (Sha.sum r1.2.2.1)), Is (AB r1.2.1), Is (.bool (true)), Is (.bool (true)), Is (.bool (true)), Is (vb), fun x w' => RBs w' x [b], Is (AB (Sha.sum b)), Is (AB r1.2.1), Is (.bool (true)), Is (.bool (true)), Is (.bool (true))] (by kernel_rfl) [55, 56, 57, 58, 59, 60, 61, 62, 63, 64, 65, 66, 67, 68, 69, 70, 71, 72, 73, 6] (by kernel_rfl) (by kernel_rfl) (si7 ⟨(fun _ _ _ h k => RBs.keep h k), (si6 ⟨(fun _ _ _ h k => RBs.keep h k), (si5 trivial)⟩)⟩) ?hs1013 ?hQ1013
   case hs1013 =>
    refine ⟨?_, ?_, ?_, ?_, ?_, ?_, ?_, ?_, ?_, ?_, ?_, ?_, ?_, ?_, ?_, ?_, ?_, ?_, ?_, ?_, trivial⟩
    ·refine stepN rfl fun σ w1 hC h => ?_
     have e10 : σ 10 = v47 := (eqo (h 10 (by decide))).trans rfl
     exact Yk.move e10 ⟨Ext.refl _, rfl⟩
    ·refine stepN rfl fun σ w1 hC h => ?_
     have e55 := eqo (h 55 (by decide))
     exact Yk.convRB lsa_ty22 lsa_ty5 lsa_ty9 (RB.of (hr48.keep (hA59.trans hC)) e55) ⟨Ext.refl _, rfl⟩
    ·refine stepN rfl fun σ w1 hC h => ?_
     have e1 := (eqo (h 1 (by decide))).trans T1
     exact Yk.move e1 ⟨Ext.refl _, rfl⟩
    ·refine stepN rfl fun σ w1 hC h => ?_
     have e57 := eqo (h 57 (by decide))
     exact Yk.convRB lsa_ty22 lsa_ty5 lsa_ty9 (RB.of (hb.keep (hE.trans hC)) e57) ⟨Ext.refl _, rfl⟩
    ·refine stepN rfl fun σ w1 hC h => ?_
     have e56 := eqo (h 56 (by decide))
     have e58 := eqo (h 58 (by decide))
     exact Yk.eqSt (l := r1.2.2.1) (m := b) (.inr rfl) e56 e58 (decide ((r1.2.2.1 : List UInt8) ≠ b)) rfl ⟨Ext.refl _, (congrArg Value.bool (decide_eq_true (hk1.1)))⟩
    ·refine stepN rfl fun σ w1 hC h => ?_
     have e59 := eqo (h 59 (by decide))
     exact Yk.move e59 ⟨Ext.refl _, rfl⟩
    ·refine stepY 5 true 60 rfl rfl (fun _ _ h => h) fun σ w1 hC h => ?_
     have e10 : σ 10 = v47 := (eqo (h 10 (by decide))).trans rfl
     exact Yk.move e10 ⟨Ext.refl _, rfl⟩
    ·refine stepY 5 true 60 rfl rfl (fun _ _ h => h) fun σ w1 hC h => ?_
     have e61 := eqo (h 61 (by decide))
     exact Yk.rows1 lsa_rows1_75 (RB.of (hr48.keep (hA59.trans hC)) e61) fun v w2 h hx => ⟨hx, h⟩
    ·refine stepY 5 true 60 rfl rfl (fun _ _ h => h) fun σ w1 hC h => ?_
     have e62 : (fun x w' => RBs w' x [r1.2.2.1]) (σ 62) w1 := h 62 (by decide)
     refine Yk.callA1 lsa_pl14 rfl ((sum_one _ (hG.keep (hE.trans hC)) _ r1.2.2.1 e62 (by omega)).mono ?_)
     rintro e w2 ⟨rfl, hx⟩
     exact ⟨_, rfl, hx, rfl⟩
    ·refine stepY 5 true 60 rfl rfl (fun _ _ h => h) fun σ w1 hC h => ?_
     have e9 : σ 9 = PQ n53 0 := (eqo (h 9 (by decide))).trans rfl
     exact Yk.loadAll e9 (eb hC hb62) lsa_ty26 rfl (by exact sizeId_of (put_len hr1)) ⟨Ext.refl _, rfl⟩
    ·refine stepY 5 true 60 rfl rfl (fun _ _ h => h) fun σ w1 hC h => ?_
     have e63 := eqo (h 63 (by decide))
     have e64 := eqo (h 64 (by decide))
     exact Yk.eqArr (l1 := (Sha.sum r1.2.2.1)) (l2 := r1.2.1) lsa_ty26 lsa_ty5 lsa_sz5 lsa_eg26 e63 e64 ((Sha.sum_length _)) ((put_len hr1)) ⟨Ext.refl _, (congrArg Value.bool (decide_eq_true (hk1.2.1)))⟩
    ·refine stepN rfl fun σ w1 hC h => ?_
     have e60 := eqo (h 60 (by decide))
     have e65 := eqo (h 65 (by decide))
     exact Yk.pickT e60 e65 ⟨Ext.refl _, rfl⟩
    ·refine stepN rfl fun σ w1 hC h => ?_
     have e66 := eqo (h 66 (by decide))
     exact Yk.move e66 ⟨Ext.refl _, rfl⟩
    ·refine stepY 12 true 67 rfl rfl (fun _ _ h => h) fun σ w1 hC h => ?_
     have e1 := (eqo (h 1 (by decide))).trans T1
     exact Yk.move e1 ⟨Ext.refl _, rfl⟩
    ·refine stepY 12 true 67 rfl rfl (fun _ _ h => h) fun σ w1 hC h => ?_
     have e68 := eqo (h 68 (by decide))
     exact Yk.rows1 lsa_rows1_75 (RB.of (hb.keep (hE.trans hC)) e68) fun v w2 h hx => ⟨hx, h⟩
    ·refine stepY 12 true 67 rfl rfl (fun _ _ h => h) fun σ w1 hC h => ?_
     have e69 : (fun x w' => RBs w' x [b]) (σ 69) w1 := h 69 (by decide)
     refine Yk.callA1 lsa_pl14 rfl ((sum_one _ (hG.keep (hE.trans hC)) _ b e69 (by omega)).mono ?_)
     rintro e w2 ⟨rfl, hx⟩
     exact ⟨_, rfl, hx, rfl⟩
    ·refine stepY 12 true 67 rfl rfl (fun _ _ h => h) fun σ w1 hC h => ?_
     have e9 : σ 9 = PQ n53 0 := (eqo (h 9 (by decide))).trans rfl
     exact Yk.loadAll e9 (eb hC hb62) lsa_ty26 rfl (by exact sizeId_of (put_len hr1)) ⟨Ext.refl _, rfl⟩
    ·refine stepY 12 true 67 rfl rfl (fun _ _ h => h) fun σ w1 hC h => ?_
     have e70 := eqo (h 70 (by decide))
     have e71 := eqo (h 71 (by decide))
     exact Yk.eqArr (l1 := (Sha.sum b)) (l2 := r1.2.1) lsa_ty26 lsa_ty5 lsa_sz5 lsa_eg26 e70 e71 ((Sha.sum_length _)) ((put_len hr1)) ⟨Ext.refl _, (congrArg Value.bool (decide_eq_true (hk1.2.2)))⟩
    ·refine stepN rfl fun σ w1 hC h => ?_
     have e67 := eqo (h 67 (by decide))
     have e72 := eqo (h 72 (by decide))
     exact Yk.pickT e67 e72 ⟨Ext.refl _, rfl⟩
    ·refine stepN rfl fun σ w1 hC h => ?_
     have e73 := eqo (h 73 (by decide))
     exact Yk.assign e73 ⟨Ext.refl _, rfl⟩
   intro ρ72 w73 hx74 he hf
   obtain ⟨-, -, -, -, -, -, -, -, -, -, -, -, -, -, -, -, -, -, -, k6, -⟩ := hf
   obtain ⟨T0, T1, T2, T7, T8, T9, T10, T11, -⟩ := he.hold [(0, _), (1, _), (2, _), (7, _), (8, _), (9, PQ n53 0), (10, v47), (11, NI r1.2.2.2)] ⟨T0, T1, T2, T7, T8, rfl, rfl, rfl, trivial⟩ rfl
   clear he
   have hE := hE.trans hx74
   have hA59 := hA59.trans hx74
   have hb62 := eb hx74 hb62
   have T6 : ρ72 6 = .bool (true) := k6
   clear k6
   refine tN (hK71 _ _ (wpF_ret (thenF_ret (postF_ret (fn := Tryd.f5) _ rfl [.bool (true)] (.bool (true)) rfl ⟨T6, trivial⟩ ?_))))
   exact ⟨rfl, hE⟩
  have hk2 := hkp.2 hc3 fs
  refine wpF_skip (tN (hK69 _ _ (sk fun K75 hK75 => (wt (oM rfl (oM rfl ?_))))))
  have hDc := (hD.keep hA59)
  refine oS rfl (Yk.callA2 lsa_pl19 T7 T2 ((hDc.crash vf fs (hf.keep hE) ((hBr1.bd).lt (by omega))).mono ?_))
  rintro e w79 ⟨H76, rfl, hD77, hC78⟩
  refine ⟨_, rfl, ?_⟩
  have hb3 := (hBr1.crash fs).bd
  have hE : Ext w w79 := hD77.ext
  have hb62 : w79.heap[n53]? = some (.cells (Lib.byteCells r1.2.1).toArray 26 (0, 0)) := DkG.box hDc hC78 hb62 (by decide) (by decide) (by decide) (by decide)
  clear hA59
  have hD := hD77
  refine oZ (tN (hK75 _ _ (sk fun K80 hK80 => (wt (oM rfl (oS rfl (Yk.loadAll (vr (PQ n53 0) rfl) hb62 lsa_ty26 rfl (by exact sizeId_of (put_len hr1)) ?_)))))))
  have hDc := hD
  obtain ⟨r2, hr2⟩ : ∃ r, getL (crashD r1.1 fs) r1.2.1 = r := ⟨_, rfl⟩
  refine oS rfl (Yk.callA2 lsa_pl16 T7 (vr (AB r1.2.1) rfl) ((get_nm _ _ _ _ _ hDc hG (hb3.lt (by omega)) r1.2.1 (put_len hr1) r2 hr2).mono ?_))
  rintro e w84 ⟨v81, rfl, hr82, hx83⟩
  refine ⟨_, rfl, ?_⟩
  have hE := hE.trans hx83
  have hb62 := eb hx83 hb62
  have hD := hD.keep hx83
  refine oM rfl (oS rfl (Yk.extract (vs := [v81, NI r2.2]) (vr (.tuple #[v81, NI r2.2]) rfl) (show _ = some (v81 : Value) from rfl) (oS rfl (Yk.extract (vs := [v81, NI r2.2]) (vr (.tuple #[v81, NI r2.2]) rfl) (show _ = some (NI r2.2 : Value) from rfl) (oA rfl (oA rfl (oZ ?_)))))))
  have hr9 : r2 = (b, 0) := hr2.symm.trans hk2.2.2
  have hq0 : r2.2 = 0 := congrArg Prod.snd hr9
  have hq1 : r2.1 = b := congrArg Prod.fst hr9
  refine tN (hK80 _ _ (sk fun K85 hK85 => ?_))
  refine wpF_draw [Is (NI r1.2.2.2), Is (.bool (true)), Is (.bool (true)), Is (NI r2.2), Is (.bool (true)), Is (.bool (true)), Is (.bool (true)), Is (v81), Is (St (r2.1)), Is (vb), Is (St (b)), Is (.bool (true)), Is (.bool (true)), Is (.bool (true)), Is (AB r1.2.1), Is (vb), fun x w' => RBs w' x [b], Is (AB (Sha.sum b)), Is (.bool (true)), Is (.bool (true)), Is (.bool (true)), Is (.bool (true)), Is (.bool (true)), Is (.bool (true))] (by kernel_rfl) [83, 84, 85, 86, 87, 88, 89, 90, 91, 92, 93, 94, 95, 96, 97, 98, 99, 100, 101, 102, 103, 104, 105, 6] (by kernel_rfl) (by kernel_rfl) (si4 (si12 ⟨(fun _ _ _ h k => RBs.keep h k), (si7 trivial)⟩)) ?hs2016 ?hQ2016
  case hs2016 =>
   refine ⟨?_, ?_, ?_, ?_, ?_, ?_, ?_, ?_, ?_, ?_, ?_, ?_, ?_, ?_, ?_, ?_, ?_, ?_, ?_, ?_, ?_, ?_, ?_, ?_, trivial⟩
   ·refine stepN rfl fun σ w1 hC h => ?_
    have e11 : σ 11 = NI r1.2.2.2 := (eqo (h 11 (by decide))).trans rfl
    exact Yk.move e11 ⟨Ext.refl _, rfl⟩
   ·refine stepN rfl fun σ w1 hC h => ?_
    have e83 := eqo (h 83 (by decide))
    exact Yk.eqI (a := (r1.2.2.2 : Nat)) (b := (0 : Nat)) e83 rfl (k_eql _ _ _ _) ⟨Ext.refl _, (congrArg Value.bool (decide_eq_true (hk2.1)))⟩
   ·refine stepN rfl fun σ w1 hC h => ?_
    have e84 := eqo (h 84 (by decide))
    exact Yk.move e84 ⟨Ext.refl _, rfl⟩
   ·refine stepY 2 true 85 rfl rfl (fun _ _ h => h) fun σ w1 hC h => ?_
    have e13 : σ 13 = NI r2.2 := (eqo (h 13 (by decide))).trans rfl
    exact Yk.move e13 ⟨Ext.refl _, rfl⟩
   ·refine stepY 2 true 85 rfl rfl (fun _ _ h => h) fun σ w1 hC h => ?_
    have e86 := eqo (h 86 (by decide))
    exact Yk.eqI (a := (r2.2 : Nat)) (b := (0 : Nat)) e86 rfl (k_eql _ _ _ _) ⟨Ext.refl _, (congrArg Value.bool (decide_eq_true (hq0)))⟩
   ·refine stepN rfl fun σ w1 hC h => ?_
    have e85 := eqo (h 85 (by decide))
    have e87 := eqo (h 87 (by decide))
    exact Yk.pickT e85 e87 ⟨Ext.refl _, rfl⟩
   ·refine stepN rfl fun σ w1 hC h => ?_
    have e88 := eqo (h 88 (by decide))
    exact Yk.move e88 ⟨Ext.refl _, rfl⟩
   ·refine stepY 6 true 89 rfl rfl (fun _ _ h => h) fun σ w1 hC h => ?_
    have e12 : σ 12 = v81 := (eqo (h 12 (by decide))).trans rfl
    exact Yk.move e12 ⟨Ext.refl _, rfl⟩
   ·refine stepY 6 true 89 rfl rfl (fun _ _ h => h) fun σ w1 hC h => ?_
    have e90 := eqo (h 90 (by decide))
    exact Yk.convRB lsa_ty22 lsa_ty5 lsa_ty9 (RB.of (hr82.keep hC) e90) ⟨Ext.refl _, rfl⟩
   ·refine stepY 6 true 89 rfl rfl (fun _ _ h => h) fun σ w1 hC h => ?_
    have e1 := (eqo (h 1 (by decide))).trans T1
    exact Yk.move e1 ⟨Ext.refl _, rfl⟩
   ·refine stepY 6 true 89 rfl rfl (fun _ _ h => h) fun σ w1 hC h => ?_
    have e92 := eqo (h 92 (by decide))
    exact Yk.convRB lsa_ty22 lsa_ty5 lsa_ty9 (RB.of (hb.keep (hE.trans hC)) e92) ⟨Ext.refl _, rfl⟩
   ·refine stepY 6 true 89 rfl rfl (fun _ _ h => h) fun σ w1 hC h => ?_
    have e91 := eqo (h 91 (by decide))
    have e93 := eqo (h 93 (by decide))
    exact Yk.eqSt (l := r2.1) (m := b) (.inl rfl) e91 e93 (decide ((r2.1 : List UInt8) = b)) rfl ⟨Ext.refl _, (congrArg Value.bool (decide_eq_true (hq1)))⟩
   ·refine stepN rfl fun σ w1 hC h => ?_
    have e89 := eqo (h 89 (by decide))
    have e94 := eqo (h 94 (by decide))
    exact Yk.pickT e89 e94 ⟨Ext.refl _, rfl⟩
   ·refine stepN rfl fun σ w1 hC h => ?_
    have e95 := eqo (h 95 (by decide))
    exact Yk.move e95 ⟨Ext.refl _, rfl⟩
   ·refine stepY 13 true 96 rfl rfl (fun _ _ h => h) fun σ w1 hC h => ?_
    have e9 : σ 9 = PQ n53 0 := (eqo (h 9 (by decide))).trans rfl
    exact Yk.loadAll e9 (eb hC hb62) lsa_ty26 rfl (by exact sizeId_of (put_len hr1)) ⟨Ext.refl _, rfl⟩
   ·refine stepY 13 true 96 rfl rfl (fun _ _ h => h) fun σ w1 hC h => ?_
    have e1 := (eqo (h 1 (by decide))).trans T1
    exact Yk.move e1 ⟨Ext.refl _, rfl⟩
   ·refine stepY 13 true 96 rfl rfl (fun _ _ h => h) fun σ w1 hC h => ?_
    have e98 := eqo (h 98 (by decide))
    exact Yk.rows1 lsa_rows1_75 (RB.of (hb.keep (hE.trans hC)) e98) fun v w2 h hx => ⟨hx, h⟩
   ·refine stepY 13 true 96 rfl rfl (fun _ _ h => h) fun σ w1 hC h => ?_
    have e99 : (fun x w' => RBs w' x [b]) (σ 99) w1 := h 99 (by decide)
    refine Yk.callA1 lsa_pl14 rfl ((sum_one _ (hG.keep (hE.trans hC)) _ b e99 (by omega)).mono ?_)
    rintro e w2 ⟨rfl, hx⟩
    exact ⟨_, rfl, hx, rfl⟩
   ·refine stepY 13 true 96 rfl rfl (fun _ _ h => h) fun σ w1 hC h => ?_
    have e97 := eqo (h 97 (by decide))
    have e100 := eqo (h 100 (by decide))
    exact Yk.eqArr (l1 := r1.2.1) (l2 := (Sha.sum b)) lsa_ty26 lsa_ty5 lsa_sz5 lsa_eg26 e97 e100 ((put_len hr1)) ((Sha.sum_length _)) ⟨Ext.refl _, (congrArg Value.bool (decide_eq_true (hk2.2.1)))⟩
   ·refine stepN rfl fun σ w1 hC h => ?_
    have e96 := eqo (h 96 (by decide))
    have e101 := eqo (h 101 (by decide))
    exact Yk.pickT e96 e101 ⟨Ext.refl _, rfl⟩
   ·refine stepN rfl fun σ w1 hC h => ?_
    have e102 := eqo (h 102 (by decide))
    exact Yk.move e102 ⟨Ext.refl _, rfl⟩
   ·refine stepY 20 true 103 rfl rfl (fun _ _ h => h) fun σ w1 hC h => (Yk.callA0 lsa_pl10  ((awake09 _ (hG.keep (hE.trans hC))).mono ?_))
    rintro e w2 ⟨rfl, hx⟩
    exact ⟨_, rfl, hx, rfl⟩
   ·refine stepN rfl fun σ w1 hC h => ?_
    have e103 := eqo (h 103 (by decide))
    have e104 := eqo (h 104 (by decide))
    exact Yk.pickT e103 e104 ⟨Ext.refl _, rfl⟩
   ·refine stepN rfl fun σ w1 hC h => ?_
    have e105 := eqo (h 105 (by decide))
    exact Yk.assign e105 ⟨Ext.refl _, rfl⟩
  intro ρ86 w87 hx88 he hf
  obtain ⟨-, -, -, -, -, -, -, -, -, -, -, -, -, -, -, -, -, -, -, -, -, -, -, k6, -⟩ := hf
  obtain ⟨T0, T1, T2, T7, T8, T9, T10, T11, T12, T13, -⟩ := he.hold [(0, _), (1, _), (2, _), (7, _), (8, _), (9, PQ n53 0), (10, v47), (11, NI r1.2.2.2), (12, v81), (13, NI r2.2)] ⟨T0, T1, T2, T7, T8, rfl, rfl, rfl, rfl, rfl, trivial⟩ rfl
  clear he
  have hE := hE.trans hx88
  have hb62 := eb hx88 hb62
  have hD := hD.keep hx88
  have hr82 := hr82.keep hx88
  have T6 : ρ86 6 = .bool (true) := k6
  clear k6
  refine tN (hK85 _ _ (wpF_ret (postF_ret (fn := Tryd.f5) _ rfl [.bool (true)] (.bool (true)) rfl ⟨T6, trivial⟩ ?_)))
  exact ⟨rfl, hE⟩
 clear hK36
 refine sk fun K89 hK89 => (wt (oM rfl ?_))
 have hDc := hD
 refine oS rfl (Yk.callA1 lsa_pl18 T7 ((hDc.down).mono ?_))
 rintro e w91 ⟨rfl, hx90⟩
 refine ⟨_, rfl, ?_⟩
 have hE := hE.trans hx90
 have hD := hD.keep hx90
 refine oZ (tN (hK89 _ _ ?_))
 refine wpF_condB (D0.down) (vr (.bool (D0.down)) rfl) (fun hc2 => ?_) (fun hc2 => ?_)
 ·refine wt (oM rfl ?_)
  have hDc := hD
  refine oS rfl (Yk.callA2 lsa_pl19 T7 (vr (Value.slice none 0 0) rfl) ((hDc.crash (.slice none 0 0) [] (RG.nil _ _ _) ((hBe.bd).lt (by decide))).mono ?_))
  rintro e w95 ⟨H92, rfl, hD93, hC94⟩
  refine ⟨_, rfl, ?_⟩
  have hE : Ext w w95 := hD93.ext
  clear hD
  have hD := hD93
  refine oL_ [(0, v), (1, vb), (2, vf), (6, .bool (false)), (7, PQ g1 0), (8, NI i)] ⟨T0, T1, T2, T6, T7, T8, trivial⟩ fun ρ96 ⟨T0, T1, T2, T6, T7, T8, _⟩ => ?_
  exact tN (hJK36 _ _ ⟨H92, (crashD D0 []), T0, T1, T2, T6, T7, T8, hE, hD, rfl, hBe.crash [], hOe.crash [], trivial⟩)
 refine wpF_skip ?_
 exact tN (hJK36 _ _ ⟨Hi, D0, T0, T1, T2, T6, T7, T8, hE, hD, hc2, hBe, hOe, trivial⟩)
end Go.Proofs.YtejpjjhkjdpeaaaDoor
