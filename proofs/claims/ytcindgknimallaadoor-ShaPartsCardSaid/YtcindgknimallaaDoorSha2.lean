/- sha.schedule. -/
import Derived.Test.YtcindgknimallaaDoorSha1
import Derived.Test.YtcindgknimallaaDoorCells
namespace Go.Proofs.YtcindgknimallaaDoor
open Go.RowKit
namespace Sha
def pad64 (l : List UInt32) : List UInt32 := l ++ List.replicate (64 - l.length) 0
theorem pad64_length (l : List UInt32) (h : l.length ≤ 64) : (pad64 l).length = 64 := by simp [pad64]; omega
theorem pad64_get (l : List UInt32) (i : Nat) : (pad64 l).getD i 0 = l.getD i 0 := by
  unfold pad64
  simp only [List.getD_eq_getElem?_getD]
  rw [List.getElem?_append]
  split
  · rfl
  · rename_i h
    rw [List.getElem?_replicate, List.getElem?_eq_none (by omega)]
    split <;> rfl
theorem pad64_set (l : List UInt32) (x : UInt32) (h : l.length < 64) : (pad64 l).set l.length x = pad64 (l ++ [x]) := by
  unfold pad64
  rw [List.set_append_right _ _ (Nat.le_refl _), Nat.sub_self]
  obtain ⟨k, hk⟩ : ∃ k, 64 - l.length = k + 1 := ⟨64 - l.length - 1, by omega⟩
  rw [hk, List.replicate_succ, List.set_cons_zero]
  have : 64 - (l ++ [x]).length = k := by simp; omega
  rw [this]
  simp
theorem pad64_full (l : List UInt32) (h : l.length = 64) : pad64 l = l := by simp [pad64, h]
theorem sched_step1 (b : List UInt8) (t : Nat) (h : t < 16) : (pad64 (sched b t)).set t (be4 b t) = pad64 (sched b (t + 1)) := by
  have := pad64_set (sched b t) (be4 b t) (by rw [sched_length]; omega)
  rw [sched_length] at this
  rw [this]
  simp [sched, nextW, h]
theorem sched_step2 (b : List UInt8) (t : Nat) (h : 16 ≤ t) (h2 : t < 64) : (pad64 (sched b t)).set t (high ((pad64 (sched b t)).getD (t - 2) 0) + (pad64 (sched b t)).getD (t - 7) 0 + low ((pad64 (sched b t)).getD (t - 15) 0) + (pad64 (sched b t)).getD (t - 16) 0) = pad64 (sched b (t + 1)) := by
  simp only [pad64_get]
  have := pad64_set (sched b t) (nextW b (sched b t) t) (by rw [sched_length]; omega)
  rw [sched_length] at this
  rw [sched, ← this]
  unfold nextW
  rw [if_neg (by omega)]
end Sha
theorem tySlB : Tryd.prog.underlying 22 = some (.slice 5) := by kernel_rfl
theorem uB : Tryd.prog.underlying 5 = some (.int .u8) := by kernel_rfl
theorem uU : Tryd.prog.underlying 40 = some (.int .u32) := by kernel_rfl
theorem uInt : Tryd.prog.underlying 3 = some (.int .i64) := by kernel_rfl
theorem tyA64 : Tryd.prog.underlying 42 = some (.array 64 40) := by kernel_rfl
theorem tyA8 : Tryd.prog.underlying 41 = some (.array 8 40) := by kernel_rfl
theorem sizeB : ∀ w' : World, (sizeOf 5).run Tryd.prog w' = .ok 1 w' := fun _ => by kernel_rfl
theorem sizeU : ∀ w' : World, (sizeOf 40).run Tryd.prog w' = .ok 1 w' := fun _ => by kernel_rfl
theorem sizeU1 : (Tryd.prog.info? 40).map (·.size) = some 1 := by kernel_rfl
theorem size42 : (Tryd.prog.info? 42).map (·.size) = some 64 := by kernel_rfl
theorem size41 : (Tryd.prog.info? 41).map (·.size) = some 8 := by kernel_rfl
theorem alloc42 (ρ : Operand → Value) (d : Option Tmp) (ty : TypeId) (pos : String) (af : Array Edge) (w : World) : (execOp ρ ⟨d, .alloc 42, ty, pos, af, none⟩).run Tryd.prog w = .ok (.value (.pointer (some ⟨w.heap.size, 0, none⟩))) (w.alloc (.cells (cellsU (Sha.pad64 [])) 42)) := by kernel_rfl
theorem size42_of {l : List UInt32} (h : l.length = 64) : (Tryd.prog.info? 42).map (·.size) = some (cellsU l).size := by rw [cellsU_size, h]; exact size42
theorem size41_of {l : List UInt32} (h : l.length = 8) : (Tryd.prog.info? 41).map (·.size) = some (cellsU l).size := by rw [cellsU_size, h]; exact size41

set_option maxRecDepth 100000 in
set_option maxHeartbeats 1000000 in
theorem schedule_any (w : World) (v : Value) (b : List UInt8) (hb : RB w v b) (hl : b.length = 64) : Calls Tryd.prog 20 #[v] w fun e w' => e = .returned (.agg (cellsU (Sha.sched b 64))) ∧ Ext w w' := by
  obtain ⟨pb, off, cap, rfl, -, -, hpb, hcell⟩ := hb.open_ (by omega)
  rw [hl] at hcell ⊢
  have HB0 := Lib.hid hcell
  obtain ⟨F, hF⟩ : ∃ F, F = Sha.sched b 64 := ⟨_, rfl⟩
  have HFl : F.length = 64 := by rw [hF, Sha.sched_length]
  rw [← hF]
  clear hcell hb
  go_enter Tryd.func20, Tryd.ntmps20
  go_wp2_with (first
    | (refine wpList_fresh (o := ⟨some 2, _, _, _, _, _⟩) rfl _ _ (alloc42 _ _ _ _ _ _) ?_; intro n2 w2 hn2 hb2 hs2 he2)
    | (refine wpList_fresh (o := ⟨some 3, _, _, _, _, _⟩) rfl _ _ (alloc42 _ _ _ _ _ _) ?_; intro n3 w3 hn3 hb3 hs3 he3))
  have hn23 : n3 = n2 + 1 := by omega
  have hb23 := he3.blk' hb2
  have hE3 := he2.trans he3
  obtain ⟨Z, hZ⟩ : ∃ Z, Z = cellsU (Sha.pad64 []) := ⟨_, rfl⟩
  rw [← hZ] at hb23
  have hZs : Z.size = 64 := by rw [hZ]; rfl
  rw [show ([] : List UInt32) = Sha.sched b 0 from rfl] at hb3
  clear hZ hb2 he2 he3 hn3
  go_loopw [10] (fun v10 wr => ∃ t : Nat, v10 = NI t ∧ t ≤ 16 ∧ Below n2 w wr ∧ wr.heap[n2]? = some (.cells Z 42 (0, 0)) ∧ wr.heap[n3]? = some (.cells (cellsU (Sha.pad64 (Sha.sched b t))) 42 (0, 0)))
    (fun v10 _ => 16 - (intOf v10).toNat)
  case atStart => exact ⟨0, rfl, by omega, by rw [← hn2]; exact hE3, hb23, hb3⟩
  case round =>
    clear hb3 hb23 hE3
    obtain ⟨t, rfl, ht, hbl, hz, h3⟩ := hrel
    by_cases h16 : t < 16
    · have H3 := Lib.hid h3
      have HB : Hid (∀ i, i < 64 → wr.cell? ⟨pb, off + i, none⟩ = some (B8 (b.getD i 0))) := Lib.hid fun i hi => (hbl.cell (p := ⟨pb, off + i, none⟩) (by show pb < n2; omega)).trans (HB0.out i hi)
      obtain ⟨L, hL⟩ : ∃ L, L = Sha.sched b t := ⟨_, rfl⟩
      have hLl : L.length = t := by rw [hL, Sha.sched_length]
      rw [← hL] at H3
      have hd : decide ((t : Int) < 16) = true := by simp; omega
      clear h3
      go_wp2_with fail
      refine wp_region_store 35 (fun a b' => b' = a.setRow n3 (cellsU ((Sha.pad64 L).set t (Sha.be4 b t)))) [Is (NI (t)), Is (.slice (some ⟨pb, off, none⟩) 64 cap), Is (NI (t)), Is (NI ((4) * (t))), Is (.pointer (some ⟨pb, off + ((4) * (t)), none⟩)), Is (B8 (b.getD ((4) * (t)) 0)), Is (U ((b.getD ((4) * (t)) 0).toUInt32)), Is (U (((b.getD ((4) * (t)) 0).toUInt32) <<< 24)), Is (.slice (some ⟨pb, off, none⟩) 64 cap), Is (NI (t)), Is (NI ((4) * (t))), Is (NI (((4) * (t)) + (1))), Is (.pointer (some ⟨pb, off + (((4) * (t)) + (1)), none⟩)), Is (B8 (b.getD (((4) * (t)) + (1)) 0)), Is (U ((b.getD (((4) * (t)) + (1)) 0).toUInt32)), Is (U (((b.getD (((4) * (t)) + (1)) 0).toUInt32) <<< 16)), Is (U ((((b.getD ((4) * (t)) 0).toUInt32) <<< 24) ||| (((b.getD (((4) * (t)) + (1)) 0).toUInt32) <<< 16))), Is (.slice (some ⟨pb, off, none⟩) 64 cap), Is (NI (t)), Is (NI ((4) * (t))), Is (NI (((4) * (t)) + (2))), Is (.pointer (some ⟨pb, off + (((4) * (t)) + (2)), none⟩)), Is (B8 (b.getD (((4) * (t)) + (2)) 0)), Is (U ((b.getD (((4) * (t)) + (2)) 0).toUInt32)), Is (U (((b.getD (((4) * (t)) + (2)) 0).toUInt32) <<< 8)), Is (U (((((b.getD ((4) * (t)) 0).toUInt32) <<< 24) ||| (((b.getD (((4) * (t)) + (1)) 0).toUInt32) <<< 16)) ||| (((b.getD (((4) * (t)) + (2)) 0).toUInt32) <<< 8))), Is (.slice (some ⟨pb, off, none⟩) 64 cap), Is (NI (t)), Is (NI ((4) * (t))), Is (NI (((4) * (t)) + (3))), Is (.pointer (some ⟨pb, off + (((4) * (t)) + (3)), none⟩)), Is (B8 (b.getD (((4) * (t)) + (3)) 0)), Is (U ((b.getD (((4) * (t)) + (3)) 0).toUInt32)), Is (U ((((((b.getD ((4) * (t)) 0).toUInt32) <<< 24) ||| (((b.getD (((4) * (t)) + (1)) 0).toUInt32) <<< 16)) ||| (((b.getD (((4) * (t)) + (2)) 0).toUInt32) <<< 8)) ||| ((b.getD (((4) * (t)) + (3)) 0).toUInt32))), Is (.pointer (some ⟨n3, t, none⟩)), (fun _ _ => True)]
        (by kernel_rfl) _ _ (by kernel_rfl) (by kernel_rfl) [13, 14, 15, 16, 17, 18, 19, 20, 21, 22, 23, 24, 25, 26, 27, 28, 29, 30, 31, 32, 33, 34, 35, 36, 37, 38, 39, 40, 41, 42, 43, 44, 45, 46, 47] (by kernel_rfl) rfl ⟨Stab.is _, Stab.is _, Stab.is _, Stab.is _, Stab.is _, Stab.is _, Stab.is _, Stab.is _, Stab.is _, Stab.is _, Stab.is _, Stab.is _, Stab.is _, Stab.is _, Stab.is _, Stab.is _, Stab.is _, Stab.is _, Stab.is _, Stab.is _, Stab.is _, Stab.is _, Stab.is _, Stab.is _, Stab.is _, Stab.is _, Stab.is _, Stab.is _, Stab.is _, Stab.is _, Stab.is _, Stab.is _, Stab.is _, Stab.is _, Stab.is _, Stab.any, trivial⟩ ⟨Stab.is _, Stab.is _, Stab.is _, Stab.is _, Stab.is _, Stab.is _, Stab.is _, Stab.is _, Stab.is _, Stab.is _, Stab.is _, Stab.is _, Stab.is _, Stab.is _, Stab.is _, Stab.is _, Stab.is _, Stab.is _, Stab.is _, Stab.is _, Stab.is _, Stab.is _, Stab.is _, Stab.is _, Stab.is _, Stab.is _, Stab.is _, Stab.is _, Stab.is _, Stab.is _, Stab.is _, Stab.is _, Stab.is _, Stab.is _, Stab.is _, Stab.any, trivial⟩ ?hs5 ?hQ5
      case hs5 =>
        refine ⟨?_, ?_, ?_, ?_, ?_, ?_, ?_, ?_, ?_, ?_, ?_, ?_, ?_, ?_, ?_, ?_, ?_, ?_, ?_, ?_, ?_, ?_, ?_, ?_, ?_, ?_, ?_, ?_, ?_, ?_, ?_, ?_, ?_, ?_, ?_, ?_, trivial⟩
        · refine stepNone rfl fun ρ w1 hC h => ?_    -- 13 := Op.move t4
          have h4 : ρ 4 = NI (t) := h 4 (by decide)
          exact ⟨Ext.refl _, h4⟩
        · refine stepNone rfl fun ρ w1 hC h => ?_    -- 14 := Op.move t0
          have h0 : ρ 0 = .slice (some ⟨pb, off, none⟩) 64 cap := h 0 (by decide)
          exact ⟨Ext.refl _, h0⟩
        · refine stepNone rfl fun ρ w1 hC h => ?_    -- 15 := Op.move t4
          have h4 : ρ 4 = NI (t) := h 4 (by decide)
          exact ⟨Ext.refl _, h4⟩
        · refine stepNone rfl fun ρ w1 hC h => ?_    -- 16 := Op.binOp BinOp.mul 3 (const (4:i64)) t15 3
          have h15 : ρ 15 = NI (t) := h 15 (by decide)
          exact YieldsK.bin rfl h15 rfl (n_mul _ (4) (t) (by omega)) ⟨Ext.refl _, rfl⟩
        · refine stepNone rfl fun ρ w1 hC h => ?_    -- 17 := Op.indexAddr 22 t14 t16
          have h14 : ρ 14 = .slice (some ⟨pb, off, none⟩) 64 cap := h 14 (by decide)
          have h16 : ρ 16 = NI ((4) * (t)) := h 16 (by decide)
          exact YieldsK.atSl (i := (4) * (t)) tySlB sizeB h14 h16 (by omega) ⟨Ext.refl _, rfl⟩
        · refine stepNone rfl fun ρ w1 hC h => ?_    -- 18 := Op.load 5 t17
          have h17 : ρ 17 = .pointer (some ⟨pb, off + ((4) * (t)), none⟩) := h 17 (by decide)
          exact YieldsK.cell1 uB rfl h17 (hC.cell (HB.out _ (by omega))) ⟨Ext.refl _, rfl⟩
        · refine stepNone rfl fun ρ w1 hC h => ?_    -- 19 := Op.convert 5 40 t18
          have h18 : ρ 18 = B8 (b.getD ((4) * (t)) 0) := h 18 (by decide)
          exact YieldsK.wide uB uU h18 ⟨Ext.refl _, rfl⟩
        · refine stepNone rfl fun ρ w1 hC h => ?_    -- 20 := Op.binOp BinOp.shl 40 t19 (const (24:u64)) 43
          have h19 : ρ 19 = U ((b.getD ((4) * (t)) 0).toUInt32) := h 19 (by decide)
          exact YieldsK.bin h19 rfl rfl (u_shl _ _ _ 24 (by decide)) ⟨Ext.refl _, rfl⟩
        · refine stepNone rfl fun ρ w1 hC h => ?_    -- 21 := Op.move t0
          have h0 : ρ 0 = .slice (some ⟨pb, off, none⟩) 64 cap := h 0 (by decide)
          exact ⟨Ext.refl _, h0⟩
        · refine stepNone rfl fun ρ w1 hC h => ?_    -- 22 := Op.move t4
          have h4 : ρ 4 = NI (t) := h 4 (by decide)
          exact ⟨Ext.refl _, h4⟩
        · refine stepNone rfl fun ρ w1 hC h => ?_    -- 23 := Op.binOp BinOp.mul 3 (const (4:i64)) t22 3
          have h22 : ρ 22 = NI (t) := h 22 (by decide)
          exact YieldsK.bin rfl h22 rfl (n_mul _ (4) (t) (by omega)) ⟨Ext.refl _, rfl⟩
        · refine stepNone rfl fun ρ w1 hC h => ?_    -- 24 := Op.binOp BinOp.add 3 t23 (const (1:i64)) 3
          have h23 : ρ 23 = NI ((4) * (t)) := h 23 (by decide)
          exact YieldsK.bin h23 rfl rfl (n_add _ ((4) * (t)) (1) (by omega)) ⟨Ext.refl _, rfl⟩
        · refine stepNone rfl fun ρ w1 hC h => ?_    -- 25 := Op.indexAddr 22 t21 t24
          have h21 : ρ 21 = .slice (some ⟨pb, off, none⟩) 64 cap := h 21 (by decide)
          have h24 : ρ 24 = NI (((4) * (t)) + (1)) := h 24 (by decide)
          exact YieldsK.atSl (i := ((4) * (t)) + (1)) tySlB sizeB h21 h24 (by omega) ⟨Ext.refl _, rfl⟩
        · refine stepNone rfl fun ρ w1 hC h => ?_    -- 26 := Op.load 5 t25
          have h25 : ρ 25 = .pointer (some ⟨pb, off + (((4) * (t)) + (1)), none⟩) := h 25 (by decide)
          exact YieldsK.cell1 uB rfl h25 (hC.cell (HB.out _ (by omega))) ⟨Ext.refl _, rfl⟩
        · refine stepNone rfl fun ρ w1 hC h => ?_    -- 27 := Op.convert 5 40 t26
          have h26 : ρ 26 = B8 (b.getD (((4) * (t)) + (1)) 0) := h 26 (by decide)
          exact YieldsK.wide uB uU h26 ⟨Ext.refl _, rfl⟩
        · refine stepNone rfl fun ρ w1 hC h => ?_    -- 28 := Op.binOp BinOp.shl 40 t27 (const (16:u64)) 43
          have h27 : ρ 27 = U ((b.getD (((4) * (t)) + (1)) 0).toUInt32) := h 27 (by decide)
          exact YieldsK.bin h27 rfl rfl (u_shl _ _ _ 16 (by decide)) ⟨Ext.refl _, rfl⟩
        · refine stepNone rfl fun ρ w1 hC h => ?_    -- 29 := Op.binOp BinOp.or 40 t20 t28 40
          have h20 : ρ 20 = U (((b.getD ((4) * (t)) 0).toUInt32) <<< 24) := h 20 (by decide)
          have h28 : ρ 28 = U (((b.getD (((4) * (t)) + (1)) 0).toUInt32) <<< 16) := h 28 (by decide)
          exact YieldsK.bin h20 h28 rfl (u_or _ _ _) ⟨Ext.refl _, rfl⟩
        · refine stepNone rfl fun ρ w1 hC h => ?_    -- 30 := Op.move t0
          have h0 : ρ 0 = .slice (some ⟨pb, off, none⟩) 64 cap := h 0 (by decide)
          exact ⟨Ext.refl _, h0⟩
        · refine stepNone rfl fun ρ w1 hC h => ?_    -- 31 := Op.move t4
          have h4 : ρ 4 = NI (t) := h 4 (by decide)
          exact ⟨Ext.refl _, h4⟩
        · refine stepNone rfl fun ρ w1 hC h => ?_    -- 32 := Op.binOp BinOp.mul 3 (const (4:i64)) t31 3
          have h31 : ρ 31 = NI (t) := h 31 (by decide)
          exact YieldsK.bin rfl h31 rfl (n_mul _ (4) (t) (by omega)) ⟨Ext.refl _, rfl⟩
        · refine stepNone rfl fun ρ w1 hC h => ?_    -- 33 := Op.binOp BinOp.add 3 t32 (const (2:i64)) 3
          have h32 : ρ 32 = NI ((4) * (t)) := h 32 (by decide)
          exact YieldsK.bin h32 rfl rfl (n_add _ ((4) * (t)) (2) (by omega)) ⟨Ext.refl _, rfl⟩
        · refine stepNone rfl fun ρ w1 hC h => ?_    -- 34 := Op.indexAddr 22 t30 t33
          have h30 : ρ 30 = .slice (some ⟨pb, off, none⟩) 64 cap := h 30 (by decide)
          have h33 : ρ 33 = NI (((4) * (t)) + (2)) := h 33 (by decide)
          exact YieldsK.atSl (i := ((4) * (t)) + (2)) tySlB sizeB h30 h33 (by omega) ⟨Ext.refl _, rfl⟩
        · refine stepNone rfl fun ρ w1 hC h => ?_    -- 35 := Op.load 5 t34
          have h34 : ρ 34 = .pointer (some ⟨pb, off + (((4) * (t)) + (2)), none⟩) := h 34 (by decide)
          exact YieldsK.cell1 uB rfl h34 (hC.cell (HB.out _ (by omega))) ⟨Ext.refl _, rfl⟩
        · refine stepNone rfl fun ρ w1 hC h => ?_    -- 36 := Op.convert 5 40 t35
          have h35 : ρ 35 = B8 (b.getD (((4) * (t)) + (2)) 0) := h 35 (by decide)
          exact YieldsK.wide uB uU h35 ⟨Ext.refl _, rfl⟩
        · refine stepNone rfl fun ρ w1 hC h => ?_    -- 37 := Op.binOp BinOp.shl 40 t36 (const (8:u64)) 43
          have h36 : ρ 36 = U ((b.getD (((4) * (t)) + (2)) 0).toUInt32) := h 36 (by decide)
          exact YieldsK.bin h36 rfl rfl (u_shl _ _ _ 8 (by decide)) ⟨Ext.refl _, rfl⟩
        · refine stepNone rfl fun ρ w1 hC h => ?_    -- 38 := Op.binOp BinOp.or 40 t29 t37 40
          have h29 : ρ 29 = U ((((b.getD ((4) * (t)) 0).toUInt32) <<< 24) ||| (((b.getD (((4) * (t)) + (1)) 0).toUInt32) <<< 16)) := h 29 (by decide)
          have h37 : ρ 37 = U (((b.getD (((4) * (t)) + (2)) 0).toUInt32) <<< 8) := h 37 (by decide)
          exact YieldsK.bin h29 h37 rfl (u_or _ _ _) ⟨Ext.refl _, rfl⟩
        · refine stepNone rfl fun ρ w1 hC h => ?_    -- 39 := Op.move t0
          have h0 : ρ 0 = .slice (some ⟨pb, off, none⟩) 64 cap := h 0 (by decide)
          exact ⟨Ext.refl _, h0⟩
        · refine stepNone rfl fun ρ w1 hC h => ?_    -- 40 := Op.move t4
          have h4 : ρ 4 = NI (t) := h 4 (by decide)
          exact ⟨Ext.refl _, h4⟩
        · refine stepNone rfl fun ρ w1 hC h => ?_    -- 41 := Op.binOp BinOp.mul 3 (const (4:i64)) t40 3
          have h40 : ρ 40 = NI (t) := h 40 (by decide)
          exact YieldsK.bin rfl h40 rfl (n_mul _ (4) (t) (by omega)) ⟨Ext.refl _, rfl⟩
        · refine stepNone rfl fun ρ w1 hC h => ?_    -- 42 := Op.binOp BinOp.add 3 t41 (const (3:i64)) 3
          have h41 : ρ 41 = NI ((4) * (t)) := h 41 (by decide)
          exact YieldsK.bin h41 rfl rfl (n_add _ ((4) * (t)) (3) (by omega)) ⟨Ext.refl _, rfl⟩
        · refine stepNone rfl fun ρ w1 hC h => ?_    -- 43 := Op.indexAddr 22 t39 t42
          have h39 : ρ 39 = .slice (some ⟨pb, off, none⟩) 64 cap := h 39 (by decide)
          have h42 : ρ 42 = NI (((4) * (t)) + (3)) := h 42 (by decide)
          exact YieldsK.atSl (i := ((4) * (t)) + (3)) tySlB sizeB h39 h42 (by omega) ⟨Ext.refl _, rfl⟩
        · refine stepNone rfl fun ρ w1 hC h => ?_    -- 44 := Op.load 5 t43
          have h43 : ρ 43 = .pointer (some ⟨pb, off + (((4) * (t)) + (3)), none⟩) := h 43 (by decide)
          exact YieldsK.cell1 uB rfl h43 (hC.cell (HB.out _ (by omega))) ⟨Ext.refl _, rfl⟩
        · refine stepNone rfl fun ρ w1 hC h => ?_    -- 45 := Op.convert 5 40 t44
          have h44 : ρ 44 = B8 (b.getD (((4) * (t)) + (3)) 0) := h 44 (by decide)
          exact YieldsK.wide uB uU h44 ⟨Ext.refl _, rfl⟩
        · refine stepNone rfl fun ρ w1 hC h => ?_    -- 46 := Op.binOp BinOp.or 40 t38 t45 40
          have h38 : ρ 38 = U (((((b.getD ((4) * (t)) 0).toUInt32) <<< 24) ||| (((b.getD (((4) * (t)) + (1)) 0).toUInt32) <<< 16)) ||| (((b.getD (((4) * (t)) + (2)) 0).toUInt32) <<< 8)) := h 38 (by decide)
          have h45 : ρ 45 = U ((b.getD (((4) * (t)) + (3)) 0).toUInt32) := h 45 (by decide)
          exact YieldsK.bin h38 h45 rfl (u_or _ _ _) ⟨Ext.refl _, rfl⟩
        · refine stepNone rfl fun ρ w1 hC h => ?_    -- 47 := Op.indexAddr 42 t3 t13
          have h3 : ρ 3 = .pointer (some ⟨n3, 0, none⟩) := h 3 (by decide)
          have h13 : ρ 13 = NI (t) := h 13 (by decide)
          refine YieldsK.atArr tyA64 sizeU h3 h13 (by omega) ⟨Ext.refl _, ?_⟩
          show _ = _
          rw [Nat.zero_add]
        · refine stepNone rfl fun ρ w1 hC h => ?_    -- None := Op.store 40 t47 t46
          have h47 : ρ 47 = .pointer (some ⟨n3, t, none⟩) := h 47 (by decide)
          have h46 : ρ 46 = U ((((((b.getD ((4) * (t)) 0).toUInt32) <<< 24) ||| (((b.getD (((4) * (t)) + (1)) 0).toUInt32) <<< 16)) ||| (((b.getD (((4) * (t)) + (2)) 0).toUInt32) <<< 8)) ||| ((b.getD (((4) * (t)) + (3)) 0).toUInt32)) := h 46 (by decide)
          refine YieldsK.storeU h47 h46 (hC.blk' H3.out) (by rw [Sha.pad64_length _ (by omega)]; omega) sizeU1 ⟨rfl, trivial⟩
      intro u_5 wy5 w5 hC5 hS5 hE
      obtain ⟨-, -, -, -, -, -, -, -, -, -, -, -, -, -, -, -, -, -, -, -, -, -, -, -, -, -, -, -, -, -, -, -, -, -, -, -⟩ := hE
      simp only [wrote, List.foldl_cons, List.foldl_nil, List.setIfInBounds_toArray, List.set_cons_zero, List.set_cons_succ]
      have h5 : w5.heap[n3]? = some (.cells (cellsU (Sha.pad64 (Sha.sched b (t + 1)))) 42 (0, 0)) := by
        rw [hS5, hL, Sha.sched_step1 b t h16]
        exact setRow_heap wy5 n3 _ _ _ _ (hC5.blk' H3.out)
      have hz5 : w5.heap[n2]? = some (.cells Z 42 (0, 0)) := by
        rw [hS5, setRow_other _ _ _ _ (by omega)]
        exact hC5.blk' hz
      have hb5 : Below n2 w w5 := by
        rw [hS5]
        exact setRow_below (hbl.trans (hC5.mono (by have := hbl.size; omega))) (by omega) _
      clear hS5 hC5 hbl hz H3 hL hd HB
      go_wp2_with fail
      go_round
      case rel => exact ⟨t + 1, by go_num, by omega, hb5, hz5, h5⟩
      case measure => simp only [intOf]; omega
    · obtain rfl : t = 16 := by omega
      clear h16 ht
      have hd : decide (((16 : Nat) : Int) < 16) = false := by decide
      go_wp2_with fail
      go_loopw [5] (fun v5 wr => ∃ t : Nat, v5 = NI t ∧ 16 ≤ t ∧ t ≤ 64 ∧ Below n2 w wr ∧ wr.heap[n2]? = some (.cells Z 42 (0, 0)) ∧ wr.heap[n3]? = some (.cells (cellsU (Sha.pad64 (Sha.sched b t))) 42 (0, 0)))
        (fun v5 _ => 64 - (intOf v5).toNat)
      case atStart => exact ⟨16, rfl, by omega, by omega, hbl, hz, h3⟩
      case round =>
        clear hbl hz h3 hd
        obtain ⟨t, rfl, ht16, ht, hbl, hz, h3⟩ := hrel
        by_cases h64 : t < 64
        · have H3 := Lib.hid h3
          obtain ⟨L, hL⟩ : ∃ L, L = Sha.sched b t := ⟨_, rfl⟩
          have hLl : L.length = t := by rw [hL, Sha.sched_length]
          rw [← hL] at H3
          have hd : decide ((t : Int) < 64) = true := by simp; omega
          clear h3
          go_wp2_with fail
          refine wp_region_ext [Is (NI (t)), Is (NI ((t) - (15))), Is (.pointer (some ⟨n3, 0 + ((t) - (15)), none⟩)), Is (U ((Sha.pad64 L).getD ((t) - (15)) 0)), Is (NI (t)), Is (NI ((t) - (2))), Is (.pointer (some ⟨n3, 0 + ((t) - (2)), none⟩)), Is (U ((Sha.pad64 L).getD ((t) - (2)) 0)), Is (U ((Sha.pad64 L).getD ((t) - (15)) 0)), Is (U ((Sha.pad64 L).getD ((t) - (2)) 0))]
            (by kernel_rfl) _ _ (by kernel_rfl) [53, 54, 55, 56, 57, 58, 59, 60, 6, 7] (by kernel_rfl) ⟨Stab.is _, Stab.is _, Stab.is _, Stab.is _, Stab.is _, Stab.is _, Stab.is _, Stab.is _, Stab.is _, Stab.is _, trivial⟩ ?hs10 ?hQ10
          case hs10 =>
            refine ⟨?_, ?_, ?_, ?_, ?_, ?_, ?_, ?_, ?_, ?_, trivial⟩
            · refine stepNone rfl fun ρ w1 hC h => ?_    -- 53 := Op.move t5
              have h5 : ρ 5 = NI (t) := h 5 (by decide)
              exact ⟨Ext.refl _, h5⟩
            · refine stepNone rfl fun ρ w1 hC h => ?_    -- 54 := Op.binOp BinOp.sub 3 t53 (const (15:i64)) 3
              have h53 : ρ 53 = NI (t) := h 53 (by decide)
              exact YieldsK.bin h53 rfl rfl (n_sub _ (t) (15) (by omega) (by omega)) ⟨Ext.refl _, rfl⟩
            · refine stepNone rfl fun ρ w1 hC h => ?_    -- 55 := Op.indexAddr 42 t3 t54
              have h3 : ρ 3 = .pointer (some ⟨n3, 0, none⟩) := h 3 (by decide)
              have h54 : ρ 54 = NI ((t) - (15)) := h 54 (by decide)
              exact YieldsK.atArr (i := (t) - (15)) tyA64 sizeU h3 h54 (by omega) ⟨Ext.refl _, rfl⟩
            · refine stepNone rfl fun ρ w1 hC h => ?_    -- 56 := Op.load 40 t55
              have h55 : ρ 55 = .pointer (some ⟨n3, 0 + ((t) - (15)), none⟩) := h 55 (by decide)
              exact YieldsK.cell1 uU rfl h55 (hC.cell (by rw [Nat.zero_add]; exact cellU_at H3.out (by rw [Sha.pad64_length _ (by omega)]; omega))) ⟨Ext.refl _, rfl⟩
            · refine stepNone rfl fun ρ w1 hC h => ?_    -- 57 := Op.move t5
              have h5 : ρ 5 = NI (t) := h 5 (by decide)
              exact ⟨Ext.refl _, h5⟩
            · refine stepNone rfl fun ρ w1 hC h => ?_    -- 58 := Op.binOp BinOp.sub 3 t57 (const (2:i64)) 3
              have h57 : ρ 57 = NI (t) := h 57 (by decide)
              exact YieldsK.bin h57 rfl rfl (n_sub _ (t) (2) (by omega) (by omega)) ⟨Ext.refl _, rfl⟩
            · refine stepNone rfl fun ρ w1 hC h => ?_    -- 59 := Op.indexAddr 42 t3 t58
              have h3 : ρ 3 = .pointer (some ⟨n3, 0, none⟩) := h 3 (by decide)
              have h58 : ρ 58 = NI ((t) - (2)) := h 58 (by decide)
              exact YieldsK.atArr (i := (t) - (2)) tyA64 sizeU h3 h58 (by omega) ⟨Ext.refl _, rfl⟩
            · refine stepNone rfl fun ρ w1 hC h => ?_    -- 60 := Op.load 40 t59
              have h59 : ρ 59 = .pointer (some ⟨n3, 0 + ((t) - (2)), none⟩) := h 59 (by decide)
              exact YieldsK.cell1 uU rfl h59 (hC.cell (by rw [Nat.zero_add]; exact cellU_at H3.out (by rw [Sha.pad64_length _ (by omega)]; omega))) ⟨Ext.refl _, rfl⟩
            · refine stepNone rfl fun ρ w1 hC h => ?_    -- 6 := Op.assign t56
              have h56 : ρ 56 = U ((Sha.pad64 L).getD ((t) - (15)) 0) := h 56 (by decide)
              exact ⟨Ext.refl _, h56⟩
            · refine stepNone rfl fun ρ w1 hC h => ?_    -- 7 := Op.assign t60
              have h60 : ρ 60 = U ((Sha.pad64 L).getD ((t) - (2)) 0) := h 60 (by decide)
              exact ⟨Ext.refl _, h60⟩
          intro u_10 w10 hC10 hE
          obtain ⟨-, -, -, -, -, -, -, -, k6, k7, -⟩ := hE
          have u6 : u_10 6 = U ((Sha.pad64 L).getD ((t) - (15)) 0) := k6
          have u7 : u_10 7 = U ((Sha.pad64 L).getD ((t) - (2)) 0) := k7
          clear k6 k7
          simp only [wrote, List.foldl_cons, List.foldl_nil, List.setIfInBounds_toArray, List.set_cons_zero, List.set_cons_succ, u6, u7]
          rename_i K10 hK10
          refine hK10 _ _ ?_
          clear hK10 K10
          apply wp_seq_k
          intro K11 hK11
          refine wp_region_ext_text [Is (U ((Sha.pad64 L).getD (t - 15) 0)), Is (U (Sha.rotr ((Sha.pad64 L).getD (t - 15) 0) 7)), Is (U ((Sha.pad64 L).getD (t - 15) 0)), Is (U (Sha.rotr ((Sha.pad64 L).getD (t - 15) 0) 18)), Is (U ((Sha.rotr ((Sha.pad64 L).getD (t - 15) 0) 7) ^^^ (Sha.rotr ((Sha.pad64 L).getD (t - 15) 0) 18))), Is (U ((Sha.pad64 L).getD (t - 15) 0)), Is (U (((Sha.pad64 L).getD (t - 15) 0) >>> 3)), Is (U (((Sha.rotr ((Sha.pad64 L).getD (t - 15) 0) 7) ^^^ (Sha.rotr ((Sha.pad64 L).getD (t - 15) 0) 18)) ^^^ (((Sha.pad64 L).getD (t - 15) 0) >>> 3))), Is (U (((Sha.rotr ((Sha.pad64 L).getD (t - 15) 0) 7) ^^^ (Sha.rotr ((Sha.pad64 L).getD (t - 15) 0) 18)) ^^^ (((Sha.pad64 L).getD (t - 15) 0) >>> 3)))]
             _ _ (by kernel_rfl) [61, 62, 63, 64, 65, 66, 67, 68, 8] (by kernel_rfl) ⟨Stab.is _, Stab.is _, Stab.is _, Stab.is _, Stab.is _, Stab.is _, Stab.is _, Stab.is _, Stab.is _, trivial⟩ ?hs11 ?hQ11
          case hs11 =>
            refine ⟨?_, ?_, ?_, ?_, ?_, ?_, ?_, ?_, ?_, trivial⟩
            · refine stepNone rfl fun ρ w1 hC h => ?_    -- 61 := Op.move t6
              have h6 : ρ 6 = U ((Sha.pad64 L).getD (t - 15) 0) := h 6 (by decide)
              exact ⟨Ext.refl _, h6⟩
            · refine stepNone rfl fun ρ w1 hC h => ?_    -- 62 := Op.call { value (Operand.func 21), args := #[t61, const (7:i64)], argTypes := #[40, 3] }
              have h61 : ρ 61 = U ((Sha.pad64 L).getD (t - 15) 0) := h 61 (by decide)
              refine YieldsK.call plainTurn ?_
              show Calls _ _ #[ρ 61, NI 7] _ _
              rw [h61]
              refine (turn_any w1 _ 7 (by decide)).mono ?_
              rintro e w2 ⟨rfl, hx⟩
              exact ⟨_, rfl, hx, rfl⟩
            · refine stepNone rfl fun ρ w1 hC h => ?_    -- 63 := Op.move t6
              have h6 : ρ 6 = U ((Sha.pad64 L).getD (t - 15) 0) := h 6 (by decide)
              exact ⟨Ext.refl _, h6⟩
            · refine stepNone rfl fun ρ w1 hC h => ?_    -- 64 := Op.call { value (Operand.func 21), args := #[t63, const (18:i64)], argTypes := #[40, 3] }
              have h63 : ρ 63 = U ((Sha.pad64 L).getD (t - 15) 0) := h 63 (by decide)
              refine YieldsK.call plainTurn ?_
              show Calls _ _ #[ρ 63, NI 18] _ _
              rw [h63]
              refine (turn_any w1 _ 18 (by decide)).mono ?_
              rintro e w2 ⟨rfl, hx⟩
              exact ⟨_, rfl, hx, rfl⟩
            · refine stepNone rfl fun ρ w1 hC h => ?_    -- 65 := Op.binOp BinOp.xor 40 t62 t64 40
              have h62 : ρ 62 = U (Sha.rotr ((Sha.pad64 L).getD (t - 15) 0) 7) := h 62 (by decide)
              have h64 : ρ 64 = U (Sha.rotr ((Sha.pad64 L).getD (t - 15) 0) 18) := h 64 (by decide)
              exact YieldsK.bin h62 h64 rfl (u_xor _ _ _) ⟨Ext.refl _, rfl⟩
            · refine stepNone rfl fun ρ w1 hC h => ?_    -- 66 := Op.move t6
              have h6 : ρ 6 = U ((Sha.pad64 L).getD (t - 15) 0) := h 6 (by decide)
              exact ⟨Ext.refl _, h6⟩
            · refine stepNone rfl fun ρ w1 hC h => ?_    -- 67 := Op.binOp BinOp.shr 40 t66 (const (3:u64)) 43
              have h66 : ρ 66 = U ((Sha.pad64 L).getD (t - 15) 0) := h 66 (by decide)
              exact YieldsK.bin h66 rfl rfl (u_shr _ _ _ 3 (by decide)) ⟨Ext.refl _, rfl⟩
            · refine stepNone rfl fun ρ w1 hC h => ?_    -- 68 := Op.binOp BinOp.xor 40 t65 t67 40
              have h65 : ρ 65 = U ((Sha.rotr ((Sha.pad64 L).getD (t - 15) 0) 7) ^^^ (Sha.rotr ((Sha.pad64 L).getD (t - 15) 0) 18)) := h 65 (by decide)
              have h67 : ρ 67 = U (((Sha.pad64 L).getD (t - 15) 0) >>> 3) := h 67 (by decide)
              exact YieldsK.bin h65 h67 rfl (u_xor _ _ _) ⟨Ext.refl _, rfl⟩
            · refine stepNone rfl fun ρ w1 hC h => ?_    -- 8 := Op.assign t68
              have h68 : ρ 68 = U (((Sha.rotr ((Sha.pad64 L).getD (t - 15) 0) 7) ^^^ (Sha.rotr ((Sha.pad64 L).getD (t - 15) 0) 18)) ^^^ (((Sha.pad64 L).getD (t - 15) 0) >>> 3)) := h 68 (by decide)
              exact ⟨Ext.refl _, h68⟩
          intro u_11 w11 hC11 hE
          obtain ⟨-, -, -, -, -, -, -, -, k8, -⟩ := hE
          have u8 : u_11 8 = U (((Sha.rotr ((Sha.pad64 L).getD (t - 15) 0) 7) ^^^ (Sha.rotr ((Sha.pad64 L).getD (t - 15) 0) 18)) ^^^ (((Sha.pad64 L).getD (t - 15) 0) >>> 3)) := k8
          clear k8
          simp only [wrote, List.foldl_cons, List.foldl_nil, List.setIfInBounds_toArray, List.set_cons_zero, List.set_cons_succ, u8]
          refine hK11 _ _ ?_
          clear hK11 K11
          apply wp_seq_k
          intro K12 hK12
          refine wp_region_ext_text [Is (U ((Sha.pad64 L).getD (t - 2) 0)), Is (U (Sha.rotr ((Sha.pad64 L).getD (t - 2) 0) 17)), Is (U ((Sha.pad64 L).getD (t - 2) 0)), Is (U (Sha.rotr ((Sha.pad64 L).getD (t - 2) 0) 19)), Is (U ((Sha.rotr ((Sha.pad64 L).getD (t - 2) 0) 17) ^^^ (Sha.rotr ((Sha.pad64 L).getD (t - 2) 0) 19))), Is (U ((Sha.pad64 L).getD (t - 2) 0)), Is (U (((Sha.pad64 L).getD (t - 2) 0) >>> 10)), Is (U (((Sha.rotr ((Sha.pad64 L).getD (t - 2) 0) 17) ^^^ (Sha.rotr ((Sha.pad64 L).getD (t - 2) 0) 19)) ^^^ (((Sha.pad64 L).getD (t - 2) 0) >>> 10))), Is (U (((Sha.rotr ((Sha.pad64 L).getD (t - 2) 0) 17) ^^^ (Sha.rotr ((Sha.pad64 L).getD (t - 2) 0) 19)) ^^^ (((Sha.pad64 L).getD (t - 2) 0) >>> 10)))]
             _ _ (by kernel_rfl) [69, 70, 71, 72, 73, 74, 75, 76, 9] (by kernel_rfl) ⟨Stab.is _, Stab.is _, Stab.is _, Stab.is _, Stab.is _, Stab.is _, Stab.is _, Stab.is _, Stab.is _, trivial⟩ ?hs12 ?hQ12
          case hs12 =>
            refine ⟨?_, ?_, ?_, ?_, ?_, ?_, ?_, ?_, ?_, trivial⟩
            · refine stepNone rfl fun ρ w1 hC h => ?_    -- 69 := Op.move t7
              have h7 : ρ 7 = U ((Sha.pad64 L).getD (t - 2) 0) := h 7 (by decide)
              exact ⟨Ext.refl _, h7⟩
            · refine stepNone rfl fun ρ w1 hC h => ?_    -- 70 := Op.call { value (Operand.func 21), args := #[t69, const (17:i64)], argTypes := #[40, 3] }
              have h69 : ρ 69 = U ((Sha.pad64 L).getD (t - 2) 0) := h 69 (by decide)
              refine YieldsK.call plainTurn ?_
              show Calls _ _ #[ρ 69, NI 17] _ _
              rw [h69]
              refine (turn_any w1 _ 17 (by decide)).mono ?_
              rintro e w2 ⟨rfl, hx⟩
              exact ⟨_, rfl, hx, rfl⟩
            · refine stepNone rfl fun ρ w1 hC h => ?_    -- 71 := Op.move t7
              have h7 : ρ 7 = U ((Sha.pad64 L).getD (t - 2) 0) := h 7 (by decide)
              exact ⟨Ext.refl _, h7⟩
            · refine stepNone rfl fun ρ w1 hC h => ?_    -- 72 := Op.call { value (Operand.func 21), args := #[t71, const (19:i64)], argTypes := #[40, 3] }
              have h71 : ρ 71 = U ((Sha.pad64 L).getD (t - 2) 0) := h 71 (by decide)
              refine YieldsK.call plainTurn ?_
              show Calls _ _ #[ρ 71, NI 19] _ _
              rw [h71]
              refine (turn_any w1 _ 19 (by decide)).mono ?_
              rintro e w2 ⟨rfl, hx⟩
              exact ⟨_, rfl, hx, rfl⟩
            · refine stepNone rfl fun ρ w1 hC h => ?_    -- 73 := Op.binOp BinOp.xor 40 t70 t72 40
              have h70 : ρ 70 = U (Sha.rotr ((Sha.pad64 L).getD (t - 2) 0) 17) := h 70 (by decide)
              have h72 : ρ 72 = U (Sha.rotr ((Sha.pad64 L).getD (t - 2) 0) 19) := h 72 (by decide)
              exact YieldsK.bin h70 h72 rfl (u_xor _ _ _) ⟨Ext.refl _, rfl⟩
            · refine stepNone rfl fun ρ w1 hC h => ?_    -- 74 := Op.move t7
              have h7 : ρ 7 = U ((Sha.pad64 L).getD (t - 2) 0) := h 7 (by decide)
              exact ⟨Ext.refl _, h7⟩
            · refine stepNone rfl fun ρ w1 hC h => ?_    -- 75 := Op.binOp BinOp.shr 40 t74 (const (10:u64)) 43
              have h74 : ρ 74 = U ((Sha.pad64 L).getD (t - 2) 0) := h 74 (by decide)
              exact YieldsK.bin h74 rfl rfl (u_shr _ _ _ 10 (by decide)) ⟨Ext.refl _, rfl⟩
            · refine stepNone rfl fun ρ w1 hC h => ?_    -- 76 := Op.binOp BinOp.xor 40 t73 t75 40
              have h73 : ρ 73 = U ((Sha.rotr ((Sha.pad64 L).getD (t - 2) 0) 17) ^^^ (Sha.rotr ((Sha.pad64 L).getD (t - 2) 0) 19)) := h 73 (by decide)
              have h75 : ρ 75 = U (((Sha.pad64 L).getD (t - 2) 0) >>> 10) := h 75 (by decide)
              exact YieldsK.bin h73 h75 rfl (u_xor _ _ _) ⟨Ext.refl _, rfl⟩
            · refine stepNone rfl fun ρ w1 hC h => ?_    -- 9 := Op.assign t76
              have h76 : ρ 76 = U (((Sha.rotr ((Sha.pad64 L).getD (t - 2) 0) 17) ^^^ (Sha.rotr ((Sha.pad64 L).getD (t - 2) 0) 19)) ^^^ (((Sha.pad64 L).getD (t - 2) 0) >>> 10)) := h 76 (by decide)
              exact ⟨Ext.refl _, h76⟩
          intro u_12 w12 hC12 hE
          obtain ⟨-, -, -, -, -, -, -, -, k9, -⟩ := hE
          have u9 : u_12 9 = U (((Sha.rotr ((Sha.pad64 L).getD (t - 2) 0) 17) ^^^ (Sha.rotr ((Sha.pad64 L).getD (t - 2) 0) 19)) ^^^ (((Sha.pad64 L).getD (t - 2) 0) >>> 10)) := k9
          clear k9
          simp only [wrote, List.foldl_cons, List.foldl_nil, List.setIfInBounds_toArray, List.set_cons_zero, List.set_cons_succ, u9]
          refine hK12 _ _ ?_
          clear hK12 K12
          have hE := (hC10.trans hC11).trans hC12
          have H13 := Lib.hid (hE.blk' H3.out)
          refine wp_region_store 15 (fun a b' => b' = a.setRow n3 (cellsU ((Sha.pad64 L).set t (Sha.high ((Sha.pad64 L).getD (t - 2) 0) + (Sha.pad64 L).getD (t - 7) 0 + Sha.low ((Sha.pad64 L).getD (t - 15) 0) + (Sha.pad64 L).getD (t - 16) 0)))) [Is (NI (t)), Is (U (Sha.high ((Sha.pad64 L).getD (t - 2) 0))), Is (NI (t)), Is (NI ((t) - (7))), Is (.pointer (some ⟨n3, 0 + ((t) - (7)), none⟩)), Is (U ((Sha.pad64 L).getD ((t) - (7)) 0)), Is (U ((Sha.high ((Sha.pad64 L).getD (t - 2) 0)) + ((Sha.pad64 L).getD ((t) - (7)) 0))), Is (U (Sha.low ((Sha.pad64 L).getD (t - 15) 0))), Is (U (((Sha.high ((Sha.pad64 L).getD (t - 2) 0)) + ((Sha.pad64 L).getD ((t) - (7)) 0)) + (Sha.low ((Sha.pad64 L).getD (t - 15) 0)))), Is (NI (t)), Is (NI ((t) - (16))), Is (.pointer (some ⟨n3, 0 + ((t) - (16)), none⟩)), Is (U ((Sha.pad64 L).getD ((t) - (16)) 0)), Is (U ((((Sha.high ((Sha.pad64 L).getD (t - 2) 0)) + ((Sha.pad64 L).getD ((t) - (7)) 0)) + (Sha.low ((Sha.pad64 L).getD (t - 15) 0))) + ((Sha.pad64 L).getD ((t) - (16)) 0))), Is (.pointer (some ⟨n3, t, none⟩)), (fun _ _ => True)]
            (by kernel_rfl) _ _ (by kernel_rfl) (by kernel_rfl) [77, 78, 79, 80, 81, 82, 83, 84, 85, 86, 87, 88, 89, 90, 91] (by kernel_rfl) rfl ⟨Stab.is _, Stab.is _, Stab.is _, Stab.is _, Stab.is _, Stab.is _, Stab.is _, Stab.is _, Stab.is _, Stab.is _, Stab.is _, Stab.is _, Stab.is _, Stab.is _, Stab.is _, Stab.any, trivial⟩ ⟨Stab.is _, Stab.is _, Stab.is _, Stab.is _, Stab.is _, Stab.is _, Stab.is _, Stab.is _, Stab.is _, Stab.is _, Stab.is _, Stab.is _, Stab.is _, Stab.is _, Stab.is _, Stab.any, trivial⟩ ?hs13 ?hQ13
          case hs13 =>
            refine ⟨?_, ?_, ?_, ?_, ?_, ?_, ?_, ?_, ?_, ?_, ?_, ?_, ?_, ?_, ?_, ?_, trivial⟩
            · refine stepNone rfl fun ρ w1 hC h => ?_    -- 77 := Op.move t5
              have h5 : ρ 5 = NI (t) := h 5 (by decide)
              exact ⟨Ext.refl _, h5⟩
            · refine stepNone rfl fun ρ w1 hC h => ?_    -- 78 := Op.move t9
              have h9 : ρ 9 = U (Sha.high ((Sha.pad64 L).getD (t - 2) 0)) := h 9 (by decide)
              exact ⟨Ext.refl _, h9⟩
            · refine stepNone rfl fun ρ w1 hC h => ?_    -- 79 := Op.move t5
              have h5 : ρ 5 = NI (t) := h 5 (by decide)
              exact ⟨Ext.refl _, h5⟩
            · refine stepNone rfl fun ρ w1 hC h => ?_    -- 80 := Op.binOp BinOp.sub 3 t79 (const (7:i64)) 3
              have h79 : ρ 79 = NI (t) := h 79 (by decide)
              exact YieldsK.bin h79 rfl rfl (n_sub _ (t) (7) (by omega) (by omega)) ⟨Ext.refl _, rfl⟩
            · refine stepNone rfl fun ρ w1 hC h => ?_    -- 81 := Op.indexAddr 42 t3 t80
              have h3 : ρ 3 = .pointer (some ⟨n3, 0, none⟩) := h 3 (by decide)
              have h80 : ρ 80 = NI ((t) - (7)) := h 80 (by decide)
              exact YieldsK.atArr (i := (t) - (7)) tyA64 sizeU h3 h80 (by omega) ⟨Ext.refl _, rfl⟩
            · refine stepNone rfl fun ρ w1 hC h => ?_    -- 82 := Op.load 40 t81
              have h81 : ρ 81 = .pointer (some ⟨n3, 0 + ((t) - (7)), none⟩) := h 81 (by decide)
              exact YieldsK.cell1 uU rfl h81 (hC.cell (by rw [Nat.zero_add]; exact cellU_at H13.out (by rw [Sha.pad64_length _ (by omega)]; omega))) ⟨Ext.refl _, rfl⟩
            · refine stepNone rfl fun ρ w1 hC h => ?_    -- 83 := Op.binOp BinOp.add 40 t78 t82 40
              have h78 : ρ 78 = U (Sha.high ((Sha.pad64 L).getD (t - 2) 0)) := h 78 (by decide)
              have h82 : ρ 82 = U ((Sha.pad64 L).getD ((t) - (7)) 0) := h 82 (by decide)
              exact YieldsK.bin h78 h82 rfl (u_add _ _ _) ⟨Ext.refl _, rfl⟩
            · refine stepNone rfl fun ρ w1 hC h => ?_    -- 84 := Op.move t8
              have h8 : ρ 8 = U (Sha.low ((Sha.pad64 L).getD (t - 15) 0)) := h 8 (by decide)
              exact ⟨Ext.refl _, h8⟩
            · refine stepNone rfl fun ρ w1 hC h => ?_    -- 85 := Op.binOp BinOp.add 40 t83 t84 40
              have h83 : ρ 83 = U ((Sha.high ((Sha.pad64 L).getD (t - 2) 0)) + ((Sha.pad64 L).getD ((t) - (7)) 0)) := h 83 (by decide)
              have h84 : ρ 84 = U (Sha.low ((Sha.pad64 L).getD (t - 15) 0)) := h 84 (by decide)
              exact YieldsK.bin h83 h84 rfl (u_add _ _ _) ⟨Ext.refl _, rfl⟩
            · refine stepNone rfl fun ρ w1 hC h => ?_    -- 86 := Op.move t5
              have h5 : ρ 5 = NI (t) := h 5 (by decide)
              exact ⟨Ext.refl _, h5⟩
            · refine stepNone rfl fun ρ w1 hC h => ?_    -- 87 := Op.binOp BinOp.sub 3 t86 (const (16:i64)) 3
              have h86 : ρ 86 = NI (t) := h 86 (by decide)
              exact YieldsK.bin h86 rfl rfl (n_sub _ (t) (16) (by omega) (by omega)) ⟨Ext.refl _, rfl⟩
            · refine stepNone rfl fun ρ w1 hC h => ?_    -- 88 := Op.indexAddr 42 t3 t87
              have h3 : ρ 3 = .pointer (some ⟨n3, 0, none⟩) := h 3 (by decide)
              have h87 : ρ 87 = NI ((t) - (16)) := h 87 (by decide)
              exact YieldsK.atArr (i := (t) - (16)) tyA64 sizeU h3 h87 (by omega) ⟨Ext.refl _, rfl⟩
            · refine stepNone rfl fun ρ w1 hC h => ?_    -- 89 := Op.load 40 t88
              have h88 : ρ 88 = .pointer (some ⟨n3, 0 + ((t) - (16)), none⟩) := h 88 (by decide)
              exact YieldsK.cell1 uU rfl h88 (hC.cell (by rw [Nat.zero_add]; exact cellU_at H13.out (by rw [Sha.pad64_length _ (by omega)]; omega))) ⟨Ext.refl _, rfl⟩
            · refine stepNone rfl fun ρ w1 hC h => ?_    -- 90 := Op.binOp BinOp.add 40 t85 t89 40
              have h85 : ρ 85 = U (((Sha.high ((Sha.pad64 L).getD (t - 2) 0)) + ((Sha.pad64 L).getD ((t) - (7)) 0)) + (Sha.low ((Sha.pad64 L).getD (t - 15) 0))) := h 85 (by decide)
              have h89 : ρ 89 = U ((Sha.pad64 L).getD ((t) - (16)) 0) := h 89 (by decide)
              exact YieldsK.bin h85 h89 rfl (u_add _ _ _) ⟨Ext.refl _, rfl⟩
            · refine stepNone rfl fun ρ w1 hC h => ?_    -- 91 := Op.indexAddr 42 t3 t77
              have h3 : ρ 3 = .pointer (some ⟨n3, 0, none⟩) := h 3 (by decide)
              have h77 : ρ 77 = NI (t) := h 77 (by decide)
              refine YieldsK.atArr tyA64 sizeU h3 h77 (by omega) ⟨Ext.refl _, ?_⟩
              show _ = _
              rw [Nat.zero_add]
            · refine stepNone rfl fun ρ w1 hC h => ?_    -- None := Op.store 40 t91 t90
              have h91 : ρ 91 = .pointer (some ⟨n3, t, none⟩) := h 91 (by decide)
              have h90 : ρ 90 = U ((((Sha.high ((Sha.pad64 L).getD (t - 2) 0)) + ((Sha.pad64 L).getD ((t) - (7)) 0)) + (Sha.low ((Sha.pad64 L).getD (t - 15) 0))) + ((Sha.pad64 L).getD ((t) - (16)) 0)) := h 90 (by decide)
              refine YieldsK.storeU h91 h90 (hC.blk' H13.out) (by rw [Sha.pad64_length _ (by omega)]; omega) sizeU1 ⟨rfl, trivial⟩
          intro u_13 wy13 w13 hC13 hS13 hE
          obtain ⟨-, -, -, -, -, -, -, -, -, -, -, -, -, -, -, -⟩ := hE
          simp only [wrote, List.foldl_cons, List.foldl_nil, List.setIfInBounds_toArray, List.set_cons_zero, List.set_cons_succ]
          have h5 : w13.heap[n3]? = some (.cells (cellsU (Sha.pad64 (Sha.sched b (t + 1)))) 42 (0, 0)) := by
            rw [hS13, hL, Sha.sched_step2 b t ht16 h64]
            exact setRow_heap wy13 n3 _ _ _ _ (hC13.blk' H13.out)
          have hz5 : w13.heap[n2]? = some (.cells Z 42 (0, 0)) := by
            rw [hS13, setRow_other _ _ _ _ (by omega)]
            exact hC13.blk' (hE.blk' hz)
          have hb5 : Below n2 w w13 := by
            rw [hS13]
            exact setRow_below (hbl.trans ((hE.trans hC13).mono (by have := hbl.size; omega))) (by omega) _
          clear hS13 hC13 hbl hz H3 hL hd H13 hE hC10 hC11 hC12 u6 u7 u8 u9
          go_wp2_with fail
          go_round
          case rel => exact ⟨t + 1, by go_num, by omega, by omega, hb5, hz5, h5⟩
          case measure => simp only [intOf]; omega
        · obtain rfl : t = 64 := by omega
          have hd : decide (((64 : Nat) : Int) < 64) = false := by decide
          rw [← hF, Sha.pad64_full _ HFl] at h3
          have H3 := Lib.hid h3
          have HZ := Lib.hid hz
          have HS := Lib.hid (size42_of (HFl))
          clear h3 hz
          go_wp2_with (first
            | (guard_target =~ wpList _ _ _ (⟨some 92, _, _, _, _, _⟩ :: _) _ _; refine wpList_load_row rfl _ _ rfl n3 (by kernel_rfl) _ _ _ _ H3.out tyA64 rfl HS.out ?_)
            | (guard_target =~ wpList _ _ _ (⟨none, .store _ _ _, _, _, _, _⟩ :: _) _ _; refine wpList_store_row' rfl _ _ _ rfl n2 rfl (cellsU (F)) Z _ rfl HZ.out (by rw [cellsU_size, HFl, hZs]) HS.out (cellsU_one _) ?_; intro w9 hw9 hg9 hs9))
          refine bodyPost_ret (v := .agg (cellsU (F))) (results_cell0 Tryd.results20 _ _ n2 42 (cellsU (F)) (0, 0) _ rfl hw9 tyA64 rfl HS.out) rfl ⟨rfl, ?_⟩
          show Below w.heap.size w w9
          rw [hn2]
          exact hbl.grown hg9 (Nat.le_of_lt (Array.getElem?_eq_some_iff.1 HZ.out).1) (fun k e => by cases e; exact Nat.le_refl _)
end Go.Proofs.YtcindgknimallaaDoor
