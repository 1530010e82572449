/- The reference's smaller functions. -/
import Derived.Test.YtcindgknimallaaDoorOps
import Derived.Test.YtcindgknimallaaDoorHash
namespace Go.Proofs.YtcindgknimallaaDoor
open Go.RowKit
theorem Sha.be64_take (n i : Nat) (h : i < 8) : (Sha.be64 n).take (i + 1) = (Sha.be64 n).take i ++ [UInt8.ofNat (n / 2 ^ (56 - 8 * i))] := by
  unfold Sha.be64
  rw [List.take_succ_eq_append_getElem (by simp; omega)]
  simp
theorem sha5_l0_22 (w : World) : (Instr.buildSlice 22 0 #[]).run Tryd.prog w = .ok (.slice (some ⟨w.heap.size, 0, none⟩) 0 0) (w.alloc (.cells #[] 5)) := by kernel_rfl
theorem sha5_ty22 : Tryd.prog.underlying 22 = some (.slice 5) := by kernel_rfl
theorem sha5_inf5 : (Tryd.prog.info? 5).map (fun i => (i.zero, i.size, i.bytes)) = some (some (.int .u8 0), 1, 1) := by kernel_rfl
theorem sha5_isz42 : (Tryd.prog.info? 42).map (·.size) = some 64 := by kernel_rfl
theorem sha5_al42 {d : Option Tmp} {ty : TypeId} {pos : String} {af : Array Edge} {gd : Option (Nat × Bool)} (σ : Operand → Value) (w : World) : (execOp σ ⟨d, .alloc 42, ty, pos, af, gd⟩).run Tryd.prog w = .ok (.value (.pointer (some ⟨w.heap.size, 0, none⟩))) (w.alloc (.cells ((List.replicate 64 0).map fun x => U x).toArray 42)) := by kernel_rfl
theorem sha5_ty42 : Tryd.prog.underlying 42 = some (.array 64 40) := by kernel_rfl
theorem sha5_sz40 : ∀ w' : World, (sizeOf 40).run Tryd.prog w' = .ok 1 w' := fun _ => by kernel_rfl
theorem sha5_ty40 : Tryd.prog.underlying 40 = some (.int .u32) := by kernel_rfl
theorem sha5_l1_22 (z : Int) (w : World) : (Instr.buildSlice 22 1 #[(0, .int .u8 z)]).run Tryd.prog w = .ok (.slice (some ⟨w.heap.size, 0, none⟩) 1 1) (w.alloc (.cells #[.int .u8 z] 5)) := by kernel_rfl
theorem sha5_ty3 : Tryd.prog.underlying 3 = some (.int .i64) := by kernel_rfl
theorem sha5_ty38 : Tryd.prog.underlying 38 = some (.int .u64) := by kernel_rfl
theorem sha5_ty43 : Tryd.prog.underlying 43 = some (.int .u64) := by kernel_rfl
theorem sha5_ty5 : Tryd.prog.underlying 5 = some (.int .u8) := by kernel_rfl
theorem copy_any (w : World) (v : Value) (l : List UInt8) (hr : RB w v l) (hl : l.length ≤ 140737488355328) :
    Calls Tryd.prog 9 #[v] w fun e w' => ∃ v', e = .returned v' ∧ NewB 5 w w' v' l := by
  refine calls_of_wpF (args := [v]) Tryd.func9 rfl 6 rfl (Nat.le_of_ble_eq_true rfl) ?_
  intro ρ0 hb
  have T0 : ρ0 0 = (v : Value) := hb.get 0
  clear hb
  have hE := Ext.refl w
  refine wpF_seq_k fun K1 hK1 => ?_
  refine wpF_text ?_
  refine opsF_step rfl (YieldsK.assign (show _ = ((Value.slice none 0 0) : Value) from rfl) ?_)    -- ref.go:78 t2 := (Op.assign (Operand.const (Value.slice none 0 0)))
  refine opsF_end (fun ρ => ρ 0 = (v : Value) ∧ ρ 2 = ((Value.slice none 0 0) : Value) ∧ True) ⟨T0, rfl, trivial⟩ fun ρ2 ⟨T0, T2, _⟩ => ?_
  refine thenF_normal (hK1 _ _ ?_)
  refine wpF_seq_k fun K3 hK3 => ?_
  refine wpF_text ?_
  refine opsF_step rfl (YieldsK.lit0 sha5_l0_22 fun v4 w5 hN6 => ?_)    -- ref.go:78 t3 := (Op.buildSlice 22 0 #[])
  have hE : Ext w w5 := (hE.trans hN6.ext)
  have ho7 := hN6.own; clear hN6
  refine opsF_step rfl (YieldsK.move (show _ = (v : Value) from T0) ?_)    -- ref.go:78 t4 := (Op.move (Operand.tmp 0))
  refine opsF_step rfl (YieldsK.appendRB _ _ w.heap.size (.int .u8 0) sha5_ty22 sha5_inf5 rfl sha5_ty22 (([] : List UInt8)) (l) (own_of ho7 (show _ = (v4 : Value) from rfl)) (RB.of (hr.keep hE) (show _ = (v : Value) from rfl)) (by simp; omega) hE.size fun v8 w9 ho10 hg11 => ?_)    -- ref.go:78 t5 := (Op.call { callee := (Callee.builtin Builtin.append), args := #[(Operand.tmp 3), (Operand.tmp 4)], argTypes :=
  have hg11 : Grew w5 w9 v4 v8 := hg11
  have hE : Ext w w9 := ext_grew hE hg11 ho7 (Nat.le_refl _)
  clear ho7
  refine opsF_step rfl (YieldsK.assign (show _ = (v8 : Value) from rfl) ?_)    -- ref.go:78 t2 := (Op.assign (Operand.tmp 5))
  refine opsF_end (fun ρ => ρ 0 = (v : Value) ∧ ρ 2 = (v8 : Value) ∧ True) ⟨T0, rfl, trivial⟩ fun ρ12 ⟨T0, T2, _⟩ => ?_
  refine thenF_normal (hK3 _ _ ?_)
  refine wpF_ret ?_
  refine postF_ret (fn := Tryd.f9) _ rfl [v8] (v8) rfl ⟨T2, trivial⟩ ?_
  exact ⟨_, rfl, own_eq ho10 (List.nil_append _), Ext.grown hE⟩

theorem rot_any (w : World) (x : UInt32) (n : Nat) (h0 : 0 < n) (h1 : n < 32) :
    Calls Tryd.prog 17 #[U x, .int .u64 (n : Int)] w fun e w' => e = .returned (U (Sha.rotr x n)) ∧ Ext w w' := by
  refine calls_of_wpF (args := [U (x), .int .u64 ((n : Nat) : Int)]) Tryd.func17 rfl 13 rfl (Nat.le_of_ble_eq_true rfl) ?_
  intro ρ0 hb
  have T0 : ρ0 0 = (U (x) : Value) := hb.get 0
  have T1 : ρ0 1 = (.int .u64 ((n : Nat) : Int) : Value) := hb.get 1
  clear hb
  have hE := Ext.refl w
  refine wpF_seq_k fun K1 hK1 => ?_
  refine wpF_text ?_
  refine opsF_step rfl (YieldsK.assign (show _ = (U (0) : Value) from rfl) ?_)    -- ref.go:13 t4 := (Op.assign (Operand.const (Value.int IntKind.u32 0)))
  refine opsF_end (fun ρ => ρ 0 = (U (x) : Value) ∧ ρ 1 = (.int .u64 ((n : Nat) : Int) : Value) ∧ ρ 4 = (U (0) : Value) ∧ True) ⟨T0, T1, rfl, trivial⟩ fun ρ2 ⟨T0, T1, T4, _⟩ => ?_
  refine thenF_normal (hK1 _ _ ?_)
  refine wpF_seq_k fun K3 hK3 => ?_
  refine wpF_text ?_
  refine opsF_step rfl (YieldsK.move (show _ = (U (x) : Value) from T0) ?_)    -- ref.go:13 t5 := (Op.move (Operand.tmp 0))
  refine opsF_step rfl (YieldsK.move (show _ = (.int .u64 ((n : Nat) : Int) : Value) from T1) ?_)    -- ref.go:13 t6 := (Op.move (Operand.tmp 1))
  refine opsF_step rfl (YieldsK.bin (yv := .int .u64 ((n : Nat) : Int)) (show _ = (U (x) : Value) from rfl) (show _ = (.int .u64 ((n : Nat) : Int) : Value) from rfl) rfl (u_shr _ _ _ (n) (by omega)) ?_)    -- ref.go:13 t7 := (Op.binOp BinOp.shr 40 (Operand.tmp 5) (Operand.tmp 6) 43)
  refine opsF_step rfl (YieldsK.move (show _ = (U (x) : Value) from T0) ?_)    -- ref.go:13 t8 := (Op.move (Operand.tmp 0))
  refine opsF_step rfl (YieldsK.move (show _ = (.int .u64 ((n : Nat) : Int) : Value) from T1) ?_)    -- ref.go:13 t9 := (Op.move (Operand.tmp 1))
  refine opsF_step rfl (YieldsK.bin (xv := .int .u64 ((32 : Nat) : Int)) (yv := .int .u64 ((n : Nat) : Int)) (show _ = (.int .u64 ((32 : Nat) : Int) : Value) from rfl) (show _ = (.int .u64 ((n : Nat) : Int) : Value) from rfl) rfl (u64_sub _ (32) (n) (by omega) (by omega)) ?_)    -- ref.go:13 t10 := (Op.binOp BinOp.sub 43 (Operand.const (Value.int IntKind.u64 32)) (Operand.tmp 9) 43)
  refine opsF_step rfl (YieldsK.bin (yv := .int .u64 (((32) - (n) : Nat) : Int)) (show _ = (U (x) : Value) from rfl) (show _ = (.int .u64 (((32) - (n) : Nat) : Int) : Value) from rfl) rfl (u_shl _ _ _ ((32) - (n)) (by omega)) ?_)    -- ref.go:13 t11 := (Op.binOp BinOp.shl 40 (Operand.tmp 8) (Operand.tmp 10) 43)
  refine opsF_step rfl (YieldsK.bin (show _ = (U ((x) >>> UInt32.ofNat (n)) : Value) from rfl) (show _ = (U ((x) <<< UInt32.ofNat ((32) - (n))) : Value) from rfl) rfl (u_or _ _ _) ?_)    -- ref.go:13 t12 := (Op.binOp BinOp.or 40 (Operand.tmp 7) (Operand.tmp 11) 40)
  refine opsF_step rfl (YieldsK.assign (show _ = (U (((x) >>> UInt32.ofNat (n)) ||| ((x) <<< UInt32.ofNat ((32) - (n)))) : Value) from rfl) ?_)    -- ref.go:13 t4 := (Op.assign (Operand.tmp 12))
  refine opsF_end (fun ρ => ρ 0 = (U (x) : Value) ∧ ρ 1 = (.int .u64 ((n : Nat) : Int) : Value) ∧ ρ 4 = (U (((x) >>> UInt32.ofNat (n)) ||| ((x) <<< UInt32.ofNat ((32) - (n)))) : Value) ∧ True) ⟨T0, T1, rfl, trivial⟩ fun ρ4 ⟨T0, T1, T4, _⟩ => ?_
  refine thenF_normal (hK3 _ _ ?_)
  refine wpF_ret ?_
  refine postF_ret (fn := Tryd.f17) _ rfl [U (((x) >>> UInt32.ofNat (n)) ||| ((x) <<< UInt32.ofNat ((32) - (n))))] (U (((x) >>> UInt32.ofNat (n)) ||| ((x) <<< UInt32.ofNat ((32) - (n))))) rfl ⟨T4, trivial⟩ ?_
  exact ⟨by unfold Sha.rotr; rw [UInt32.or_comm], hE⟩

theorem key_any (w : World) (t : Nat) (ht : t < 64) :
    Calls Tryd.prog 18 #[NI t] w fun e w' => e = .returned (U (Sha.words.getD t 0)) ∧ Ext w w' := by
  refine calls_of_wpF (args := [.int .i64 ((t : Nat) : Int)]) Tryd.func18 rfl 8 rfl (Nat.le_of_ble_eq_true rfl) ?_
  intro ρ0 hb
  have T0 : ρ0 0 = (.int .i64 ((t : Nat) : Int) : Value) := hb.get 0
  clear hb
  have hE := Ext.refl w
  refine wpF_seq_k fun K1 hK1 => ?_
  refine wpF_text ?_
  refine opsF_step rfl (YieldsK.assign (show _ = (U (0) : Value) from rfl) ?_)    -- ref.go:7 t2 := (Op.assign (Operand.const (Value.int IntKind.u32 0)))
  refine opsF_end (fun ρ => ρ 0 = (.int .i64 ((t : Nat) : Int) : Value) ∧ ρ 2 = (U (0) : Value) ∧ True) ⟨T0, rfl, trivial⟩ fun ρ2 ⟨T0, T2, _⟩ => ?_
  refine thenF_normal (hK1 _ _ ?_)
  refine wpF_seq_k fun K3 hK3 => ?_
  refine wpF_text ?_
  refine opsF_step rfl (YieldsK.run (v := .agg (Sha.words.map fun x => U x).toArray) (by kernel_rfl) ?_)    -- ref.go:8 t4 := (Op.build 42 #[(0, (Operand.const (Value.int IntKind.u32 1116352408))), (1, (Operand.const (Value.int IntKind.
  refine opsF_step rfl (YieldsK.alloc (cs := ((List.replicate 64 0).map fun x => U x).toArray) sha5_al42 fun n4 w5 hn6 hb7 hx8 hs9 => ?_)    -- ref.go:8 t3 := (Op.alloc 42)
  have hE : Ext w w5 := (hE.trans hx8)
  have hb10 := hb7; clear hb7
  have hl11 : n4 < w5.heap.size := by omega
  refine opsF_step rfl (YieldsK.storeAll (show _ = (.pointer (some ⟨n4, 0, none⟩) : Value) from rfl) (show _ = (.agg (Sha.words.map fun x => U x).toArray : Value) from rfl) hb10 (rfl) (sha5_isz42) (cellsU_one _) fun w12 hb13 hg14 hs15 => ?_)    -- ref.go:8 tNone := (Op.store 42 (Operand.tmp 3) (Operand.tmp 4))
  have hE : Ext w w12 := row_fresh hE hg14 (Nat.le_trans (Nat.le_refl _) (by omega))
  clear hb10
  have hb10 := hb13; clear hb13
  have hl16 : n4 < w12.heap.size := (Array.getElem?_eq_some_iff.1 hb10).1
  refine opsF_end (fun ρ => ρ 0 = (.int .i64 ((t : Nat) : Int) : Value) ∧ ρ 2 = (U (0) : Value) ∧ ρ 3 = (.pointer (some ⟨n4, 0, none⟩) : Value) ∧ True) ⟨T0, T2, rfl, trivial⟩ fun ρ17 ⟨T0, T2, T3, _⟩ => ?_
  refine thenF_normal (hK3 _ _ ?_)
  refine wpF_seq_k fun K18 hK18 => ?_
  refine wpF_text ?_
  refine opsF_step rfl (YieldsK.move (show _ = (.int .i64 ((t : Nat) : Int) : Value) from T0) ?_)    -- ref.go:9 t5 := (Op.move (Operand.tmp 0))
  refine opsF_step rfl (YieldsK.atArr0 (i := t) sha5_ty42 sha5_sz40 (show _ = (.pointer (some ⟨n4, 0, none⟩) : Value) from T3) (show _ = (.int .i64 ((t : Nat) : Int) : Value) from rfl) (by omega) ?_)    -- ref.go:9 t6 := (Op.indexAddr 42 (Operand.tmp 3) (Operand.tmp 5))
  refine opsF_step rfl (YieldsK.cell1 sha5_ty40 rfl (show _ = (.pointer (some ⟨n4, t, none⟩) : Value) from rfl) (cellAt hb10 (word_at (i := t) (by show _ < 64; omega))) ?_)    -- ref.go:9 t7 := (Op.load 40 (Operand.tmp 6))
  refine opsF_step rfl (YieldsK.assign (show _ = (U ((Sha.words).getD (t) 0) : Value) from rfl) ?_)    -- ref.go:9 t2 := (Op.assign (Operand.tmp 7))
  refine opsF_end (fun ρ => ρ 0 = (.int .i64 ((t : Nat) : Int) : Value) ∧ ρ 2 = (U ((Sha.words).getD (t) 0) : Value) ∧ ρ 3 = (.pointer (some ⟨n4, 0, none⟩) : Value) ∧ True) ⟨T0, rfl, T3, trivial⟩ fun ρ19 ⟨T0, T2, T3, _⟩ => ?_
  refine thenF_normal (hK18 _ _ ?_)
  refine wpF_ret ?_
  refine postF_ret (fn := Tryd.f18) _ rfl [U ((Sha.words).getD (t) 0)] (U ((Sha.words).getD (t) 0)) rfl ⟨T2, trivial⟩ ?_
  exact ⟨rfl, hE⟩

theorem padded_any (w : World) (v : Value) (l : List UInt8) (hr : RB w v l) (hl : l.length ≤ 70368744177664) :
    Calls Tryd.prog 16 #[v] w fun e w' => ∃ v', e = .returned v' ∧ NewB 5 w w' v' (l ++ Sha.tail l.length) := by
  refine calls_of_wpF (args := [v]) Tryd.func16 rfl 38 rfl (Nat.le_of_ble_eq_true rfl) ?_
  intro ρ0 hb
  have T0 : ρ0 0 = (v : Value) := hb.get 0
  clear hb
  have hE := Ext.refl w
  refine wpF_seq_k fun K1 hK1 => ?_
  refine wpF_text ?_
  refine opsF_step rfl (YieldsK.assign (show _ = ((Value.slice none 0 0) : Value) from rfl) ?_)    -- ref.go:16 t2 := (Op.assign (Operand.const (Value.slice none 0 0)))
  refine opsF_end (fun ρ => ρ 0 = (v : Value) ∧ ρ 2 = ((Value.slice none 0 0) : Value) ∧ True) ⟨T0, rfl, trivial⟩ fun ρ2 ⟨T0, T2, _⟩ => ?_
  refine thenF_normal (hK1 _ _ ?_)
  refine wpF_seq_k fun K3 hK3 => ?_
  refine wpF_text ?_
  refine opsF_step rfl (YieldsK.lit0 sha5_l0_22 fun v4 w5 hN6 => ?_)    -- ref.go:17 t6 := (Op.buildSlice 22 0 #[])
  have hE : Ext w w5 := (hE.trans hN6.ext)
  have ho7 := hN6.own; clear hN6
  refine opsF_step rfl (YieldsK.move (show _ = (v : Value) from T0) ?_)    -- ref.go:17 t7 := (Op.move (Operand.tmp 0))
  refine opsF_step rfl (YieldsK.appendRB _ _ w.heap.size (.int .u8 0) sha5_ty22 sha5_inf5 rfl sha5_ty22 (([] : List UInt8)) (l) (own_of ho7 (show _ = (v4 : Value) from rfl)) (RB.of (hr.keep hE) (show _ = (v : Value) from rfl)) (by simp; omega) hE.size fun v8 w9 ho10 hg11 => ?_)    -- ref.go:17 t8 := (Op.call { callee := (Callee.builtin Builtin.append), args := #[(Operand.tmp 6), (Operand.tmp 7)], argTypes :=
  have hg11 : Grew w5 w9 v4 v8 := hg11
  have hE : Ext w w9 := ext_grew hE hg11 ho7 (Nat.le_refl _)
  clear ho7
  refine opsF_step rfl (YieldsK.assign (show _ = (v8 : Value) from rfl) ?_)    -- ref.go:17 t3 := (Op.assign (Operand.tmp 8))
  refine opsF_end (fun ρ => ρ 0 = (v : Value) ∧ ρ 2 = ((Value.slice none 0 0) : Value) ∧ ρ 3 = (v8 : Value) ∧ True) ⟨T0, T2, rfl, trivial⟩ fun ρ12 ⟨T0, T2, T3, _⟩ => ?_
  refine thenF_normal (hK3 _ _ ?_)
  refine wpF_seq_k fun K13 hK13 => ?_
  refine wpF_text ?_
  refine opsF_step rfl (YieldsK.move (show _ = (v8 : Value) from T3) ?_)    -- ref.go:18 t9 := (Op.move (Operand.tmp 3))
  refine opsF_step rfl (YieldsK.lit1 (b := 128) sha5_l1_22 (show _ = (B8 (128) : Value) from rfl) fun v14 w15 hN16 => ?_)    -- ref.go:18 t10 := (Op.buildSlice 22 1 #[(0, (Operand.const (Value.int IntKind.u8 128)))])
  have hA17 := Ext.refl w9
  have hea18 := hE
  have hz19 : w.heap.size ≤ w9.heap.size := hE.size
  have hE : Ext w w15 := (hE.trans hN16.ext)
  have ho10 : w15.ownsRow w.heap.size 5 1 v8 (([] : List UInt8) ++ l : List UInt8).length (Lib.byteCells (([] : List UInt8) ++ l)) := (Stab.own _ _ _ _ _ _ _ _ ho10 hN16.ext)
  have hA17 : Ext w9 w15 := (hA17.trans hN16.ext)
  have ho20 := hN16.own; clear hN16
  refine opsF_step rfl (YieldsK.appendRB _ _ w.heap.size (.int .u8 0) sha5_ty22 sha5_inf5 rfl sha5_ty22 (([] : List UInt8) ++ l) ([(128 : UInt8)]) (own_of ho10 (show _ = (v8 : Value) from rfl)) (RB.of (RB.ofOwn ho20) (show _ = (v14 : Value) from rfl)) (by simp; omega) hE.size fun v21 w22 ho23 hg24 => ?_)    -- ref.go:18 t11 := (Op.call { callee := (Callee.builtin Builtin.append), args := #[(Operand.tmp 9), (Operand.tmp 10)], argTypes :
  have hg24 : Grew w15 w22 v8 v21 := hg24
  have hE : Ext w w22 := ext_grew hE hg24 ho10 (Nat.le_refl _)
  clear ho10
  clear hA17
  clear ho20
  refine opsF_step rfl (YieldsK.assign (show _ = (v21 : Value) from rfl) ?_)    -- ref.go:18 t3 := (Op.assign (Operand.tmp 11))
  refine opsF_end (fun ρ => ρ 0 = (v : Value) ∧ ρ 2 = ((Value.slice none 0 0) : Value) ∧ ρ 3 = (v21 : Value) ∧ True) ⟨T0, T2, rfl, trivial⟩ fun ρ25 ⟨T0, T2, T3, _⟩ => ?_
  refine thenF_normal (hK13 _ _ ?_)
  refine wpF_seq_k fun K26 hK26 => ?_
  refine wpF_block ?_
  refine wpF_loop (fun (ρ : Slots) (wz : World) => ∃ k : Nat, ∃ v3 : Value, ρ 0 = (v : Value) ∧ ρ 2 = ((Value.slice none 0 0) : Value) ∧ ρ 3 = (v3 : Value) ∧ Ext w wz ∧ wz.ownsRow w.heap.size 5 1 v3 (l ++ 128 :: List.replicate k 0 : List UInt8).length (Lib.byteCells (l ++ 128 :: List.replicate k 0)) ∧ (k ≤ (119 - l.length % 64) % 64) ∧ True) (fun ρ _ => l.length + 65 - sliceLen (ρ 3)) ⟨0, v21, T0, T2, T3, hE, own_eq ho23 (by simp), Nat.zero_le _, trivial⟩ ?_
  clear ho23
  clear hE
  rintro ρ27 w28 ⟨k, v3, T0, T2, T3, hE, ho_v3, hk, -⟩
  have q3 := T3
  have ql3 := own_sliceLen ho_v3
  refine wpF_seq_k fun K29 hK29 => ?_
  refine wpF_seq_k fun K30 hK30 => ?_
  refine wpF_text ?_
  refine opsF_step rfl (YieldsK.move (show _ = (v3 : Value) from T3) ?_)    -- ref.go:19 t12 := (Op.move (Operand.tmp 3))
  refine opsF_step rfl (YieldsK.lenRB sha5_ty22 (RB.of (RB.ofOwn ho_v3) (show _ = (v3 : Value) from rfl)) ?_)    -- ref.go:19 t13 := (Op.call { callee := (Callee.builtin Builtin.len), args := #[(Operand.tmp 12)], argTypes := #[22] })
  refine opsF_step rfl (YieldsK.bin (xv := .int .i64 (((l ++ 128 :: List.replicate k 0 : List UInt8).length : Nat) : Int)) (yv := .int .i64 ((64 : Nat) : Int)) (show _ = (.int .i64 (((l ++ 128 :: List.replicate k 0 : List UInt8).length : Nat) : Int) : Value) from rfl) (show _ = (.int .i64 ((64 : Nat) : Int) : Value) from rfl) rfl (i64_rem _ ((l ++ 128 :: List.replicate k 0 : List UInt8).length) (64) (by omega)) ?_)    -- ref.go:19 t14 := (Op.binOp BinOp.rem 3 (Operand.tmp 13) (Operand.const (Value.int IntKind.i64 64)) 3)
  refine opsF_step rfl (YieldsK.eqI (a := ((((l ++ 128 :: List.replicate k 0 : List UInt8).length) % (64) : Nat) : Int)) (b := ((56 : Nat) : Int)) (show _ = (.int .i64 ((((l ++ 128 :: List.replicate k 0 : List UInt8).length) % (64) : Nat) : Int) : Value) from rfl) (show _ = (.int .i64 ((56 : Nat) : Int) : Value) from rfl) (k_neq _ .i64 (((l ++ 128 :: List.replicate k 0 : List UInt8).length) % (64)) (56)) ?_)    -- ref.go:19 t15 := (Op.binOp BinOp.neq 3 (Operand.tmp 14) (Operand.const (Value.int IntKind.i64 56)) 3)
  refine opsF_end (fun ρ => ρ 0 = (v : Value) ∧ ρ 2 = ((Value.slice none 0 0) : Value) ∧ ρ 3 = (v3 : Value) ∧ ρ 15 = (.bool (decide ((((l ++ 128 :: List.replicate k 0 : List UInt8).length) % (64) : Nat) ≠ (56))) : Value) ∧ True) ⟨T0, T2, T3, rfl, trivial⟩ fun ρ31 ⟨T0, T2, T3, T15, _⟩ => ?_
  refine thenF_normal (hK30 _ _ ?_)
  refine wpF_cond ((((l ++ 128 :: List.replicate k 0 : List UInt8).length) % (64) : Nat) ≠ (56)) (show _ = (.bool (decide ((((l ++ 128 :: List.replicate k 0 : List UInt8).length) % (64) : Nat) ≠ (56))) : Value) from T15) (fun hc0 => ?_) (fun hc0 => ?_)
  · refine wpF_skip ?_
    refine thenF_normal (hK29 _ _ ?_)
    refine wpF_block ?_
    refine wpF_text ?_
    refine opsF_step rfl (YieldsK.move (show _ = (v3 : Value) from T3) ?_)    -- ref.go:20 t16 := (Op.move (Operand.tmp 3))
    refine opsF_step rfl (YieldsK.lit1 (b := 0) sha5_l1_22 (show _ = (B8 (0) : Value) from rfl) fun v32 w33 hN34 => ?_)    -- ref.go:20 t17 := (Op.buildSlice 22 1 #[(0, (Operand.const (Value.int IntKind.u8 0)))])
    have hA35 := Ext.refl w28
    have hea36 := hE
    have hz37 : w.heap.size ≤ w28.heap.size := hE.size
    have hE : Ext w w33 := (hE.trans hN34.ext)
    have ho_v3 : w33.ownsRow w.heap.size 5 1 v3 (l ++ 128 :: List.replicate k 0 : List UInt8).length (Lib.byteCells (l ++ 128 :: List.replicate k 0)) := (Stab.own _ _ _ _ _ _ _ _ ho_v3 hN34.ext)
    have hA35 : Ext w28 w33 := (hA35.trans hN34.ext)
    have ho38 := hN34.own; clear hN34
    refine opsF_step rfl (YieldsK.appendRB _ _ w.heap.size (.int .u8 0) sha5_ty22 sha5_inf5 rfl sha5_ty22 (l ++ 128 :: List.replicate k 0) ([(0 : UInt8)]) (own_of ho_v3 (show _ = (v3 : Value) from rfl)) (RB.of (RB.ofOwn ho38) (show _ = (v32 : Value) from rfl)) (by simp; omega) hE.size fun v39 w40 ho41 hg42 => ?_)    -- ref.go:20 t18 := (Op.call { callee := (Callee.builtin Builtin.append), args := #[(Operand.tmp 16), (Operand.tmp 17)], argTypes 
    have hg42 : Grew w33 w40 v3 v39 := hg42
    have hE : Ext w w40 := ext_grew hE hg42 ho_v3 (Nat.le_refl _)
    clear ho_v3
    clear hA35
    clear ho38
    refine opsF_step rfl (YieldsK.assign (show _ = (v39 : Value) from rfl) ?_)    -- ref.go:20 t3 := (Op.assign (Operand.tmp 18))
    refine opsF_end (fun ρ => ρ 0 = (v : Value) ∧ ρ 2 = ((Value.slice none 0 0) : Value) ∧ ρ 3 = (v39 : Value) ∧ True) ⟨T0, T2, rfl, trivial⟩ fun ρ43 ⟨T0, T2, T3, _⟩ => ?_
    refine inBlockF_normal ?_
    refine thenF_normal (And.intro ⟨k + 1, v39, T0, T2, T3, hE, own_eq ho41 (by simp [List.replicate_succ']), by simp at hc0; omega, trivial⟩ ?_)
    show l.length + 65 - sliceLen (ρ43 3) < l.length + 65 - sliceLen (ρ27 3)
    rw [T3, q3]
    have qn := own_sliceLen ho41
    rw [qn, ql3]
    simp
    omega
  · refine wpF_exit (thenF_exit (thenF_exit (inBlockF_hit ?_)))
    refine thenF_normal (hK26 _ _ ?_)
    refine wpF_seq_k fun K44 hK44 => ?_
    refine wpF_text ?_
    refine opsF_step rfl (YieldsK.move (show _ = (v : Value) from T0) ?_)    -- ref.go:22 t19 := (Op.move (Operand.tmp 0))
    refine opsF_step rfl (YieldsK.lenRB sha5_ty22 (RB.of (hr.keep hE) (show _ = (v : Value) from rfl)) ?_)    -- ref.go:22 t20 := (Op.call { callee := (Callee.builtin Builtin.len), args := #[(Operand.tmp 19)], argTypes := #[22] })
    refine opsF_step rfl (YieldsK.convI sha5_ty3 sha5_ty38 (show _ = (.int .i64 ((l.length : Nat) : Int) : Value) from rfl) (wrap_u64 (l.length) (by omega)) ?_)    -- ref.go:22 t21 := (Op.convert 3 38 (Operand.tmp 20))
    refine opsF_step rfl (YieldsK.bin (xv := .int .u64 ((l.length : Nat) : Int)) (yv := .int .u64 ((8 : Nat) : Int)) (show _ = (.int .u64 ((l.length : Nat) : Int) : Value) from rfl) (show _ = (.int .u64 ((8 : Nat) : Int) : Value) from rfl) rfl (u64_mul _ (l.length) (8) (by omega)) ?_)    -- ref.go:22 t22 := (Op.binOp BinOp.mul 38 (Operand.tmp 21) (Operand.const (Value.int IntKind.u64 8)) 38)
    refine opsF_step rfl (YieldsK.assign (show _ = (.int .u64 (((l.length) * (8) : Nat) : Int) : Value) from rfl) ?_)    -- ref.go:22 t4 := (Op.assign (Operand.tmp 22))
    refine opsF_end (fun ρ => ρ 0 = (v : Value) ∧ ρ 2 = ((Value.slice none 0 0) : Value) ∧ ρ 3 = (v3 : Value) ∧ ρ 4 = (.int .u64 (((l.length) * (8) : Nat) : Int) : Value) ∧ True) ⟨T0, T2, T3, rfl, trivial⟩ fun ρ45 ⟨T0, T2, T3, T4, _⟩ => ?_
    obtain ⟨Z, hZ⟩ : ∃ Z, Z = l ++ 128 :: List.replicate k 0 := ⟨_, rfl⟩
    have ho_v3 : w28.ownsRow w.heap.size 5 1 v3 (Z : List UInt8).length (Lib.byteCells (Z)) := (hZ.symm : l ++ 128 :: List.replicate k 0 = Z) ▸ ho_v3
    have hZl : Z.length = l.length + 1 + k := by rw [hZ]; simp; omega
    refine thenF_normal (hK44 _ _ ?_)
    refine wpF_seq_k fun K46 hK46 => ?_
    refine wpF_seq_k fun K47 hK47 => ?_
    refine wpF_text ?_
    refine opsF_step rfl (YieldsK.assign (show _ = (.int .i64 ((0 : Nat) : Int) : Value) from rfl) ?_)    -- ref.go:23 t5 := (Op.assign (Operand.const (Value.int IntKind.i64 0)))
    refine opsF_end (fun ρ => ρ 0 = (v : Value) ∧ ρ 2 = ((Value.slice none 0 0) : Value) ∧ ρ 3 = (v3 : Value) ∧ ρ 4 = (.int .u64 (((l.length) * (8) : Nat) : Int) : Value) ∧ ρ 5 = (.int .i64 ((0 : Nat) : Int) : Value) ∧ True) ⟨T0, T2, T3, T4, rfl, trivial⟩ fun ρ48 ⟨T0, T2, T3, T4, T5, _⟩ => ?_
    refine thenF_normal (hK47 _ _ ?_)
    refine wpF_block ?_
    refine wpF_loop (fun (ρ : Slots) (wz : World) => ∃ i : Nat, ∃ v4 : Value, ρ 0 = (v : Value) ∧ ρ 2 = ((Value.slice none 0 0) : Value) ∧ ρ 4 = (.int .u64 (((l.length) * (8) : Nat) : Int) : Value) ∧ ρ 5 = (.int .i64 ((i : Nat) : Int) : Value) ∧ ρ 3 = (v4 : Value) ∧ Ext w wz ∧ wz.ownsRow w.heap.size 5 1 v4 (Z ++ (Sha.be64 (8 * l.length)).take i : List UInt8).length (Lib.byteCells (Z ++ (Sha.be64 (8 * l.length)).take i)) ∧ (i ≤ 8) ∧ True) (fun ρ _ => 8 - (intOf (ρ 5)).toNat) ⟨0, v3, T0, T2, T4, T5, T3, hE, own_eq ho_v3 (by simp), by omega, trivial⟩ ?_
    clear ho_v3
    clear hE
    rintro ρ49 w50 ⟨i, v4, T0, T2, T4, T5, T3, hE, ho4, hi, -⟩
    have q5 := T5
    have ql3 := own_sliceLen ho4
    refine wpF_seq_k fun K51 hK51 => ?_
    refine wpF_seq_k fun K52 hK52 => ?_
    refine wpF_text ?_
    refine opsF_step rfl (YieldsK.move (show _ = (.int .i64 ((i : Nat) : Int) : Value) from T5) ?_)    -- ref.go:23 t23 := (Op.move (Operand.tmp 5))
    refine opsF_step rfl (YieldsK.eqI (a := ((i : Nat) : Int)) (b := ((8 : Nat) : Int)) (show _ = (.int .i64 ((i : Nat) : Int) : Value) from rfl) (show _ = (.int .i64 ((8 : Nat) : Int) : Value) from rfl) (k_lss _ .i64 (i) (8)) ?_)    -- ref.go:23 t24 := (Op.binOp BinOp.lss 3 (Operand.tmp 23) (Operand.const (Value.int IntKind.i64 8)) 3)
    refine opsF_end (fun ρ => ρ 0 = (v : Value) ∧ ρ 2 = ((Value.slice none 0 0) : Value) ∧ ρ 3 = (v4 : Value) ∧ ρ 4 = (.int .u64 (((l.length) * (8) : Nat) : Int) : Value) ∧ ρ 5 = (.int .i64 ((i : Nat) : Int) : Value) ∧ ρ 24 = (.bool (decide ((i) < (8))) : Value) ∧ True) ⟨T0, T2, T3, T4, T5, rfl, trivial⟩ fun ρ53 ⟨T0, T2, T3, T4, T5, T24, _⟩ => ?_
    refine thenF_normal (hK52 _ _ ?_)
    refine wpF_cond ((i) < (8)) (show _ = (.bool (decide ((i) < (8))) : Value) from T24) (fun hc1 => ?_) (fun hc1 => ?_)
    · refine wpF_skip ?_
      refine thenF_normal (hK51 _ _ ?_)
      refine wpF_seq_k fun K54 hK54 => ?_
      refine wpF_block ?_
      refine wpF_text ?_
      refine opsF_step rfl (YieldsK.move (show _ = (v4 : Value) from T3) ?_)    -- ref.go:24 t27 := (Op.move (Operand.tmp 3))
      refine opsF_step rfl (YieldsK.move (show _ = (.int .u64 (((l.length) * (8) : Nat) : Int) : Value) from T4) ?_)    -- ref.go:24 t28 := (Op.move (Operand.tmp 4))
      refine opsF_step rfl (YieldsK.move (show _ = (.int .i64 ((i : Nat) : Int) : Value) from T5) ?_)    -- ref.go:24 t29 := (Op.move (Operand.tmp 5))
      refine opsF_step rfl (YieldsK.bin (xv := .int .i64 ((8 : Nat) : Int)) (yv := .int .i64 ((i : Nat) : Int)) (show _ = (.int .i64 ((8 : Nat) : Int) : Value) from rfl) (show _ = (.int .i64 ((i : Nat) : Int) : Value) from rfl) rfl (i64_mul _ (8) (i) (by omega)) ?_)    -- ref.go:24 t30 := (Op.binOp BinOp.mul 3 (Operand.const (Value.int IntKind.i64 8)) (Operand.tmp 29) 3)
      refine opsF_step rfl (YieldsK.bin (xv := .int .i64 ((56 : Nat) : Int)) (yv := .int .i64 (((8) * (i) : Nat) : Int)) (show _ = (.int .i64 ((56 : Nat) : Int) : Value) from rfl) (show _ = (.int .i64 (((8) * (i) : Nat) : Int) : Value) from rfl) rfl (i64_sub _ (56) ((8) * (i)) (by omega) (by omega)) ?_)    -- ref.go:24 t31 := (Op.binOp BinOp.sub 3 (Operand.const (Value.int IntKind.i64 56)) (Operand.tmp 30) 3)
      refine opsF_step rfl (YieldsK.convI sha5_ty3 sha5_ty43 (show _ = (.int .i64 (((56) - ((8) * (i)) : Nat) : Int) : Value) from rfl) (wrap_u64 ((56) - ((8) * (i))) (by omega)) ?_)    -- ref.go:24 t32 := (Op.convert 3 43 (Operand.tmp 31))
      refine opsF_step rfl (YieldsK.bin (xv := .int .u64 (((l.length) * (8) : Nat) : Int)) (yv := .int .u64 (((56) - ((8) * (i)) : Nat) : Int)) (show _ = (.int .u64 (((l.length) * (8) : Nat) : Int) : Value) from rfl) (show _ = (.int .u64 (((56) - ((8) * (i)) : Nat) : Int) : Value) from rfl) rfl (u64_shr _ ((l.length) * (8)) _ ((56) - ((8) * (i))) (by omega)) ?_)    -- ref.go:24 t33 := (Op.binOp BinOp.shr 38 (Operand.tmp 28) (Operand.tmp 32) 43)
      refine opsF_step rfl (YieldsK.convI sha5_ty38 sha5_ty5 (show _ = (.int .u64 ((((l.length) * (8)) / 2 ^ ((56) - ((8) * (i))) : Nat) : Int) : Value) from rfl) (toByte (((l.length) * (8)) / 2 ^ ((56) - ((8) * (i))))) ?_)    -- ref.go:24 t34 := (Op.convert 38 5 (Operand.tmp 33))
      refine opsF_step rfl (YieldsK.lit1 (b := UInt8.ofNat (((l.length) * (8)) / 2 ^ ((56) - ((8) * (i))))) sha5_l1_22 (show _ = (B8 (UInt8.ofNat (((l.length) * (8)) / 2 ^ ((56) - ((8) * (i))))) : Value) from rfl) fun v55 w56 hN57 => ?_)    -- ref.go:24 t35 := (Op.buildSlice 22 1 #[(0, (Operand.tmp 34))])
      have hA58 := Ext.refl w50
      have hea59 := hE
      have hz60 : w.heap.size ≤ w50.heap.size := hE.size
      have hE : Ext w w56 := (hE.trans hN57.ext)
      have ho4 : w56.ownsRow w.heap.size 5 1 v4 (Z ++ (Sha.be64 (8 * l.length)).take i : List UInt8).length (Lib.byteCells (Z ++ (Sha.be64 (8 * l.length)).take i)) := (Stab.own _ _ _ _ _ _ _ _ ho4 hN57.ext)
      have hA58 : Ext w50 w56 := (hA58.trans hN57.ext)
      have ho61 := hN57.own; clear hN57
      refine opsF_step rfl (YieldsK.appendRB _ _ w.heap.size (.int .u8 0) sha5_ty22 sha5_inf5 rfl sha5_ty22 (Z ++ (Sha.be64 (8 * l.length)).take i) ([(UInt8.ofNat (((l.length) * (8)) / 2 ^ ((56) - ((8) * (i)))) : UInt8)]) (own_of ho4 (show _ = (v4 : Value) from rfl)) (RB.of (RB.ofOwn ho61) (show _ = (v55 : Value) from rfl)) (by simp [Sha.be64]; omega) hE.size fun v62 w63 ho64 hg65 => ?_)    -- ref.go:24 t36 := (Op.call { callee := (Callee.builtin Builtin.append), args := #[(Operand.tmp 27), (Operand.tmp 35)], argTypes 
      have hg65 : Grew w56 w63 v4 v62 := hg65
      have hE : Ext w w63 := ext_grew hE hg65 ho4 (Nat.le_refl _)
      clear ho4
      clear hA58
      clear ho61
      refine opsF_step rfl (YieldsK.assign (show _ = (v62 : Value) from rfl) ?_)    -- ref.go:24 t3 := (Op.assign (Operand.tmp 36))
      refine opsF_end (fun ρ => ρ 0 = (v : Value) ∧ ρ 2 = ((Value.slice none 0 0) : Value) ∧ ρ 3 = (v62 : Value) ∧ ρ 4 = (.int .u64 (((l.length) * (8) : Nat) : Int) : Value) ∧ ρ 5 = (.int .i64 ((i : Nat) : Int) : Value) ∧ True) ⟨T0, T2, rfl, T4, T5, trivial⟩ fun ρ66 ⟨T0, T2, T3, T4, T5, _⟩ => ?_
      refine inBlockF_normal ?_
      refine thenF_normal (hK54 _ _ ?_)
      refine wpF_text ?_
      refine opsF_step rfl (YieldsK.move (show _ = (.int .i64 ((i : Nat) : Int) : Value) from T5) ?_)    -- ref.go:23 t25 := (Op.move (Operand.tmp 5))
      refine opsF_step rfl (YieldsK.bin (xv := .int .i64 ((i : Nat) : Int)) (yv := .int .i64 ((1 : Nat) : Int)) (show _ = (.int .i64 ((i : Nat) : Int) : Value) from rfl) (show _ = (.int .i64 ((1 : Nat) : Int) : Value) from rfl) rfl (i64_add _ (i) (1) (by omega)) ?_)    -- ref.go:23 t26 := (Op.binOp BinOp.add 3 (Operand.tmp 25) (Operand.const (Value.int IntKind.i64 1)) 3)
      refine opsF_step rfl (YieldsK.assign (show _ = (.int .i64 (((i) + (1) : Nat) : Int) : Value) from rfl) ?_)    -- ref.go:23 t5 := (Op.assign (Operand.tmp 26))
      refine opsF_end (fun ρ => ρ 0 = (v : Value) ∧ ρ 2 = ((Value.slice none 0 0) : Value) ∧ ρ 3 = (v62 : Value) ∧ ρ 4 = (.int .u64 (((l.length) * (8) : Nat) : Int) : Value) ∧ ρ 5 = (.int .i64 (((i) + (1) : Nat) : Int) : Value) ∧ True) ⟨T0, T2, T3, T4, rfl, trivial⟩ fun ρ67 ⟨T0, T2, T3, T4, T5, _⟩ => ?_
      refine thenF_normal (And.intro ⟨i + 1, v62, T0, T2, T4, T5, T3, hE, own_eq ho64 (by rw [Sha.be64_take _ _ hc1, List.append_assoc, Nat.mul_comm l.length 8]), by omega, trivial⟩ ?_)
      show 8 - (intOf (ρ67 5)).toNat < 8 - (intOf (ρ49 5)).toNat
      rw [T5, q5]
      simp only [intOf, Int.toNat_natCast]; omega
    · refine wpF_exit (thenF_exit (thenF_exit (inBlockF_hit ?_)))
      refine thenF_normal (hK46 _ _ ?_)
      refine wpF_seq_k fun K68 hK68 => ?_
      refine wpF_text ?_
      refine opsF_step rfl (YieldsK.move (show _ = (v4 : Value) from T3) ?_)    -- ref.go:26 t37 := (Op.move (Operand.tmp 3))
      refine opsF_step rfl (YieldsK.assign (show _ = (v4 : Value) from rfl) ?_)    -- ref.go:26 t2 := (Op.assign (Operand.tmp 37))
      refine opsF_end (fun ρ => ρ 0 = (v : Value) ∧ ρ 2 = (v4 : Value) ∧ ρ 3 = (v4 : Value) ∧ ρ 4 = (.int .u64 (((l.length) * (8) : Nat) : Int) : Value) ∧ ρ 5 = (.int .i64 ((i : Nat) : Int) : Value) ∧ True) ⟨T0, rfl, T3, T4, T5, trivial⟩ fun ρ69 ⟨T0, T2, T3, T4, T5, _⟩ => ?_
      refine thenF_normal (hK68 _ _ ?_)
      refine wpF_ret ?_
      refine postF_ret (fn := Tryd.f16) _ rfl [v4] (v4) rfl ⟨T2, trivial⟩ ?_
      exact ⟨_, rfl, own_eq ho4 (by simp at hc0; rw [hZ, show i = 8 by omega, show k = (119 - l.length % 64) % 64 by omega, List.take_of_length_le (by simp [Sha.be64])]; simp [Sha.tail]), Ext.grown hE⟩
end Go.Proofs.YtcindgknimallaaDoor
