/- sha.Hash: Sum; what a nil Hash does. -/
import Derived.Test.YtcindgknimallaaDoorSha5
import Derived.Test.YtcindgknimallaaDoorSha6
namespace Go.Proofs.YtcindgknimallaaDoor
open Go.RowKit
theorem hashL_one (s : List UInt32) (r : List UInt8) (f n : Nat) : ∀ v ∈ (hashL s r f n).toArray.toList, v.oneCell' = true := by
  intro v hv
  simp [hashL, Lib.byteCells] at hv
  rcases hv with ⟨_, _, rfl⟩ | ⟨_, _, rfl⟩ | rfl | rfl <;> rfl
namespace Sha
/-- What has been laid behind i words. -/
def outs (s : List UInt32) (i : Nat) : List UInt8 := (out s).take (4 * i) ++ List.replicate (32 - 4 * i) 0
theorem out_length : ∀ s : List UInt32, (out s).length = 4 * s.length
  | [] => rfl
  | x :: s => by
    have := out_length s
    unfold out at *
    rw [List.flatMap_cons, List.length_append, this]
    simp
    omega
theorem outs_length (s : List UInt32) (hs : s.length = 8) (i : Nat) (hi : i ≤ 8) : (outs s i).length = 32 := by
  unfold outs
  rw [List.length_append, List.length_take, List.length_replicate, out_length, hs]
  omega
theorem outs_all (s : List UInt32) (hs : s.length = 8) : outs s 8 = out s := by
  unfold outs
  rw [List.take_of_length_le (by rw [out_length, hs]; exact Nat.le_refl _)]
  simp
theorem outs_step (s : List UInt32) (hs : s.length = 8) (i : Nat) (hi : i < 8) :
    ((((outs s i).set (4 * i) (s.getD i 0 >>> 24).toUInt8).set (4 * i + 1) (s.getD i 0 >>> 16).toUInt8).set (4 * i + 2) (s.getD i 0 >>> 8).toUInt8).set (4 * i + 3) (s.getD i 0).toUInt8 = outs s (i + 1) := by
  match s, hs with
  | [a, b, c, d, e, f, g, h], _ =>
    have : i = 0 ∨ i = 1 ∨ i = 2 ∨ i = 3 ∨ i = 4 ∨ i = 5 ∨ i = 6 ∨ i = 7 := by omega
    rcases this with rfl | rfl | rfl | rfl | rfl | rfl | rfl | rfl <;> rfl
theorem sum_length (p : List UInt8) : (sum p).length = 32 := by
  unfold sum
  rw [out_length, blocks_length _ _ _ rfl]
end Sha
theorem sha7_isz48 : (Tryd.prog.info? 48).map (·.size) = some 74 := by kernel_rfl
theorem sha7_isz24 : (Tryd.prog.info? 24).map (·.size) = some 32 := by kernel_rfl
theorem sha7_al24 {d : Option Tmp} {ty : TypeId} {pos : String} {af : Array Edge} {gd : Option (Nat × Bool)} (σ : Operand → Value) (w : World) : (execOp σ ⟨d, .alloc 24, ty, pos, af, gd⟩).run Tryd.prog w = .ok (.value (.pointer (some ⟨w.heap.size, 0, none⟩))) (w.alloc (.cells (Lib.byteCells (List.replicate 32 0)).toArray 24)) := by kernel_rfl
theorem sha7_ty30 : Tryd.prog.underlying 30 = some (.pointer 48) := by kernel_rfl
theorem sha7_ty48 : ∃ fs, Tryd.prog.underlying 48 = some (.struct fs) := struct_of (by kernel_rfl)
theorem sha7_al48 {d : Option Tmp} {ty : TypeId} {pos : String} {af : Array Edge} {gd : Option (Nat × Bool)} (σ : Operand → Value) (w : World) : (execOp σ ⟨d, .alloc 48, ty, pos, af, gd⟩).run Tryd.prog w = .ok (.value (.pointer (some ⟨w.heap.size, 0, none⟩))) (w.alloc (.cells (hashL (List.replicate 8 0) (List.replicate 64 0) 0 0).toArray 48)) := by kernel_rfl
theorem sha7_l1_22 (z : Int) (w : World) : (Instr.buildSlice 22 1 #[(0, .int .u8 z)]).run Tryd.prog w = .ok (.slice (some ⟨w.heap.size, 0, none⟩) 1 1) (w.alloc (.cells #[.int .u8 z] 5)) := by kernel_rfl
theorem sha7_fo48_3 : FieldOff Tryd.prog 48 3 73 := fun b o w => by simp [go_sem]
theorem sha7_ty3 : Tryd.prog.underlying 3 = some (.int .i64) := by kernel_rfl
theorem sha7_ty22 : Tryd.prog.underlying 22 = some (.slice 5) := by kernel_rfl
theorem sha7_inf5 : (Tryd.prog.info? 5).map (fun i => (i.zero, i.size, i.bytes)) = some (some (.int .u8 0), 1, 1) := by kernel_rfl
theorem sha7_ty38 : Tryd.prog.underlying 38 = some (.int .u64) := by kernel_rfl
theorem sha7_ty5 : Tryd.prog.underlying 5 = some (.int .u8) := by kernel_rfl
theorem sha7_pl13 : Plain Tryd.prog 13 := fun _ _ => by kernel_rfl
theorem sha7_fo48_0 : FieldOff Tryd.prog 48 0 0 := fun b o w => by simp [go_sem]
theorem sha7_ty41 : Tryd.prog.underlying 41 = some (.array 8 40) := by kernel_rfl
theorem sha7_isz41 : (Tryd.prog.info? 41).map (·.size) = some 8 := by kernel_rfl
theorem sha7_ty40 : Tryd.prog.underlying 40 = some (.int .u32) := by kernel_rfl
theorem sha7_sz40 : ∀ w' : World, (sizeOf 40).run Tryd.prog w' = .ok 1 w' := fun _ => by kernel_rfl
theorem sha7_ty24 : Tryd.prog.underlying 24 = some (.array 32 5) := by kernel_rfl
theorem sha7_sz5 : ∀ w' : World, (sizeOf 5).run Tryd.prog w' = .ok 1 w' := fun _ => by kernel_rfl
theorem sha7_isz5 : (Tryd.prog.info? 5).map (·.size) = some 1 := by kernel_rfl
theorem sha7_pl12 : Plain Tryd.prog 12 := fun _ _ => by kernel_rfl
theorem sha7_pl14 : Plain Tryd.prog 14 := fun _ _ => by kernel_rfl
theorem sumAt_any (w : World) (hG : Laid w) (g : Nat) (p : List UInt8) (hH : HashAt w g p) (hp : p.length < 1152921504606846976) :
    Calls Tryd.prog 14 #[.pointer (some ⟨g, 0, none⟩)] w fun e w' => e = .returned (.agg (Lib.byteCells (Sha.sum p)).toArray) ∧ Ext w w' := by
  obtain ⟨s, r, hat, hb0⟩ := hH
  have hs := hat.slen
  have hr := hat.len
  obtain ⟨f, hf⟩ : ∃ f, f = p.length % 64 := ⟨_, rfl⟩
  obtain ⟨N, hN⟩ : ∃ N, p.length = N := ⟨_, rfl⟩
  rw [← hf, hN] at hb0
  have hw2 : 1 < w.heap.size := hG.two
  refine calls_of_wpF (args := [.pointer (some ⟨g, 0, none⟩)]) Tryd.func14 rfl 85 rfl (Nat.le_of_ble_eq_true rfl) ?_
  intro ρ0 hb
  have T0 : ρ0 0 = (.pointer (some ⟨g, 0, none⟩) : Value) := hb.get 0
  clear hb
  have hE := Ext.refl w
  refine wpF_seq_k fun K1 hK1 => ?_
  refine wpF_text ?_
  refine opsF_step rfl (YieldsK.alloc (cs := (Lib.byteCells (List.replicate 32 0)).toArray) sha7_al24 fun n2 w3 hn4 hb5 hx6 hs7 => ?_)    -- sha.go:88 t2 := (Op.alloc 24)
  have hlt8 : g < n2 := by have := (Array.getElem?_eq_some_iff.1 hb0).1; omega
  have hb0 : w3.heap[g]? = some (.cells (hashL s r f N).toArray 48 (0, 0)) := (Ext.blk' hx6 hb0)
  have hE : Ext w w3 := (hE.trans hx6)
  have hb9 := hb5; clear hb5
  have hl10 : n2 < w3.heap.size := by omega
  refine opsF_end (fun ρ => ρ 0 = (.pointer (some ⟨g, 0, none⟩) : Value) ∧ ρ 2 = (.pointer (some ⟨n2, 0, none⟩) : Value) ∧ True) ⟨T0, rfl, trivial⟩ fun ρ11 ⟨T0, T2, _⟩ => ?_
  refine thenF_normal (hK1 _ _ ?_)
  refine wpF_seq_k fun K12 hK12 => ?_
  refine wpF_seq_k fun K13 hK13 => ?_
  refine wpF_text ?_
  refine opsF_step rfl (YieldsK.move (show _ = (.pointer (some ⟨g, 0, none⟩) : Value) from T0) ?_)    -- sha.go:89 t10 := (Op.move (Operand.tmp 0))
  refine opsF_step rfl (YieldsK.eqlNil sha7_ty30 (show _ = (.pointer (some ⟨g, 0, none⟩) : Value) from rfl) ?_)    -- sha.go:89 t11 := (Op.binOp BinOp.eql 30 (Operand.tmp 10) (Operand.const (Value.pointer none)) 30)
  refine opsF_end (fun ρ => ρ 0 = (.pointer (some ⟨g, 0, none⟩) : Value) ∧ ρ 2 = (.pointer (some ⟨n2, 0, none⟩) : Value) ∧ ρ 11 = (.bool (false) : Value) ∧ True) ⟨T0, T2, rfl, trivial⟩ fun ρ14 ⟨T0, T2, T11, _⟩ => ?_
  refine thenF_normal (hK13 _ _ ?_)
  refine wpF_false (show _ = (.bool (false) : Value) from T11) ?_
  refine wpF_skip ?_
  refine thenF_normal (hK12 _ _ ?_)
  refine wpF_seq_k fun K15 hK15 => ?_
  refine wpF_text ?_
  refine opsF_step rfl (YieldsK.move (show _ = (.pointer (some ⟨g, 0, none⟩) : Value) from T0) ?_)    -- sha.go:92 t14 := (Op.move (Operand.tmp 0))
  refine opsF_step rfl (YieldsK.nilCheck (show _ = (.pointer (some ⟨g, 0, none⟩) : Value) from rfl) ?_)    -- sha.go:92 t15 := (Op.nilCheck (Operand.tmp 14))
  refine opsF_step rfl (YieldsK.loadAll (show _ = (.pointer (some ⟨g, 0, none⟩) : Value) from rfl) hb0 (sha7_ty48).choose_spec rfl (by rw [List.size_toArray, hashL_length hs hr]; exact sha7_isz48) ?_)    -- sha.go:92 t16 := (Op.load 48 (Operand.tmp 15))
  refine opsF_step rfl (YieldsK.alloc (cs := (hashL (List.replicate 8 0) (List.replicate 64 0) 0 0).toArray) sha7_al48 fun n16 w17 hn18 hb19 hx20 hs21 => ?_)    -- sha.go:92 t3 := (Op.alloc 48)
  have hA22 := Ext.refl w3
  have hea23 := hE
  have hz24 : w.heap.size ≤ w3.heap.size := hE.size
  have hlt25 : g < n16 := by have := (Array.getElem?_eq_some_iff.1 hb0).1; omega
  have hlt26 : n2 < n16 := by have := (Array.getElem?_eq_some_iff.1 hb9).1; omega
  have hb0 : w17.heap[g]? = some (.cells (hashL s r f N).toArray 48 (0, 0)) := (Ext.blk' hx20 hb0)
  have hE : Ext w w17 := (hE.trans hx20)
  have hb9 : w17.heap[n2]? = some (.cells (Lib.byteCells (List.replicate 32 0)).toArray 24 (0, 0)) := (Ext.blk' hx20 hb9)
  have hA22 : Ext w3 w17 := (hA22.trans hx20)
  have hb27 := hb19; clear hb19
  have hl28 : n16 < w17.heap.size := by omega
  refine opsF_step rfl (YieldsK.storeAll (show _ = (.pointer (some ⟨n16, 0, none⟩) : Value) from rfl) (show _ = (.agg (hashL s r f N).toArray : Value) from rfl) hb27 (by rw [List.size_toArray, List.size_toArray, hashL_length hs hr]; rfl) (by rw [List.size_toArray, hashL_length hs hr]; exact sha7_isz48) (hashL_one s r f N) fun w29 hb30 hg31 hs32 => ?_)    -- sha.go:92 tNone := (Op.store 48 (Operand.tmp 3) (Operand.tmp 16))
  have hb0 : w29.heap[g]? = some (.cells (hashL s r f N).toArray 48 (0, 0)) := (hg31.block _ (Array.getElem?_eq_some_iff.1 hb0).1 (by simp; omega)).trans hb0
  have hE : Ext w w29 := row_fresh hE hg31 (Nat.le_trans hz24 (by omega))
  have hb9 : w29.heap[n2]? = some (.cells (Lib.byteCells (List.replicate 32 0)).toArray 24 (0, 0)) := (hg31.block _ (Array.getElem?_eq_some_iff.1 hb9).1 (by simp; omega)).trans hb9
  have hA22 : Ext w3 w29 := row_fresh hA22 hg31 (Nat.le_trans (Nat.le_refl _) (by omega))
  clear hb27
  have hb27 := hb30; clear hb30
  have hl33 : n16 < w29.heap.size := (Array.getElem?_eq_some_iff.1 hb27).1
  refine opsF_end (fun ρ => ρ 0 = (.pointer (some ⟨g, 0, none⟩) : Value) ∧ ρ 2 = (.pointer (some ⟨n2, 0, none⟩) : Value) ∧ ρ 3 = (.pointer (some ⟨n16, 0, none⟩) : Value) ∧ ρ 11 = (.bool (false) : Value) ∧ True) ⟨T0, T2, rfl, T11, trivial⟩ fun ρ34 ⟨T0, T2, T3, T11, _⟩ => ?_
  refine thenF_normal (hK15 _ _ ?_)
  refine wpF_seq_k fun K35 hK35 => ?_
  refine wpF_text ?_
  refine opsF_step rfl (YieldsK.lit1 (b := 128) sha7_l1_22 (show _ = (B8 (128) : Value) from rfl) fun v36 w37 hN38 => ?_)    -- sha.go:93 t17 := (Op.buildSlice 22 1 #[(0, (Operand.const (Value.int IntKind.u8 128)))])
  have hA39 := Ext.refl w29
  have hea40 := hE
  have hea41 := hA22
  have hz42 : w.heap.size ≤ w29.heap.size := hE.size
  have hz43 : w3.heap.size ≤ w29.heap.size := hA22.size
  have hap44 : Value.ownBlock v36 ≠ some g := own_older hN38.own (Array.getElem?_eq_some_iff.1 hb0).1
  have hap45 : Value.ownBlock v36 ≠ some n2 := own_older hN38.own (Array.getElem?_eq_some_iff.1 hb9).1
  have hap46 : Value.ownBlock v36 ≠ some n16 := own_older hN38.own (Array.getElem?_eq_some_iff.1 hb27).1
  have hb0 : w37.heap[g]? = some (.cells (hashL s r f N).toArray 48 (0, 0)) := (Ext.blk' hN38.ext hb0)
  have hE : Ext w w37 := (hE.trans hN38.ext)
  have hb9 : w37.heap[n2]? = some (.cells (Lib.byteCells (List.replicate 32 0)).toArray 24 (0, 0)) := (Ext.blk' hN38.ext hb9)
  have hA22 : Ext w3 w37 := (hA22.trans hN38.ext)
  have hb27 : w37.heap[n16]? = some (.cells (hashL s r f N).toArray 48 (0, 0)) := (Ext.blk' hN38.ext hb27)
  have hA39 : Ext w29 w37 := (hA39.trans hN38.ext)
  have ho47 := hN38.own; clear hN38
  refine opsF_step rfl (YieldsK.assign (show _ = (v36 : Value) from rfl) ?_)    -- sha.go:93 t4 := (Op.assign (Operand.tmp 17))
  refine opsF_end (fun ρ => ρ 0 = (.pointer (some ⟨g, 0, none⟩) : Value) ∧ ρ 2 = (.pointer (some ⟨n2, 0, none⟩) : Value) ∧ ρ 3 = (.pointer (some ⟨n16, 0, none⟩) : Value) ∧ ρ 4 = (v36 : Value) ∧ ρ 11 = (.bool (false) : Value) ∧ True) ⟨T0, T2, T3, rfl, T11, trivial⟩ fun ρ48 ⟨T0, T2, T3, T4, T11, _⟩ => ?_
  refine thenF_normal (hK35 _ _ ?_)
  refine wpF_seq_k fun K49 hK49 => ?_
  refine wpF_block ?_
  refine wpF_loop (fun (ρ : Slots) (wz : World) => ∃ k : Nat, ∃ v4 : Value, ρ 0 = (.pointer (some ⟨g, 0, none⟩) : Value) ∧ ρ 2 = (.pointer (some ⟨n2, 0, none⟩) : Value) ∧ ρ 3 = (.pointer (some ⟨n16, 0, none⟩) : Value) ∧ ρ 11 = (.bool (false) : Value) ∧ ρ 4 = (v4 : Value) ∧ wz.heap[g]? = some (.cells (hashL s r f N).toArray 48 (0, 0)) ∧ Ext w wz ∧ wz.heap[n2]? = some (.cells (Lib.byteCells (List.replicate 32 0)).toArray 24 (0, 0)) ∧ Ext w3 wz ∧ wz.heap[n16]? = some (.cells (hashL s r f N).toArray 48 (0, 0)) ∧ Ext w29 wz ∧ wz.ownsRow w29.heap.size 5 1 v4 (128 :: List.replicate k 0 : List UInt8).length (Lib.byteCells (128 :: List.replicate k 0)) ∧ (k ≤ (119 - N % 64) % 64) ∧ (Value.ownBlock v4 ≠ some g) ∧ (Value.ownBlock v4 ≠ some n2) ∧ (Value.ownBlock v4 ≠ some n16) ∧ True) (fun ρ _ => 65 - sliceLen (ρ 4)) ⟨0, v36, T0, T2, T3, T11, T4, hb0, hE, hb9, hA22, hb27, hA39, own_eq ho47 (rfl), Nat.zero_le _, hap44, hap45, hap46, trivial⟩ ?_
  clear ho47
  clear hb0 hE hb9 hA22 hb27 hA39
  rintro ρ50 w51 ⟨k, v4, T0, T2, T3, T11, T4, hb0, hE, hb9, hA22, hb27, hA39, ho_v4, hk, hap_v4_g, hap_v4_n2, hap_v4_n16, -⟩
  have q4 := T4
  have ql4 := own_sliceLen ho_v4
  refine wpF_seq_k fun K52 hK52 => ?_
  refine wpF_seq_k fun K53 hK53 => ?_
  refine wpF_text ?_
  refine opsF_step rfl (YieldsK.move (show _ = (.pointer (some ⟨g, 0, none⟩) : Value) from T0) ?_)    -- sha.go:94 t18 := (Op.move (Operand.tmp 0))
  refine opsF_step rfl (YieldsK.nilCheck (show _ = (.pointer (some ⟨g, 0, none⟩) : Value) from rfl) ?_)    -- sha.go:94 t19 := (Op.nilCheck (Operand.tmp 18))
  refine opsF_step rfl (YieldsK.fieldAt sha7_fo48_3 (show _ = (.pointer (some ⟨g, 0, none⟩) : Value) from rfl) ?_)    -- sha.go:94 t20 := (Op.fieldAddr 48 (Operand.tmp 19) 3)
  refine opsF_step rfl (YieldsK.cell1 sha7_ty3 rfl (show _ = (.pointer (some ⟨g, 73, none⟩) : Value) from rfl) (cellAt hb0 (hashL_size hs hr)) ?_)    -- sha.go:94 t21 := (Op.load 3 (Operand.tmp 20))
  refine opsF_step rfl (YieldsK.move (show _ = (v4 : Value) from T4) ?_)    -- sha.go:94 t22 := (Op.move (Operand.tmp 4))
  refine opsF_step rfl (YieldsK.lenRB sha7_ty22 (RB.of (RB.ofOwn ho_v4) (show _ = (v4 : Value) from rfl)) ?_)    -- sha.go:94 t23 := (Op.call { callee := (Callee.builtin Builtin.len), args := #[(Operand.tmp 22)], argTypes := #[22] })
  refine opsF_step rfl (YieldsK.bin (xv := .int .i64 ((N : Nat) : Int)) (yv := .int .i64 (((128 :: List.replicate k 0 : List UInt8).length : Nat) : Int)) (show _ = (.int .i64 ((N : Nat) : Int) : Value) from rfl) (show _ = (.int .i64 (((128 :: List.replicate k 0 : List UInt8).length : Nat) : Int) : Value) from rfl) rfl (i64_add _ (N) ((128 :: List.replicate k 0 : List UInt8).length) (by simp; omega)) ?_)    -- sha.go:94 t24 := (Op.binOp BinOp.add 3 (Operand.tmp 21) (Operand.tmp 23) 3)
  refine opsF_step rfl (YieldsK.bin (xv := .int .i64 (((N) + ((128 :: List.replicate k 0 : List UInt8).length) : Nat) : Int)) (yv := .int .i64 ((64 : Nat) : Int)) (show _ = (.int .i64 (((N) + ((128 :: List.replicate k 0 : List UInt8).length) : Nat) : Int) : Value) from rfl) (show _ = (.int .i64 ((64 : Nat) : Int) : Value) from rfl) rfl (i64_rem _ ((N) + ((128 :: List.replicate k 0 : List UInt8).length)) (64) (by omega)) ?_)    -- sha.go:94 t25 := (Op.binOp BinOp.rem 3 (Operand.tmp 24) (Operand.const (Value.int IntKind.i64 64)) 3)
  refine opsF_step rfl (YieldsK.eqI (a := ((((N) + ((128 :: List.replicate k 0 : List UInt8).length)) % (64) : Nat) : Int)) (b := ((56 : Nat) : Int)) (show _ = (.int .i64 ((((N) + ((128 :: List.replicate k 0 : List UInt8).length)) % (64) : Nat) : Int) : Value) from rfl) (show _ = (.int .i64 ((56 : Nat) : Int) : Value) from rfl) (k_neq _ .i64 (((N) + ((128 :: List.replicate k 0 : List UInt8).length)) % (64)) (56)) ?_)    -- sha.go:94 t26 := (Op.binOp BinOp.neq 3 (Operand.tmp 25) (Operand.const (Value.int IntKind.i64 56)) 3)
  refine opsF_end (fun ρ => ρ 0 = (.pointer (some ⟨g, 0, none⟩) : Value) ∧ ρ 2 = (.pointer (some ⟨n2, 0, none⟩) : Value) ∧ ρ 3 = (.pointer (some ⟨n16, 0, none⟩) : Value) ∧ ρ 4 = (v4 : Value) ∧ ρ 11 = (.bool (false) : Value) ∧ ρ 26 = (.bool (decide ((((N) + ((128 :: List.replicate k 0 : List UInt8).length)) % (64) : Nat) ≠ (56))) : Value) ∧ True) ⟨T0, T2, T3, T4, T11, rfl, trivial⟩ fun ρ54 ⟨T0, T2, T3, T4, T11, T26, _⟩ => ?_
  refine thenF_normal (hK53 _ _ ?_)
  refine wpF_cond ((((N) + ((128 :: List.replicate k 0 : List UInt8).length)) % (64) : Nat) ≠ (56)) (show _ = (.bool (decide ((((N) + ((128 :: List.replicate k 0 : List UInt8).length)) % (64) : Nat) ≠ (56))) : Value) from T26) (fun hc1 => ?_) (fun hc1 => ?_)
  · refine wpF_skip ?_
    refine thenF_normal (hK52 _ _ ?_)
    refine wpF_block ?_
    refine wpF_text ?_
    refine opsF_step rfl (YieldsK.move (show _ = (v4 : Value) from T4) ?_)    -- sha.go:95 t27 := (Op.move (Operand.tmp 4))
    refine opsF_step rfl (YieldsK.lit1 (b := 0) sha7_l1_22 (show _ = (B8 (0) : Value) from rfl) fun v55 w56 hN57 => ?_)    -- sha.go:95 t28 := (Op.buildSlice 22 1 #[(0, (Operand.const (Value.int IntKind.u8 0)))])
    have hA58 := Ext.refl w51
    have hea59 := hE
    have hea60 := hA22
    have hea61 := hA39
    have hz62 : w.heap.size ≤ w51.heap.size := hE.size
    have hz63 : w3.heap.size ≤ w51.heap.size := hA22.size
    have hz64 : w29.heap.size ≤ w51.heap.size := hA39.size
    have hap65 : Value.ownBlock v55 ≠ some g := own_older hN57.own (Array.getElem?_eq_some_iff.1 hb0).1
    have hap66 : Value.ownBlock v55 ≠ some n2 := own_older hN57.own (Array.getElem?_eq_some_iff.1 hb9).1
    have hap67 : Value.ownBlock v55 ≠ some n16 := own_older hN57.own (Array.getElem?_eq_some_iff.1 hb27).1
    have hb0 : w56.heap[g]? = some (.cells (hashL s r f N).toArray 48 (0, 0)) := (Ext.blk' hN57.ext hb0)
    have hE : Ext w w56 := (hE.trans hN57.ext)
    have hb9 : w56.heap[n2]? = some (.cells (Lib.byteCells (List.replicate 32 0)).toArray 24 (0, 0)) := (Ext.blk' hN57.ext hb9)
    have hA22 : Ext w3 w56 := (hA22.trans hN57.ext)
    have hb27 : w56.heap[n16]? = some (.cells (hashL s r f N).toArray 48 (0, 0)) := (Ext.blk' hN57.ext hb27)
    have hA39 : Ext w29 w56 := (hA39.trans hN57.ext)
    have ho_v4 : w56.ownsRow w29.heap.size 5 1 v4 (128 :: List.replicate k 0 : List UInt8).length (Lib.byteCells (128 :: List.replicate k 0)) := (Stab.own _ _ _ _ _ _ _ _ ho_v4 hN57.ext)
    have hA58 : Ext w51 w56 := (hA58.trans hN57.ext)
    have ho68 := hN57.own; clear hN57
    refine opsF_step rfl (YieldsK.appendRB _ _ w29.heap.size (.int .u8 0) sha7_ty22 sha7_inf5 rfl sha7_ty22 (128 :: List.replicate k 0) ([(0 : UInt8)]) (own_of ho_v4 (show _ = (v4 : Value) from rfl)) (RB.of (RB.ofOwn ho68) (show _ = (v55 : Value) from rfl)) (by simp; omega) hA39.size fun v69 w70 ho71 hg72 => ?_)    -- sha.go:95 t29 := (Op.call { callee := (Callee.builtin Builtin.append), args := #[(Operand.tmp 27), (Operand.tmp 28)], argTypes 
    have hg72 : Grew w56 w70 v4 v69 := hg72
    have hap73 : Value.ownBlock v69 ≠ some g := apart_grew hg72 hap_v4_g (Array.getElem?_eq_some_iff.1 hb0).1
    have hap74 : Value.ownBlock v69 ≠ some n2 := apart_grew hg72 hap_v4_n2 (Array.getElem?_eq_some_iff.1 hb9).1
    have hap75 : Value.ownBlock v69 ≠ some n16 := apart_grew hg72 hap_v4_n16 (Array.getElem?_eq_some_iff.1 hb27).1
    have hb0 : w70.heap[g]? = some (.cells (hashL s r f N).toArray 48 (0, 0)) := blk_grew hb0 hg72 hap_v4_g
    have hE : Ext w w70 := ext_grew hE hg72 ho_v4 hz42
    have hb9 : w70.heap[n2]? = some (.cells (Lib.byteCells (List.replicate 32 0)).toArray 24 (0, 0)) := blk_grew hb9 hg72 hap_v4_n2
    have hA22 : Ext w3 w70 := ext_grew hA22 hg72 ho_v4 hz43
    have hb27 : w70.heap[n16]? = some (.cells (hashL s r f N).toArray 48 (0, 0)) := blk_grew hb27 hg72 hap_v4_n16
    have hA39 : Ext w29 w70 := ext_grew hA39 hg72 ho_v4 (Nat.le_refl _)
    clear ho_v4
    clear hA58
    clear ho68
    refine opsF_step rfl (YieldsK.assign (show _ = (v69 : Value) from rfl) ?_)    -- sha.go:95 t4 := (Op.assign (Operand.tmp 29))
    refine opsF_end (fun ρ => ρ 0 = (.pointer (some ⟨g, 0, none⟩) : Value) ∧ ρ 2 = (.pointer (some ⟨n2, 0, none⟩) : Value) ∧ ρ 3 = (.pointer (some ⟨n16, 0, none⟩) : Value) ∧ ρ 4 = (v69 : Value) ∧ ρ 11 = (.bool (false) : Value) ∧ True) ⟨T0, T2, T3, rfl, T11, trivial⟩ fun ρ76 ⟨T0, T2, T3, T4, T11, _⟩ => ?_
    refine inBlockF_normal ?_
    refine thenF_normal (And.intro ⟨k + 1, v69, T0, T2, T3, T11, T4, hb0, hE, hb9, hA22, hb27, hA39, own_eq ho71 (by simp [List.replicate_succ']), by simp at hc1; omega, hap73, hap74, hap75, trivial⟩ ?_)
    show 65 - sliceLen (ρ76 4) < 65 - sliceLen (ρ50 4)
    rw [T4, q4]
    have qn := own_sliceLen ho71
    rw [qn, ql4]
    simp
    omega
  · refine wpF_exit (thenF_exit (thenF_exit (inBlockF_hit ?_)))
    refine thenF_normal (hK49 _ _ ?_)
    refine wpF_seq_k fun K77 hK77 => ?_
    refine wpF_text ?_
    refine opsF_step rfl (YieldsK.move (show _ = (.pointer (some ⟨g, 0, none⟩) : Value) from T0) ?_)    -- sha.go:97 t30 := (Op.move (Operand.tmp 0))
    refine opsF_step rfl (YieldsK.nilCheck (show _ = (.pointer (some ⟨g, 0, none⟩) : Value) from rfl) ?_)    -- sha.go:97 t31 := (Op.nilCheck (Operand.tmp 30))
    refine opsF_step rfl (YieldsK.fieldAt sha7_fo48_3 (show _ = (.pointer (some ⟨g, 0, none⟩) : Value) from rfl) ?_)    -- sha.go:97 t32 := (Op.fieldAddr 48 (Operand.tmp 31) 3)
    refine opsF_step rfl (YieldsK.cell1 sha7_ty3 rfl (show _ = (.pointer (some ⟨g, 73, none⟩) : Value) from rfl) (cellAt hb0 (hashL_size hs hr)) ?_)    -- sha.go:97 t33 := (Op.load 3 (Operand.tmp 32))
    refine opsF_step rfl (YieldsK.convI sha7_ty3 sha7_ty38 (show _ = (.int .i64 ((N : Nat) : Int) : Value) from rfl) (wrap_u64 (N) (by omega)) ?_)    -- sha.go:97 t34 := (Op.convert 3 38 (Operand.tmp 33))
    refine opsF_step rfl (YieldsK.bin (xv := .int .u64 ((N : Nat) : Int)) (yv := .int .u64 ((8 : Nat) : Int)) (show _ = (.int .u64 ((N : Nat) : Int) : Value) from rfl) (show _ = (.int .u64 ((8 : Nat) : Int) : Value) from rfl) rfl (u64_mul _ (N) (8) (by omega)) ?_)    -- sha.go:97 t35 := (Op.binOp BinOp.mul 38 (Operand.tmp 34) (Operand.const (Value.int IntKind.u64 8)) 38)
    refine opsF_step rfl (YieldsK.assign (show _ = (.int .u64 (((N) * (8) : Nat) : Int) : Value) from rfl) ?_)    -- sha.go:97 t5 := (Op.assign (Operand.tmp 35))
    refine opsF_end (fun ρ => ρ 0 = (.pointer (some ⟨g, 0, none⟩) : Value) ∧ ρ 2 = (.pointer (some ⟨n2, 0, none⟩) : Value) ∧ ρ 3 = (.pointer (some ⟨n16, 0, none⟩) : Value) ∧ ρ 4 = (v4 : Value) ∧ ρ 5 = (.int .u64 (((N) * (8) : Nat) : Int) : Value) ∧ ρ 11 = (.bool (false) : Value) ∧ True) ⟨T0, T2, T3, T4, rfl, T11, trivial⟩ fun ρ78 ⟨T0, T2, T3, T4, T5, T11, _⟩ => ?_
    obtain ⟨Z, hZ⟩ : ∃ Z, Z = (128 : UInt8) :: List.replicate k 0 := ⟨_, rfl⟩
    have ho_v4 : w51.ownsRow w29.heap.size 5 1 v4 (Z : List UInt8).length (Lib.byteCells (Z)) := (hZ.symm : 128 :: List.replicate k 0 = Z) ▸ ho_v4
    have hZl : Z.length = 1 + k := by rw [hZ]; simp; omega
    refine thenF_normal (hK77 _ _ ?_)
    refine wpF_seq_k fun K79 hK79 => ?_
    refine wpF_seq_k fun K80 hK80 => ?_
    refine wpF_text ?_
    refine opsF_step rfl (YieldsK.move (show _ = (.int .i64 ((0 : Nat) : Int) : Value) from rfl) ?_)    -- sha.go:98 t36 := (Op.move (Operand.const (Value.int IntKind.i64 0)))
    refine opsF_end (fun ρ => ρ 0 = (.pointer (some ⟨g, 0, none⟩) : Value) ∧ ρ 2 = (.pointer (some ⟨n2, 0, none⟩) : Value) ∧ ρ 3 = (.pointer (some ⟨n16, 0, none⟩) : Value) ∧ ρ 4 = (v4 : Value) ∧ ρ 5 = (.int .u64 (((N) * (8) : Nat) : Int) : Value) ∧ ρ 11 = (.bool (false) : Value) ∧ ρ 36 = (.int .i64 ((0 : Nat) : Int) : Value) ∧ True) ⟨T0, T2, T3, T4, T5, T11, rfl, trivial⟩ fun ρ81 ⟨T0, T2, T3, T4, T5, T11, T36, _⟩ => ?_
    refine thenF_normal (hK80 _ _ ?_)
    refine wpF_block ?_
    refine wpF_loop (fun (ρ : Slots) (wz : World) => ∃ i : Nat, ∃ v5 : Value, ρ 0 = (.pointer (some ⟨g, 0, none⟩) : Value) ∧ ρ 2 = (.pointer (some ⟨n2, 0, none⟩) : Value) ∧ ρ 3 = (.pointer (some ⟨n16, 0, none⟩) : Value) ∧ ρ 5 = (.int .u64 (((N) * (8) : Nat) : Int) : Value) ∧ ρ 11 = (.bool (false) : Value) ∧ ρ 36 = (.int .i64 ((i : Nat) : Int) : Value) ∧ ρ 4 = (v5 : Value) ∧ wz.heap[g]? = some (.cells (hashL s r f N).toArray 48 (0, 0)) ∧ Ext w wz ∧ wz.heap[n2]? = some (.cells (Lib.byteCells (List.replicate 32 0)).toArray 24 (0, 0)) ∧ Ext w3 wz ∧ wz.heap[n16]? = some (.cells (hashL s r f N).toArray 48 (0, 0)) ∧ Ext w29 wz ∧ wz.ownsRow w29.heap.size 5 1 v5 (Z ++ (Sha.be64 (8 * N)).take i : List UInt8).length (Lib.byteCells (Z ++ (Sha.be64 (8 * N)).take i)) ∧ (i ≤ 8) ∧ (Value.ownBlock v5 ≠ some g) ∧ (Value.ownBlock v5 ≠ some n2) ∧ (Value.ownBlock v5 ≠ some n16) ∧ True) (fun ρ _ => 8 - (intOf (ρ 36)).toNat) ⟨0, v4, T0, T2, T3, T5, T11, T36, T4, hb0, hE, hb9, hA22, hb27, hA39, own_eq ho_v4 (by simp), by omega, hap_v4_g, hap_v4_n2, hap_v4_n16, trivial⟩ ?_
    clear ho_v4
    clear hb0 hE hb9 hA22 hb27 hA39
    rintro ρ82 w83 ⟨i, v5, T0, T2, T3, T5, T11, T36, T4, hb0, hE, hb9, hA22, hb27, hA39, ho5, hi, hap_v5_g, hap_v5_n2, hap_v5_n16, -⟩
    have q36 := T36
    have ql4 := own_sliceLen ho5
    refine wpF_seq_k fun K84 hK84 => ?_
    refine wpF_text ?_
    refine opsF_step rfl (YieldsK.eqI (a := ((i : Nat) : Int)) (b := ((8 : Nat) : Int)) (show _ = (.int .i64 ((i : Nat) : Int) : Value) from T36) (show _ = (.int .i64 ((8 : Nat) : Int) : Value) from rfl) (k_lss _ .i64 (i) (8)) ?_)    -- sha.go:98 t37 := (Op.binOp BinOp.lss 3 (Operand.tmp 36) (Operand.const (Value.int IntKind.i64 8)) 3)
    refine opsF_end (fun ρ => ρ 0 = (.pointer (some ⟨g, 0, none⟩) : Value) ∧ ρ 2 = (.pointer (some ⟨n2, 0, none⟩) : Value) ∧ ρ 3 = (.pointer (some ⟨n16, 0, none⟩) : Value) ∧ ρ 4 = (v5 : Value) ∧ ρ 5 = (.int .u64 (((N) * (8) : Nat) : Int) : Value) ∧ ρ 11 = (.bool (false) : Value) ∧ ρ 36 = (.int .i64 ((i : Nat) : Int) : Value) ∧ ρ 37 = (.bool (decide ((i) < (8))) : Value) ∧ True) ⟨T0, T2, T3, T4, T5, T11, T36, rfl, trivial⟩ fun ρ85 ⟨T0, T2, T3, T4, T5, T11, T36, T37, _⟩ => ?_
    refine thenF_normal (hK84 _ _ ?_)
    refine wpF_seq_k fun K86 hK86 => ?_
    refine wpF_cond ((i) < (8)) (show _ = (.bool (decide ((i) < (8))) : Value) from T37) (fun hc2 => ?_) (fun hc2 => ?_)
    · refine wpF_skip ?_
      refine thenF_normal (hK86 _ _ ?_)
      refine wpF_seq_k fun K87 hK87 => ?_
      refine wpF_block ?_
      refine wpF_seq_k fun K88 hK88 => ?_
      refine wpF_text ?_
      refine opsF_step rfl (YieldsK.move (show _ = (.int .i64 ((i : Nat) : Int) : Value) from T36) ?_)    -- sha.go:98 t38 := (Op.move (Operand.tmp 36))
      refine opsF_step rfl (YieldsK.assign (show _ = (.int .i64 ((i : Nat) : Int) : Value) from rfl) ?_)    -- sha.go:98 t6 := (Op.assign (Operand.tmp 38))
      refine opsF_end (fun ρ => ρ 0 = (.pointer (some ⟨g, 0, none⟩) : Value) ∧ ρ 2 = (.pointer (some ⟨n2, 0, none⟩) : Value) ∧ ρ 3 = (.pointer (some ⟨n16, 0, none⟩) : Value) ∧ ρ 4 = (v5 : Value) ∧ ρ 5 = (.int .u64 (((N) * (8) : Nat) : Int) : Value) ∧ ρ 6 = (.int .i64 ((i : Nat) : Int) : Value) ∧ ρ 11 = (.bool (false) : Value) ∧ ρ 36 = (.int .i64 ((i : Nat) : Int) : Value) ∧ True) ⟨T0, T2, T3, T4, T5, rfl, T11, T36, trivial⟩ fun ρ89 ⟨T0, T2, T3, T4, T5, T6, T11, T36, _⟩ => ?_
      refine thenF_normal (hK88 _ _ ?_)
      refine wpF_text ?_
      refine opsF_step rfl (YieldsK.move (show _ = (v5 : Value) from T4) ?_)    -- sha.go:99 t39 := (Op.move (Operand.tmp 4))
      refine opsF_step rfl (YieldsK.move (show _ = (.int .u64 (((N) * (8) : Nat) : Int) : Value) from T5) ?_)    -- sha.go:99 t40 := (Op.move (Operand.tmp 5))
      refine opsF_step rfl (YieldsK.move (show _ = (.int .i64 ((i : Nat) : Int) : Value) from T6) ?_)    -- sha.go:99 t41 := (Op.move (Operand.tmp 6))
      refine opsF_step rfl (YieldsK.bin (xv := .int .i64 ((8 : Nat) : Int)) (yv := .int .i64 ((i : Nat) : Int)) (show _ = (.int .i64 ((8 : Nat) : Int) : Value) from rfl) (show _ = (.int .i64 ((i : Nat) : Int) : Value) from rfl) rfl (i64_mul _ (8) (i) (by omega)) ?_)    -- sha.go:99 t42 := (Op.binOp BinOp.mul 3 (Operand.const (Value.int IntKind.i64 8)) (Operand.tmp 41) 3)
      refine opsF_step rfl (YieldsK.bin (xv := .int .i64 ((56 : Nat) : Int)) (yv := .int .i64 (((8) * (i) : Nat) : Int)) (show _ = (.int .i64 ((56 : Nat) : Int) : Value) from rfl) (show _ = (.int .i64 (((8) * (i) : Nat) : Int) : Value) from rfl) rfl (i64_sub _ (56) ((8) * (i)) (by omega) (by omega)) ?_)    -- sha.go:99 t43 := (Op.binOp BinOp.sub 3 (Operand.const (Value.int IntKind.i64 56)) (Operand.tmp 42) 3)
      refine opsF_step rfl (YieldsK.bin (xv := .int .u64 (((N) * (8) : Nat) : Int)) (yv := .int .i64 (((56) - ((8) * (i)) : Nat) : Int)) (show _ = (.int .u64 (((N) * (8) : Nat) : Int) : Value) from rfl) (show _ = (.int .i64 (((56) - ((8) * (i)) : Nat) : Int) : Value) from rfl) rfl (u64_shr _ ((N) * (8)) _ ((56) - ((8) * (i))) (by omega)) ?_)    -- sha.go:99 t44 := (Op.binOp BinOp.shr 38 (Operand.tmp 40) (Operand.tmp 43) 3)
      refine opsF_step rfl (YieldsK.convI sha7_ty38 sha7_ty5 (show _ = (.int .u64 ((((N) * (8)) / 2 ^ ((56) - ((8) * (i))) : Nat) : Int) : Value) from rfl) (toByte (((N) * (8)) / 2 ^ ((56) - ((8) * (i))))) ?_)    -- sha.go:99 t45 := (Op.convert 38 5 (Operand.tmp 44))
      refine opsF_step rfl (YieldsK.lit1 (b := UInt8.ofNat (((N) * (8)) / 2 ^ ((56) - ((8) * (i))))) sha7_l1_22 (show _ = (B8 (UInt8.ofNat (((N) * (8)) / 2 ^ ((56) - ((8) * (i))))) : Value) from rfl) fun v90 w91 hN92 => ?_)    -- sha.go:99 t46 := (Op.buildSlice 22 1 #[(0, (Operand.tmp 45))])
      have hA93 := Ext.refl w83
      have hea94 := hE
      have hea95 := hA22
      have hea96 := hA39
      have hz97 : w.heap.size ≤ w83.heap.size := hE.size
      have hz98 : w3.heap.size ≤ w83.heap.size := hA22.size
      have hz99 : w29.heap.size ≤ w83.heap.size := hA39.size
      have hap100 : Value.ownBlock v90 ≠ some g := own_older hN92.own (Array.getElem?_eq_some_iff.1 hb0).1
      have hap101 : Value.ownBlock v90 ≠ some n2 := own_older hN92.own (Array.getElem?_eq_some_iff.1 hb9).1
      have hap102 : Value.ownBlock v90 ≠ some n16 := own_older hN92.own (Array.getElem?_eq_some_iff.1 hb27).1
      have hb0 : w91.heap[g]? = some (.cells (hashL s r f N).toArray 48 (0, 0)) := (Ext.blk' hN92.ext hb0)
      have hE : Ext w w91 := (hE.trans hN92.ext)
      have hb9 : w91.heap[n2]? = some (.cells (Lib.byteCells (List.replicate 32 0)).toArray 24 (0, 0)) := (Ext.blk' hN92.ext hb9)
      have hA22 : Ext w3 w91 := (hA22.trans hN92.ext)
      have hb27 : w91.heap[n16]? = some (.cells (hashL s r f N).toArray 48 (0, 0)) := (Ext.blk' hN92.ext hb27)
      have hA39 : Ext w29 w91 := (hA39.trans hN92.ext)
      have ho5 : w91.ownsRow w29.heap.size 5 1 v5 (Z ++ (Sha.be64 (8 * N)).take i : List UInt8).length (Lib.byteCells (Z ++ (Sha.be64 (8 * N)).take i)) := (Stab.own _ _ _ _ _ _ _ _ ho5 hN92.ext)
      have hA93 : Ext w83 w91 := (hA93.trans hN92.ext)
      have ho103 := hN92.own; clear hN92
      refine opsF_step rfl (YieldsK.appendRB _ _ w29.heap.size (.int .u8 0) sha7_ty22 sha7_inf5 rfl sha7_ty22 (Z ++ (Sha.be64 (8 * N)).take i) ([(UInt8.ofNat (((N) * (8)) / 2 ^ ((56) - ((8) * (i)))) : UInt8)]) (own_of ho5 (show _ = (v5 : Value) from rfl)) (RB.of (RB.ofOwn ho103) (show _ = (v90 : Value) from rfl)) (by simp [Sha.be64]; omega) hA39.size fun v104 w105 ho106 hg107 => ?_)    -- sha.go:99 t47 := (Op.call { callee := (Callee.builtin Builtin.append), args := #[(Operand.tmp 39), (Operand.tmp 46)], argTypes 
      have hg107 : Grew w91 w105 v5 v104 := hg107
      have hap108 : Value.ownBlock v104 ≠ some g := apart_grew hg107 hap_v5_g (Array.getElem?_eq_some_iff.1 hb0).1
      have hap109 : Value.ownBlock v104 ≠ some n2 := apart_grew hg107 hap_v5_n2 (Array.getElem?_eq_some_iff.1 hb9).1
      have hap110 : Value.ownBlock v104 ≠ some n16 := apart_grew hg107 hap_v5_n16 (Array.getElem?_eq_some_iff.1 hb27).1
      have hb0 : w105.heap[g]? = some (.cells (hashL s r f N).toArray 48 (0, 0)) := blk_grew hb0 hg107 hap_v5_g
      have hE : Ext w w105 := ext_grew hE hg107 ho5 hz42
      have hb9 : w105.heap[n2]? = some (.cells (Lib.byteCells (List.replicate 32 0)).toArray 24 (0, 0)) := blk_grew hb9 hg107 hap_v5_n2
      have hA22 : Ext w3 w105 := ext_grew hA22 hg107 ho5 hz43
      have hb27 : w105.heap[n16]? = some (.cells (hashL s r f N).toArray 48 (0, 0)) := blk_grew hb27 hg107 hap_v5_n16
      have hA39 : Ext w29 w105 := ext_grew hA39 hg107 ho5 (Nat.le_refl _)
      clear ho5
      clear hA93
      clear ho103
      refine opsF_step rfl (YieldsK.assign (show _ = (v104 : Value) from rfl) ?_)    -- sha.go:99 t4 := (Op.assign (Operand.tmp 47))
      refine opsF_end (fun ρ => ρ 0 = (.pointer (some ⟨g, 0, none⟩) : Value) ∧ ρ 2 = (.pointer (some ⟨n2, 0, none⟩) : Value) ∧ ρ 3 = (.pointer (some ⟨n16, 0, none⟩) : Value) ∧ ρ 4 = (v104 : Value) ∧ ρ 5 = (.int .u64 (((N) * (8) : Nat) : Int) : Value) ∧ ρ 6 = (.int .i64 ((i : Nat) : Int) : Value) ∧ ρ 11 = (.bool (false) : Value) ∧ ρ 36 = (.int .i64 ((i : Nat) : Int) : Value) ∧ True) ⟨T0, T2, T3, rfl, T5, T6, T11, T36, trivial⟩ fun ρ111 ⟨T0, T2, T3, T4, T5, T6, T11, T36, _⟩ => ?_
      refine inBlockF_normal ?_
      refine thenF_normal (hK87 _ _ ?_)
      refine wpF_text ?_
      refine opsF_step rfl (YieldsK.bin (xv := .int .i64 ((i : Nat) : Int)) (yv := .int .i64 ((1 : Nat) : Int)) (show _ = (.int .i64 ((i : Nat) : Int) : Value) from T36) (show _ = (.int .i64 ((1 : Nat) : Int) : Value) from rfl) rfl (i64_add _ (i) (1) (by omega)) ?_)    -- sha.go:98 t48 := (Op.binOp BinOp.add 3 (Operand.tmp 36) (Operand.const (Value.int IntKind.i64 1)) 3)
      refine opsF_step rfl (YieldsK.move (show _ = (.int .i64 (((i) + (1) : Nat) : Int) : Value) from rfl) ?_)    -- sha.go:98 t36 := (Op.move (Operand.tmp 48))
      refine opsF_end (fun ρ => ρ 0 = (.pointer (some ⟨g, 0, none⟩) : Value) ∧ ρ 2 = (.pointer (some ⟨n2, 0, none⟩) : Value) ∧ ρ 3 = (.pointer (some ⟨n16, 0, none⟩) : Value) ∧ ρ 4 = (v104 : Value) ∧ ρ 5 = (.int .u64 (((N) * (8) : Nat) : Int) : Value) ∧ ρ 6 = (.int .i64 ((i : Nat) : Int) : Value) ∧ ρ 11 = (.bool (false) : Value) ∧ ρ 36 = (.int .i64 (((i) + (1) : Nat) : Int) : Value) ∧ True) ⟨T0, T2, T3, T4, T5, T6, T11, rfl, trivial⟩ fun ρ112 ⟨T0, T2, T3, T4, T5, T6, T11, T36, _⟩ => ?_
      refine thenF_normal (And.intro ⟨i + 1, v104, T0, T2, T3, T5, T11, T36, T4, hb0, hE, hb9, hA22, hb27, hA39, own_eq ho106 (by rw [Sha.be64_take _ _ hc2, List.append_assoc, Nat.mul_comm N 8]), by omega, hap108, hap109, hap110, trivial⟩ ?_)
      show 8 - (intOf (ρ112 36)).toNat < 8 - (intOf (ρ82 36)).toNat
      rw [T36, q36]
      simp only [intOf, Int.toNat_natCast]; omega
    · obtain ⟨Q, hQ⟩ : ∃ Q, Q = Z ++ (Sha.be64 (8 * N)).take i := ⟨_, rfl⟩
      have ho5 : w83.ownsRow w29.heap.size 5 1 v5 (Q : List UInt8).length (Lib.byteCells (Q)) := (hQ.symm : Z ++ (Sha.be64 (8 * N)).take i = Q) ▸ ho5
      have hQt : Q = Sha.tail p.length := by simp at hc1; rw [hQ, hZ, show i = 8 by omega, show k = (119 - p.length % 64) % 64 by omega, List.take_of_length_le (by simp [Sha.be64]), ← hN]; simp [Sha.tail]
      have hQl : Q.length ≤ 100 := by rw [hQ]; simp [Sha.be64]; omega
      refine wpF_exit (thenF_exit (thenF_exit (inBlockF_hit ?_)))
      refine thenF_normal (hK79 _ _ ?_)
      refine wpF_seq_k fun K113 hK113 => ?_
      refine wpF_text ?_
      refine opsF_step rfl (YieldsK.move (show _ = (v5 : Value) from T4) ?_)    -- sha.go:101 t49 := (Op.move (Operand.tmp 4))
      refine opsF_step rfl (YieldsK.callA2 sha7_pl13 (show _ = (.pointer (some ⟨n16, 0, none⟩) : Value) from T3) (show _ = (v5 : Value) from rfl) ?_)    -- sha.go:101 t50 := (Op.call { callee := (Callee.value (Operand.func 13)), args := #[(Operand.tmp 3), (Operand.tmp 49)], argTypes 
      refine (write_any _ (hG.keep hE) n16 (by omega) p ⟨s, r, hat, by rw [← hf, hN]; exact hb27⟩ v5 Q (RB.ofOwn ho5) hap_v5_n16 (by omega)).mono ?_
      rintro e w115 ⟨rfl, ⟨s2, r2, hat2, hb3⟩, hg114⟩
      refine ⟨_, rfl, ?_⟩
      have hb0 : w115.heap[g]? = some (.cells (hashL s r f N).toArray 48 (0, 0)) := (hg114.block _ (Array.getElem?_eq_some_iff.1 hb0).1 (by simp; omega)).trans hb0
      have hE : Ext w w115 := row_fresh hE hg114 (Nat.le_trans hz24 (by omega))
      have hb9 : w115.heap[n2]? = some (.cells (Lib.byteCells (List.replicate 32 0)).toArray 24 (0, 0)) := (hg114.block _ (Array.getElem?_eq_some_iff.1 hb9).1 (by simp; omega)).trans hb9
      have hA22 : Ext w3 w115 := row_fresh hA22 hg114 (Nat.le_trans (Nat.le_refl _) (by omega))
      clear hb27
      clear hA39
      have ho5 : w115.ownsRow w29.heap.size 5 1 v5 (Q : List UInt8).length (Lib.byteCells (Q)) := own_kept ho5 hg114 hap_v5_n16
      have hs2 := hat2.slen
      have hr2 := hat2.len
      refine opsF_end (fun ρ => ρ 0 = (.pointer (some ⟨g, 0, none⟩) : Value) ∧ ρ 2 = (.pointer (some ⟨n2, 0, none⟩) : Value) ∧ ρ 3 = (.pointer (some ⟨n16, 0, none⟩) : Value) ∧ ρ 4 = (v5 : Value) ∧ ρ 5 = (.int .u64 (((N) * (8) : Nat) : Int) : Value) ∧ ρ 11 = (.bool (false) : Value) ∧ ρ 36 = (.int .i64 ((i : Nat) : Int) : Value) ∧ True) ⟨T0, T2, T3, T4, T5, T11, T36, trivial⟩ fun ρ116 ⟨T0, T2, T3, T4, T5, T11, T36, _⟩ => ?_
      refine thenF_normal (hK113 _ _ ?_)
      refine wpF_seq_k fun K117 hK117 => ?_
      refine wpF_text ?_
      refine opsF_step rfl (YieldsK.alloc (cs := (Lib.byteCells (List.replicate 32 0)).toArray) sha7_al24 fun n118 w119 hn120 hb121 hx122 hs123 => ?_)    -- sha.go:102 t7 := (Op.alloc 24)
      have hA124 := Ext.refl w115
      have hea125 := hE
      have hea126 := hA22
      have hz127 : w.heap.size ≤ w115.heap.size := hE.size
      have hz128 : w3.heap.size ≤ w115.heap.size := hA22.size
      have hlt129 : g < n118 := by have := (Array.getElem?_eq_some_iff.1 hb0).1; omega
      have hlt130 : n2 < n118 := by have := (Array.getElem?_eq_some_iff.1 hb9).1; omega
      have hlt131 : n16 < n118 := by have := (Array.getElem?_eq_some_iff.1 hb3).1; omega
      have hap132 : Value.ownBlock v5 ≠ some n118 := own_newer ho5 (by omega)
      have hb0 : w119.heap[g]? = some (.cells (hashL s r f N).toArray 48 (0, 0)) := (Ext.blk' hx122 hb0)
      have hE : Ext w w119 := (hE.trans hx122)
      have hb9 : w119.heap[n2]? = some (.cells (Lib.byteCells (List.replicate 32 0)).toArray 24 (0, 0)) := (Ext.blk' hx122 hb9)
      have hA22 : Ext w3 w119 := (hA22.trans hx122)
      have ho5 : w119.ownsRow w29.heap.size 5 1 v5 (Q : List UInt8).length (Lib.byteCells (Q)) := (Stab.own _ _ _ _ _ _ _ _ ho5 hx122)
      have hb3 : w119.heap[n16]? = some (.cells (hashL s2 r2 ((p ++ Q).length % 64) (p ++ Q).length).toArray 48 (0, 0)) := (Ext.blk' hx122 hb3)
      have hA124 : Ext w115 w119 := (hA124.trans hx122)
      have hb133 := hb121; clear hb121
      have hl134 : n118 < w119.heap.size := by omega
      refine opsF_end (fun ρ => ρ 0 = (.pointer (some ⟨g, 0, none⟩) : Value) ∧ ρ 2 = (.pointer (some ⟨n2, 0, none⟩) : Value) ∧ ρ 3 = (.pointer (some ⟨n16, 0, none⟩) : Value) ∧ ρ 4 = (v5 : Value) ∧ ρ 5 = (.int .u64 (((N) * (8) : Nat) : Int) : Value) ∧ ρ 7 = (.pointer (some ⟨n118, 0, none⟩) : Value) ∧ ρ 11 = (.bool (false) : Value) ∧ ρ 36 = (.int .i64 ((i : Nat) : Int) : Value) ∧ True) ⟨T0, T2, T3, T4, T5, rfl, T11, T36, trivial⟩ fun ρ135 ⟨T0, T2, T3, T4, T5, T7, T11, T36, _⟩ => ?_
      refine thenF_normal (hK117 _ _ ?_)
      refine wpF_seq_k fun K136 hK136 => ?_
      refine wpF_seq_k fun K137 hK137 => ?_
      refine wpF_text ?_
      refine opsF_step rfl (YieldsK.fieldAt sha7_fo48_0 (show _ = (.pointer (some ⟨n16, 0, none⟩) : Value) from T3) ?_)    -- sha.go:103 t51 := (Op.fieldAddr 48 (Operand.tmp 3) 0)
      refine opsF_step rfl (YieldsK.loadPart (cs := s2.map fun x => U x) (show _ = (.pointer (some ⟨n16, 0, none⟩) : Value) from rfl) (range_state hb3) sha7_ty41 rfl (by rw [List.length_map, hs2]; exact sha7_isz41) ?_)    -- sha.go:103 t52 := (Op.load 41 (Operand.tmp 51))
      refine opsF_step rfl (YieldsK.move (show _ = (.int .i64 ((0 : Nat) : Int) : Value) from rfl) ?_)    -- sha.go:103 t53 := (Op.move (Operand.const (Value.int IntKind.i64 0)))
      refine opsF_end (fun ρ => ρ 0 = (.pointer (some ⟨g, 0, none⟩) : Value) ∧ ρ 2 = (.pointer (some ⟨n2, 0, none⟩) : Value) ∧ ρ 3 = (.pointer (some ⟨n16, 0, none⟩) : Value) ∧ ρ 4 = (v5 : Value) ∧ ρ 5 = (.int .u64 (((N) * (8) : Nat) : Int) : Value) ∧ ρ 7 = (.pointer (some ⟨n118, 0, none⟩) : Value) ∧ ρ 11 = (.bool (false) : Value) ∧ ρ 36 = (.int .i64 ((i : Nat) : Int) : Value) ∧ ρ 52 = (.agg (s2.map fun x => U x).toArray : Value) ∧ ρ 53 = (.int .i64 ((0 : Nat) : Int) : Value) ∧ True) ⟨T0, T2, T3, T4, T5, T7, T11, T36, rfl, rfl, trivial⟩ fun ρ138 ⟨T0, T2, T3, T4, T5, T7, T11, T36, T52, T53, _⟩ => ?_
      refine thenF_normal (hK137 _ _ ?_)
      refine wpF_block ?_
      refine wpF_loop (fun (ρ : Slots) (wz : World) => ∃ j : Nat, ρ 0 = (.pointer (some ⟨g, 0, none⟩) : Value) ∧ ρ 2 = (.pointer (some ⟨n2, 0, none⟩) : Value) ∧ ρ 3 = (.pointer (some ⟨n16, 0, none⟩) : Value) ∧ ρ 4 = (v5 : Value) ∧ ρ 5 = (.int .u64 (((N) * (8) : Nat) : Int) : Value) ∧ ρ 7 = (.pointer (some ⟨n118, 0, none⟩) : Value) ∧ ρ 11 = (.bool (false) : Value) ∧ ρ 36 = (.int .i64 ((i : Nat) : Int) : Value) ∧ ρ 52 = (.agg (s2.map fun x => U x).toArray : Value) ∧ ρ 53 = (.int .i64 ((j : Nat) : Int) : Value) ∧ wz.heap[g]? = some (.cells (hashL s r f N).toArray 48 (0, 0)) ∧ Ext w wz ∧ wz.heap[n2]? = some (.cells (Lib.byteCells (List.replicate 32 0)).toArray 24 (0, 0)) ∧ Ext w3 wz ∧ wz.ownsRow w29.heap.size 5 1 v5 (Q : List UInt8).length (Lib.byteCells (Q)) ∧ wz.heap[n16]? = some (.cells (hashL s2 r2 ((p ++ Q).length % 64) (p ++ Q).length).toArray 48 (0, 0)) ∧ Ext w115 wz ∧ wz.heap[n118]? = some (.cells (Lib.byteCells (Sha.outs s2 j)).toArray 24 (0, 0)) ∧ (j ≤ 8) ∧ True) (fun ρ _ => 8 - (intOf (ρ 53)).toNat) ⟨0, T0, T2, T3, T4, T5, T7, T11, T36, T52, T53, hb0, hE, hb9, hA22, ho5, hb3, hA124, blk_eq hb133 (rfl), by omega, trivial⟩ ?_
      clear hb133
      clear hb0 hE hb9 hA22 ho5 hb3 hA124
      rintro ρ139 w140 ⟨j, T0, T2, T3, T4, T5, T7, T11, T36, T52, T53, hb0, hE, hb9, hA22, ho5, hb3, hA124, hb133l, hj, -⟩
      have q53 := T53
      refine wpF_seq_k fun K141 hK141 => ?_
      refine wpF_text ?_
      refine opsF_step rfl (YieldsK.eqI (a := ((j : Nat) : Int)) (b := ((8 : Nat) : Int)) (show _ = (.int .i64 ((j : Nat) : Int) : Value) from T53) (show _ = (.int .i64 ((8 : Nat) : Int) : Value) from rfl) (k_lss _ .i64 (j) (8)) ?_)    -- sha.go:103 t54 := (Op.binOp BinOp.lss 3 (Operand.tmp 53) (Operand.const (Value.int IntKind.i64 8)) 3)
      refine opsF_end (fun ρ => ρ 0 = (.pointer (some ⟨g, 0, none⟩) : Value) ∧ ρ 2 = (.pointer (some ⟨n2, 0, none⟩) : Value) ∧ ρ 3 = (.pointer (some ⟨n16, 0, none⟩) : Value) ∧ ρ 4 = (v5 : Value) ∧ ρ 5 = (.int .u64 (((N) * (8) : Nat) : Int) : Value) ∧ ρ 7 = (.pointer (some ⟨n118, 0, none⟩) : Value) ∧ ρ 11 = (.bool (false) : Value) ∧ ρ 36 = (.int .i64 ((i : Nat) : Int) : Value) ∧ ρ 52 = (.agg (s2.map fun x => U x).toArray : Value) ∧ ρ 53 = (.int .i64 ((j : Nat) : Int) : Value) ∧ ρ 54 = (.bool (decide ((j) < (8))) : Value) ∧ True) ⟨T0, T2, T3, T4, T5, T7, T11, T36, T52, T53, rfl, trivial⟩ fun ρ142 ⟨T0, T2, T3, T4, T5, T7, T11, T36, T52, T53, T54, _⟩ => ?_
      refine thenF_normal (hK141 _ _ ?_)
      refine wpF_seq_k fun K143 hK143 => ?_
      refine wpF_cond ((j) < (8)) (show _ = (.bool (decide ((j) < (8))) : Value) from T54) (fun hc3 => ?_) (fun hc3 => ?_)
      · refine wpF_skip ?_
        refine thenF_normal (hK143 _ _ ?_)
        refine wpF_seq_k fun K144 hK144 => ?_
        refine wpF_block ?_
        refine wpF_seq_k fun K145 hK145 => ?_
        refine wpF_text ?_
        refine opsF_step rfl (YieldsK.move (show _ = (.int .i64 ((j : Nat) : Int) : Value) from T53) ?_)    -- sha.go:103 t55 := (Op.move (Operand.tmp 53))
        refine opsF_step rfl (YieldsK.idxU (l := s2) (i := j) sha7_ty41 sha7_ty40 rfl sha7_sz40 (show _ = (.agg (s2.map fun x => U x).toArray : Value) from T52) (show _ = (.int .i64 ((j : Nat) : Int) : Value) from T53) (by omega) (hs2) ?_)    -- sha.go:103 t56 := (Op.index 41 (Operand.tmp 52) (Operand.tmp 53))
        refine opsF_step rfl (YieldsK.assign (show _ = (.int .i64 ((j : Nat) : Int) : Value) from rfl) ?_)    -- sha.go:103 t8 := (Op.assign (Operand.tmp 55))
        refine opsF_step rfl (YieldsK.assign (show _ = (U (s2.getD (j) 0) : Value) from rfl) ?_)    -- sha.go:103 t9 := (Op.assign (Operand.tmp 56))
        refine opsF_end (fun ρ => ρ 0 = (.pointer (some ⟨g, 0, none⟩) : Value) ∧ ρ 2 = (.pointer (some ⟨n2, 0, none⟩) : Value) ∧ ρ 3 = (.pointer (some ⟨n16, 0, none⟩) : Value) ∧ ρ 4 = (v5 : Value) ∧ ρ 5 = (.int .u64 (((N) * (8) : Nat) : Int) : Value) ∧ ρ 7 = (.pointer (some ⟨n118, 0, none⟩) : Value) ∧ ρ 8 = (.int .i64 ((j : Nat) : Int) : Value) ∧ ρ 9 = (U (s2.getD (j) 0) : Value) ∧ ρ 11 = (.bool (false) : Value) ∧ ρ 36 = (.int .i64 ((i : Nat) : Int) : Value) ∧ ρ 52 = (.agg (s2.map fun x => U x).toArray : Value) ∧ ρ 53 = (.int .i64 ((j : Nat) : Int) : Value) ∧ True) ⟨T0, T2, T3, T4, T5, T7, rfl, rfl, T11, T36, T52, T53, trivial⟩ fun ρ146 ⟨T0, T2, T3, T4, T5, T7, T8, T9, T11, T36, T52, T53, _⟩ => ?_
        refine thenF_normal (hK145 _ _ ?_)
        refine wpF_text ?_
        refine opsF_step rfl (YieldsK.move (show _ = (.int .i64 ((j : Nat) : Int) : Value) from T8) ?_)    -- sha.go:104 t57 := (Op.move (Operand.tmp 8))
        refine opsF_step rfl (YieldsK.bin (xv := .int .i64 ((4 : Nat) : Int)) (yv := .int .i64 ((j : Nat) : Int)) (show _ = (.int .i64 ((4 : Nat) : Int) : Value) from rfl) (show _ = (.int .i64 ((j : Nat) : Int) : Value) from rfl) rfl (i64_mul _ (4) (j) (by omega)) ?_)    -- sha.go:104 t58 := (Op.binOp BinOp.mul 3 (Operand.const (Value.int IntKind.i64 4)) (Operand.tmp 57) 3)
        refine opsF_step rfl (YieldsK.move (show _ = (.int .i64 ((j : Nat) : Int) : Value) from T8) ?_)    -- sha.go:104 t59 := (Op.move (Operand.tmp 8))
        refine opsF_step rfl (YieldsK.bin (xv := .int .i64 ((4 : Nat) : Int)) (yv := .int .i64 ((j : Nat) : Int)) (show _ = (.int .i64 ((4 : Nat) : Int) : Value) from rfl) (show _ = (.int .i64 ((j : Nat) : Int) : Value) from rfl) rfl (i64_mul _ (4) (j) (by omega)) ?_)    -- sha.go:104 t60 := (Op.binOp BinOp.mul 3 (Operand.const (Value.int IntKind.i64 4)) (Operand.tmp 59) 3)
        refine opsF_step rfl (YieldsK.bin (xv := .int .i64 (((4) * (j) : Nat) : Int)) (yv := .int .i64 ((1 : Nat) : Int)) (show _ = (.int .i64 (((4) * (j) : Nat) : Int) : Value) from rfl) (show _ = (.int .i64 ((1 : Nat) : Int) : Value) from rfl) rfl (i64_add _ ((4) * (j)) (1) (by omega)) ?_)    -- sha.go:104 t61 := (Op.binOp BinOp.add 3 (Operand.tmp 60) (Operand.const (Value.int IntKind.i64 1)) 3)
        refine opsF_step rfl (YieldsK.move (show _ = (.int .i64 ((j : Nat) : Int) : Value) from T8) ?_)    -- sha.go:104 t62 := (Op.move (Operand.tmp 8))
        refine opsF_step rfl (YieldsK.bin (xv := .int .i64 ((4 : Nat) : Int)) (yv := .int .i64 ((j : Nat) : Int)) (show _ = (.int .i64 ((4 : Nat) : Int) : Value) from rfl) (show _ = (.int .i64 ((j : Nat) : Int) : Value) from rfl) rfl (i64_mul _ (4) (j) (by omega)) ?_)    -- sha.go:104 t63 := (Op.binOp BinOp.mul 3 (Operand.const (Value.int IntKind.i64 4)) (Operand.tmp 62) 3)
        refine opsF_step rfl (YieldsK.bin (xv := .int .i64 (((4) * (j) : Nat) : Int)) (yv := .int .i64 ((2 : Nat) : Int)) (show _ = (.int .i64 (((4) * (j) : Nat) : Int) : Value) from rfl) (show _ = (.int .i64 ((2 : Nat) : Int) : Value) from rfl) rfl (i64_add _ ((4) * (j)) (2) (by omega)) ?_)    -- sha.go:104 t64 := (Op.binOp BinOp.add 3 (Operand.tmp 63) (Operand.const (Value.int IntKind.i64 2)) 3)
        refine opsF_step rfl (YieldsK.move (show _ = (.int .i64 ((j : Nat) : Int) : Value) from T8) ?_)    -- sha.go:104 t65 := (Op.move (Operand.tmp 8))
        refine opsF_step rfl (YieldsK.bin (xv := .int .i64 ((4 : Nat) : Int)) (yv := .int .i64 ((j : Nat) : Int)) (show _ = (.int .i64 ((4 : Nat) : Int) : Value) from rfl) (show _ = (.int .i64 ((j : Nat) : Int) : Value) from rfl) rfl (i64_mul _ (4) (j) (by omega)) ?_)    -- sha.go:104 t66 := (Op.binOp BinOp.mul 3 (Operand.const (Value.int IntKind.i64 4)) (Operand.tmp 65) 3)
        refine opsF_step rfl (YieldsK.bin (xv := .int .i64 (((4) * (j) : Nat) : Int)) (yv := .int .i64 ((3 : Nat) : Int)) (show _ = (.int .i64 (((4) * (j) : Nat) : Int) : Value) from rfl) (show _ = (.int .i64 ((3 : Nat) : Int) : Value) from rfl) rfl (i64_add _ ((4) * (j)) (3) (by omega)) ?_)    -- sha.go:104 t67 := (Op.binOp BinOp.add 3 (Operand.tmp 66) (Operand.const (Value.int IntKind.i64 3)) 3)
        refine opsF_step rfl (YieldsK.move (show _ = (U (s2.getD (j) 0) : Value) from T9) ?_)    -- sha.go:104 t68 := (Op.move (Operand.tmp 9))
        refine opsF_step rfl (YieldsK.bin (show _ = (U (s2.getD (j) 0) : Value) from rfl) (show _ = (.int .u64 ((24 : Nat) : Int) : Value) from rfl) rfl (u_shr _ _ _ 24 (by decide)) ?_)    -- sha.go:104 t69 := (Op.binOp BinOp.shr 40 (Operand.tmp 68) (Operand.const (Value.int IntKind.u64 24)) 43)
        refine opsF_step rfl (YieldsK.narrow sha7_ty40 sha7_ty5 (show _ = (U ((s2.getD (j) 0) >>> 24) : Value) from rfl) ?_)    -- sha.go:104 t70 := (Op.convert 40 5 (Operand.tmp 69))
        refine opsF_step rfl (YieldsK.move (show _ = (U (s2.getD (j) 0) : Value) from T9) ?_)    -- sha.go:104 t71 := (Op.move (Operand.tmp 9))
        refine opsF_step rfl (YieldsK.bin (show _ = (U (s2.getD (j) 0) : Value) from rfl) (show _ = (.int .u64 ((16 : Nat) : Int) : Value) from rfl) rfl (u_shr _ _ _ 16 (by decide)) ?_)    -- sha.go:104 t72 := (Op.binOp BinOp.shr 40 (Operand.tmp 71) (Operand.const (Value.int IntKind.u64 16)) 43)
        refine opsF_step rfl (YieldsK.narrow sha7_ty40 sha7_ty5 (show _ = (U ((s2.getD (j) 0) >>> 16) : Value) from rfl) ?_)    -- sha.go:104 t73 := (Op.convert 40 5 (Operand.tmp 72))
        refine opsF_step rfl (YieldsK.move (show _ = (U (s2.getD (j) 0) : Value) from T9) ?_)    -- sha.go:104 t74 := (Op.move (Operand.tmp 9))
        refine opsF_step rfl (YieldsK.bin (show _ = (U (s2.getD (j) 0) : Value) from rfl) (show _ = (.int .u64 ((8 : Nat) : Int) : Value) from rfl) rfl (u_shr _ _ _ 8 (by decide)) ?_)    -- sha.go:104 t75 := (Op.binOp BinOp.shr 40 (Operand.tmp 74) (Operand.const (Value.int IntKind.u64 8)) 43)
        refine opsF_step rfl (YieldsK.narrow sha7_ty40 sha7_ty5 (show _ = (U ((s2.getD (j) 0) >>> 8) : Value) from rfl) ?_)    -- sha.go:104 t76 := (Op.convert 40 5 (Operand.tmp 75))
        refine opsF_step rfl (YieldsK.move (show _ = (U (s2.getD (j) 0) : Value) from T9) ?_)    -- sha.go:104 t77 := (Op.move (Operand.tmp 9))
        refine opsF_step rfl (YieldsK.narrow sha7_ty40 sha7_ty5 (show _ = (U (s2.getD (j) 0) : Value) from rfl) ?_)    -- sha.go:104 t78 := (Op.convert 40 5 (Operand.tmp 77))
        refine opsF_step rfl (YieldsK.atArr0 (i := (4) * (j)) sha7_ty24 sha7_sz5 (show _ = (.pointer (some ⟨n118, 0, none⟩) : Value) from T7) (show _ = (.int .i64 (((4) * (j) : Nat) : Int) : Value) from rfl) (by omega) ?_)    -- sha.go:104 t79 := (Op.indexAddr 24 (Operand.tmp 7) (Operand.tmp 58))
        refine opsF_step rfl (YieldsK.storeB8 (i := (4) * (j)) (v := ((s2.getD (j) 0) >>> 24).toUInt8) (show _ = (.pointer (some ⟨n118, (4) * (j), none⟩) : Value) from rfl) (show _ = (B8 (((s2.getD (j) 0) >>> 24).toUInt8) : Value) from rfl) hb133l (by rw [Sha.outs_length _ hs2 _ (by omega)]; omega) sha7_isz5 fun w147 hb148 hg149 hs150 => ?_)    -- sha.go:104 tNone := (Op.store 5 (Operand.tmp 79) (Operand.tmp 70))
        have hb0 : w147.heap[g]? = some (.cells (hashL s r f N).toArray 48 (0, 0)) := (hg149.block _ (Array.getElem?_eq_some_iff.1 hb0).1 (by simp; omega)).trans hb0
        have hE : Ext w w147 := row_fresh hE hg149 (Nat.le_trans hz127 (by omega))
        have hb9 : w147.heap[n2]? = some (.cells (Lib.byteCells (List.replicate 32 0)).toArray 24 (0, 0)) := (hg149.block _ (Array.getElem?_eq_some_iff.1 hb9).1 (by simp; omega)).trans hb9
        have hA22 : Ext w3 w147 := row_fresh hA22 hg149 (Nat.le_trans hz128 (by omega))
        have ho5 : w147.ownsRow w29.heap.size 5 1 v5 (Q : List UInt8).length (Lib.byteCells (Q)) := own_kept ho5 hg149 hap132
        have hb3 : w147.heap[n16]? = some (.cells (hashL s2 r2 ((p ++ Q).length % 64) (p ++ Q).length).toArray 48 (0, 0)) := (hg149.block _ (Array.getElem?_eq_some_iff.1 hb3).1 (by simp; omega)).trans hb3
        have hA124 : Ext w115 w147 := row_fresh hA124 hg149 (Nat.le_trans (Nat.le_refl _) (by omega))
        clear hb133l
        have hb133l := hb148; clear hb148
        have hl151 : n118 < w147.heap.size := (Array.getElem?_eq_some_iff.1 hb133l).1
        refine opsF_step rfl (YieldsK.atArr0 (i := ((4) * (j)) + (1)) sha7_ty24 sha7_sz5 (show _ = (.pointer (some ⟨n118, 0, none⟩) : Value) from T7) (show _ = (.int .i64 ((((4) * (j)) + (1) : Nat) : Int) : Value) from rfl) (by omega) ?_)    -- sha.go:104 t80 := (Op.indexAddr 24 (Operand.tmp 7) (Operand.tmp 61))
        refine opsF_step rfl (YieldsK.storeB8 (i := ((4) * (j)) + (1)) (v := ((s2.getD (j) 0) >>> 16).toUInt8) (show _ = (.pointer (some ⟨n118, ((4) * (j)) + (1), none⟩) : Value) from rfl) (show _ = (B8 (((s2.getD (j) 0) >>> 16).toUInt8) : Value) from rfl) hb133l (by rw [List.length_set, Sha.outs_length _ hs2 _ (by omega)]; omega) sha7_isz5 fun w152 hb153 hg154 hs155 => ?_)    -- sha.go:104 tNone := (Op.store 5 (Operand.tmp 80) (Operand.tmp 73))
        have hb0 : w152.heap[g]? = some (.cells (hashL s r f N).toArray 48 (0, 0)) := (hg154.block _ (Array.getElem?_eq_some_iff.1 hb0).1 (by simp; omega)).trans hb0
        have hE : Ext w w152 := row_fresh hE hg154 (Nat.le_trans hz127 (by omega))
        have hb9 : w152.heap[n2]? = some (.cells (Lib.byteCells (List.replicate 32 0)).toArray 24 (0, 0)) := (hg154.block _ (Array.getElem?_eq_some_iff.1 hb9).1 (by simp; omega)).trans hb9
        have hA22 : Ext w3 w152 := row_fresh hA22 hg154 (Nat.le_trans hz128 (by omega))
        have ho5 : w152.ownsRow w29.heap.size 5 1 v5 (Q : List UInt8).length (Lib.byteCells (Q)) := own_kept ho5 hg154 hap132
        have hb3 : w152.heap[n16]? = some (.cells (hashL s2 r2 ((p ++ Q).length % 64) (p ++ Q).length).toArray 48 (0, 0)) := (hg154.block _ (Array.getElem?_eq_some_iff.1 hb3).1 (by simp; omega)).trans hb3
        have hA124 : Ext w115 w152 := row_fresh hA124 hg154 (Nat.le_trans (Nat.le_refl _) (by omega))
        clear hb133l
        have hb133l := hb153; clear hb153
        have hl156 : n118 < w152.heap.size := (Array.getElem?_eq_some_iff.1 hb133l).1
        refine opsF_step rfl (YieldsK.atArr0 (i := ((4) * (j)) + (2)) sha7_ty24 sha7_sz5 (show _ = (.pointer (some ⟨n118, 0, none⟩) : Value) from T7) (show _ = (.int .i64 ((((4) * (j)) + (2) : Nat) : Int) : Value) from rfl) (by omega) ?_)    -- sha.go:104 t81 := (Op.indexAddr 24 (Operand.tmp 7) (Operand.tmp 64))
        refine opsF_step rfl (YieldsK.storeB8 (i := ((4) * (j)) + (2)) (v := ((s2.getD (j) 0) >>> 8).toUInt8) (show _ = (.pointer (some ⟨n118, ((4) * (j)) + (2), none⟩) : Value) from rfl) (show _ = (B8 (((s2.getD (j) 0) >>> 8).toUInt8) : Value) from rfl) hb133l (by rw [List.length_set, List.length_set, Sha.outs_length _ hs2 _ (by omega)]; omega) sha7_isz5 fun w157 hb158 hg159 hs160 => ?_)    -- sha.go:104 tNone := (Op.store 5 (Operand.tmp 81) (Operand.tmp 76))
        have hb0 : w157.heap[g]? = some (.cells (hashL s r f N).toArray 48 (0, 0)) := (hg159.block _ (Array.getElem?_eq_some_iff.1 hb0).1 (by simp; omega)).trans hb0
        have hE : Ext w w157 := row_fresh hE hg159 (Nat.le_trans hz127 (by omega))
        have hb9 : w157.heap[n2]? = some (.cells (Lib.byteCells (List.replicate 32 0)).toArray 24 (0, 0)) := (hg159.block _ (Array.getElem?_eq_some_iff.1 hb9).1 (by simp; omega)).trans hb9
        have hA22 : Ext w3 w157 := row_fresh hA22 hg159 (Nat.le_trans hz128 (by omega))
        have ho5 : w157.ownsRow w29.heap.size 5 1 v5 (Q : List UInt8).length (Lib.byteCells (Q)) := own_kept ho5 hg159 hap132
        have hb3 : w157.heap[n16]? = some (.cells (hashL s2 r2 ((p ++ Q).length % 64) (p ++ Q).length).toArray 48 (0, 0)) := (hg159.block _ (Array.getElem?_eq_some_iff.1 hb3).1 (by simp; omega)).trans hb3
        have hA124 : Ext w115 w157 := row_fresh hA124 hg159 (Nat.le_trans (Nat.le_refl _) (by omega))
        clear hb133l
        have hb133l := hb158; clear hb158
        have hl161 : n118 < w157.heap.size := (Array.getElem?_eq_some_iff.1 hb133l).1
        refine opsF_step rfl (YieldsK.atArr0 (i := ((4) * (j)) + (3)) sha7_ty24 sha7_sz5 (show _ = (.pointer (some ⟨n118, 0, none⟩) : Value) from T7) (show _ = (.int .i64 ((((4) * (j)) + (3) : Nat) : Int) : Value) from rfl) (by omega) ?_)    -- sha.go:104 t82 := (Op.indexAddr 24 (Operand.tmp 7) (Operand.tmp 67))
        refine opsF_step rfl (YieldsK.storeB8 (i := ((4) * (j)) + (3)) (v := (s2.getD (j) 0).toUInt8) (show _ = (.pointer (some ⟨n118, ((4) * (j)) + (3), none⟩) : Value) from rfl) (show _ = (B8 ((s2.getD (j) 0).toUInt8) : Value) from rfl) hb133l (by rw [List.length_set, List.length_set, List.length_set, Sha.outs_length _ hs2 _ (by omega)]; omega) sha7_isz5 fun w162 hb163 hg164 hs165 => ?_)    -- sha.go:104 tNone := (Op.store 5 (Operand.tmp 82) (Operand.tmp 78))
        have hb0 : w162.heap[g]? = some (.cells (hashL s r f N).toArray 48 (0, 0)) := (hg164.block _ (Array.getElem?_eq_some_iff.1 hb0).1 (by simp; omega)).trans hb0
        have hE : Ext w w162 := row_fresh hE hg164 (Nat.le_trans hz127 (by omega))
        have hb9 : w162.heap[n2]? = some (.cells (Lib.byteCells (List.replicate 32 0)).toArray 24 (0, 0)) := (hg164.block _ (Array.getElem?_eq_some_iff.1 hb9).1 (by simp; omega)).trans hb9
        have hA22 : Ext w3 w162 := row_fresh hA22 hg164 (Nat.le_trans hz128 (by omega))
        have ho5 : w162.ownsRow w29.heap.size 5 1 v5 (Q : List UInt8).length (Lib.byteCells (Q)) := own_kept ho5 hg164 hap132
        have hb3 : w162.heap[n16]? = some (.cells (hashL s2 r2 ((p ++ Q).length % 64) (p ++ Q).length).toArray 48 (0, 0)) := (hg164.block _ (Array.getElem?_eq_some_iff.1 hb3).1 (by simp; omega)).trans hb3
        have hA124 : Ext w115 w162 := row_fresh hA124 hg164 (Nat.le_trans (Nat.le_refl _) (by omega))
        clear hb133l
        have hb133l := hb163; clear hb163
        have hl166 : n118 < w162.heap.size := (Array.getElem?_eq_some_iff.1 hb133l).1
        refine opsF_end (fun ρ => ρ 0 = (.pointer (some ⟨g, 0, none⟩) : Value) ∧ ρ 2 = (.pointer (some ⟨n2, 0, none⟩) : Value) ∧ ρ 3 = (.pointer (some ⟨n16, 0, none⟩) : Value) ∧ ρ 4 = (v5 : Value) ∧ ρ 5 = (.int .u64 (((N) * (8) : Nat) : Int) : Value) ∧ ρ 7 = (.pointer (some ⟨n118, 0, none⟩) : Value) ∧ ρ 8 = (.int .i64 ((j : Nat) : Int) : Value) ∧ ρ 9 = (U (s2.getD (j) 0) : Value) ∧ ρ 11 = (.bool (false) : Value) ∧ ρ 36 = (.int .i64 ((i : Nat) : Int) : Value) ∧ ρ 52 = (.agg (s2.map fun x => U x).toArray : Value) ∧ ρ 53 = (.int .i64 ((j : Nat) : Int) : Value) ∧ True) ⟨T0, T2, T3, T4, T5, T7, T8, T9, T11, T36, T52, T53, trivial⟩ fun ρ167 ⟨T0, T2, T3, T4, T5, T7, T8, T9, T11, T36, T52, T53, _⟩ => ?_
        refine inBlockF_normal ?_
        refine thenF_normal (hK144 _ _ ?_)
        refine wpF_text ?_
        refine opsF_step rfl (YieldsK.bin (xv := .int .i64 ((j : Nat) : Int)) (yv := .int .i64 ((1 : Nat) : Int)) (show _ = (.int .i64 ((j : Nat) : Int) : Value) from T53) (show _ = (.int .i64 ((1 : Nat) : Int) : Value) from rfl) rfl (i64_add _ (j) (1) (by omega)) ?_)    -- sha.go:103 t83 := (Op.binOp BinOp.add 3 (Operand.tmp 53) (Operand.const (Value.int IntKind.i64 1)) 3)
        refine opsF_step rfl (YieldsK.move (show _ = (.int .i64 (((j) + (1) : Nat) : Int) : Value) from rfl) ?_)    -- sha.go:103 t53 := (Op.move (Operand.tmp 83))
        refine opsF_end (fun ρ => ρ 0 = (.pointer (some ⟨g, 0, none⟩) : Value) ∧ ρ 2 = (.pointer (some ⟨n2, 0, none⟩) : Value) ∧ ρ 3 = (.pointer (some ⟨n16, 0, none⟩) : Value) ∧ ρ 4 = (v5 : Value) ∧ ρ 5 = (.int .u64 (((N) * (8) : Nat) : Int) : Value) ∧ ρ 7 = (.pointer (some ⟨n118, 0, none⟩) : Value) ∧ ρ 8 = (.int .i64 ((j : Nat) : Int) : Value) ∧ ρ 9 = (U (s2.getD (j) 0) : Value) ∧ ρ 11 = (.bool (false) : Value) ∧ ρ 36 = (.int .i64 ((i : Nat) : Int) : Value) ∧ ρ 52 = (.agg (s2.map fun x => U x).toArray : Value) ∧ ρ 53 = (.int .i64 (((j) + (1) : Nat) : Int) : Value) ∧ True) ⟨T0, T2, T3, T4, T5, T7, T8, T9, T11, T36, T52, rfl, trivial⟩ fun ρ168 ⟨T0, T2, T3, T4, T5, T7, T8, T9, T11, T36, T52, T53, _⟩ => ?_
        refine thenF_normal (And.intro ⟨j + 1, T0, T2, T3, T4, T5, T7, T11, T36, T52, T53, hb0, hE, hb9, hA22, ho5, hb3, hA124, blk_eq hb133l (congrArg Lib.byteCells (Sha.outs_step s2 hs2 j hc3)), by omega, trivial⟩ ?_)
        show 8 - (intOf (ρ168 53)).toNat < 8 - (intOf (ρ139 53)).toNat
        rw [T53, q53]
        simp only [intOf, Int.toNat_natCast]; omega
      · refine wpF_exit (thenF_exit (thenF_exit (inBlockF_hit ?_)))
        refine thenF_normal (hK136 _ _ ?_)
        refine wpF_seq_k fun K169 hK169 => ?_
        refine wpF_text ?_
        refine opsF_step rfl (YieldsK.loadAll (show _ = (.pointer (some ⟨n118, 0, none⟩) : Value) from T7) hb133l sha7_ty24 rfl (by rw [List.size_toArray, Lib.byteCells_length, Sha.outs_length _ hs2 _ (by omega)]; exact sha7_isz24) ?_)    -- sha.go:106 t84 := (Op.load 24 (Operand.tmp 7))
        refine opsF_step rfl (YieldsK.storeAll (show _ = (.pointer (some ⟨n2, 0, none⟩) : Value) from T2) (show _ = (.agg (Lib.byteCells (Sha.outs s2 j)).toArray : Value) from rfl) hb9 (by rw [List.size_toArray, Lib.byteCells_length, Sha.outs_length _ hs2 _ (by omega)]; rfl) (by rw [List.size_toArray, Lib.byteCells_length, Sha.outs_length _ hs2 _ (by omega)]; exact sha7_isz24) (byteCells_one _) fun w170 hb171 hg172 hs173 => ?_)    -- sha.go:106 tNone := (Op.store 24 (Operand.tmp 2) (Operand.tmp 84))
        have hb0 : w170.heap[g]? = some (.cells (hashL s r f N).toArray 48 (0, 0)) := (hg172.block _ (Array.getElem?_eq_some_iff.1 hb0).1 (by simp; omega)).trans hb0
        have hE : Ext w w170 := row_fresh hE hg172 (Nat.le_trans (Nat.le_refl _) (by omega))
        clear hb9
        clear hA22
        have ho5 : w170.ownsRow w29.heap.size 5 1 v5 (Q : List UInt8).length (Lib.byteCells (Q)) := own_kept ho5 hg172 hap_v5_n2
        have hb3 : w170.heap[n16]? = some (.cells (hashL s2 r2 ((p ++ Q).length % 64) (p ++ Q).length).toArray 48 (0, 0)) := (hg172.block _ (Array.getElem?_eq_some_iff.1 hb3).1 (by simp; omega)).trans hb3
        clear hA124
        have hb133l : w170.heap[n118]? = some (.cells (Lib.byteCells (Sha.outs s2 j)).toArray 24 (0, 0)) := (hg172.block _ (Array.getElem?_eq_some_iff.1 hb133l).1 (by simp; omega)).trans hb133l
        have hb9 := hb171; clear hb171
        have hl174 : n2 < w170.heap.size := (Array.getElem?_eq_some_iff.1 hb9).1
        refine opsF_end (fun ρ => ρ 0 = (.pointer (some ⟨g, 0, none⟩) : Value) ∧ ρ 2 = (.pointer (some ⟨n2, 0, none⟩) : Value) ∧ ρ 3 = (.pointer (some ⟨n16, 0, none⟩) : Value) ∧ ρ 4 = (v5 : Value) ∧ ρ 5 = (.int .u64 (((N) * (8) : Nat) : Int) : Value) ∧ ρ 7 = (.pointer (some ⟨n118, 0, none⟩) : Value) ∧ ρ 11 = (.bool (false) : Value) ∧ ρ 36 = (.int .i64 ((i : Nat) : Int) : Value) ∧ ρ 52 = (.agg (s2.map fun x => U x).toArray : Value) ∧ ρ 53 = (.int .i64 ((j : Nat) : Int) : Value) ∧ True) ⟨T0, T2, T3, T4, T5, T7, T11, T36, T52, T53, trivial⟩ fun ρ175 ⟨T0, T2, T3, T4, T5, T7, T11, T36, T52, T53, _⟩ => ?_
        refine thenF_normal (hK169 _ _ ?_)
        refine wpF_ret ?_
        refine postF_ret (fn := Tryd.f14) _ rfl [.agg (Lib.byteCells (Sha.outs s2 j)).toArray] (.agg (Lib.byteCells (Sha.outs s2 j)).toArray) rfl ⟨ResF.row T2 hb9 sha7_ty24 rfl (by rw [List.size_toArray, Lib.byteCells_length, Sha.outs_length _ hs2 _ (by omega)]; exact sha7_isz24), trivial⟩ ?_
        refine ⟨?_, hE⟩
        have e : Sha.outs s2 j = Sha.sum p := by rw [show j = 8 by omega, Sha.outs_all s2 hs2, hat2.state, hQt]; rfl
        rw [e]

theorem sumNil_any (w : World) (hG : Laid w) :
    Calls Tryd.prog 14 #[.pointer none] w fun e w' => e = .returned (.agg (Lib.byteCells (Sha.sum [])).toArray) ∧ Ext w w' := by
  refine calls_of_wpF (args := [.pointer none]) Tryd.func14 rfl 85 rfl (Nat.le_of_ble_eq_true rfl) ?_
  intro ρ0 hb
  have T0 : ρ0 0 = (.pointer none : Value) := hb.get 0
  clear hb
  have hE := Ext.refl w
  refine wpF_seq_k fun K1 hK1 => ?_
  refine wpF_text ?_
  refine opsF_step rfl (YieldsK.alloc (cs := (Lib.byteCells (List.replicate 32 0)).toArray) sha7_al24 fun n2 w3 hn4 hb5 hx6 hs7 => ?_)    -- sha.go:88 t2 := (Op.alloc 24)
  have hE : Ext w w3 := (hE.trans hx6)
  have hb8 := hb5; clear hb5
  have hl9 : n2 < w3.heap.size := by omega
  refine opsF_end (fun ρ => ρ 0 = (.pointer none : Value) ∧ ρ 2 = (.pointer (some ⟨n2, 0, none⟩) : Value) ∧ True) ⟨T0, rfl, trivial⟩ fun ρ10 ⟨T0, T2, _⟩ => ?_
  refine thenF_normal (hK1 _ _ ?_)
  refine wpF_seq_k fun K11 hK11 => ?_
  refine wpF_seq_k fun K12 hK12 => ?_
  refine wpF_text ?_
  refine opsF_step rfl (YieldsK.move (show _ = (.pointer none : Value) from T0) ?_)    -- sha.go:89 t10 := (Op.move (Operand.tmp 0))
  refine opsF_step rfl (YieldsK.eqlNil sha7_ty30 (show _ = (.pointer none : Value) from rfl) ?_)    -- sha.go:89 t11 := (Op.binOp BinOp.eql 30 (Operand.tmp 10) (Operand.const (Value.pointer none)) 30)
  refine opsF_end (fun ρ => ρ 0 = (.pointer none : Value) ∧ ρ 2 = (.pointer (some ⟨n2, 0, none⟩) : Value) ∧ ρ 11 = (.bool (true) : Value) ∧ True) ⟨T0, T2, rfl, trivial⟩ fun ρ13 ⟨T0, T2, T11, _⟩ => ?_
  refine thenF_normal (hK12 _ _ ?_)
  refine wpF_true (show _ = (.bool (true) : Value) from T11) ?_
  refine wpF_seq_k fun K14 hK14 => ?_
  refine wpF_text ?_
  refine opsF_step rfl (YieldsK.callA0 sha7_pl12  ?_)    -- sha.go:90 t12 := (Op.call { callee := (Callee.value (Operand.func 12)), args := #[], argTypes := #[] })
  refine (new_any _ (hG.keep hE)).mono ?_
  rintro e w16 ⟨gN, rfl, hgN, hH, hx15⟩
  refine ⟨_, rfl, ?_⟩
  have hE : Ext w w16 := (hE.trans hx15)
  have hb8 : w16.heap[n2]? = some (.cells (Lib.byteCells (List.replicate 32 0)).toArray 24 (0, 0)) := (Ext.blk' hx15 hb8)
  refine opsF_step rfl (YieldsK.callA1 sha7_pl14 (show _ = (.pointer (some ⟨gN, 0, none⟩) : Value) from rfl) ?_)    -- sha.go:90 t13 := (Op.call { callee := (Callee.value (Operand.func 14)), args := #[(Operand.tmp 12)], argTypes := #[30] })
  refine (sumAt_any _ (hG.keep hE) gN [] hH (by decide)).mono ?_
  rintro e w18 ⟨rfl, hx17⟩
  refine ⟨_, rfl, ?_⟩
  have hE : Ext w w18 := (hE.trans hx17)
  have hb8 : w18.heap[n2]? = some (.cells (Lib.byteCells (List.replicate 32 0)).toArray 24 (0, 0)) := (Ext.blk' hx17 hb8)
  have hH : HashAt w18 gN [] := (hH.keep hx17)
  refine opsF_step rfl (YieldsK.storeAll (show _ = (.pointer (some ⟨n2, 0, none⟩) : Value) from T2) (show _ = (.agg (Lib.byteCells (Sha.sum [])).toArray : Value) from rfl) hb8 (by rw [List.size_toArray, Lib.byteCells_length, Sha.sum_length]; rfl) (by rw [List.size_toArray, Lib.byteCells_length, Sha.sum_length]; exact sha7_isz24) (byteCells_one _) fun w19 hb20 hg21 hs22 => ?_)    -- sha.go:90 tNone := (Op.store 24 (Operand.tmp 2) (Operand.tmp 13))
  have hE : Ext w w19 := row_fresh hE hg21 (Nat.le_trans (Nat.le_refl _) (by omega))
  clear hb8
  clear hH
  have hb8 := hb20; clear hb20
  have hl23 : n2 < w19.heap.size := (Array.getElem?_eq_some_iff.1 hb8).1
  refine opsF_end (fun ρ => ρ 0 = (.pointer none : Value) ∧ ρ 2 = (.pointer (some ⟨n2, 0, none⟩) : Value) ∧ ρ 11 = (.bool (true) : Value) ∧ True) ⟨T0, T2, T11, trivial⟩ fun ρ24 ⟨T0, T2, T11, _⟩ => ?_
  refine thenF_normal (hK14 _ _ ?_)
  refine wpF_ret (thenF_ret ?_)
  refine postF_ret (fn := Tryd.f14) _ rfl [.agg (Lib.byteCells (Sha.sum [])).toArray] (.agg (Lib.byteCells (Sha.sum [])).toArray) rfl ⟨ResF.row T2 hb8 sha7_ty24 rfl (by rw [List.size_toArray, Lib.byteCells_length, Sha.sum_length]; exact sha7_isz24), trivial⟩ ?_
  exact ⟨rfl, hE⟩

theorem writeNil_any (w : World) (v : Value) :
    Calls Tryd.prog 13 #[.pointer none, v] w fun e w' => e = .returned (.tuple #[]) ∧ Ext w w' := by
  refine calls_of_wpF (args := [.pointer none, v]) Tryd.func13 rfl 60 rfl (Nat.le_of_ble_eq_true rfl) ?_
  intro ρ0 hb
  have T0 : ρ0 0 = (.pointer none : Value) := hb.get 0
  have T1 : ρ0 1 = (v : Value) := hb.get 1
  clear hb
  refine wpF_seq_k fun K1 hK1 => ?_
  refine wpF_seq_k fun K2 hK2 => ?_
  refine wpF_text ?_
  refine opsF_step rfl (YieldsK.move (show _ = (.pointer none : Value) from T0) ?_)    -- sha.go:64 t5 := (Op.move (Operand.tmp 0))
  refine opsF_step rfl (YieldsK.eqlNil sha7_ty30 (show _ = (.pointer none : Value) from rfl) ?_)    -- sha.go:64 t6 := (Op.binOp BinOp.eql 30 (Operand.tmp 5) (Operand.const (Value.pointer none)) 30)
  refine opsF_end (fun ρ => ρ 0 = (.pointer none : Value) ∧ ρ 1 = (v : Value) ∧ ρ 6 = (.bool (true) : Value) ∧ True) ⟨T0, T1, rfl, trivial⟩ fun ρ3 ⟨T0, T1, T6, _⟩ => ?_
  refine thenF_normal (hK2 _ _ ?_)
  refine wpF_true (show _ = (.bool (true) : Value) from T6) ?_
  refine wpF_ret (thenF_ret ?_)
  refine postF_ret (fn := Tryd.f13) [] rfl [] (.tuple #[]) rfl trivial ?_
  exact ⟨rfl, Ext.refl _⟩

theorem lenNil_any (w : World) :
    Calls Tryd.prog 15 #[.pointer none] w fun e w' => e = .returned (NI 0) ∧ Ext w w' := by
  refine calls_of_wpF (args := [.pointer none]) Tryd.func15 rfl 9 rfl (Nat.le_of_ble_eq_true rfl) ?_
  intro ρ0 hb
  have T0 : ρ0 0 = (.pointer none : Value) := hb.get 0
  clear hb
  refine wpF_seq_k fun K1 hK1 => ?_
  refine wpF_text ?_
  refine opsF_step rfl (YieldsK.assign (show _ = (.int .i64 ((0 : Nat) : Int) : Value) from rfl) ?_)    -- sha.go:80 t2 := (Op.assign (Operand.const (Value.int IntKind.i64 0)))
  refine opsF_end (fun ρ => ρ 0 = (.pointer none : Value) ∧ ρ 2 = (.int .i64 ((0 : Nat) : Int) : Value) ∧ True) ⟨T0, rfl, trivial⟩ fun ρ2 ⟨T0, T2, _⟩ => ?_
  refine thenF_normal (hK1 _ _ ?_)
  refine wpF_seq_k fun K3 hK3 => ?_
  refine wpF_seq_k fun K4 hK4 => ?_
  refine wpF_text ?_
  refine opsF_step rfl (YieldsK.move (show _ = (.pointer none : Value) from T0) ?_)    -- sha.go:81 t3 := (Op.move (Operand.tmp 0))
  refine opsF_step rfl (YieldsK.eqlNil sha7_ty30 (show _ = (.pointer none : Value) from rfl) ?_)    -- sha.go:81 t4 := (Op.binOp BinOp.eql 30 (Operand.tmp 3) (Operand.const (Value.pointer none)) 30)
  refine opsF_end (fun ρ => ρ 0 = (.pointer none : Value) ∧ ρ 2 = (.int .i64 ((0 : Nat) : Int) : Value) ∧ ρ 4 = (.bool (true) : Value) ∧ True) ⟨T0, T2, rfl, trivial⟩ fun ρ5 ⟨T0, T2, T4, _⟩ => ?_
  refine thenF_normal (hK4 _ _ ?_)
  refine wpF_true (show _ = (.bool (true) : Value) from T4) ?_
  refine wpF_seq_k fun K6 hK6 => ?_
  refine wpF_text ?_
  refine opsF_step rfl (YieldsK.assign (show _ = (.int .i64 ((0 : Nat) : Int) : Value) from rfl) ?_)    -- sha.go:82 t2 := (Op.assign (Operand.const (Value.int IntKind.i64 0)))
  refine opsF_end (fun ρ => ρ 0 = (.pointer none : Value) ∧ ρ 2 = (.int .i64 ((0 : Nat) : Int) : Value) ∧ ρ 4 = (.bool (true) : Value) ∧ True) ⟨T0, rfl, T4, trivial⟩ fun ρ7 ⟨T0, T2, T4, _⟩ => ?_
  refine thenF_normal (hK6 _ _ ?_)
  refine wpF_ret (thenF_ret ?_)
  refine postF_ret (fn := Tryd.f15) _ rfl [.int .i64 ((0 : Nat) : Int)] (.int .i64 ((0 : Nat) : Int)) rfl ⟨T2, trivial⟩ ?_
  exact ⟨rfl, Ext.refl _⟩
end Go.Proofs.YtcindgknimallaaDoor
