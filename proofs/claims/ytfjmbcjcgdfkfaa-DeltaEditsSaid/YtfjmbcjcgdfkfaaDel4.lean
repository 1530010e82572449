/- delta.index. -/
import Derived.Test.YtfjmbcjcgdfkfaaDel3
namespace Go.Proofs.Ytfjmbcjcgdfkfaa
open Go.RowKit
theorem del4_isz45 : (Try.prog.info? 45).map (·.size) = some 8 := by kernel_rfl
theorem del4_ty22 : Try.prog.underlying 22 = some (.slice 5) := by kernel_rfl
theorem del4_sz5 : ∀ w' : World, (sizeOf 5).run Try.prog w' = .ok 1 w' := fun _ => by kernel_rfl
theorem del4_ty45 : Try.prog.underlying 45 = some (.array 8 5) := by kernel_rfl
theorem del4_al45 {d : Option Tmp} {ty : TypeId} {pos : String} {af : Array Edge} {gd : Option (Nat × Bool)} (σ : Operand → Value) (w : World) : (execOp σ ⟨d, .alloc 45, ty, pos, af, gd⟩).run Try.prog w = .ok (.value (.pointer (some ⟨w.heap.size, 0, none⟩))) (w.alloc (.cells (Lib.byteCells (List.replicate 8 0)).toArray 45)) := by kernel_rfl
theorem del4_one43 (z : Int) (w : World) : (Instr.buildSlice 43 1 #[(0, .int .i64 z)]).run Try.prog w = .ok (.slice (some ⟨w.heap.size, 0, none⟩) 1 1) (w.alloc (.cells #[.int .i64 z] 3)) := by kernel_rfl
theorem del4_ty40 : Try.prog.underlying 40 = some (.map 45 43) := by kernel_rfl
theorem del4_ty43 : Try.prog.underlying 43 = some (.slice 3) := by kernel_rfl
theorem index_any (w : World) (v : Value) (l : List UInt8) (hr : RB w v l) (hl : l.length ≤ 1048576) :
    Calls Try.prog 17 #[v] w fun e w' => ∃ b base, e = .returned (.map (some b)) ∧ IX w w' b base 3 (posOf l (l.length - 7)) := by
  refine calls_of_wpF (args := [v]) Try.func17 rfl 30 rfl (Nat.le_of_ble_eq_true rfl) ?_
  intro ρ0 hb
  have T0 : ρ0 0 = (v : Value) := hb.get 0
  clear hb
  have hE := Ext.refl w
  refine wpF_seq_k fun K1 hK1 => ?_
  refine wpF_text ?_
  refine opsF_step rfl (YieldsK.assign (show _ = ((Value.map none) : Value) from rfl) ?_)    -- delta.go:16 t2 := (Op.assign (Operand.const (Value.map none)))
  refine opsF_end (fun ρ => ρ 0 = (v : Value) ∧ ρ 2 = ((Value.map none) : Value) ∧ True) ⟨T0, rfl, trivial⟩ fun ρ2 ⟨T0, T2, _⟩ => ?_
  refine thenF_normal (hK1 _ _ ?_)
  refine wpF_seq_k fun K3 hK3 => ?_
  refine wpF_text ?_
  refine opsF_step rfl (YieldsK.makeMap (I := 3) fun n4 w5 hb6 hX7 => ?_)    -- delta.go:17 t6 := (Op.makeMap 40 none)
  have hX7 := (posOf_zero l) ▸ hX7
  have hE : Ext w w5 := hX7.ext
  refine opsF_step rfl (YieldsK.assign (show _ = (.map (some n4) : Value) from rfl) ?_)    -- delta.go:17 t3 := (Op.assign (Operand.tmp 6))
  refine opsF_end (fun ρ => ρ 0 = (v : Value) ∧ ρ 2 = ((Value.map none) : Value) ∧ ρ 3 = (.map (some n4) : Value) ∧ True) ⟨T0, T2, rfl, trivial⟩ fun ρ8 ⟨T0, T2, T3, _⟩ => ?_
  refine thenF_normal (hK3 _ _ ?_)
  refine wpF_seq_k fun K9 hK9 => ?_
  refine wpF_seq_k fun K10 hK10 => ?_
  refine wpF_text ?_
  refine opsF_step rfl (YieldsK.assign (show _ = (.int .i64 ((0 : Nat) : Int) : Value) from rfl) ?_)    -- delta.go:18 t4 := (Op.assign (Operand.const (Value.int IntKind.i64 0)))
  refine opsF_end (fun ρ => ρ 0 = (v : Value) ∧ ρ 2 = ((Value.map none) : Value) ∧ ρ 3 = (.map (some n4) : Value) ∧ ρ 4 = (.int .i64 ((0 : Nat) : Int) : Value) ∧ True) ⟨T0, T2, T3, rfl, trivial⟩ fun ρ11 ⟨T0, T2, T3, T4, _⟩ => ?_
  refine thenF_normal (hK10 _ _ ?_)
  refine wpF_block ?_
  refine wpF_loop (fun (ρ : Slots) (wz : World) => ∃ i : Nat, ρ 0 = (v : Value) ∧ ρ 2 = ((Value.map none) : Value) ∧ ρ 3 = (.map (some n4) : Value) ∧ ρ 4 = (.int .i64 ((i : Nat) : Int) : Value) ∧ Ext w wz ∧ IX w wz n4 (n4 + 1) 3 (posOf l i) ∧ (i ≤ l.length - 7) ∧ True) (fun ρ _ => l.length - (intOf (ρ 4)).toNat) ⟨0, T0, T2, T3, T4, hE, hX7, Nat.zero_le _, trivial⟩ ?_
  clear hX7
  clear hE
  rintro ρ12 w13 ⟨i, T0, T2, T3, T4, hE, hXi, hil, -⟩
  have q4 := T4
  refine wpF_seq_k fun K14 hK14 => ?_
  refine wpF_seq_k fun K15 hK15 => ?_
  refine wpF_text ?_
  refine opsF_step rfl (YieldsK.move (show _ = (.int .i64 ((i : Nat) : Int) : Value) from T4) ?_)    -- delta.go:18 t7 := (Op.move (Operand.tmp 4))
  refine opsF_step rfl (YieldsK.bin (xv := .int .i64 ((i : Nat) : Int)) (yv := .int .i64 ((8 : Nat) : Int)) (show _ = (.int .i64 ((i : Nat) : Int) : Value) from rfl) (show _ = (.int .i64 ((8 : Nat) : Int) : Value) from rfl) rfl (i64_add _ (i) (8) (by omega)) ?_)    -- delta.go:18 t8 := (Op.binOp BinOp.add 3 (Operand.tmp 7) (Operand.const (Value.int IntKind.i64 8)) 3)
  refine opsF_step rfl (YieldsK.move (show _ = (v : Value) from T0) ?_)    -- delta.go:18 t9 := (Op.move (Operand.tmp 0))
  refine opsF_step rfl (YieldsK.lenRB del4_ty22 (RB.of (hr.keep hE) (show _ = (v : Value) from rfl)) ?_)    -- delta.go:18 t10 := (Op.call { callee := (Callee.builtin Builtin.len), args := #[(Operand.tmp 9)], argTypes := #[22] })
  refine opsF_step rfl (YieldsK.eqI (a := (((i) + (8) : Nat) : Int)) (b := ((l.length : Nat) : Int)) (show _ = (.int .i64 (((i) + (8) : Nat) : Int) : Value) from rfl) (show _ = (.int .i64 ((l.length : Nat) : Int) : Value) from rfl) (k_leq _ .i64 ((i) + (8)) (l.length)) ?_)    -- delta.go:18 t11 := (Op.binOp BinOp.leq 3 (Operand.tmp 8) (Operand.tmp 10) 3)
  refine opsF_end (fun ρ => ρ 0 = (v : Value) ∧ ρ 2 = ((Value.map none) : Value) ∧ ρ 3 = (.map (some n4) : Value) ∧ ρ 4 = (.int .i64 ((i : Nat) : Int) : Value) ∧ ρ 11 = (.bool (decide (((i) + (8)) ≤ (l.length))) : Value) ∧ True) ⟨T0, T2, T3, T4, rfl, trivial⟩ fun ρ16 ⟨T0, T2, T3, T4, T11, _⟩ => ?_
  refine thenF_normal (hK15 _ _ ?_)
  refine wpF_cond (((i) + (8)) ≤ (l.length)) (show _ = (.bool (decide (((i) + (8)) ≤ (l.length))) : Value) from T11) (fun h8 => ?_) (fun h8 => ?_)
  · have hrl : ((l.drop i).take (i + 8 - i)).length = 8 := by rw [List.length_take, List.length_drop]; omega
    have hrl8 : ((l.drop i).take 8).length = 8 := by rw [List.length_take, List.length_drop]; omega
    refine wpF_skip ?_
    refine thenF_normal (hK14 _ _ ?_)
    refine wpF_seq_k fun K17 hK17 => ?_
    refine wpF_block ?_
    refine wpF_seq_k fun K18 hK18 => ?_
    refine wpF_text ?_
    refine opsF_step rfl (YieldsK.move (show _ = (v : Value) from T0) ?_)    -- delta.go:19 t14 := (Op.move (Operand.tmp 0))
    refine opsF_step rfl (YieldsK.move (show _ = (.int .i64 ((i : Nat) : Int) : Value) from T4) ?_)    -- delta.go:19 t15 := (Op.move (Operand.tmp 4))
    refine opsF_step rfl (YieldsK.move (show _ = (.int .i64 ((i : Nat) : Int) : Value) from T4) ?_)    -- delta.go:19 t16 := (Op.move (Operand.tmp 4))
    refine opsF_step rfl (YieldsK.bin (xv := .int .i64 ((i : Nat) : Int)) (yv := .int .i64 ((8 : Nat) : Int)) (show _ = (.int .i64 ((i : Nat) : Int) : Value) from rfl) (show _ = (.int .i64 ((8 : Nat) : Int) : Value) from rfl) rfl (i64_add _ (i) (8) (by omega)) ?_)    -- delta.go:19 t17 := (Op.binOp BinOp.add 3 (Operand.tmp 16) (Operand.const (Value.int IntKind.i64 8)) 3)
    refine opsF_step rfl (YieldsK.sliceLH (xs := l) (l := i) (n := (i) + (8)) del4_ty22 del4_sz5 (show _ = (v : Value) from rfl) (hr.keep hE) (show _ = (.int .i64 ((i : Nat) : Int) : Value) from rfl) (show _ = (.int .i64 (((i) + (8) : Nat) : Int) : Value) from rfl) (by omega) (by omega) fun v19 hr20 ha21 => ?_)    -- delta.go:19 t18 := (Op.slice 22 (Operand.tmp 14) (some (Operand.tmp 15)) (some (Operand.tmp 17)) none)
    refine opsF_step rfl (YieldsK.toArr del4_ty45 (RB.of hr20 (show _ = (v19 : Value) from rfl)) (l := (l.drop (i)).take (((i) + (8)) - (i))) (n := 8) (by rw [List.length_take, List.length_drop]; omega) (by decide) fun n22 n23 hr24 => ?_)    -- delta.go:19 t19 := (Op.sliceToArrayPointer 45 (Operand.tmp 18))
    refine opsF_step rfl (YieldsK.loadPart (show _ = (.pointer (some ⟨n22, n23, none⟩) : Value) from rfl) hr24 del4_ty45 rfl (by rw [Lib.byteCells_length, hrl]; exact del4_isz45) ?_)    -- delta.go:19 t20 := (Op.load 45 (Operand.tmp 19))
    refine opsF_step rfl (YieldsK.alloc (cs := (Lib.byteCells (List.replicate 8 0)).toArray) del4_al45 fun n25 w26 hn27 hb28 hx29 hs30 => ?_)    -- delta.go:19 t5 := (Op.alloc 45)
    have hA31 := Ext.refl w13
    have hea32 := hE
    have hz33 : w.heap.size ≤ w13.heap.size := hE.size
    have hE : Ext w w26 := (hE.trans hx29)
    have hA31 : Ext w13 w26 := (hA31.trans hx29)
    have hb34 := hb28; clear hb28
    have hl35 : n25 < w26.heap.size := by omega
    refine opsF_step rfl (YieldsK.storeAll (show _ = (.pointer (some ⟨n25, 0, none⟩) : Value) from rfl) (show _ = (.agg (Lib.byteCells ((l.drop (i)).take (((i) + (8)) - (i)))).toArray : Value) from rfl) hb34 (by simp only [List.size_toArray, Lib.byteCells_length, hrl]; rfl) (by simp only [List.size_toArray, Lib.byteCells_length, hrl]; exact del4_isz45) (byteCells_one _) fun w36 hb37 hg38 hs39 => ?_)    -- delta.go:19 tNone := (Op.store 45 (Operand.tmp 5) (Operand.tmp 20))
    have hE : Ext w w36 := row_fresh hE hg38 (Nat.le_trans hz33 (by omega))
    have hA31 : Ext w13 w36 := row_fresh hA31 hg38 (Nat.le_trans (Nat.le_refl _) (by omega))
    clear hb34
    have hb34 := hb37; clear hb37
    have hl40 : n25 < w36.heap.size := (Array.getElem?_eq_some_iff.1 hb34).1
    refine opsF_end (fun ρ => ρ 0 = (v : Value) ∧ ρ 2 = ((Value.map none) : Value) ∧ ρ 3 = (.map (some n4) : Value) ∧ ρ 4 = (.int .i64 ((i : Nat) : Int) : Value) ∧ ρ 5 = (.pointer (some ⟨n25, 0, none⟩) : Value) ∧ True) ⟨T0, T2, T3, T4, rfl, trivial⟩ fun ρ41 ⟨T0, T2, T3, T4, T5, _⟩ => ?_
    have hb34 : w36.heap[n25]? = some (.cells (Lib.byteCells ((l.drop i).take 8)).toArray 45 (0, 0)) := blk_eq hb34 (by rw [show i + 8 - i = 8 by omega])
    refine thenF_normal (hK18 _ _ ?_)
    refine wpF_text ?_
    refine opsF_step rfl (YieldsK.move (show _ = (.map (some n4) : Value) from T3) ?_)    -- delta.go:20 t21 := (Op.move (Operand.tmp 3))
    refine opsF_step rfl (YieldsK.loadAll (show _ = (.pointer (some ⟨n25, 0, none⟩) : Value) from T5) hb34 del4_ty45 rfl (by simp only [List.size_toArray, Lib.byteCells_length, hrl8]; exact del4_isz45) ?_)    -- delta.go:20 t22 := (Op.load 45 (Operand.tmp 5))
    refine opsF_step rfl (YieldsK.move (show _ = (.int .i64 ((i : Nat) : Int) : Value) from T4) ?_)    -- delta.go:20 t24 := (Op.move (Operand.tmp 4))
    refine opsF_step rfl (YieldsK.lits (cs := #[NI i]) (fun w => by simp only [List.map_toArray, List.map_cons, List.map_nil]; rw [(show _ = (.int .i64 ((i : Nat) : Int) : Value) from rfl)]; exact del4_one43 _ w) fun n42 w43 hn44 hb45 hx46 hs47 => ?_)    -- delta.go:20 t25 := (Op.buildSlice 43 1 #[(0, (Operand.tmp 24))])
    have hE : Ext w w43 := (hE.trans hx46)
    have hA31 : Ext w13 w43 := (hA31.trans hx46)
    have hb34 : w43.heap[n25]? = some (.cells (Lib.byteCells ((l.drop i).take 8)).toArray 45 (0, 0)) := (Ext.blk' hx46 hb34)
    have hb1i := hb45
    refine opsF_step rfl (YieldsK.entry rowLaw rowKey del4_ty40 zeroInts (show _ = (.map (some n4) : Value) from rfl) (show _ = (.agg (Lib.byteCells ((l.drop i).take 8)).toArray : Value) from rfl) (hXi.keep hA31) hrl8 fun v48 n49 w50 hX51 hg52 => ?_)    -- delta.go:20 t26 := (Op.mapEntry 40 (Operand.tmp 21) (Operand.tmp 22))
    have hE : Ext w w50 := hX51.ext
    clear hA31
    clear hb34
    have hb1i := (Eq.trans (hg52.block n42 (Array.getElem?_eq_some_iff.1 hb1i).1 (by have h1 := hXi.idx.lt; simp; omega)) hb1i)
    refine opsF_step rfl (YieldsK.extract (vs := [v48, .int .i64 ((n49 : Nat) : Int)]) (show _ = (.tuple #[v48, .int .i64 ((n49 : Nat) : Int)] : Value) from rfl) (show _ = some (v48 : Value) from rfl) ?_)    -- delta.go:20 t23 := (Op.extract (Operand.tmp 26) 0)
    refine opsF_step rfl (YieldsK.append _ _ (n4 + 1) 3 (.int .i64 0) 1 8 del4_ty43 infoI rfl (posOf l i ((l.drop i).take 8)).length ((posOf l i ((l.drop i).take 8)).map NI) (own_of hX51.own (show _ = (v48 : Value) from rfl)) 1 [NI i] (show Src _ _ _ _ _ _ _ from by rw [(show _ = (.slice (some ⟨n42, 0, none⟩) 1 1 : Value) from rfl)]; exact (Src.ofSlice _ del4_ty43 ⟨n42, 0, none⟩ 1 1 [NI i] rfl (fun j u hu => by rw [Addr.add_lit, Nat.zero_add]; exact cellAt (l := [NI i]) hb1i hu) (fun u hu => by rw [List.mem_singleton.1 hu]; rfl))) (by have := posOf_length l i ((l.drop i).take 8); unfold maxLen; omega) (by have := posOf_length l i ((l.drop i).take 8); omega) hX51.hb fun v53 w54 ho55 hg56 => ?_)    -- delta.go:20 t27 := (Op.call { callee := (Callee.builtin Builtin.append), args := #[(Operand.tmp 23), (Operand.tmp 25)], argTypes 
    have hX57 := IXO.grew (zs' := posOf l i ((l.drop i).take 8) ++ [i]) hX51 hg56 (by rw [List.length_append, List.map_append]; exact ho55)
    have hE : Ext w w54 := hX57.ext
    clear hX51
    refine opsF_step rfl (YieldsK.extract (vs := [v48, .int .i64 ((n49 : Nat) : Int)]) (show _ = (.tuple #[v48, .int .i64 ((n49 : Nat) : Int)] : Value) from rfl) (show _ = some (.int .i64 ((n49 : Nat) : Int) : Value) from rfl) ?_)    -- delta.go:20 t28 := (Op.extract (Operand.tmp 26) 1)
    refine opsF_step rfl (YieldsK.entryStore (show _ = (.map (some n4) : Value) from rfl) (show _ = (.int .i64 ((n49 : Nat) : Int) : Value) from rfl) (show _ = (v53 : Value) from rfl) hX57 (by simp) fun w58 hX59 => ?_)    -- delta.go:20 tNone := (Op.entryStore 40 (Operand.tmp 21) (Operand.tmp 28) (Operand.tmp 27))
    have hX59 := (posOf_upd l i) ▸ hX59
    have hE : Ext w w58 := hX59.ext
    clear hX57
    refine opsF_end (fun ρ => ρ 0 = (v : Value) ∧ ρ 2 = ((Value.map none) : Value) ∧ ρ 3 = (.map (some n4) : Value) ∧ ρ 4 = (.int .i64 ((i : Nat) : Int) : Value) ∧ ρ 5 = (.pointer (some ⟨n25, 0, none⟩) : Value) ∧ True) ⟨T0, T2, T3, T4, T5, trivial⟩ fun ρ60 ⟨T0, T2, T3, T4, T5, _⟩ => ?_
    refine inBlockF_normal ?_
    refine thenF_normal (hK17 _ _ ?_)
    refine wpF_text ?_
    refine opsF_step rfl (YieldsK.move (show _ = (.int .i64 ((i : Nat) : Int) : Value) from T4) ?_)    -- delta.go:18 t12 := (Op.move (Operand.tmp 4))
    refine opsF_step rfl (YieldsK.bin (xv := .int .i64 ((i : Nat) : Int)) (yv := .int .i64 ((1 : Nat) : Int)) (show _ = (.int .i64 ((i : Nat) : Int) : Value) from rfl) (show _ = (.int .i64 ((1 : Nat) : Int) : Value) from rfl) rfl (i64_add _ (i) (1) (by omega)) ?_)    -- delta.go:18 t13 := (Op.binOp BinOp.add 3 (Operand.tmp 12) (Operand.const (Value.int IntKind.i64 1)) 3)
    refine opsF_step rfl (YieldsK.assign (show _ = (.int .i64 (((i) + (1) : Nat) : Int) : Value) from rfl) ?_)    -- delta.go:18 t4 := (Op.assign (Operand.tmp 13))
    refine opsF_end (fun ρ => ρ 0 = (v : Value) ∧ ρ 2 = ((Value.map none) : Value) ∧ ρ 3 = (.map (some n4) : Value) ∧ ρ 4 = (.int .i64 (((i) + (1) : Nat) : Int) : Value) ∧ ρ 5 = (.pointer (some ⟨n25, 0, none⟩) : Value) ∧ True) ⟨T0, T2, T3, rfl, T5, trivial⟩ fun ρ61 ⟨T0, T2, T3, T4, T5, _⟩ => ?_
    refine thenF_normal (And.intro ⟨i + 1, T0, T2, T3, T4, hE, hX59, by omega, trivial⟩ ?_)
    show l.length - (intOf (ρ61 4)).toNat < l.length - (intOf (ρ12 4)).toNat
    rw [T4, q4]
    simp only [intOf, Int.toNat_natCast]; omega
  · have hik : i = l.length - 7 := by omega
    refine wpF_exit (thenF_exit (thenF_exit (inBlockF_hit ?_)))
    refine thenF_normal (hK9 _ _ ?_)
    refine wpF_seq_k fun K62 hK62 => ?_
    refine wpF_text ?_
    refine opsF_step rfl (YieldsK.move (show _ = (.map (some n4) : Value) from T3) ?_)    -- delta.go:22 t29 := (Op.move (Operand.tmp 3))
    refine opsF_step rfl (YieldsK.assign (show _ = (.map (some n4) : Value) from rfl) ?_)    -- delta.go:22 t2 := (Op.assign (Operand.tmp 29))
    refine opsF_end (fun ρ => ρ 0 = (v : Value) ∧ ρ 2 = (.map (some n4) : Value) ∧ ρ 3 = (.map (some n4) : Value) ∧ ρ 4 = (.int .i64 ((i : Nat) : Int) : Value) ∧ True) ⟨T0, rfl, T3, T4, trivial⟩ fun ρ63 ⟨T0, T2, T3, T4, _⟩ => ?_
    refine thenF_normal (hK62 _ _ ?_)
    refine wpF_ret ?_
    refine postF_ret (fn := Try.f17) _ rfl [.map (some n4)] (.map (some n4)) rfl ⟨T2, trivial⟩ ?_
    rw [hik] at hXi
    exact ⟨_, _, rfl, hXi⟩
end Go.Proofs.Ytfjmbcjcgdfkfaa
