/- sha.Sum. -/
import Derived.Test.YtcindgknimallaaDoorSha7
import Derived.Test.YtcindgknimallaaDoorParts
namespace Go.Proofs.YtcindgknimallaaDoor
open Go.RowKit
theorem HashAt.grew {w w' : World} {g : Nat} {p : List UInt8} {v v' : Value} (h : HashAt w g p) (gr : Grew w w' v v') (hne : v.ownBlock ≠ some g) : HashAt w' g p := by
  obtain ⟨s, r, h1, h2⟩ := h
  exact ⟨s, r, h1, blk_grew h2 gr hne⟩
theorem HashAt.other {w w' : World} {g b : Nat} {p : List UInt8} (h : HashAt w g p) (hg : w.grownBy w' (some b)) (hne : g ≠ b) : HashAt w' g p := by
  obtain ⟨s, r, h1, h2⟩ := h
  exact ⟨s, r, h1, (hg.block g (Array.getElem?_eq_some_iff.1 h2).1 (by simpa using hne)).trans h2⟩
theorem flatten_take (ls : List (List UInt8)) (i : Nat) (hi : i < ls.length) : (ls.take (i + 1)).flatten = (ls.take i).flatten ++ ls.getD i [] := by
  rw [List.take_succ_eq_append_getElem hi, List.flatten_append]
  simp [hi]
theorem flatten_take_le (ls : List (List UInt8)) (i : Nat) (hi : i < ls.length) : (ls.take i).flatten.length + (ls.getD i []).length ≤ ls.flatten.length := by
  have h1 := flatten_take ls i hi
  have h2 : ls.flatten = (ls.take (i + 1)).flatten ++ (ls.drop (i + 1)).flatten := by rw [← List.flatten_append, List.take_append_drop]
  rw [h2, h1]
  simp only [List.length_append]
  omega
theorem sha8_ty30 : Tryd.prog.underlying 30 = some (.pointer 48) := by kernel_rfl
theorem sha8_fo48_3 : FieldOff Tryd.prog 48 3 73 := fun b o w => by simp [go_sem]
theorem sha8_ty3 : Tryd.prog.underlying 3 = some (.int .i64) := by kernel_rfl
theorem sha8_ty22 : Tryd.prog.underlying 22 = some (.slice 5) := by kernel_rfl
theorem sha8_isz3 : (Tryd.prog.info? 3).map (·.size) = some 1 := by kernel_rfl
theorem sha8_isz24 : (Tryd.prog.info? 24).map (·.size) = some 32 := by kernel_rfl
theorem sha8_al24 {d : Option Tmp} {ty : TypeId} {pos : String} {af : Array Edge} {gd : Option (Nat × Bool)} (σ : Operand → Value) (w : World) : (execOp σ ⟨d, .alloc 24, ty, pos, af, gd⟩).run Tryd.prog w = .ok (.value (.pointer (some ⟨w.heap.size, 0, none⟩))) (w.alloc (.cells (Lib.byteCells (List.replicate 32 0)).toArray 24)) := by kernel_rfl
theorem sha8_pl12 : Plain Tryd.prog 12 := fun _ _ => by kernel_rfl
theorem sha8_ty35 : Tryd.prog.underlying 35 = some (.slice 22) := by kernel_rfl
theorem sha8_sz22 : ∀ w' : World, (sizeOf 22).run Tryd.prog w' = .ok 1 w' := fun _ => by kernel_rfl
theorem sha8_pl13 : Plain Tryd.prog 13 := fun _ _ => by kernel_rfl
theorem sha8_pl14 : Plain Tryd.prog 14 := fun _ _ => by kernel_rfl
theorem sha8_ty24 : Tryd.prog.underlying 24 = some (.array 32 5) := by kernel_rfl
theorem writeEmpty_any (w : World) (g : Nat) (p : List UInt8) (hH : HashAt w g p) (v : Value) (hc : RB w v []) (hb : p.length < 4611686018427387904) :
    Calls Tryd.prog 13 #[.pointer (some ⟨g, 0, none⟩), v] w fun e w' => e = .returned (.tuple #[]) ∧ HashAt w' g p ∧ w.grownBy w' (some g) := by
  obtain ⟨s, r, hat, hb0⟩ := hH
  have hs := hat.slen
  have hr := hat.len
  obtain ⟨f, hf⟩ : ∃ f, f = p.length % 64 := ⟨_, rfl⟩
  rw [← hf] at hb0
  have hgr : w.grownBy w (some g) := World.grownBy.refl _ _
  refine calls_of_wpF (args := [.pointer (some ⟨g, 0, none⟩), v]) Tryd.func13 rfl 60 rfl (Nat.le_of_ble_eq_true rfl) ?_
  intro ρ0 hb
  have T0 : ρ0 0 = (.pointer (some ⟨g, 0, none⟩) : Value) := hb.get 0
  have T1 : ρ0 1 = (v : Value) := hb.get 1
  clear hb
  refine wpF_seq_k fun K1 hK1 => ?_
  refine wpF_seq_k fun K2 hK2 => ?_
  refine wpF_text ?_
  refine opsF_step rfl (YieldsK.move (show _ = (.pointer (some ⟨g, 0, none⟩) : Value) from T0) ?_)    -- sha.go:64 t5 := (Op.move (Operand.tmp 0))
  refine opsF_step rfl (YieldsK.eqlNil sha8_ty30 (show _ = (.pointer (some ⟨g, 0, none⟩) : Value) from rfl) ?_)    -- sha.go:64 t6 := (Op.binOp BinOp.eql 30 (Operand.tmp 5) (Operand.const (Value.pointer none)) 30)
  refine opsF_end (fun ρ => ρ 0 = (.pointer (some ⟨g, 0, none⟩) : Value) ∧ ρ 1 = (v : Value) ∧ ρ 6 = (.bool (false) : Value) ∧ True) ⟨T0, T1, rfl, trivial⟩ fun ρ3 ⟨T0, T1, T6, _⟩ => ?_
  refine thenF_normal (hK2 _ _ ?_)
  refine wpF_false (show _ = (.bool (false) : Value) from T6) ?_
  refine wpF_skip ?_
  refine thenF_normal (hK1 _ _ ?_)
  refine wpF_seq_k fun K4 hK4 => ?_
  refine wpF_text ?_
  refine opsF_step rfl (YieldsK.move (show _ = (.pointer (some ⟨g, 0, none⟩) : Value) from T0) ?_)    -- sha.go:67 t7 := (Op.move (Operand.tmp 0))
  refine opsF_step rfl (YieldsK.nilCheck (show _ = (.pointer (some ⟨g, 0, none⟩) : Value) from rfl) ?_)    -- sha.go:67 t8 := (Op.nilCheck (Operand.tmp 7))
  refine opsF_step rfl (YieldsK.fieldAt sha8_fo48_3 (show _ = (.pointer (some ⟨g, 0, none⟩) : Value) from rfl) ?_)    -- sha.go:67 t9 := (Op.fieldAddr 48 (Operand.tmp 8) 3)
  refine opsF_step rfl (YieldsK.cell1 sha8_ty3 rfl (show _ = (.pointer (some ⟨g, 73, none⟩) : Value) from rfl) (cellAt hb0 (hashL_size hs hr)) ?_)    -- sha.go:67 t10 := (Op.load 3 (Operand.tmp 9))
  refine opsF_step rfl (YieldsK.move (show _ = (v : Value) from T1) ?_)    -- sha.go:67 t11 := (Op.move (Operand.tmp 1))
  refine opsF_step rfl (YieldsK.lenRB sha8_ty22 (RB.of hc (show _ = (v : Value) from rfl)) ?_)    -- sha.go:67 t12 := (Op.call { callee := (Callee.builtin Builtin.len), args := #[(Operand.tmp 11)], argTypes := #[22] })
  refine opsF_step rfl (YieldsK.bin (xv := .int .i64 ((p.length : Nat) : Int)) (yv := .int .i64 (((([] : List UInt8) : List UInt8).length : Nat) : Int)) (show _ = (.int .i64 ((p.length : Nat) : Int) : Value) from rfl) (show _ = (.int .i64 (((([] : List UInt8) : List UInt8).length : Nat) : Int) : Value) from rfl) rfl (i64_add _ (p.length) ((([] : List UInt8) : List UInt8).length) (by simp; omega)) ?_)    -- sha.go:67 t13 := (Op.binOp BinOp.add 3 (Operand.tmp 10) (Operand.tmp 12) 3)
  refine opsF_step rfl (YieldsK.nilCheck (show _ = (.pointer (some ⟨g, 0, none⟩) : Value) from rfl) ?_)    -- sha.go:67 t14 := (Op.nilCheck (Operand.tmp 7))
  refine opsF_step rfl (YieldsK.fieldAt sha8_fo48_3 (show _ = (.pointer (some ⟨g, 0, none⟩) : Value) from rfl) ?_)    -- sha.go:67 t15 := (Op.fieldAddr 48 (Operand.tmp 14) 3)
  refine opsF_step rfl (YieldsK.storeC (i := 73) (v := .int .i64 (((p.length) + ((([] : List UInt8) : List UInt8).length) : Nat) : Int)) (show _ = (.pointer (some ⟨g, 73, none⟩) : Value) from rfl) (show _ = (.int .i64 (((p.length) + ((([] : List UInt8) : List UInt8).length) : Nat) : Int) : Value) from rfl) hb0 (by rw [hashL_length hs hr]; omega) sha8_isz3 rfl rfl fun w5 hb6 hg7 hs8 => ?_)    -- sha.go:67 tNone := (Op.store 3 (Operand.tmp 15) (Operand.tmp 13))
  clear hb0
  have hc : RB w5 v ([] : List UInt8) := RB.nilAny hc
  have hgr : w.grownBy w5 (some g) := grownBy_trans hgr hg7 (fun _ e => .inl e)
  have hb0 := hb6; clear hb6
  have hl9 : g < w5.heap.size := (Array.getElem?_eq_some_iff.1 hb0).1
  refine opsF_end (fun ρ => ρ 0 = (.pointer (some ⟨g, 0, none⟩) : Value) ∧ ρ 1 = (v : Value) ∧ ρ 6 = (.bool (false) : Value) ∧ True) ⟨T0, T1, T6, trivial⟩ fun ρ10 ⟨T0, T1, T6, _⟩ => ?_
  have hb0 : w5.heap[g]? = some (.cells (hashL s r f p.length).toArray 48 (0, 0)) := blk_eq hb0 (hashL_setSize hs hr)
  refine thenF_normal (hK4 _ _ ?_)
  refine wpF_block ?_
  refine wpF_loop (fun (ρ : Slots) (wz : World) => ρ 0 = (.pointer (some ⟨g, 0, none⟩) : Value) ∧ ρ 6 = (.bool (false) : Value) ∧ ρ 1 = (v : Value) ∧ RB wz v ([] : List UInt8) ∧ w.grownBy wz (some g) ∧ wz.heap[g]? = some (.cells (hashL s r f p.length).toArray 48 (0, 0)) ∧ True) (fun ρ _ => 0) ⟨T0, T6, T1, hc, hgr, hb0, trivial⟩ ?_
  clear hc hgr hb0
  rintro ρ11 w12 ⟨T0, T6, T1, hc, hgr, hb0, -⟩
  refine wpF_seq_k fun K13 hK13 => ?_
  refine wpF_seq_k fun K14 hK14 => ?_
  refine wpF_text ?_
  refine opsF_step rfl (YieldsK.move (show _ = (v : Value) from T1) ?_)    -- sha.go:68 t16 := (Op.move (Operand.tmp 1))
  refine opsF_step rfl (YieldsK.lenRB sha8_ty22 (RB.of hc (show _ = (v : Value) from rfl)) ?_)    -- sha.go:68 t17 := (Op.call { callee := (Callee.builtin Builtin.len), args := #[(Operand.tmp 16)], argTypes := #[22] })
  refine opsF_step rfl (YieldsK.eqI (a := (((([] : List UInt8) : List UInt8).length : Nat) : Int)) (b := ((0 : Nat) : Int)) (show _ = (.int .i64 (((([] : List UInt8) : List UInt8).length : Nat) : Int) : Value) from rfl) (show _ = (.int .i64 ((0 : Nat) : Int) : Value) from rfl) (k_gtr _ .i64 ((([] : List UInt8) : List UInt8).length) (0)) ?_)    -- sha.go:68 t18 := (Op.binOp BinOp.gtr 3 (Operand.tmp 17) (Operand.const (Value.int IntKind.i64 0)) 3)
  refine opsF_end (fun ρ => ρ 0 = (.pointer (some ⟨g, 0, none⟩) : Value) ∧ ρ 1 = (v : Value) ∧ ρ 6 = (.bool (false) : Value) ∧ ρ 18 = (.bool (decide ((0) < ((([] : List UInt8) : List UInt8).length))) : Value) ∧ True) ⟨T0, T1, T6, rfl, trivial⟩ fun ρ15 ⟨T0, T1, T6, T18, _⟩ => ?_
  refine thenF_normal (hK14 _ _ ?_)
  refine wpF_false (show _ = Value.bool false from ((show _ = (.bool (decide ((0) < ((([] : List UInt8) : List UInt8).length))) : Value) from T18)).trans (congrArg Value.bool (decide_eq_false (by simp)))) ?_
  refine wpF_exit (thenF_exit (thenF_exit (inBlockF_hit ?_)))
  refine postF_end (fn := Tryd.f13) [] rfl [] (.tuple #[]) rfl trivial ?_
  exact ⟨rfl, ⟨s, r, hat, by rw [← hf]; exact hb0⟩, hgr⟩

theorem write_all (w : World) (hG : Laid w) (g : Nat) (hh : 1 < g) (p : List UInt8) (hH : HashAt w g p) (v : Value) (c : List UInt8) (hc : RB w v c) (hv : 0 < c.length → v.ownBlock ≠ some g) (hb : p.length + c.length < 4611686018427387904) :
    Calls Tryd.prog 13 #[.pointer (some ⟨g, 0, none⟩), v] w fun e w' => e = .returned (.tuple #[]) ∧ HashAt w' g (p ++ c) ∧ w.grownBy w' (some g) := by
  by_cases h0 : 0 < c.length
  · exact write_any w hG g hh p hH v c hc (hv h0) hb
  · have : c = [] := List.eq_nil_of_length_eq_zero (by omega)
    subst this
    rw [List.append_nil]
    exact writeEmpty_any w g p hH v hc (by simpa using hb)

theorem sum_any (w : World) (hG : Laid w) (v : Value) (ls : List (List UInt8)) (hls : RBs w v ls) (hb : ls.flatten.length < 1152921504606846976) (hlen : ls.length < 1152921504606846976) :
        Calls Tryd.prog 8 #[v] w fun e w' => e = .returned (.agg (Lib.byteCells (Sha.sum ls.flatten)).toArray) ∧ Ext w w' := by
  have hw2 : 1 < w.heap.size := hG.two
  refine calls_of_wpF (args := [v]) Tryd.func8 rfl 19 rfl (Nat.le_of_ble_eq_true rfl) ?_
  intro ρ0 hb
  have T0 : ρ0 0 = (v : Value) := hb.get 0
  clear hb
  have hE := Ext.refl w
  refine wpF_seq_k fun K1 hK1 => ?_
  refine wpF_text ?_
  refine opsF_step rfl (YieldsK.alloc (cs := (Lib.byteCells (List.replicate 32 0)).toArray) sha8_al24 fun n2 w3 hn4 hb5 hx6 hs7 => ?_)    -- sha.go:110 t2 := (Op.alloc 24)
  have hE : Ext w w3 := (hE.trans hx6)
  have hb8 := hb5; clear hb5
  have hl9 : n2 < w3.heap.size := by omega
  refine opsF_end (fun ρ => ρ 0 = (v : Value) ∧ ρ 2 = (.pointer (some ⟨n2, 0, none⟩) : Value) ∧ True) ⟨T0, rfl, trivial⟩ fun ρ10 ⟨T0, T2, _⟩ => ?_
  refine thenF_normal (hK1 _ _ ?_)
  refine wpF_seq_k fun K11 hK11 => ?_
  refine wpF_text ?_
  refine opsF_step rfl (YieldsK.callA0 sha8_pl12  ?_)    -- sha.go:111 t6 := (Op.call { callee := (Callee.value (Operand.func 12)), args := #[], argTypes := #[] })
  refine (new_any _ (hG.keep hE)).mono ?_
  rintro e w15 ⟨gH, rfl, hn14, hH13, hx12⟩
  refine ⟨_, rfl, ?_⟩
  have hA16 := Ext.refl w3
  have hea17 := hE
  have hz18 : w.heap.size ≤ w3.heap.size := hE.size
  have hlt19 : n2 < gH := by have := (Array.getElem?_eq_some_iff.1 hb8).1; omega
  have hE : Ext w w15 := (hE.trans hx12)
  have hb8 : w15.heap[n2]? = some (.cells (Lib.byteCells (List.replicate 32 0)).toArray 24 (0, 0)) := (Ext.blk' hx12 hb8)
  have hA16 : Ext w3 w15 := (hA16.trans hx12)
  refine opsF_step rfl (YieldsK.assign (show _ = (.pointer (some ⟨gH, 0, none⟩) : Value) from rfl) ?_)    -- sha.go:111 t3 := (Op.assign (Operand.tmp 6))
  refine opsF_end (fun ρ => ρ 0 = (v : Value) ∧ ρ 2 = (.pointer (some ⟨n2, 0, none⟩) : Value) ∧ ρ 3 = (.pointer (some ⟨gH, 0, none⟩) : Value) ∧ True) ⟨T0, T2, rfl, trivial⟩ fun ρ20 ⟨T0, T2, T3, _⟩ => ?_
  refine thenF_normal (hK11 _ _ ?_)
  refine wpF_seq_k fun K21 hK21 => ?_
  refine wpF_seq_k fun K22 hK22 => ?_
  refine wpF_text ?_
  refine opsF_step rfl (YieldsK.move (show _ = (v : Value) from T0) ?_)    -- sha.go:112 t7 := (Op.move (Operand.tmp 0))
  refine opsF_step rfl (YieldsK.lenRBs sha8_ty35 (RBs.of (hls.keep hE) (show _ = (v : Value) from rfl)) ?_)    -- sha.go:112 t8 := (Op.call { callee := (Callee.builtin Builtin.len), args := #[(Operand.tmp 7)], argTypes := #[35] })
  refine opsF_step rfl (YieldsK.move (show _ = (.int .i64 ((0 : Nat) : Int) : Value) from rfl) ?_)    -- sha.go:112 t9 := (Op.move (Operand.const (Value.int IntKind.i64 0)))
  refine opsF_end (fun ρ => ρ 0 = (v : Value) ∧ ρ 2 = (.pointer (some ⟨n2, 0, none⟩) : Value) ∧ ρ 3 = (.pointer (some ⟨gH, 0, none⟩) : Value) ∧ ρ 7 = (v : Value) ∧ ρ 8 = (.int .i64 ((ls.length : Nat) : Int) : Value) ∧ ρ 9 = (.int .i64 ((0 : Nat) : Int) : Value) ∧ True) ⟨T0, T2, T3, rfl, rfl, rfl, trivial⟩ fun ρ23 ⟨T0, T2, T3, T7, T8, T9, _⟩ => ?_
  refine thenF_normal (hK22 _ _ ?_)
  refine wpF_block ?_
  refine wpF_loop (fun (ρ : Slots) (wz : World) => ∃ i : Nat, ρ 0 = (v : Value) ∧ ρ 2 = (.pointer (some ⟨n2, 0, none⟩) : Value) ∧ ρ 3 = (.pointer (some ⟨gH, 0, none⟩) : Value) ∧ ρ 7 = (v : Value) ∧ ρ 8 = (.int .i64 ((ls.length : Nat) : Int) : Value) ∧ ρ 9 = (.int .i64 ((i : Nat) : Int) : Value) ∧ Ext w wz ∧ wz.heap[n2]? = some (.cells (Lib.byteCells (List.replicate 32 0)).toArray 24 (0, 0)) ∧ Ext w3 wz ∧ HashAt wz gH ((ls.take i).flatten) ∧ (i ≤ ls.length) ∧ True) (fun ρ _ => ls.length - (intOf (ρ 9)).toNat) ⟨0, T0, T2, T3, T7, T8, T9, hE, hb8, hA16, by simpa using hH13, Nat.zero_le _, trivial⟩ ?_
  clear hH13
  clear hE hb8 hA16
  rintro ρ24 w25 ⟨i, T0, T2, T3, T7, T8, T9, hE, hb8, hA16, hHi, hi, -⟩
  have q9 := T9
  refine wpF_seq_k fun K26 hK26 => ?_
  refine wpF_text ?_
  refine opsF_step rfl (YieldsK.eqI (a := ((i : Nat) : Int)) (b := ((ls.length : Nat) : Int)) (show _ = (.int .i64 ((i : Nat) : Int) : Value) from T9) (show _ = (.int .i64 ((ls.length : Nat) : Int) : Value) from T8) (k_lss _ .i64 (i) (ls.length)) ?_)    -- sha.go:112 t10 := (Op.binOp BinOp.lss 3 (Operand.tmp 9) (Operand.tmp 8) 3)
  refine opsF_end (fun ρ => ρ 0 = (v : Value) ∧ ρ 2 = (.pointer (some ⟨n2, 0, none⟩) : Value) ∧ ρ 3 = (.pointer (some ⟨gH, 0, none⟩) : Value) ∧ ρ 7 = (v : Value) ∧ ρ 8 = (.int .i64 ((ls.length : Nat) : Int) : Value) ∧ ρ 9 = (.int .i64 ((i : Nat) : Int) : Value) ∧ ρ 10 = (.bool (decide ((i) < (ls.length))) : Value) ∧ True) ⟨T0, T2, T3, T7, T8, T9, rfl, trivial⟩ fun ρ27 ⟨T0, T2, T3, T7, T8, T9, T10, _⟩ => ?_
  refine thenF_normal (hK26 _ _ ?_)
  refine wpF_seq_k fun K28 hK28 => ?_
  refine wpF_cond ((i) < (ls.length)) (show _ = (.bool (decide ((i) < (ls.length))) : Value) from T10) (fun hi3 => ?_) (fun hi3 => ?_)
  · refine wpF_skip ?_
    refine thenF_normal (hK28 _ _ ?_)
    refine wpF_seq_k fun K29 hK29 => ?_
    refine wpF_block ?_
    refine wpF_seq_k fun K30 hK30 => ?_
    refine wpF_text ?_
    refine opsF_step rfl (YieldsK.atRBs0 (ls := ls) (i := i) hE sha8_ty35 sha8_sz22 hls (show _ = (v : Value) from T7) (show _ = (.int .i64 ((i : Nat) : Int) : Value) from T9) (hi3) fun v31 u32 hp33 hr34 => ?_)    -- sha.go:112 t11 := (Op.indexAddr 35 (Operand.tmp 7) (Operand.tmp 9))
    refine opsF_step rfl (YieldsK.loadC sha8_ty22 rfl (PCell.of hp33 (show _ = (v31 : Value) from rfl)) ?_)    -- sha.go:112 t12 := (Op.load 22 (Operand.tmp 11))
    refine opsF_step rfl (YieldsK.assign (show _ = (u32 : Value) from rfl) ?_)    -- sha.go:112 t5 := (Op.assign (Operand.tmp 12))
    refine opsF_end (fun ρ => ρ 0 = (v : Value) ∧ ρ 2 = (.pointer (some ⟨n2, 0, none⟩) : Value) ∧ ρ 3 = (.pointer (some ⟨gH, 0, none⟩) : Value) ∧ ρ 5 = (u32 : Value) ∧ ρ 7 = (v : Value) ∧ ρ 8 = (.int .i64 ((ls.length : Nat) : Int) : Value) ∧ ρ 9 = (.int .i64 ((i : Nat) : Int) : Value) ∧ True) ⟨T0, T2, T3, rfl, T7, T8, T9, trivial⟩ fun ρ35 ⟨T0, T2, T3, T5, T7, T8, T9, _⟩ => ?_
    clear hp33
    refine thenF_normal (hK30 _ _ ?_)
    refine wpF_text ?_
    refine opsF_step rfl (YieldsK.move (show _ = (.pointer (some ⟨gH, 0, none⟩) : Value) from T3) ?_)    -- sha.go:113 t13 := (Op.move (Operand.tmp 3))
    refine opsF_step rfl (YieldsK.move (show _ = (u32 : Value) from T5) ?_)    -- sha.go:113 t14 := (Op.move (Operand.tmp 5))
    refine opsF_step rfl (YieldsK.callA2 sha8_pl13 (show _ = (.pointer (some ⟨gH, 0, none⟩) : Value) from rfl) (show _ = (u32 : Value) from rfl) ?_)    -- sha.go:113 t15 := (Op.call { callee := (Callee.value (Operand.func 13)), args := #[(Operand.tmp 13), (Operand.tmp 14)], argTypes
    refine (write_all _ (hG.keep hE) gH (by omega) ((ls.take i).flatten) hHi u32 (ls.getD (i) []) (hr34.keep hE) (fun h0 hb => by have := RB.lt hr34 h0 hb; omega) (by have := flatten_take_le ls i hi3; omega)).mono ?_
    rintro e w38 ⟨rfl, hH36, hg37⟩
    refine ⟨_, rfl, ?_⟩
    have hE : Ext w w38 := row_fresh hE hg37 (Nat.le_trans hz18 hn14)
    have hb8 : w38.heap[n2]? = some (.cells (Lib.byteCells (List.replicate 32 0)).toArray 24 (0, 0)) := (hg37.block _ (Array.getElem?_eq_some_iff.1 hb8).1 (by simp; omega)).trans hb8
    have hA16 : Ext w3 w38 := row_fresh hA16 hg37 (Nat.le_trans (Nat.le_refl _) hn14)
    clear hHi
    refine opsF_end (fun ρ => ρ 0 = (v : Value) ∧ ρ 2 = (.pointer (some ⟨n2, 0, none⟩) : Value) ∧ ρ 3 = (.pointer (some ⟨gH, 0, none⟩) : Value) ∧ ρ 5 = (u32 : Value) ∧ ρ 7 = (v : Value) ∧ ρ 8 = (.int .i64 ((ls.length : Nat) : Int) : Value) ∧ ρ 9 = (.int .i64 ((i : Nat) : Int) : Value) ∧ True) ⟨T0, T2, T3, T5, T7, T8, T9, trivial⟩ fun ρ39 ⟨T0, T2, T3, T5, T7, T8, T9, _⟩ => ?_
    refine inBlockF_normal ?_
    refine thenF_normal (hK29 _ _ ?_)
    refine wpF_text ?_
    refine opsF_step rfl (YieldsK.bin (xv := .int .i64 ((i : Nat) : Int)) (yv := .int .i64 ((1 : Nat) : Int)) (show _ = (.int .i64 ((i : Nat) : Int) : Value) from T9) (show _ = (.int .i64 ((1 : Nat) : Int) : Value) from rfl) rfl (i64_add _ (i) (1) (by have := hlen; omega)) ?_)    -- sha.go:112 t16 := (Op.binOp BinOp.add 3 (Operand.tmp 9) (Operand.const (Value.int IntKind.i64 1)) 3)
    refine opsF_step rfl (YieldsK.move (show _ = (.int .i64 (((i) + (1) : Nat) : Int) : Value) from rfl) ?_)    -- sha.go:112 t9 := (Op.move (Operand.tmp 16))
    refine opsF_end (fun ρ => ρ 0 = (v : Value) ∧ ρ 2 = (.pointer (some ⟨n2, 0, none⟩) : Value) ∧ ρ 3 = (.pointer (some ⟨gH, 0, none⟩) : Value) ∧ ρ 5 = (u32 : Value) ∧ ρ 7 = (v : Value) ∧ ρ 8 = (.int .i64 ((ls.length : Nat) : Int) : Value) ∧ ρ 9 = (.int .i64 (((i) + (1) : Nat) : Int) : Value) ∧ True) ⟨T0, T2, T3, T5, T7, T8, rfl, trivial⟩ fun ρ40 ⟨T0, T2, T3, T5, T7, T8, T9, _⟩ => ?_
    refine thenF_normal (And.intro ⟨i + 1, T0, T2, T3, T7, T8, T9, hE, hb8, hA16, (show HashAt _ _ _ from by rw [flatten_take ls i hi3]; exact hH36), by omega, trivial⟩ ?_)
    show ls.length - (intOf (ρ40 9)).toNat < ls.length - (intOf (ρ24 9)).toNat
    rw [T9, q9]
    simp only [intOf, Int.toNat_natCast]; omega
  · have hfl : (ls.take i).flatten = ls.flatten := by rw [List.take_of_length_le (by omega)]
    have hfl2 := congrArg List.length hfl
    refine wpF_exit (thenF_exit (thenF_exit (inBlockF_hit ?_)))
    refine thenF_normal (hK21 _ _ ?_)
    refine wpF_seq_k fun K41 hK41 => ?_
    refine wpF_text ?_
    refine opsF_step rfl (YieldsK.move (show _ = (.pointer (some ⟨gH, 0, none⟩) : Value) from T3) ?_)    -- sha.go:115 t17 := (Op.move (Operand.tmp 3))
    refine opsF_step rfl (YieldsK.callA1 sha8_pl14 (show _ = (.pointer (some ⟨gH, 0, none⟩) : Value) from rfl) ?_)    -- sha.go:115 t18 := (Op.call { callee := (Callee.value (Operand.func 14)), args := #[(Operand.tmp 17)], argTypes := #[30] })
    refine (sumAt_any _ (hG.keep hE) gH ((ls.take i).flatten) hHi (by omega)).mono ?_
    rintro e w43 ⟨rfl, hx42⟩
    refine ⟨_, rfl, ?_⟩
    have hE : Ext w w43 := (hE.trans hx42)
    have hb8 : w43.heap[n2]? = some (.cells (Lib.byteCells (List.replicate 32 0)).toArray 24 (0, 0)) := (Ext.blk' hx42 hb8)
    have hA16 : Ext w3 w43 := (hA16.trans hx42)
    have hHi : HashAt w43 gH ((ls.take i).flatten) := (hHi.keep hx42)
    refine opsF_step rfl (YieldsK.storeAll (show _ = (.pointer (some ⟨n2, 0, none⟩) : Value) from T2) (show _ = (.agg (Lib.byteCells (Sha.sum ((ls.take i).flatten))).toArray : Value) from rfl) hb8 (by rw [List.size_toArray, Lib.byteCells_length, Sha.sum_length]; rfl) (by rw [List.size_toArray, Lib.byteCells_length, Sha.sum_length]; exact sha8_isz24) (byteCells_one _) fun w44 hb45 hg46 hs47 => ?_)    -- sha.go:115 tNone := (Op.store 24 (Operand.tmp 2) (Operand.tmp 18))
    have hE : Ext w w44 := row_fresh hE hg46 (Nat.le_trans (Nat.le_refl _) (by omega))
    clear hb8
    clear hA16
    have hHi : HashAt w44 gH ((ls.take i).flatten) := HashAt.other hHi hg46 (by omega)
    have hb8 := hb45; clear hb45
    have hl48 : n2 < w44.heap.size := (Array.getElem?_eq_some_iff.1 hb8).1
    refine opsF_end (fun ρ => ρ 0 = (v : Value) ∧ ρ 2 = (.pointer (some ⟨n2, 0, none⟩) : Value) ∧ ρ 3 = (.pointer (some ⟨gH, 0, none⟩) : Value) ∧ ρ 7 = (v : Value) ∧ ρ 8 = (.int .i64 ((ls.length : Nat) : Int) : Value) ∧ ρ 9 = (.int .i64 ((i : Nat) : Int) : Value) ∧ True) ⟨T0, T2, T3, T7, T8, T9, trivial⟩ fun ρ49 ⟨T0, T2, T3, T7, T8, T9, _⟩ => ?_
    refine thenF_normal (hK41 _ _ ?_)
    refine wpF_ret ?_
    refine postF_ret (fn := Tryd.f8) _ rfl [.agg (Lib.byteCells (Sha.sum ((ls.take i).flatten))).toArray] (.agg (Lib.byteCells (Sha.sum ((ls.take i).flatten))).toArray) rfl ⟨ResF.row T2 hb8 sha8_ty24 rfl (by rw [List.size_toArray, Lib.byteCells_length, Sha.sum_length]; exact sha8_isz24), trivial⟩ ?_
    rw [hfl]
    exact ⟨rfl, hE⟩
end Go.Proofs.YtcindgknimallaaDoor
