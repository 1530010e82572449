/- sha.Hash: New, Len, Write. -/
import Derived.Test.YtcindgknimallaaDoorOps
import Derived.Test.YtcindgknimallaaDoorHash
namespace Go.Proofs.YtcindgknimallaaDoor
open Go.RowKit
/-- A Hash, to which the bytes p were written, lies at g. -/
def HashAt (w : World) (g : Nat) (p : List UInt8) : Prop := ∃ s r, Sha.At p s r ∧ w.heap[g]? = some (.cells (hashL s r (p.length % 64) p.length).toArray 48 (0, 0))
theorem HashAt.keep {w w' : World} {g : Nat} {p : List UInt8} (h : HashAt w g p) (k : Ext w w') : HashAt w' g p := by
  obtain ⟨s, r, h1, h2⟩ := h
  exact ⟨s, r, h1, Ext.blk' k h2⟩
theorem HashAt.lt {w : World} {g : Nat} {p : List UInt8} (h : HashAt w g p) : g < w.heap.size := by
  obtain ⟨s, r, h1, h2⟩ := h
  exact (Array.getElem?_eq_some_iff.1 h2).1
theorem sha6_ty41 : Tryd.prog.underlying 41 = some (.array 8 40) := by kernel_rfl
theorem sha6_isz41 : (Tryd.prog.info? 41).map (·.size) = some 8 := by kernel_rfl
theorem sha6_ty30 : Tryd.prog.underlying 30 = some (.pointer 48) := by kernel_rfl
theorem sha6_fo48_3 : FieldOff Tryd.prog 48 3 73 := fun b o w => by simp [go_sem]
theorem sha6_ty3 : Tryd.prog.underlying 3 = some (.int .i64) := by kernel_rfl
theorem sha6_ty22 : Tryd.prog.underlying 22 = some (.slice 5) := by kernel_rfl
theorem sha6_isz3 : (Tryd.prog.info? 3).map (·.size) = some 1 := by kernel_rfl
theorem sha6_fo48_1 : FieldOff Tryd.prog 48 1 8 := fun b o w => by simp [go_sem]
theorem sha6_fo48_2 : FieldOff Tryd.prog 48 2 72 := fun b o w => by simp [go_sem]
theorem sha6_ty46 : Tryd.prog.underlying 46 = some (.array 64 5) := by kernel_rfl
theorem sha6_sz5 : ∀ w' : World, (sizeOf 5).run Tryd.prog w' = .ok 1 w' := fun _ => by kernel_rfl
theorem sha6_isz5 : (Tryd.prog.info? 5).map (·.size) = some 1 := by kernel_rfl
theorem sha6_fo48_0 : FieldOff Tryd.prog 48 0 0 := fun b o w => by simp [go_sem]
theorem sha6_pl19 : Plain Tryd.prog 19 := fun _ _ => by kernel_rfl
theorem new_any (w : World) (hG : Laid w) :
    Calls Tryd.prog 12 #[] w fun e w' => ∃ g, e = .returned (.pointer (some ⟨g, 0, none⟩)) ∧ w.heap.size ≤ g ∧ HashAt w' g [] ∧ Ext w w' := by
  obtain ⟨tF, fF, hF0⟩ := hG.first
  refine calls_of_wpF (args := []) Tryd.func12 rfl 4 rfl (Nat.le_of_ble_eq_true rfl) ?_
  intro ρ0 hb
  clear hb
  have hE := Ext.refl w
  refine wpF_seq_k fun K1 hK1 => ?_
  refine wpF_text ?_
  refine opsF_step rfl (YieldsK.assign (show _ = (.pointer none : Value) from rfl) ?_)    -- sha.go:25 t0 := (Op.assign (Operand.const (Value.pointer none)))
  refine opsF_end (fun ρ => ρ 0 = (.pointer none : Value) ∧ True) ⟨rfl, trivial⟩ fun ρ2 ⟨T0, _⟩ => ?_
  refine thenF_normal (hK1 _ _ ?_)
  refine wpF_seq_k fun K3 hK3 => ?_
  refine wpF_text ?_
  refine opsF_step rfl (YieldsK.loadAll (show _ = (.pointer (some ⟨0, 0, none⟩) : Value) from rfl) (Ext.blk' hE hF0) sha6_ty41 rfl sha6_isz41 ?_)    -- sha.go:25 t1 := (Op.load 41 (Operand.global 0))
  refine opsF_step rfl (YieldsK.run (v := .agg (hashL Sha.first (List.replicate 64 0) 0 0).toArray) (by kernel_rfl) ?_)    -- sha.go:25 t2 := (Op.build 48 #[(0, (Operand.tmp 1))])
  refine opsF_step rfl (YieldsK.box (cs := (hashL Sha.first (List.replicate 64 0) 0 0).toArray) (show _ = (.agg (hashL Sha.first (List.replicate 64 0) 0 0).toArray : Value) from rfl) fun n4 w5 hn6 hb7 hx8 hs9 => ?_)    -- sha.go:25 t3 := (Op.box 48 (Operand.tmp 2))
  have hE : Ext w w5 := (hE.trans hx8)
  have hb10 := hb7; clear hb7
  have hl11 : n4 < w5.heap.size := by omega
  refine opsF_step rfl (YieldsK.assign (show _ = (.pointer (some ⟨n4, 0, none⟩) : Value) from rfl) ?_)    -- sha.go:25 t0 := (Op.assign (Operand.tmp 3))
  refine opsF_end (fun ρ => ρ 0 = (.pointer (some ⟨n4, 0, none⟩) : Value) ∧ True) ⟨rfl, trivial⟩ fun ρ12 ⟨T0, _⟩ => ?_
  refine thenF_normal (hK3 _ _ ?_)
  refine wpF_ret ?_
  refine postF_ret (fn := Tryd.f12) _ rfl [.pointer (some ⟨n4, 0, none⟩)] (.pointer (some ⟨n4, 0, none⟩)) rfl ⟨T0, trivial⟩ ?_
  exact ⟨_, rfl, by omega, ⟨_, _, Sha.at_nil, hb10⟩, hE⟩

theorem len_any (w : World) (g : Nat) (p : List UInt8) (hH : HashAt w g p) :
    Calls Tryd.prog 15 #[.pointer (some ⟨g, 0, none⟩)] w fun e w' => e = .returned (NI p.length) ∧ Ext w w' := by
  obtain ⟨s, r, hat, hb0⟩ := hH
  have hs := hat.slen
  have hr := hat.len
  refine calls_of_wpF (args := [.pointer (some ⟨g, 0, none⟩)]) Tryd.func15 rfl 9 rfl (Nat.le_of_ble_eq_true rfl) ?_
  intro ρ0 hb
  have T0 : ρ0 0 = (.pointer (some ⟨g, 0, none⟩) : Value) := hb.get 0
  clear hb
  have hE := Ext.refl w
  refine wpF_seq_k fun K1 hK1 => ?_
  refine wpF_text ?_
  refine opsF_step rfl (YieldsK.assign (show _ = (.int .i64 ((0 : Nat) : Int) : Value) from rfl) ?_)    -- sha.go:80 t2 := (Op.assign (Operand.const (Value.int IntKind.i64 0)))
  refine opsF_end (fun ρ => ρ 0 = (.pointer (some ⟨g, 0, none⟩) : Value) ∧ ρ 2 = (.int .i64 ((0 : Nat) : Int) : Value) ∧ True) ⟨T0, rfl, trivial⟩ fun ρ2 ⟨T0, T2, _⟩ => ?_
  refine thenF_normal (hK1 _ _ ?_)
  refine wpF_seq_k fun K3 hK3 => ?_
  refine wpF_seq_k fun K4 hK4 => ?_
  refine wpF_text ?_
  refine opsF_step rfl (YieldsK.move (show _ = (.pointer (some ⟨g, 0, none⟩) : Value) from T0) ?_)    -- sha.go:81 t3 := (Op.move (Operand.tmp 0))
  refine opsF_step rfl (YieldsK.eqlNil sha6_ty30 (show _ = (.pointer (some ⟨g, 0, none⟩) : Value) from rfl) ?_)    -- sha.go:81 t4 := (Op.binOp BinOp.eql 30 (Operand.tmp 3) (Operand.const (Value.pointer none)) 30)
  refine opsF_end (fun ρ => ρ 0 = (.pointer (some ⟨g, 0, none⟩) : Value) ∧ ρ 2 = (.int .i64 ((0 : Nat) : Int) : Value) ∧ ρ 4 = (.bool (false) : Value) ∧ True) ⟨T0, T2, rfl, trivial⟩ fun ρ5 ⟨T0, T2, T4, _⟩ => ?_
  refine thenF_normal (hK4 _ _ ?_)
  refine wpF_false (show _ = (.bool (false) : Value) from T4) ?_
  refine wpF_skip ?_
  refine thenF_normal (hK3 _ _ ?_)
  refine wpF_seq_k fun K6 hK6 => ?_
  refine wpF_text ?_
  refine opsF_step rfl (YieldsK.move (show _ = (.pointer (some ⟨g, 0, none⟩) : Value) from T0) ?_)    -- sha.go:84 t5 := (Op.move (Operand.tmp 0))
  refine opsF_step rfl (YieldsK.nilCheck (show _ = (.pointer (some ⟨g, 0, none⟩) : Value) from rfl) ?_)    -- sha.go:84 t6 := (Op.nilCheck (Operand.tmp 5))
  refine opsF_step rfl (YieldsK.fieldAt sha6_fo48_3 (show _ = (.pointer (some ⟨g, 0, none⟩) : Value) from rfl) ?_)    -- sha.go:84 t7 := (Op.fieldAddr 48 (Operand.tmp 6) 3)
  refine opsF_step rfl (YieldsK.cell1 sha6_ty3 rfl (show _ = (.pointer (some ⟨g, 73, none⟩) : Value) from rfl) (cellAt hb0 (hashL_size hs hr)) ?_)    -- sha.go:84 t8 := (Op.load 3 (Operand.tmp 7))
  refine opsF_step rfl (YieldsK.assign (show _ = (.int .i64 ((p.length : Nat) : Int) : Value) from rfl) ?_)    -- sha.go:84 t2 := (Op.assign (Operand.tmp 8))
  refine opsF_end (fun ρ => ρ 0 = (.pointer (some ⟨g, 0, none⟩) : Value) ∧ ρ 2 = (.int .i64 ((p.length : Nat) : Int) : Value) ∧ ρ 4 = (.bool (false) : Value) ∧ True) ⟨T0, rfl, T4, trivial⟩ fun ρ7 ⟨T0, T2, T4, _⟩ => ?_
  refine thenF_normal (hK6 _ _ ?_)
  refine wpF_ret ?_
  refine postF_ret (fn := Tryd.f15) _ rfl [.int .i64 ((p.length : Nat) : Int)] (.int .i64 ((p.length : Nat) : Int)) rfl ⟨T2, trivial⟩ ?_
  exact ⟨rfl, hE⟩

theorem write_any (w : World) (hG : Laid w) (g : Nat) (hh : 1 < g) (p : List UInt8) (hH : HashAt w g p) (v : Value) (c : List UInt8) (hc : RB w v c) (hv : v.ownBlock ≠ some g) (hb : p.length + c.length < 4611686018427387904) :
    Calls Tryd.prog 13 #[.pointer (some ⟨g, 0, none⟩), v] w fun e w' => e = .returned (.tuple #[]) ∧ HashAt w' g (p ++ c) ∧ w.grownBy w' (some g) := by
  obtain ⟨s, r, hat, hb0⟩ := hH
  have hs := hat.slen
  have hr := hat.len
  obtain ⟨f, hf⟩ : ∃ f, f = p.length % 64 := ⟨_, rfl⟩
  rw [← hf] at hb0
  obtain ⟨N, hN⟩ : ∃ N, p.length + c.length = N := ⟨_, rfl⟩
  have hgr : w.grownBy w (some g) := World.grownBy.refl _ _
  refine calls_of_wpF (args := [.pointer (some ⟨g, 0, none⟩), v]) Tryd.func13 rfl 60 rfl (Nat.le_of_ble_eq_true rfl) ?_
  intro ρ0 hb
  have T0 : ρ0 0 = (.pointer (some ⟨g, 0, none⟩) : Value) := hb.get 0
  have T1 : ρ0 1 = (v : Value) := hb.get 1
  clear hb
  refine wpF_seq_k fun K1 hK1 => ?_
  refine wpF_seq_k fun K2 hK2 => ?_
  refine wpF_text ?_
  refine opsF_step rfl (YieldsK.move (show _ = (.pointer (some ⟨g, 0, none⟩) : Value) from T0) ?_)    -- sha.go:64 t5 := (Op.move (Operand.tmp 0))
  refine opsF_step rfl (YieldsK.eqlNil sha6_ty30 (show _ = (.pointer (some ⟨g, 0, none⟩) : Value) from rfl) ?_)    -- sha.go:64 t6 := (Op.binOp BinOp.eql 30 (Operand.tmp 5) (Operand.const (Value.pointer none)) 30)
  refine opsF_end (fun ρ => ρ 0 = (.pointer (some ⟨g, 0, none⟩) : Value) ∧ ρ 1 = (v : Value) ∧ ρ 6 = (.bool (false) : Value) ∧ True) ⟨T0, T1, rfl, trivial⟩ fun ρ3 ⟨T0, T1, T6, _⟩ => ?_
  refine thenF_normal (hK2 _ _ ?_)
  refine wpF_false (show _ = (.bool (false) : Value) from T6) ?_
  refine wpF_skip ?_
  refine thenF_normal (hK1 _ _ ?_)
  refine wpF_seq_k fun K4 hK4 => ?_
  refine wpF_text ?_
  refine opsF_step rfl (YieldsK.move (show _ = (.pointer (some ⟨g, 0, none⟩) : Value) from T0) ?_)    -- sha.go:67 t7 := (Op.move (Operand.tmp 0))
  refine opsF_step rfl (YieldsK.nilCheck (show _ = (.pointer (some ⟨g, 0, none⟩) : Value) from rfl) ?_)    -- sha.go:67 t8 := (Op.nilCheck (Operand.tmp 7))
  refine opsF_step rfl (YieldsK.fieldAt sha6_fo48_3 (show _ = (.pointer (some ⟨g, 0, none⟩) : Value) from rfl) ?_)    -- sha.go:67 t9 := (Op.fieldAddr 48 (Operand.tmp 8) 3)
  refine opsF_step rfl (YieldsK.cell1 sha6_ty3 rfl (show _ = (.pointer (some ⟨g, 73, none⟩) : Value) from rfl) (cellAt hb0 (hashL_size hs hr)) ?_)    -- sha.go:67 t10 := (Op.load 3 (Operand.tmp 9))
  refine opsF_step rfl (YieldsK.move (show _ = (v : Value) from T1) ?_)    -- sha.go:67 t11 := (Op.move (Operand.tmp 1))
  refine opsF_step rfl (YieldsK.lenRB sha6_ty22 (RB.of hc (show _ = (v : Value) from rfl)) ?_)    -- sha.go:67 t12 := (Op.call { callee := (Callee.builtin Builtin.len), args := #[(Operand.tmp 11)], argTypes := #[22] })
  refine opsF_step rfl (YieldsK.bin (xv := .int .i64 ((p.length : Nat) : Int)) (yv := .int .i64 ((c.length : Nat) : Int)) (show _ = (.int .i64 ((p.length : Nat) : Int) : Value) from rfl) (show _ = (.int .i64 ((c.length : Nat) : Int) : Value) from rfl) rfl (i64_add _ (p.length) (c.length) (by omega)) ?_)    -- sha.go:67 t13 := (Op.binOp BinOp.add 3 (Operand.tmp 10) (Operand.tmp 12) 3)
  refine opsF_step rfl (YieldsK.nilCheck (show _ = (.pointer (some ⟨g, 0, none⟩) : Value) from rfl) ?_)    -- sha.go:67 t14 := (Op.nilCheck (Operand.tmp 7))
  refine opsF_step rfl (YieldsK.fieldAt sha6_fo48_3 (show _ = (.pointer (some ⟨g, 0, none⟩) : Value) from rfl) ?_)    -- sha.go:67 t15 := (Op.fieldAddr 48 (Operand.tmp 14) 3)
  refine opsF_step rfl (YieldsK.storeC (i := 73) (v := .int .i64 (((p.length) + (c.length) : Nat) : Int)) (show _ = (.pointer (some ⟨g, 73, none⟩) : Value) from rfl) (show _ = (.int .i64 (((p.length) + (c.length) : Nat) : Int) : Value) from rfl) hb0 (by rw [hashL_length hs hr]; omega) sha6_isz3 rfl rfl fun w5 hb6 hg7 hs8 => ?_)    -- sha.go:67 tNone := (Op.store 3 (Operand.tmp 15) (Operand.tmp 13))
  clear hb0
  have hc : RB w5 v c := hc.kept hg7 (.inr hv)
  have hG : Laid w5 := Laid.kept hG hg7 hh
  have hgr : w.grownBy w5 (some g) := grownBy_trans hgr hg7 (fun _ e => .inl e)
  have hb0 := hb6; clear hb6
  have hl9 : g < w5.heap.size := (Array.getElem?_eq_some_iff.1 hb0).1
  refine opsF_end (fun ρ => ρ 0 = (.pointer (some ⟨g, 0, none⟩) : Value) ∧ ρ 1 = (v : Value) ∧ ρ 6 = (.bool (false) : Value) ∧ True) ⟨T0, T1, T6, trivial⟩ fun ρ10 ⟨T0, T1, T6, _⟩ => ?_
  have hb0 : w5.heap[g]? = some (.cells (hashL s r f N).toArray 48 (0, 0)) := blk_eq hb0 (by rw [hashL_setSize hs hr, hN])
  refine thenF_normal (hK4 _ _ ?_)
  refine wpF_block ?_
  refine wpF_loop (fun (ρ : Slots) (wz : World) => ∃ m : Nat, ∃ s1 : List UInt32, ∃ r1 : List UInt8, ∃ f1 : Nat, ∃ v1 : Value, ρ 0 = (.pointer (some ⟨g, 0, none⟩) : Value) ∧ ρ 6 = (.bool (false) : Value) ∧ ρ 1 = (v1 : Value) ∧ Laid wz ∧ w.grownBy wz (some g) ∧ RB wz v1 (c.drop m) ∧ wz.heap[g]? = some (.cells (hashL s1 r1 f1 N).toArray 48 (0, 0)) ∧ (m ≤ c.length) ∧ (Sha.At (p ++ c.take m) s1 r1) ∧ (f1 = (p ++ c.take m).length % 64) ∧ (Value.ownBlock v1 ≠ some g) ∧ True) (fun ρ _ => sliceLen (ρ 1)) ⟨0, s, r, f, v, T0, T6, T1, hG, hgr, hc, blk_eq hb0 (rfl), by omega, by simpa using hat, by simpa using hf, hv, trivial⟩ ?_
  clear hc
  clear hb0
  clear hG hgr
  rintro ρ11 w12 ⟨m, s1, r1, f1, v1, T0, T6, T1, hG, hgr, hc1, hb0l, hm, hat1, hf1, hv1, -⟩
  have q1 := T1
  have ql1 := hc1.sliceLen
  have hs1 := hat1.slen
  have hr1 := hat1.len
  have hf64 : f1 < 64 := by omega
  refine wpF_seq_k fun K13 hK13 => ?_
  refine wpF_seq_k fun K14 hK14 => ?_
  refine wpF_text ?_
  refine opsF_step rfl (YieldsK.move (show _ = (v1 : Value) from T1) ?_)    -- sha.go:68 t16 := (Op.move (Operand.tmp 1))
  refine opsF_step rfl (YieldsK.lenRB sha6_ty22 (RB.of hc1 (show _ = (v1 : Value) from rfl)) ?_)    -- sha.go:68 t17 := (Op.call { callee := (Callee.builtin Builtin.len), args := #[(Operand.tmp 16)], argTypes := #[22] })
  refine opsF_step rfl (YieldsK.eqI (a := (((c.drop m : List UInt8).length : Nat) : Int)) (b := ((0 : Nat) : Int)) (show _ = (.int .i64 (((c.drop m : List UInt8).length : Nat) : Int) : Value) from rfl) (show _ = (.int .i64 ((0 : Nat) : Int) : Value) from rfl) (k_gtr _ .i64 ((c.drop m : List UInt8).length) (0)) ?_)    -- sha.go:68 t18 := (Op.binOp BinOp.gtr 3 (Operand.tmp 17) (Operand.const (Value.int IntKind.i64 0)) 3)
  refine opsF_end (fun ρ => ρ 0 = (.pointer (some ⟨g, 0, none⟩) : Value) ∧ ρ 1 = (v1 : Value) ∧ ρ 6 = (.bool (false) : Value) ∧ ρ 18 = (.bool (decide ((0) < ((c.drop m : List UInt8).length))) : Value) ∧ True) ⟨T0, T1, T6, rfl, trivial⟩ fun ρ15 ⟨T0, T1, T6, T18, _⟩ => ?_
  refine thenF_normal (hK14 _ _ ?_)
  refine wpF_cond ((0) < ((c.drop m : List UInt8).length)) (show _ = (.bool (decide ((0) < ((c.drop m : List UInt8).length))) : Value) from T18) (fun hc1' => ?_) (fun hc1' => ?_)
  · obtain ⟨X, hX⟩ : ∃ X, X = (c.drop m).take (64 - f1) := ⟨_, rfl⟩
    obtain ⟨n, hn⟩ : ∃ n, n = X.length := ⟨_, rfl⟩
    have hxl : X.length = n := hn.symm
    have hcl : (c.drop m).length = c.length - m := List.length_drop
    have hnm : Nat.min (c.drop m).length (64 - f1) = n := by rw [hn, hX, List.length_take]; exact Nat.min_comm _ _
    have hn1 : 0 < n := by rw [← hnm]; exact Nat.lt_min.2 ⟨hc1', by omega⟩
    have hn2 : f1 + n ≤ 64 := by have : n ≤ 64 - f1 := by rw [← hnm]; exact Nat.min_le_right _ _
                                 omega
    have hn3 : n ≤ (c.drop m).length := by rw [← hnm]; exact Nat.min_le_left _ _
    have hXn : X = (c.drop m).take n := by rw [hX, ← hnm]; simp [List.take_eq_take_iff]; exact Nat.min_comm _ _
    have htk : (p ++ c.take m) ++ X = p ++ c.take (m + n) := by rw [List.append_assoc, hXn, List.take_add]
    
    refine wpF_skip ?_
    refine thenF_normal (hK13 _ _ ?_)
    refine wpF_block ?_
    refine wpF_seq_k fun K16 hK16 => ?_
    refine wpF_draw_mid 9 [Is (.pointer (some ⟨g, 0, none⟩)), Is (.pointer (some ⟨g, 0, none⟩)), Is (.pointer (some ⟨g, 8, none⟩)), Is (.pointer (some ⟨g, 0, none⟩)), Is (.pointer (some ⟨g, 0, none⟩)), Is (.pointer (some ⟨g, 72, none⟩)), Is (.int .i64 ((f1 : Nat) : Int)), Is (.slice (some ⟨g, 8 + f1, none⟩) (64 - f1) (64 - f1)), Is (v1), fun x w' => x = NI n ∧ w'.heap[g]? = some (.cells (hashL s1 (r1.take f1 ++ X ++ r1.drop (f1 + n)) f1 N).toArray 48 (0, 0)) ∧ w12.grownBy w' (some g), fun x w' => x = NI n ∧ w'.heap[g]? = some (.cells (hashL s1 (r1.take f1 ++ X ++ r1.drop (f1 + n)) f1 N).toArray 48 (0, 0)) ∧ w12.grownBy w' (some g)] (by kernel_rfl) [19, 20, 21, 22, 23, 24, 25, 26, 27, 28, 4] (by kernel_rfl) (by kernel_rfl) (by kernel_rfl) rfl ⟨Stab.is _, Stab.is _, Stab.is _, Stab.is _, Stab.is _, Stab.is _, Stab.is _, Stab.is _, Stab.is _, (fun _ _ _ hp he => ⟨hp.1, Ext.blk' he hp.2.1, grownBy_trans hp.2.2 he.grown (fun _ e => by cases e)⟩), (fun _ _ _ hp he => ⟨hp.1, Ext.blk' he hp.2.1, grownBy_trans hp.2.2 he.grown (fun _ e => by cases e)⟩), trivial⟩ ⟨Stab.is _, Stab.is _, Stab.is _, Stab.is _, Stab.is _, Stab.is _, Stab.is _, Stab.is _, Stab.is _, trivial⟩ ?hs3 ?hQ3
    case hs3 =>
      refine ⟨?_, ?_, ?_, ?_, ?_, ?_, ?_, ?_, ?_, ?_, ?_, trivial⟩
      · refine stepN rfl fun σ w1 hC h => ?_    -- t19 := (Op.move (Operand.tmp 0))
        have e0 : σ 0 = .pointer (some ⟨g, 0, none⟩) := (show _ = _ from h 0 (by decide)).trans T0
        have hC : Ext _ w1 := hC
        exact YieldsK.move e0 ⟨Ext.refl _, rfl⟩
      · refine stepN rfl fun σ w1 hC h => ?_    -- t20 := (Op.nilCheck (Operand.tmp 19))
        have e19 : σ 19 = .pointer (some ⟨g, 0, none⟩) := h 19 (by decide)
        have hC : Ext _ w1 := hC
        exact YieldsK.nilCheck e19 ⟨Ext.refl _, rfl⟩
      · refine stepN rfl fun σ w1 hC h => ?_    -- t21 := (Op.fieldAddr 48 (Operand.tmp 20) 1)
        have e20 : σ 20 = .pointer (some ⟨g, 0, none⟩) := h 20 (by decide)
        have hC : Ext _ w1 := hC
        exact YieldsK.fieldAt sha6_fo48_1 e20 ⟨Ext.refl _, rfl⟩
      · refine stepN rfl fun σ w1 hC h => ?_    -- t22 := (Op.move (Operand.tmp 0))
        have e0 : σ 0 = .pointer (some ⟨g, 0, none⟩) := (show _ = _ from h 0 (by decide)).trans T0
        have hC : Ext _ w1 := hC
        exact YieldsK.move e0 ⟨Ext.refl _, rfl⟩
      · refine stepN rfl fun σ w1 hC h => ?_    -- t23 := (Op.nilCheck (Operand.tmp 22))
        have e22 : σ 22 = .pointer (some ⟨g, 0, none⟩) := h 22 (by decide)
        have hC : Ext _ w1 := hC
        exact YieldsK.nilCheck e22 ⟨Ext.refl _, rfl⟩
      · refine stepN rfl fun σ w1 hC h => ?_    -- t24 := (Op.fieldAddr 48 (Operand.tmp 23) 2)
        have e23 : σ 23 = .pointer (some ⟨g, 0, none⟩) := h 23 (by decide)
        have hC : Ext _ w1 := hC
        exact YieldsK.fieldAt sha6_fo48_2 e23 ⟨Ext.refl _, rfl⟩
      · refine stepN rfl fun σ w1 hC h => ?_    -- t25 := (Op.load 3 (Operand.tmp 24))
        have e24 : σ 24 = .pointer (some ⟨g, 72, none⟩) := h 24 (by decide)
        have hC : Ext _ w1 := hC
        exact YieldsK.cell1 sha6_ty3 rfl e24 (cellAt (Ext.blk' hC hb0l) (hashL_fill hs1 hr1)) ⟨Ext.refl _, rfl⟩
      · refine stepN rfl fun σ w1 hC h => ?_    -- t26 := (Op.slice 46 (Operand.tmp 21) (some (Operand.tmp 25)) none none)
        have e21 : σ 21 = .pointer (some ⟨g, 8, none⟩) := h 21 (by decide)
        have e25 : σ 25 = .int .i64 ((f1 : Nat) : Int) := h 25 (by decide)
        have hC : Ext _ w1 := hC
        exact YieldsK.sliceArrL sha6_ty46 sha6_sz5 e21 e25 (by omega) ⟨Ext.refl _, rfl⟩
      · refine stepN rfl fun σ w1 hC h => ?_    -- t27 := (Op.move (Operand.tmp 1))
        have e1 : σ 1 = v1 := (show _ = _ from h 1 (by decide)).trans T1
        have hC : Ext _ w1 := hC
        exact YieldsK.move e1 ⟨Ext.refl _, rfl⟩
      · refine stepN rfl fun σ w1 hC h => ?_    -- t28 := (Op.call { callee := (Callee.builtin Builtin.copy), args := #[(Operand.tmp 26), (Operand.tmp 27)], argTypes :=
        have e26 : σ 26 = .slice (some ⟨g, 8 + f1, none⟩) (64 - f1) (64 - f1) := h 26 (by decide)
        have e27 : σ 27 = v1 := h 27 (by decide)
        have hC : Ext _ w1 := hC
        refine YieldsK.copyB (.tmp 26) (.tmp 27) (o := 8 + f1) sha6_ty22 sha6_isz5 e26 (l := c.drop m) (by show RB w1 (σ 27) _; rw [e27]; exact hc1.keep hC) (Ext.blk' hC hb0l) (by rw [hnm]; simp only [List.size_toArray, hashL_length hs1 hr1]; omega) ?_
        refine ⟨trivial, by rw [hnm]; rfl, ?_, ?_⟩
        · rw [hnm, ← hX, ← hxl]
          have := hashL_rest (f := f1) (n := N) (at_ := f1) (x := X) hs1 hr1 (by omega)
          rw [this]
          exact setRow_heap w1 g _ _ _ _ (Ext.blk' hC hb0l)
        · exact grownBy_trans (row_none hC.grown (some g)) ⟨rfl, rfl, rfl, by simp, fun k _ hk => setRow_other w1 g k _ (fun e => hk (by rw [e]))⟩ (fun _ e => .inl e)
      · refine stepN rfl fun σ w1 hC h => ?_    -- t4 := (Op.assign (Operand.tmp 28))
        have e28 : (fun x w' => x = NI n ∧ w'.heap[g]? = some (.cells (hashL s1 (r1.take f1 ++ X ++ r1.drop (f1 + n)) f1 N).toArray 48 (0, 0)) ∧ w12.grownBy w' (some g)) (σ 28) w1 := h 28 (by decide)
        exact YieldsK.assign rfl ⟨Ext.refl _, e28⟩
    intro ρ17 w18 he hf
    obtain ⟨-, -, -, -, -, -, -, -, -, -, k4, -⟩ := hf
    have T0 : ρ17 0 = .pointer (some ⟨g, 0, none⟩) := he.at_ T0 rfl
    have T1 : ρ17 1 = v1 := he.at_ T1 rfl
    have T6 : ρ17 6 = .bool (false) := he.at_ T6 rfl
    clear he
    have k4 : (fun x w' => x = NI n ∧ w'.heap[g]? = some (.cells (hashL s1 (r1.take f1 ++ X ++ r1.drop (f1 + n)) f1 N).toArray 48 (0, 0)) ∧ w12.grownBy w' (some g)) (ρ17 4) w18 := k4
    obtain ⟨v20, T4⟩ : ∃ v, ρ17 4 = v := ⟨_, rfl⟩
    rw [T4] at k4
    have hk21 := k4; clear k4
    obtain ⟨hv4, hb4, hg4⟩ := hk21
    rw [hv4] at T4
    have hG : Laid w18 := Laid.kept hG hg4 hh
    have hgr : w.grownBy w18 (some g) := grownBy_trans hgr hg4 (fun _ e => .inl e)
    have hc1 : RB w18 v1 (c.drop m) := hc1.kept hg4 (.inr hv1)
    clear hb0l
    have hb22 := hb4; clear hb4
    obtain ⟨r2, hr2⟩ : ∃ r2, r2 = r1.take f1 ++ X ++ r1.drop (f1 + n) := ⟨_, rfl⟩
    have hr2l : r2.length = 64 := by rw [hr2]; simp only [List.length_append, List.length_take, List.length_drop]; omega
    have hb22 : w18.heap[g]? = some (.cells (hashL s1 r2 f1 N).toArray 48 (0, 0)) := blk_eq hb22 (by rw [← hr2])
    refine thenF_normal (hK16 _ _ ?_)
    refine wpF_seq_k fun K23 hK23 => ?_
    refine wpF_text ?_
    refine opsF_step rfl (YieldsK.move (show _ = (.pointer (some ⟨g, 0, none⟩) : Value) from T0) ?_)    -- sha.go:70 t29 := (Op.move (Operand.tmp 0))
    refine opsF_step rfl (YieldsK.nilCheck (show _ = (.pointer (some ⟨g, 0, none⟩) : Value) from rfl) ?_)    -- sha.go:70 t30 := (Op.nilCheck (Operand.tmp 29))
    refine opsF_step rfl (YieldsK.fieldAt sha6_fo48_2 (show _ = (.pointer (some ⟨g, 0, none⟩) : Value) from rfl) ?_)    -- sha.go:70 t31 := (Op.fieldAddr 48 (Operand.tmp 30) 2)
    refine opsF_step rfl (YieldsK.cell1 sha6_ty3 rfl (show _ = (.pointer (some ⟨g, 72, none⟩) : Value) from rfl) (cellAt hb22 (hashL_fill hs1 hr2l)) ?_)    -- sha.go:70 t32 := (Op.load 3 (Operand.tmp 31))
    refine opsF_step rfl (YieldsK.move (show _ = (.int .i64 ((n : Nat) : Int) : Value) from T4) ?_)    -- sha.go:70 t33 := (Op.move (Operand.tmp 4))
    refine opsF_step rfl (YieldsK.bin (xv := .int .i64 ((f1 : Nat) : Int)) (yv := .int .i64 ((n : Nat) : Int)) (show _ = (.int .i64 ((f1 : Nat) : Int) : Value) from rfl) (show _ = (.int .i64 ((n : Nat) : Int) : Value) from rfl) rfl (i64_add _ (f1) (n) (by omega)) ?_)    -- sha.go:70 t34 := (Op.binOp BinOp.add 3 (Operand.tmp 32) (Operand.tmp 33) 3)
    refine opsF_step rfl (YieldsK.nilCheck (show _ = (.pointer (some ⟨g, 0, none⟩) : Value) from rfl) ?_)    -- sha.go:70 t35 := (Op.nilCheck (Operand.tmp 29))
    refine opsF_step rfl (YieldsK.fieldAt sha6_fo48_2 (show _ = (.pointer (some ⟨g, 0, none⟩) : Value) from rfl) ?_)    -- sha.go:70 t36 := (Op.fieldAddr 48 (Operand.tmp 35) 2)
    refine opsF_step rfl (YieldsK.storeC (i := 72) (v := .int .i64 (((f1) + (n) : Nat) : Int)) (show _ = (.pointer (some ⟨g, 72, none⟩) : Value) from rfl) (show _ = (.int .i64 (((f1) + (n) : Nat) : Int) : Value) from rfl) hb22 (by rw [hashL_length hs1 hr2l]; omega) sha6_isz3 rfl rfl fun w24 hb25 hg26 hs27 => ?_)    -- sha.go:70 tNone := (Op.store 3 (Operand.tmp 36) (Operand.tmp 34))
    have hG : Laid w24 := Laid.kept hG hg26 hh
    have hgr : w.grownBy w24 (some g) := grownBy_trans hgr hg26 (fun _ e => .inl e)
    have hc1 : RB w24 v1 (c.drop m) := hc1.kept hg26 (.inr hv1)
    clear hb22
    have hb22 := hb25; clear hb25
    have hl28 : g < w24.heap.size := (Array.getElem?_eq_some_iff.1 hb22).1
    refine opsF_end (fun ρ => ρ 0 = (.pointer (some ⟨g, 0, none⟩) : Value) ∧ ρ 1 = (v1 : Value) ∧ ρ 4 = (.int .i64 ((n : Nat) : Int) : Value) ∧ ρ 6 = (.bool (false) : Value) ∧ True) ⟨T0, T1, T4, T6, trivial⟩ fun ρ29 ⟨T0, T1, T4, T6, _⟩ => ?_
    have hb22 : w24.heap[g]? = some (.cells (hashL s1 r2 (f1 + n) N).toArray 48 (0, 0)) := blk_eq hb22 (hashL_setFill hs1 hr2l)
    refine thenF_normal (hK23 _ _ ?_)
    refine wpF_seq_k fun K30 hK30 => ?_
    refine wpF_text ?_
    refine opsF_step rfl (YieldsK.move (show _ = (v1 : Value) from T1) ?_)    -- sha.go:71 t37 := (Op.move (Operand.tmp 1))
    refine opsF_step rfl (YieldsK.move (show _ = (.int .i64 ((n : Nat) : Int) : Value) from T4) ?_)    -- sha.go:71 t38 := (Op.move (Operand.tmp 4))
    refine opsF_step rfl (YieldsK.sliceLo (xs := c.drop m) (l := n) sha6_ty22 sha6_sz5 (show _ = (v1 : Value) from rfl) hc1 (show _ = (.int .i64 ((n : Nat) : Int) : Value) from rfl) (hn3) fun v31 hr32 ha33 => ?_)    -- sha.go:71 t39 := (Op.slice 22 (Operand.tmp 37) (some (Operand.tmp 38)) none none)
    have hap34 : Value.ownBlock v31 ≠ some g := by rw [ha33]; exact hv1
    refine opsF_step rfl (YieldsK.assign (show _ = (v31 : Value) from rfl) ?_)    -- sha.go:71 t1 := (Op.assign (Operand.tmp 39))
    refine opsF_end (fun ρ => ρ 0 = (.pointer (some ⟨g, 0, none⟩) : Value) ∧ ρ 1 = (v31 : Value) ∧ ρ 4 = (.int .i64 ((n : Nat) : Int) : Value) ∧ ρ 6 = (.bool (false) : Value) ∧ True) ⟨T0, rfl, T4, T6, trivial⟩ fun ρ35 ⟨T0, T1, T4, T6, _⟩ => ?_
    refine thenF_normal (hK30 _ _ ?_)
    refine wpF_seq_k fun K36 hK36 => ?_
    refine wpF_text ?_
    refine opsF_step rfl (YieldsK.move (show _ = (.pointer (some ⟨g, 0, none⟩) : Value) from T0) ?_)    -- sha.go:72 t40 := (Op.move (Operand.tmp 0))
    refine opsF_step rfl (YieldsK.nilCheck (show _ = (.pointer (some ⟨g, 0, none⟩) : Value) from rfl) ?_)    -- sha.go:72 t41 := (Op.nilCheck (Operand.tmp 40))
    refine opsF_step rfl (YieldsK.fieldAt sha6_fo48_2 (show _ = (.pointer (some ⟨g, 0, none⟩) : Value) from rfl) ?_)    -- sha.go:72 t42 := (Op.fieldAddr 48 (Operand.tmp 41) 2)
    refine opsF_step rfl (YieldsK.cell1 sha6_ty3 rfl (show _ = (.pointer (some ⟨g, 72, none⟩) : Value) from rfl) (cellAt hb22 (hashL_fill hs1 hr2l)) ?_)    -- sha.go:72 t43 := (Op.load 3 (Operand.tmp 42))
    refine opsF_step rfl (YieldsK.eqI (a := (((f1 + n) : Nat) : Int)) (b := ((64 : Nat) : Int)) (show _ = (.int .i64 (((f1 + n) : Nat) : Int) : Value) from rfl) (show _ = (.int .i64 ((64 : Nat) : Int) : Value) from rfl) (k_eql _ .i64 ((f1 + n)) (64)) ?_)    -- sha.go:72 t44 := (Op.binOp BinOp.eql 3 (Operand.tmp 43) (Operand.const (Value.int IntKind.i64 64)) 3)
    refine opsF_end (fun ρ => ρ 0 = (.pointer (some ⟨g, 0, none⟩) : Value) ∧ ρ 1 = (v31 : Value) ∧ ρ 4 = (.int .i64 ((n : Nat) : Int) : Value) ∧ ρ 6 = (.bool (false) : Value) ∧ ρ 44 = (.bool (decide (((f1 + n) : Nat) = (64))) : Value) ∧ True) ⟨T0, T1, T4, T6, rfl, trivial⟩ fun ρ37 ⟨T0, T1, T4, T6, T44, _⟩ => ?_
    refine thenF_normal (hK36 _ _ ?_)
    refine wpF_cond (((f1 + n) : Nat) = (64)) (show _ = (.bool (decide (((f1 + n) : Nat) = (64))) : Value) from T44) (fun hc2 => ?_) (fun hc2 => ?_)
    · have hr2f : r2 = r1.take f1 ++ X := by rw [hr2, List.drop_of_length_le (by omega), List.append_nil]
      obtain ⟨R, hR⟩ : ∃ R, R = Sha.rounds s1 r2 := ⟨_, rfl⟩
      have HRl : R.length = 8 := by rw [hR, Sha.rounds_length _ _ hs1]
      have hatF : Sha.At ((p ++ c.take m) ++ X) R r2 := by rw [hR, hr2f, hf1]; exact hat1.fill X (by omega)
      have hfF : 0 = ((p ++ c.take m) ++ X).length % 64 := by rw [List.length_append]; omega
      refine wpF_seq_k fun K38 hK38 => ?_
      refine wpF_draw_store 12 (fun (a b : World) => b.heap[g]? = some (.cells ((cellsU R).toList ++ (hashL s1 r2 (f1 + n) N).drop (cellsU R).size).toArray 48 (0, 0)) ∧ a.grownBy b (some g) ∧ b.heap.size = a.heap.size) [Is (.pointer (some ⟨g, 0, none⟩)), Is (.pointer (some ⟨g, 0, none⟩)), Is (.pointer (some ⟨g, 0, none⟩)), Is (.pointer (some ⟨g, 0, none⟩)), Is (.agg (cellsU s1)), Is (.pointer (some ⟨g, 0, none⟩)), Is (.pointer (some ⟨g, 0, none⟩)), Is (.pointer (some ⟨g, 8, none⟩)), Is (.slice (some ⟨g, 8, none⟩) 64 64), Is (.agg (cellsU R)), Is (.pointer (some ⟨g, 0, none⟩)), Is (.pointer (some ⟨g, 0, none⟩)), (fun _ _ => True)] (by kernel_rfl) [45, 46, 47, 48, 49, 50, 51, 52, 53, 54, 55, 56] (by kernel_rfl) (by kernel_rfl) (by kernel_rfl) rfl ⟨Stab.is _, Stab.is _, Stab.is _, Stab.is _, Stab.is _, Stab.is _, Stab.is _, Stab.is _, Stab.is _, Stab.is _, Stab.is _, Stab.is _, Stab.any, trivial⟩ ⟨Stab.is _, Stab.is _, Stab.is _, Stab.is _, Stab.is _, Stab.is _, Stab.is _, Stab.is _, Stab.is _, Stab.is _, Stab.is _, Stab.is _, Stab.any, trivial⟩ ?hs7 ?hQ7
      case hs7 =>
        refine ⟨?_, ?_, ?_, ?_, ?_, ?_, ?_, ?_, ?_, ?_, ?_, ?_, ?_, trivial⟩
        · refine stepN rfl fun σ w1 hC h => ?_    -- t45 := (Op.move (Operand.tmp 0))
          have e0 : σ 0 = .pointer (some ⟨g, 0, none⟩) := (show _ = _ from h 0 (by decide)).trans T0
          have hC : Ext _ w1 := hC
          exact YieldsK.move e0 ⟨Ext.refl _, rfl⟩
        · refine stepN rfl fun σ w1 hC h => ?_    -- t46 := (Op.move (Operand.tmp 0))
          have e0 : σ 0 = .pointer (some ⟨g, 0, none⟩) := (show _ = _ from h 0 (by decide)).trans T0
          have hC : Ext _ w1 := hC
          exact YieldsK.move e0 ⟨Ext.refl _, rfl⟩
        · refine stepN rfl fun σ w1 hC h => ?_    -- t47 := (Op.nilCheck (Operand.tmp 46))
          have e46 : σ 46 = .pointer (some ⟨g, 0, none⟩) := h 46 (by decide)
          have hC : Ext _ w1 := hC
          exact YieldsK.nilCheck e46 ⟨Ext.refl _, rfl⟩
        · refine stepN rfl fun σ w1 hC h => ?_    -- t48 := (Op.fieldAddr 48 (Operand.tmp 47) 0)
          have e47 : σ 47 = .pointer (some ⟨g, 0, none⟩) := h 47 (by decide)
          have hC : Ext _ w1 := hC
          exact YieldsK.fieldAt sha6_fo48_0 e47 ⟨Ext.refl _, rfl⟩
        · refine stepN rfl fun σ w1 hC h => ?_    -- t49 := (Op.load 41 (Operand.tmp 48))
          have e48 : σ 48 = .pointer (some ⟨g, 0, none⟩) := h 48 (by decide)
          have hC : Ext _ w1 := hC
          exact YieldsK.loadPart (cs := s1.map fun x => U x) e48 (range_state (Ext.blk' hC hb22)) sha6_ty41 rfl (by rw [List.length_map, hs1]; exact sha6_isz41) ⟨Ext.refl _, rfl⟩
        · refine stepN rfl fun σ w1 hC h => ?_    -- t50 := (Op.move (Operand.tmp 0))
          have e0 : σ 0 = .pointer (some ⟨g, 0, none⟩) := (show _ = _ from h 0 (by decide)).trans T0
          have hC : Ext _ w1 := hC
          exact YieldsK.move e0 ⟨Ext.refl _, rfl⟩
        · refine stepN rfl fun σ w1 hC h => ?_    -- t51 := (Op.nilCheck (Operand.tmp 50))
          have e50 : σ 50 = .pointer (some ⟨g, 0, none⟩) := h 50 (by decide)
          have hC : Ext _ w1 := hC
          exact YieldsK.nilCheck e50 ⟨Ext.refl _, rfl⟩
        · refine stepN rfl fun σ w1 hC h => ?_    -- t52 := (Op.fieldAddr 48 (Operand.tmp 51) 1)
          have e51 : σ 51 = .pointer (some ⟨g, 0, none⟩) := h 51 (by decide)
          have hC : Ext _ w1 := hC
          exact YieldsK.fieldAt sha6_fo48_1 e51 ⟨Ext.refl _, rfl⟩
        · refine stepN rfl fun σ w1 hC h => ?_    -- t53 := (Op.slice 46 (Operand.tmp 52) none none none)
          have e52 : σ 52 = .pointer (some ⟨g, 8, none⟩) := h 52 (by decide)
          have hC : Ext _ w1 := hC
          exact YieldsK.sliceArr sha6_ty46 sha6_sz5 e52 ⟨Ext.refl _, rfl⟩
        · refine stepN rfl fun σ w1 hC h => ?_    -- t54 := (Op.call { callee := (Callee.value (Operand.func 19)), args := #[(Operand.tmp 49), (Operand.tmp 53)], argTypes
          have e49 : σ 49 = .agg (cellsU s1) := h 49 (by decide)
          have e53 : σ 53 = .slice (some ⟨g, 8, none⟩) 64 64 := h 53 (by decide)
          have hC : Ext _ w1 := hC
          refine YieldsK.callA2 sha6_pl19 e49 e53 ?_
          refine (rounds_any _ (hG.keep hC) s1 hs1 _ r2 (rb_rest hs1 hr2l (Ext.blk' hC hb22)) hr2l).mono ?_
          rintro e w2 ⟨rfl, hx⟩
          exact ⟨_, rfl, hx, by rw [hR]; rfl⟩
        · refine stepN rfl fun σ w1 hC h => ?_    -- t55 := (Op.nilCheck (Operand.tmp 45))
          have e45 : σ 45 = .pointer (some ⟨g, 0, none⟩) := h 45 (by decide)
          have hC : Ext _ w1 := hC
          exact YieldsK.nilCheck e45 ⟨Ext.refl _, rfl⟩
        · refine stepN rfl fun σ w1 hC h => ?_    -- t56 := (Op.fieldAddr 48 (Operand.tmp 55) 0)
          have e55 : σ 55 = .pointer (some ⟨g, 0, none⟩) := h 55 (by decide)
          have hC : Ext _ w1 := hC
          exact YieldsK.fieldAt sha6_fo48_0 e55 ⟨Ext.refl _, rfl⟩
        · refine stepN rfl fun σ w1 hC h => ?_    -- tNone := (Op.store 41 (Operand.tmp 56) (Operand.tmp 54))
          have e56 : σ 56 = .pointer (some ⟨g, 0, none⟩) := h 56 (by decide)
          have e54 : σ 54 = .agg (cellsU R) := h 54 (by decide)
          have hC : Ext _ w1 := hC
          exact YieldsK.storeHd e56 e54 (Ext.blk' hC hb22) (by rw [cellsU_size, HRl, hashL_length hs1 hr2l]; omega) (by rw [cellsU_size, HRl]; exact sha6_isz41) (cellsU_one _) fun w2 h1 h2 h3 => ⟨⟨h1, h2, h3⟩, trivial⟩
      intro ρ39 w42 w40 hx41 hS43 he hf
      obtain ⟨-, -, -, -, -, -, -, -, -, -, -, -, -⟩ := hf
      have T0 : ρ39 0 = .pointer (some ⟨g, 0, none⟩) := he.at_ T0 rfl
      have T1 : ρ39 1 = v31 := he.at_ T1 rfl
      have T4 : ρ39 4 = .int .i64 ((n : Nat) : Int) := he.at_ T4 rfl
      have T6 : ρ39 6 = .bool (false) := he.at_ T6 rfl
      clear he
      have hG : Laid w42 := (hG.keep hx41)
      have hgr : w.grownBy w42 (some g) := grownBy_trans hgr hx41.grown (fun _ e => by cases e)
      have hc1 : RB w42 v1 (c.drop m) := (hc1.keep hx41)
      have hb22 : w42.heap[g]? = some (.cells (hashL s1 r2 (f1 + n) N).toArray 48 (0, 0)) := (Ext.blk' hx41 hb22)
      have hr32 : RB w42 v31 ((c.drop m : List UInt8).drop (n)) := (hr32.keep hx41)
      obtain ⟨hb44, hg45, hs46⟩ := hS43
      have hG : Laid w40 := Laid.kept hG hg45 hh
      have hgr : w.grownBy w40 (some g) := grownBy_trans hgr hg45 (fun _ e => .inl e)
      have hc1 : RB w40 v1 (c.drop m) := hc1.kept hg45 (.inr hv1)
      clear hb22
      have hr32 : RB w40 v31 ((c.drop m : List UInt8).drop (n)) := hr32.kept hg45 (.inr hap34)
      have hb22 := hb44; clear hb44
      have hb22 : w40.heap[g]? = some (.cells (hashL R r2 (f1 + n) N).toArray 48 (0, 0)) := blk_eq hb22 (by rw [cellsU_size, HRl]; exact hashL_state hs1)
      refine thenF_normal (hK38 _ _ ?_)
      refine wpF_text ?_
      refine opsF_step rfl (YieldsK.move (show _ = (.pointer (some ⟨g, 0, none⟩) : Value) from T0) ?_)    -- sha.go:74 t57 := (Op.move (Operand.tmp 0))
      refine opsF_step rfl (YieldsK.nilCheck (show _ = (.pointer (some ⟨g, 0, none⟩) : Value) from rfl) ?_)    -- sha.go:74 t58 := (Op.nilCheck (Operand.tmp 57))
      refine opsF_step rfl (YieldsK.fieldAt sha6_fo48_2 (show _ = (.pointer (some ⟨g, 0, none⟩) : Value) from rfl) ?_)    -- sha.go:74 t59 := (Op.fieldAddr 48 (Operand.tmp 58) 2)
      refine opsF_step rfl (YieldsK.storeC (i := 72) (v := .int .i64 ((0 : Nat) : Int)) (show _ = (.pointer (some ⟨g, 72, none⟩) : Value) from rfl) (show _ = (.int .i64 ((0 : Nat) : Int) : Value) from rfl) hb22 (by rw [hashL_length HRl hr2l]; omega) sha6_isz3 rfl rfl fun w47 hb48 hg49 hs50 => ?_)    -- sha.go:74 tNone := (Op.store 3 (Operand.tmp 59) (Operand.const (Value.int IntKind.i64 0)))
      have hG : Laid w47 := Laid.kept hG hg49 hh
      have hgr : w.grownBy w47 (some g) := grownBy_trans hgr hg49 (fun _ e => .inl e)
      have hc1 : RB w47 v1 (c.drop m) := hc1.kept hg49 (.inr hv1)
      have hr32 : RB w47 v31 ((c.drop m : List UInt8).drop (n)) := hr32.kept hg49 (.inr hap34)
      clear hb22
      have hb22 := hb48; clear hb48
      have hl51 : g < w47.heap.size := (Array.getElem?_eq_some_iff.1 hb22).1
      refine opsF_end (fun ρ => ρ 0 = (.pointer (some ⟨g, 0, none⟩) : Value) ∧ ρ 1 = (v31 : Value) ∧ ρ 4 = (.int .i64 ((n : Nat) : Int) : Value) ∧ ρ 6 = (.bool (false) : Value) ∧ True) ⟨T0, T1, T4, T6, trivial⟩ fun ρ52 ⟨T0, T1, T4, T6, _⟩ => ?_
      have hb22 : w47.heap[g]? = some (.cells (hashL R r2 0 N).toArray 48 (0, 0)) := blk_eq hb22 (hashL_setFill HRl hr2l)
      refine inBlockF_normal ?_
      refine thenF_normal (And.intro ⟨m + n, R, r2, 0, v31, T0, T6, T1, hG, hgr, (show RB _ _ _ from (by rw [← List.drop_drop]; exact hr32)), blk_eq hb22 (rfl), by omega, by rw [← htk]; exact hatF, by rw [← htk]; exact hfF, hap34, trivial⟩ ?_)
      show sliceLen (ρ52 1) < sliceLen (ρ11 1)
      rw [T1, q1]
      have q3 := hr32.sliceLen
      have q4 := ql1
      rw [q3, q4]
      simp only [List.length_drop]
      omega
    · have hatP : Sha.At ((p ++ c.take m) ++ X) s1 r2 := by rw [hr2, ← hxl, hf1]; exact hat1.put X (by omega)
      have hfP : f1 + n = ((p ++ c.take m) ++ X).length % 64 := by rw [List.length_append]; omega
      refine wpF_skip ?_
      refine inBlockF_normal ?_
      refine thenF_normal (And.intro ⟨m + n, s1, r2, f1 + n, v31, T0, T6, T1, hG, hgr, (show RB _ _ _ from (by rw [← List.drop_drop]; exact hr32)), blk_eq hb22 (rfl), by omega, by rw [← htk]; exact hatP, by rw [← htk]; exact hfP, hap34, trivial⟩ ?_)
      show sliceLen (ρ37 1) < sliceLen (ρ11 1)
      rw [T1, q1]
      have q3 := hr32.sliceLen
      have q4 := ql1
      rw [q3, q4]
      simp only [List.length_drop]
      omega
  · have hcF := hc1'
    refine wpF_exit (thenF_exit (thenF_exit (inBlockF_hit ?_)))
    refine postF_end (fn := Tryd.f13) [] rfl [] (.tuple #[]) rfl trivial ?_
    have hml : m = c.length := by have := hcF; simp at this; omega
    subst hml
    refine ⟨rfl, ⟨s1, r1, by simpa using hat1, ?_⟩, hgr⟩
    have e1 : f1 = (p ++ c).length % 64 := by simpa using hf1
    have e2 : N = (p ++ c).length := by rw [← hN, List.length_append]
    rw [← e1, ← e2]
    exact hb0l
end Go.Proofs.YtcindgknimallaaDoor
