/- ShaParts, walked. -/
import Derived.Test.YtcindgknimallaaDoorCopies
namespace Go.Proofs.YtcindgknimallaaDoor
open Go.RowKit
theorem sha11_ty35 : Tryd.prog.underlying 35 = some (.slice 22) := by kernel_rfl
theorem sha11_pl12 : Plain Tryd.prog 12 := fun _ _ => by kernel_rfl
theorem sha11_sz22 : ∀ w' : World, (sizeOf 22).run Tryd.prog w' = .ok 1 w' := fun _ => by kernel_rfl
theorem sha11_ty22 : Tryd.prog.underlying 22 = some (.slice 5) := by kernel_rfl
theorem sha11_pl9 : Plain Tryd.prog 9 := fun _ _ => by kernel_rfl
theorem sha11_b1_35 (ao : Option Addr) (n c : Nat) (w : World) : (Instr.buildSlice 35 1 #[(0, .slice ao n c)]).run Tryd.prog w = .ok (.slice (some ⟨w.heap.size, 0, none⟩) 1 1) (w.alloc (.cells #[.slice ao n c] 22)) := by kernel_rfl
theorem sha11_inf22 : (Tryd.prog.info? 22).map (fun i => (i.zero, i.size, i.bytes)) = some (some (.slice none 0 0), 1, 24) := by kernel_rfl
theorem sha11_pl13 : Plain Tryd.prog 13 := fun _ _ => by kernel_rfl
theorem sha11_inf5 : (Tryd.prog.info? 5).map (fun i => (i.zero, i.size, i.bytes)) = some (some (.int .u8 0), 1, 1) := by kernel_rfl
theorem sha11_pl15 : Plain Tryd.prog 15 := fun _ _ => by kernel_rfl
theorem sha11_pl14 : Plain Tryd.prog 14 := fun _ _ => by kernel_rfl
theorem sha11_pl10 : Plain Tryd.prog 10 := fun _ _ => by kernel_rfl
theorem sha11_eg24 : Tryd.prog.eqGuardType Tryd.prog.depth 24 = false := by kernel_rfl
theorem sha11_ty24 : Tryd.prog.underlying 24 = some (.array 32 5) := by kernel_rfl
theorem sha11_ty5 : Tryd.prog.underlying 5 = some (.int .u8) := by kernel_rfl
theorem sha11_sz5 : ∀ w' : World, (sizeOf 5).run Tryd.prog w' = .ok 1 w' := fun _ => by kernel_rfl
theorem sha11_pl8 : Plain Tryd.prog 8 := fun _ _ => by kernel_rfl
theorem sha11_pl11 : Plain Tryd.prog 11 := fun _ _ => by kernel_rfl
theorem shaParts_walk (w : World) (hG : Laid w) (v : Value) (ls : List (List UInt8)) (hr : RBs w v ls) :
    Calls Tryd.prog 5 #[v] w fun e w' => e = .returned (.bool true) ∧ Ext w w' := by
  have hw2 := hG.two
  refine calls_of_wpF (args := [v]) Tryd.func5 rfl 69 rfl (Nat.le_of_ble_eq_true rfl) ?_
  intro ρ0 hb
  have T0 : ρ0 0 = (v : Value) := hb.get 0
  clear hb
  have hE := Ext.refl w
  refine wpF_seq_k fun K1 hK1 => ?_
  refine wpF_text ?_
  refine opsF_step rfl (YieldsK.assign (show _ = (.bool (false) : Value) from rfl) ?_)    -- law.go:24 t2 := (Op.assign (Operand.const (Value.bool false)))
  refine opsF_end (fun ρ => ρ 0 = (v : Value) ∧ ρ 2 = (.bool (false) : Value) ∧ True) ⟨T0, rfl, trivial⟩ fun ρ2 ⟨T0, T2, _⟩ => ?_
  refine thenF_normal (hK1 _ _ ?_)
  refine wpF_seq_k fun K3 hK3 => ?_
  refine wpF_seq_k fun K4 hK4 => ?_
  refine wpF_text ?_
  refine opsF_step rfl (YieldsK.move (show _ = (v : Value) from T0) ?_)    -- law.go:25 t8 := (Op.move (Operand.tmp 0))
  refine opsF_step rfl (YieldsK.lenRBs sha11_ty35 (RBs.of (hr.keep hE) (show _ = (v : Value) from rfl)) ?_)    -- law.go:25 t9 := (Op.call { callee := (Callee.builtin Builtin.len), args := #[(Operand.tmp 8)], argTypes := #[35] })
  refine opsF_step rfl (YieldsK.eqI (a := ((ls.length : Nat) : Int)) (b := ((40 : Nat) : Int)) (show _ = (.int .i64 ((ls.length : Nat) : Int) : Value) from rfl) (show _ = (.int .i64 ((40 : Nat) : Int) : Value) from rfl) (k_gtr _ .i64 (ls.length) (40)) ?_)    -- law.go:25 t10 := (Op.binOp BinOp.gtr 3 (Operand.tmp 9) (Operand.const (Value.int IntKind.i64 40)) 3)
  refine opsF_end (fun ρ => ρ 0 = (v : Value) ∧ ρ 2 = (.bool (false) : Value) ∧ ρ 10 = (.bool (decide ((40) < (ls.length))) : Value) ∧ True) ⟨T0, T2, rfl, trivial⟩ fun ρ5 ⟨T0, T2, T10, _⟩ => ?_
  refine thenF_normal (hK4 _ _ ?_)
  refine wpF_cond ((40) < (ls.length)) (show _ = (.bool (decide ((40) < (ls.length))) : Value) from T10) (fun h40 => ?_) (fun h40 => ?_)
  · refine wpF_seq_k fun K6 hK6 => ?_
    refine wpF_text ?_
    refine opsF_step rfl (YieldsK.assign (show _ = (.bool (true) : Value) from rfl) ?_)    -- law.go:26 t2 := (Op.assign (Operand.const (Value.bool true)))
    refine opsF_end (fun ρ => ρ 0 = (v : Value) ∧ ρ 2 = (.bool (true) : Value) ∧ True) ⟨T0, rfl, trivial⟩ fun ρ7 ⟨T0, T2, _⟩ => ?_
    refine thenF_normal (hK6 _ _ ?_)
    refine wpF_ret (thenF_ret ?_)
    refine postF_ret (fn := Tryd.f5) _ rfl [.bool (true)] (.bool (true)) rfl ⟨T2, trivial⟩ ?_
    exact ⟨rfl, hE⟩
  · refine wpF_skip ?_
    refine thenF_normal (hK3 _ _ ?_)
    refine wpF_seq_k fun K8 hK8 => ?_
    refine wpF_text ?_
    refine opsF_step rfl (YieldsK.callA0 sha11_pl12  ?_)    -- law.go:28 t11 := (Op.call { callee := (Callee.value (Operand.func 12)), args := #[], argTypes := #[] })
    refine (new_any _ (hG.keep hE)).mono ?_
    rintro e w12 ⟨gH, rfl, hn11, hH10, hx9⟩
    refine ⟨_, rfl, ?_⟩
    have hE : Ext w w12 := (hE.trans hx9)
    refine opsF_step rfl (YieldsK.assign (show _ = (.pointer (some ⟨gH, 0, none⟩) : Value) from rfl) ?_)    -- law.go:28 t3 := (Op.assign (Operand.tmp 11))
    refine opsF_end (fun ρ => ρ 0 = (v : Value) ∧ ρ 2 = (.bool (false) : Value) ∧ ρ 3 = (.pointer (some ⟨gH, 0, none⟩) : Value) ∧ True) ⟨T0, T2, rfl, trivial⟩ fun ρ13 ⟨T0, T2, T3, _⟩ => ?_
    refine thenF_normal (hK8 _ _ ?_)
    refine wpF_seq_k fun K14 hK14 => ?_
    refine wpF_text ?_
    refine opsF_step rfl (YieldsK.assign (show _ = ((Value.slice none 0 0) : Value) from rfl) ?_)    -- law.go:29 t4 := (Op.assign (Operand.const (Value.slice none 0 0)))
    refine opsF_end (fun ρ => ρ 0 = (v : Value) ∧ ρ 2 = (.bool (false) : Value) ∧ ρ 3 = (.pointer (some ⟨gH, 0, none⟩) : Value) ∧ ρ 4 = ((Value.slice none 0 0) : Value) ∧ True) ⟨T0, T2, T3, rfl, trivial⟩ fun ρ15 ⟨T0, T2, T3, T4, _⟩ => ?_
    refine thenF_normal (hK14 _ _ ?_)
    refine wpF_seq_k fun K16 hK16 => ?_
    refine wpF_text ?_
    refine opsF_step rfl (YieldsK.assign (show _ = ((Value.slice none 0 0) : Value) from rfl) ?_)    -- law.go:30 t5 := (Op.assign (Operand.const (Value.slice none 0 0)))
    refine opsF_end (fun ρ => ρ 0 = (v : Value) ∧ ρ 2 = (.bool (false) : Value) ∧ ρ 3 = (.pointer (some ⟨gH, 0, none⟩) : Value) ∧ ρ 4 = ((Value.slice none 0 0) : Value) ∧ ρ 5 = ((Value.slice none 0 0) : Value) ∧ True) ⟨T0, T2, T3, T4, rfl, trivial⟩ fun ρ17 ⟨T0, T2, T3, T4, T5, _⟩ => ?_
    refine thenF_normal (hK16 _ _ ?_)
    refine wpF_seq_k fun K18 hK18 => ?_
    refine wpF_seq_k fun K19 hK19 => ?_
    refine wpF_text ?_
    refine opsF_step rfl (YieldsK.assign (show _ = (.int .i64 ((0 : Nat) : Int) : Value) from rfl) ?_)    -- law.go:31 t6 := (Op.assign (Operand.const (Value.int IntKind.i64 0)))
    refine opsF_end (fun ρ => ρ 0 = (v : Value) ∧ ρ 2 = (.bool (false) : Value) ∧ ρ 3 = (.pointer (some ⟨gH, 0, none⟩) : Value) ∧ ρ 4 = ((Value.slice none 0 0) : Value) ∧ ρ 5 = ((Value.slice none 0 0) : Value) ∧ ρ 6 = (.int .i64 ((0 : Nat) : Int) : Value) ∧ True) ⟨T0, T2, T3, T4, T5, rfl, trivial⟩ fun ρ20 ⟨T0, T2, T3, T4, T5, T6, _⟩ => ?_
    refine thenF_normal (hK19 _ _ ?_)
    refine wpF_block ?_
    refine wpF_loop (fun (ρ : Slots) (wz : World) => ∃ i : Nat, ∃ va : Value, ∃ vc : Value, ∃ vs : List Value, ρ 0 = (v : Value) ∧ ρ 3 = (.pointer (some ⟨gH, 0, none⟩) : Value) ∧ ρ 4 = (va : Value) ∧ ρ 5 = (vc : Value) ∧ ρ 6 = (.int .i64 ((i : Nat) : Int) : Value) ∧ Ext w wz ∧ PA w wz (gH) ((ls.take i).flatten) (va) ((ls.take i).flatten) (vc) (vs) ((ls.take i)) ∧ (i ≤ ls.length) ∧ ((ls.take i).flatten.length ≤ 2000 * i) ∧ True) (fun ρ _ => ls.length - (intOf (ρ 6)).toNat) ⟨0, .slice none 0 0, .slice none 0 0, [], T0, T3, T4, T5, T6, hE, (show PA w _ _ _ _ _ _ _ _ from by simpa using PA.start hE (by omega) hH10), Nat.zero_le _, by simp, trivial⟩ ?_
    clear hH10
    clear hE
    rintro ρ21 w22 ⟨i, va, vc, vs, T0, T3, T4, T5, T6, hE, hPi, hi, hfl, -⟩
    have q6 := T6
    refine wpF_seq_k fun K23 hK23 => ?_
    refine wpF_seq_k fun K24 hK24 => ?_
    refine wpF_text ?_
    refine opsF_step rfl (YieldsK.move (show _ = (.int .i64 ((i : Nat) : Int) : Value) from T6) ?_)    -- law.go:31 t12 := (Op.move (Operand.tmp 6))
    refine opsF_step rfl (YieldsK.move (show _ = (v : Value) from T0) ?_)    -- law.go:31 t13 := (Op.move (Operand.tmp 0))
    refine opsF_step rfl (YieldsK.lenRBs sha11_ty35 (RBs.of (hr.keep hE) (show _ = (v : Value) from rfl)) ?_)    -- law.go:31 t14 := (Op.call { callee := (Callee.builtin Builtin.len), args := #[(Operand.tmp 13)], argTypes := #[35] })
    refine opsF_step rfl (YieldsK.eqI (a := ((i : Nat) : Int)) (b := ((ls.length : Nat) : Int)) (show _ = (.int .i64 ((i : Nat) : Int) : Value) from rfl) (show _ = (.int .i64 ((ls.length : Nat) : Int) : Value) from rfl) (k_lss _ .i64 (i) (ls.length)) ?_)    -- law.go:31 t15 := (Op.binOp BinOp.lss 3 (Operand.tmp 12) (Operand.tmp 14) 3)
    refine opsF_end (fun ρ => ρ 0 = (v : Value) ∧ ρ 3 = (.pointer (some ⟨gH, 0, none⟩) : Value) ∧ ρ 4 = (va : Value) ∧ ρ 5 = (vc : Value) ∧ ρ 6 = (.int .i64 ((i : Nat) : Int) : Value) ∧ ρ 15 = (.bool (decide ((i) < (ls.length))) : Value) ∧ True) ⟨T0, T3, T4, T5, T6, rfl, trivial⟩ fun ρ25 ⟨T0, T3, T4, T5, T6, T15, _⟩ => ?_
    refine thenF_normal (hK24 _ _ ?_)
    refine wpF_cond ((i) < (ls.length)) (show _ = (.bool (decide ((i) < (ls.length))) : Value) from T15) (fun hi3 => ?_) (fun hi3 => ?_)
    · refine wpF_skip ?_
      refine thenF_normal (hK23 _ _ ?_)
      refine wpF_seq_k fun K26 hK26 => ?_
      refine wpF_block ?_
      refine wpF_seq_k fun K27 hK27 => ?_
      refine wpF_seq_k fun K28 hK28 => ?_
      refine wpF_text ?_
      refine opsF_step rfl (YieldsK.move (show _ = (v : Value) from T0) ?_)    -- law.go:32 t18 := (Op.move (Operand.tmp 0))
      refine opsF_step rfl (YieldsK.move (show _ = (.int .i64 ((i : Nat) : Int) : Value) from T6) ?_)    -- law.go:32 t19 := (Op.move (Operand.tmp 6))
      refine opsF_step rfl (YieldsK.atRBs0 (ls := ls) (i := i) hE sha11_ty35 sha11_sz22 hr (show _ = (v : Value) from rfl) (show _ = (.int .i64 ((i : Nat) : Int) : Value) from rfl) (hi3) fun v29 u30 hp31 hr32 => ?_)    -- law.go:32 t20 := (Op.indexAddr 35 (Operand.tmp 18) (Operand.tmp 19))
      refine opsF_step rfl (YieldsK.loadC sha11_ty22 rfl (PCell.of hp31 (show _ = (v29 : Value) from rfl)) ?_)    -- law.go:32 t21 := (Op.load 22 (Operand.tmp 20))
      refine opsF_step rfl (YieldsK.lenRB sha11_ty22 (RB.of (hr32.keep hE) (show _ = (u30 : Value) from rfl)) ?_)    -- law.go:32 t22 := (Op.call { callee := (Callee.builtin Builtin.len), args := #[(Operand.tmp 21)], argTypes := #[22] })
      refine opsF_step rfl (YieldsK.eqI (a := (((ls.getD (i) [] : List UInt8).length : Nat) : Int)) (b := ((2000 : Nat) : Int)) (show _ = (.int .i64 (((ls.getD (i) [] : List UInt8).length : Nat) : Int) : Value) from rfl) (show _ = (.int .i64 ((2000 : Nat) : Int) : Value) from rfl) (k_gtr _ .i64 ((ls.getD (i) [] : List UInt8).length) (2000)) ?_)    -- law.go:32 t23 := (Op.binOp BinOp.gtr 3 (Operand.tmp 22) (Operand.const (Value.int IntKind.i64 2000)) 3)
      refine opsF_end (fun ρ => ρ 0 = (v : Value) ∧ ρ 3 = (.pointer (some ⟨gH, 0, none⟩) : Value) ∧ ρ 4 = (va : Value) ∧ ρ 5 = (vc : Value) ∧ ρ 6 = (.int .i64 ((i : Nat) : Int) : Value) ∧ ρ 23 = (.bool (decide ((2000) < ((ls.getD (i) [] : List UInt8).length))) : Value) ∧ True) ⟨T0, T3, T4, T5, T6, rfl, trivial⟩ fun ρ33 ⟨T0, T3, T4, T5, T6, T23, _⟩ => ?_
      clear hp31
      refine thenF_normal (hK28 _ _ ?_)
      refine wpF_cond ((2000) < ((ls.getD (i) [] : List UInt8).length)) (show _ = (.bool (decide ((2000) < ((ls.getD (i) [] : List UInt8).length))) : Value) from T23) (fun h2000 => ?_) (fun h2000 => ?_)
      · refine wpF_seq_k fun K34 hK34 => ?_
        refine wpF_text ?_
        refine opsF_step rfl (YieldsK.assign (show _ = (.bool (true) : Value) from rfl) ?_)    -- law.go:33 t2 := (Op.assign (Operand.const (Value.bool true)))
        refine opsF_end (fun ρ => ρ 0 = (v : Value) ∧ ρ 2 = (.bool (true) : Value) ∧ ρ 3 = (.pointer (some ⟨gH, 0, none⟩) : Value) ∧ ρ 4 = (va : Value) ∧ ρ 5 = (vc : Value) ∧ ρ 6 = (.int .i64 ((i : Nat) : Int) : Value) ∧ True) ⟨T0, rfl, T3, T4, T5, T6, trivial⟩ fun ρ35 ⟨T0, T2, T3, T4, T5, T6, _⟩ => ?_
        refine thenF_normal (hK34 _ _ ?_)
        refine wpF_ret (thenF_ret (inBlockF_ret (thenF_ret (thenF_ret (inBlockF_ret (thenF_ret ?_))))))
        refine postF_ret (fn := Tryd.f5) _ rfl [.bool (true)] (.bool (true)) rfl ⟨T2, trivial⟩ ?_
        exact ⟨rfl, hE⟩
      · refine wpF_skip ?_
        refine thenF_normal (hK27 _ _ ?_)
        refine wpF_seq_k fun K36 hK36 => ?_
        refine wpF_text ?_
        refine opsF_step rfl (YieldsK.move (show _ = (v : Value) from T0) ?_)    -- law.go:35 t24 := (Op.move (Operand.tmp 0))
        refine opsF_step rfl (YieldsK.move (show _ = (.int .i64 ((i : Nat) : Int) : Value) from T6) ?_)    -- law.go:35 t25 := (Op.move (Operand.tmp 6))
        refine opsF_step rfl (YieldsK.atRBs0 (ls := ls) (i := i) hE sha11_ty35 sha11_sz22 hr (show _ = (v : Value) from rfl) (show _ = (.int .i64 ((i : Nat) : Int) : Value) from rfl) (hi3) fun v37 u38 hp39 hr40 => ?_)    -- law.go:35 t26 := (Op.indexAddr 35 (Operand.tmp 24) (Operand.tmp 25))
        refine opsF_step rfl (YieldsK.loadC sha11_ty22 rfl (PCell.of hp39 (show _ = (v37 : Value) from rfl)) ?_)    -- law.go:35 t27 := (Op.load 22 (Operand.tmp 26))
        refine opsF_step rfl (YieldsK.callA1 sha11_pl9 (show _ = (u38 : Value) from rfl) ?_)    -- law.go:35 t28 := (Op.call { callee := (Callee.value (Operand.func 9)), args := #[(Operand.tmp 27)], argTypes := #[22] })
        refine (copy_any _ u38 (ls.getD (i) []) (hr40.keep hE) (by omega)).mono ?_
        rintro e w44 ⟨v41, rfl, hN42⟩
        refine ⟨_, rfl, ?_⟩
        have hP43 := PA.copy hPi hN42
        have hE : Ext w w44 := hP43.pa.ext
        clear hPi
        clear hp39
        refine opsF_step rfl (YieldsK.assign (show _ = (v41 : Value) from rfl) ?_)    -- law.go:35 t7 := (Op.assign (Operand.tmp 28))
        refine opsF_end (fun ρ => ρ 0 = (v : Value) ∧ ρ 3 = (.pointer (some ⟨gH, 0, none⟩) : Value) ∧ ρ 4 = (va : Value) ∧ ρ 5 = (vc : Value) ∧ ρ 6 = (.int .i64 ((i : Nat) : Int) : Value) ∧ ρ 7 = (v41 : Value) ∧ True) ⟨T0, T3, T4, T5, T6, rfl, trivial⟩ fun ρ45 ⟨T0, T3, T4, T5, T6, T7, _⟩ => ?_
        refine thenF_normal (hK36 _ _ ?_)
        refine wpF_seq_k fun K46 hK46 => ?_
        refine wpF_text ?_
        refine opsF_step rfl (YieldsK.move (show _ = (vc : Value) from T5) ?_)    -- law.go:36 t29 := (Op.move (Operand.tmp 5))
        refine opsF_step rfl (YieldsK.move (show _ = (v41 : Value) from T7) ?_)    -- law.go:36 t30 := (Op.move (Operand.tmp 7))
        refine opsF_step rfl (YieldsK.row1 sha11_b1_35 (show _ = (v41 : Value) from rfl) hP43.rb fun n47 w48 hb49 hx50 => ?_)    -- law.go:36 t31 := (Op.buildSlice 35 1 #[(0, (Operand.tmp 30))])
        have hE : Ext w w48 := (hE.trans hx50)
        have hP43 : PAp w w48 (gH) ((ls.take i).flatten) (va) ((ls.take i).flatten) (vc) (vs) ((ls.take i)) (v41) (ls.getD (i) []) := (hP43.keep hx50)
        refine opsF_step rfl (YieldsK.append _ _ w.heap.size 22 (.slice none 0 0) 1 24 sha11_ty35 sha11_inf22 rfl (vs).length (vs) (own_of hP43.pa.cop (show _ = (vc : Value) from rfl)) 1 [v41] (src_of (show _ = (.slice (some ⟨n47, 0, none⟩) 1 1 : Value) from rfl) (src_row1 sha11_ty35 hb49 hP43.rb)) (by have := hP43.pa.len; have h40 := List.length_take_le i ls; unfold maxLen; omega) (by have := hP43.pa.len; have h40 := List.length_take_le i ls; omega) hP43.pa.ext.size fun v51 w52 ho53 hg54 => ?_)    -- law.go:36 t32 := (Op.call { callee := (Callee.builtin Builtin.append), args := #[(Operand.tmp 29), (Operand.tmp 31)], argTypes 
        have hP55 := PAp.add hP43 hg54 (by rw [List.length_append, List.length_singleton]; exact ho53)
        have hE : Ext w w52 := hP55.ext
        clear hP43
        refine opsF_step rfl (YieldsK.assign (show _ = (v51 : Value) from rfl) ?_)    -- law.go:36 t5 := (Op.assign (Operand.tmp 32))
        refine opsF_end (fun ρ => ρ 0 = (v : Value) ∧ ρ 3 = (.pointer (some ⟨gH, 0, none⟩) : Value) ∧ ρ 4 = (va : Value) ∧ ρ 5 = (v51 : Value) ∧ ρ 6 = (.int .i64 ((i : Nat) : Int) : Value) ∧ ρ 7 = (v41 : Value) ∧ True) ⟨T0, T3, T4, rfl, T6, T7, trivial⟩ fun ρ56 ⟨T0, T3, T4, T5, T6, T7, _⟩ => ?_
        refine thenF_normal (hK46 _ _ ?_)
        refine wpF_seq_k fun K57 hK57 => ?_
        refine wpF_text ?_
        refine opsF_step rfl (YieldsK.move (show _ = (.pointer (some ⟨gH, 0, none⟩) : Value) from T3) ?_)    -- law.go:37 t33 := (Op.move (Operand.tmp 3))
        refine opsF_step rfl (YieldsK.move (show _ = (v41 : Value) from T7) ?_)    -- law.go:37 t34 := (Op.move (Operand.tmp 7))
        refine opsF_step rfl (YieldsK.callA2 sha11_pl13 (show _ = (.pointer (some ⟨gH, 0, none⟩) : Value) from rfl) (show _ = (v41 : Value) from rfl) ?_)    -- law.go:37 t35 := (Op.call { callee := (Callee.value (Operand.func 13)), args := #[(Operand.tmp 33), (Operand.tmp 34)], argTypes
        refine (write_all _ (hG.keep hE) gH (by have := hP55.lo; omega) ((ls.take i).flatten) hP55.hash v41 (ls.getD (i) []) (PA.last hP55).1 (fun _ => (PA.last hP55).2) (by omega)).mono ?_
        rintro e w61 ⟨rfl, hH58, hg59⟩
        refine ⟨_, rfl, ?_⟩
        have hP60 := PA.write hP55 hH58 hg59
        have hE : Ext w w61 := hP60.ext
        clear hP55
        refine opsF_end (fun ρ => ρ 0 = (v : Value) ∧ ρ 3 = (.pointer (some ⟨gH, 0, none⟩) : Value) ∧ ρ 4 = (va : Value) ∧ ρ 5 = (v51 : Value) ∧ ρ 6 = (.int .i64 ((i : Nat) : Int) : Value) ∧ ρ 7 = (v41 : Value) ∧ True) ⟨T0, T3, T4, T5, T6, T7, trivial⟩ fun ρ62 ⟨T0, T3, T4, T5, T6, T7, _⟩ => ?_
        refine thenF_normal (hK57 _ _ ?_)
        refine wpF_seq_k fun K63 hK63 => ?_
        refine wpF_text ?_
        refine opsF_step rfl (YieldsK.move (show _ = (va : Value) from T4) ?_)    -- law.go:38 t36 := (Op.move (Operand.tmp 4))
        refine opsF_step rfl (YieldsK.move (show _ = (v : Value) from T0) ?_)    -- law.go:38 t37 := (Op.move (Operand.tmp 0))
        refine opsF_step rfl (YieldsK.move (show _ = (.int .i64 ((i : Nat) : Int) : Value) from T6) ?_)    -- law.go:38 t38 := (Op.move (Operand.tmp 6))
        refine opsF_step rfl (YieldsK.atRBs0 (ls := ls) (i := i) hE sha11_ty35 sha11_sz22 hr (show _ = (v : Value) from rfl) (show _ = (.int .i64 ((i : Nat) : Int) : Value) from rfl) (hi3) fun v64 u65 hp66 hr67 => ?_)    -- law.go:38 t39 := (Op.indexAddr 35 (Operand.tmp 37) (Operand.tmp 38))
        refine opsF_step rfl (YieldsK.loadC sha11_ty22 rfl (PCell.of hp66 (show _ = (v64 : Value) from rfl)) ?_)    -- law.go:38 t40 := (Op.load 22 (Operand.tmp 39))
        refine opsF_step rfl (YieldsK.appendRB _ _ w.heap.size (.int .u8 0) sha11_ty22 sha11_inf5 rfl sha11_ty22 ((ls.take i).flatten) (ls.getD (i) []) (own_of hP60.all (show _ = (va : Value) from rfl)) (RB.of (hr67.keep hE) (show _ = (u65 : Value) from rfl)) (by omega) hP60.ext.size fun v68 w69 ho70 hg71 => ?_)    -- law.go:38 t41 := (Op.call { callee := (Callee.builtin Builtin.append), args := #[(Operand.tmp 36), (Operand.tmp 40)], argTypes 
        have hP72 := PA.addAll hP60 hg71 ho70
        have hE : Ext w w69 := hP72.ext
        clear hP60
        clear hp66
        refine opsF_step rfl (YieldsK.assign (show _ = (v68 : Value) from rfl) ?_)    -- law.go:38 t4 := (Op.assign (Operand.tmp 41))
        refine opsF_end (fun ρ => ρ 0 = (v : Value) ∧ ρ 3 = (.pointer (some ⟨gH, 0, none⟩) : Value) ∧ ρ 4 = (v68 : Value) ∧ ρ 5 = (v51 : Value) ∧ ρ 6 = (.int .i64 ((i : Nat) : Int) : Value) ∧ ρ 7 = (v41 : Value) ∧ True) ⟨T0, T3, rfl, T5, T6, T7, trivial⟩ fun ρ73 ⟨T0, T3, T4, T5, T6, T7, _⟩ => ?_
        have hf1 : (ls.take (i + 1)).flatten.length ≤ 2000 * i + 2000 := by rw [flatten_take ls i hi3, List.length_append]; omega
        have hPn : PA w w69 (gH) ((ls.take (i + 1)).flatten) (v68) ((ls.take (i + 1)).flatten) (v51) (vs ++ [v41]) ((ls.take (i + 1))) := by rw [flatten_take ls i hi3, ← take_snoc ls i hi3]; exact hP72
        have hH74 := hPn.hash
        have hr75 := RB.ofOwn hPn.all
        have hr76 := hPn.rbs
        refine thenF_normal (hK63 _ _ ?_)
        refine wpF_seq_k fun K77 hK77 => ?_
        refine wpF_text ?_
        refine opsF_step rfl (YieldsK.move (show _ = (.pointer (some ⟨gH, 0, none⟩) : Value) from T3) ?_)    -- law.go:39 t42 := (Op.move (Operand.tmp 3))
        refine opsF_step rfl (YieldsK.callA1 sha11_pl15 (show _ = (.pointer (some ⟨gH, 0, none⟩) : Value) from rfl) ?_)    -- law.go:39 t43 := (Op.call { callee := (Callee.value (Operand.func 15)), args := #[(Operand.tmp 42)], argTypes := #[30] })
        refine (len_any _ gH _ hH74).mono ?_
        rintro e w79 ⟨rfl, hx78⟩
        refine ⟨_, rfl, ?_⟩
        have hE : Ext w w79 := (hE.trans hx78)
        have hPn : PA w w79 (gH) ((ls.take (i + 1)).flatten) (v68) ((ls.take (i + 1)).flatten) (v51) (vs ++ [v41]) ((ls.take (i + 1))) := (hPn.keep hx78)
        have hH74 : HashAt w79 gH ((ls.take (i + 1)).flatten) := (hH74.keep hx78)
        have hr75 : RB w79 v68 ((ls.take (i + 1)).flatten) := (hr75.keep hx78)
        have hr76 : RBs w79 v51 ((ls.take (i + 1))) := (hr76.keep hx78)
        refine opsF_step rfl (YieldsK.move (show _ = (v68 : Value) from T4) ?_)    -- law.go:39 t44 := (Op.move (Operand.tmp 4))
        refine opsF_step rfl (YieldsK.lenRB sha11_ty22 (RB.of hr75 (show _ = (v68 : Value) from rfl)) ?_)    -- law.go:39 t45 := (Op.call { callee := (Callee.builtin Builtin.len), args := #[(Operand.tmp 44)], argTypes := #[22] })
        refine opsF_step rfl (YieldsK.eqI (a := (((ls.take (i + 1)).flatten.length : Nat) : Int)) (b := ((((ls.take (i + 1)).flatten : List UInt8).length : Nat) : Int)) (show _ = (.int .i64 (((ls.take (i + 1)).flatten.length : Nat) : Int) : Value) from rfl) (show _ = (.int .i64 ((((ls.take (i + 1)).flatten : List UInt8).length : Nat) : Int) : Value) from rfl) (k_neq _ .i64 ((ls.take (i + 1)).flatten.length) (((ls.take (i + 1)).flatten : List UInt8).length)) ?_)    -- law.go:39 t46 := (Op.binOp BinOp.neq 3 (Operand.tmp 43) (Operand.tmp 45) 3)
        refine opsF_step rfl (YieldsK.move (show _ = (.bool (false) : Value) from (congrArg Value.bool (decide_eq_false (by simp)))) ?_)    -- law.go:39 t47 := (Op.move (Operand.tmp 46))
        refine opsF_on (d := 47) rfl rfl (show _ = (.bool (false) : Value) from rfl) (YieldsK.move (show _ = (.pointer (some ⟨gH, 0, none⟩) : Value) from T3) ?_)    -- law.go:39 t48 := (Op.move (Operand.tmp 3))
        refine opsF_on (d := 47) rfl rfl (show _ = (.bool (false) : Value) from rfl) (YieldsK.callA1 sha11_pl14 (show _ = (.pointer (some ⟨gH, 0, none⟩) : Value) from rfl) ?_)    -- law.go:39 t49 := (Op.call { callee := (Callee.value (Operand.func 14)), args := #[(Operand.tmp 48)], argTypes := #[30] })
        refine (sumAt_any _ (hG.keep hE) gH ((ls.take (i + 1)).flatten) hH74 (by omega)).mono ?_
        rintro e w81 ⟨rfl, hx80⟩
        refine ⟨_, rfl, ?_⟩
        have hE : Ext w w81 := (hE.trans hx80)
        have hPn : PA w w81 (gH) ((ls.take (i + 1)).flatten) (v68) ((ls.take (i + 1)).flatten) (v51) (vs ++ [v41]) ((ls.take (i + 1))) := (hPn.keep hx80)
        have hH74 : HashAt w81 gH ((ls.take (i + 1)).flatten) := (hH74.keep hx80)
        have hr75 : RB w81 v68 ((ls.take (i + 1)).flatten) := (hr75.keep hx80)
        have hr76 : RBs w81 v51 ((ls.take (i + 1))) := (hr76.keep hx80)
        refine opsF_on (d := 47) rfl rfl (show _ = (.bool (false) : Value) from rfl) (YieldsK.move (show _ = (v68 : Value) from T4) ?_)    -- law.go:39 t50 := (Op.move (Operand.tmp 4))
        refine opsF_on (d := 47) rfl rfl (show _ = (.bool (false) : Value) from rfl) (YieldsK.callA1 sha11_pl10 (show _ = (v68 : Value) from rfl) ?_)    -- law.go:39 t51 := (Op.call { callee := (Callee.value (Operand.func 10)), args := #[(Operand.tmp 50)], argTypes := #[22] })
        refine (refSum_any _ v68 ((ls.take (i + 1)).flatten) hr75 (by omega)).mono ?_
        rintro e w83 ⟨rfl, hx82⟩
        refine ⟨_, rfl, ?_⟩
        have hE : Ext w w83 := (hE.trans hx82)
        have hPn : PA w w83 (gH) ((ls.take (i + 1)).flatten) (v68) ((ls.take (i + 1)).flatten) (v51) (vs ++ [v41]) ((ls.take (i + 1))) := (hPn.keep hx82)
        have hH74 : HashAt w83 gH ((ls.take (i + 1)).flatten) := (hH74.keep hx82)
        have hr75 : RB w83 v68 ((ls.take (i + 1)).flatten) := (hr75.keep hx82)
        have hr76 : RBs w83 v51 ((ls.take (i + 1))) := (hr76.keep hx82)
        refine opsF_on (d := 47) rfl rfl (show _ = (.bool (false) : Value) from rfl) (YieldsK.neArr (l1 := (Sha.sum ((ls.take (i + 1)).flatten))) (l2 := (Sha.sum ((ls.take (i + 1)).flatten))) sha11_ty24 sha11_ty5 sha11_sz5 sha11_eg24 (show _ = (.agg (Lib.byteCells (Sha.sum ((ls.take (i + 1)).flatten))).toArray : Value) from rfl) (show _ = (.agg (Lib.byteCells (Sha.sum ((ls.take (i + 1)).flatten))).toArray : Value) from rfl) (Sha.sum_length _) (Sha.sum_length _) ?_)    -- law.go:39 t52 := (Op.binOp BinOp.neq 24 (Operand.tmp 49) (Operand.tmp 51) 24)
        refine opsF_step rfl (YieldsK.pickF (show _ = (.bool (false) : Value) from rfl) (show _ = (.bool (false) : Value) from (congrArg Value.bool (decide_eq_false (by simp)))) ?_)    -- law.go:39 t53 := (Op.pick (Operand.tmp 47) (Operand.const (Value.bool true)) (Operand.tmp 52))
        refine opsF_end (fun ρ => ρ 0 = (v : Value) ∧ ρ 3 = (.pointer (some ⟨gH, 0, none⟩) : Value) ∧ ρ 4 = (v68 : Value) ∧ ρ 5 = (v51 : Value) ∧ ρ 6 = (.int .i64 ((i : Nat) : Int) : Value) ∧ ρ 7 = (v41 : Value) ∧ ρ 53 = (.bool (false) : Value) ∧ True) ⟨T0, T3, T4, T5, T6, T7, rfl, trivial⟩ fun ρ84 ⟨T0, T3, T4, T5, T6, T7, T53, _⟩ => ?_
        refine thenF_normal (hK77 _ _ ?_)
        refine wpF_false (show _ = (.bool (false) : Value) from T53) ?_
        refine wpF_skip ?_
        refine inBlockF_normal ?_
        refine thenF_normal (hK26 _ _ ?_)
        refine wpF_text ?_
        refine opsF_step rfl (YieldsK.move (show _ = (.int .i64 ((i : Nat) : Int) : Value) from T6) ?_)    -- law.go:31 t16 := (Op.move (Operand.tmp 6))
        refine opsF_step rfl (YieldsK.bin (xv := .int .i64 ((i : Nat) : Int)) (yv := .int .i64 ((1 : Nat) : Int)) (show _ = (.int .i64 ((i : Nat) : Int) : Value) from rfl) (show _ = (.int .i64 ((1 : Nat) : Int) : Value) from rfl) rfl (i64_add _ (i) (1) (by omega)) ?_)    -- law.go:31 t17 := (Op.binOp BinOp.add 3 (Operand.tmp 16) (Operand.const (Value.int IntKind.i64 1)) 3)
        refine opsF_step rfl (YieldsK.assign (show _ = (.int .i64 (((i) + (1) : Nat) : Int) : Value) from rfl) ?_)    -- law.go:31 t6 := (Op.assign (Operand.tmp 17))
        refine opsF_end (fun ρ => ρ 0 = (v : Value) ∧ ρ 3 = (.pointer (some ⟨gH, 0, none⟩) : Value) ∧ ρ 4 = (v68 : Value) ∧ ρ 5 = (v51 : Value) ∧ ρ 6 = (.int .i64 (((i) + (1) : Nat) : Int) : Value) ∧ ρ 7 = (v41 : Value) ∧ ρ 53 = (.bool (false) : Value) ∧ True) ⟨T0, T3, T4, T5, rfl, T7, T53, trivial⟩ fun ρ85 ⟨T0, T3, T4, T5, T6, T7, T53, _⟩ => ?_
        refine thenF_normal (And.intro ⟨i + 1, v68, v51, vs ++ [v41], T0, T3, T4, T5, T6, hE, hPn, by omega, by rw [flatten_take ls i hi3, List.length_append]; omega, trivial⟩ ?_)
        show ls.length - (intOf (ρ85 6)).toNat < ls.length - (intOf (ρ21 6)).toNat
        rw [T6, q6]
        simp only [intOf, Int.toNat_natCast]; omega
    · have hii : i = ls.length := by omega
      have hH86 := hPi.hash
      have hr87 := RB.ofOwn hPi.all
      have hr88 := hPi.rbs
      refine wpF_exit (thenF_exit (thenF_exit (inBlockF_hit ?_)))
      refine thenF_normal (hK18 _ _ ?_)
      refine wpF_seq_k fun K89 hK89 => ?_
      refine wpF_text ?_
      refine opsF_step rfl (YieldsK.move (show _ = (vc : Value) from T5) ?_)    -- law.go:43 t54 := (Op.move (Operand.tmp 5))
      refine opsF_step rfl (YieldsK.callA1 sha11_pl8 (show _ = (vc : Value) from rfl) ?_)    -- law.go:43 t55 := (Op.call { callee := (Callee.value (Operand.func 8)), args := #[(Operand.tmp 54)], argTypes := #[35] })
      refine (sum_any _ (hG.keep hE) vc (ls.take i) hr88 (by omega) (by have := List.length_take_le i ls; omega)).mono ?_
      rintro e w91 ⟨rfl, hx90⟩
      refine ⟨_, rfl, ?_⟩
      have hE : Ext w w91 := (hE.trans hx90)
      have hPi : PA w w91 (gH) ((ls.take i).flatten) (va) ((ls.take i).flatten) (vc) (vs) ((ls.take i)) := (hPi.keep hx90)
      have hH86 : HashAt w91 gH ((ls.take i).flatten) := (hH86.keep hx90)
      have hr87 : RB w91 va ((ls.take i).flatten) := (hr87.keep hx90)
      have hr88 : RBs w91 vc ((ls.take i)) := (hr88.keep hx90)
      refine opsF_step rfl (YieldsK.move (show _ = (va : Value) from T4) ?_)    -- law.go:43 t56 := (Op.move (Operand.tmp 4))
      refine opsF_step rfl (YieldsK.callA1 sha11_pl10 (show _ = (va : Value) from rfl) ?_)    -- law.go:43 t57 := (Op.call { callee := (Callee.value (Operand.func 10)), args := #[(Operand.tmp 56)], argTypes := #[22] })
      refine (refSum_any _ va ((ls.take i).flatten) hr87 (by omega)).mono ?_
      rintro e w93 ⟨rfl, hx92⟩
      refine ⟨_, rfl, ?_⟩
      have hE : Ext w w93 := (hE.trans hx92)
      have hPi : PA w w93 (gH) ((ls.take i).flatten) (va) ((ls.take i).flatten) (vc) (vs) ((ls.take i)) := (hPi.keep hx92)
      have hH86 : HashAt w93 gH ((ls.take i).flatten) := (hH86.keep hx92)
      have hr87 : RB w93 va ((ls.take i).flatten) := (hr87.keep hx92)
      have hr88 : RBs w93 vc ((ls.take i)) := (hr88.keep hx92)
      refine opsF_step rfl (YieldsK.eqArr (l1 := (Sha.sum ((ls.take i)).flatten)) (l2 := (Sha.sum ((ls.take i).flatten))) sha11_ty24 sha11_ty5 sha11_sz5 sha11_eg24 (show _ = (.agg (Lib.byteCells (Sha.sum ((ls.take i)).flatten)).toArray : Value) from rfl) (show _ = (.agg (Lib.byteCells (Sha.sum ((ls.take i).flatten))).toArray : Value) from rfl) (Sha.sum_length _) (Sha.sum_length _) ?_)    -- law.go:43 t58 := (Op.binOp BinOp.eql 24 (Operand.tmp 55) (Operand.tmp 57) 24)
      refine opsF_step rfl (YieldsK.move (show _ = (.bool (true) : Value) from (congrArg Value.bool (decide_eq_true (rfl)))) ?_)    -- law.go:43 t59 := (Op.move (Operand.tmp 58))
      refine opsF_on (d := 59) rfl rfl (show _ = (.bool (true) : Value) from rfl) (YieldsK.move (show _ = (.pointer (some ⟨gH, 0, none⟩) : Value) from T3) ?_)    -- law.go:43 t60 := (Op.move (Operand.tmp 3))
      refine opsF_on (d := 59) rfl rfl (show _ = (.bool (true) : Value) from rfl) (YieldsK.callA1 sha11_pl14 (show _ = (.pointer (some ⟨gH, 0, none⟩) : Value) from rfl) ?_)    -- law.go:43 t61 := (Op.call { callee := (Callee.value (Operand.func 14)), args := #[(Operand.tmp 60)], argTypes := #[30] })
      refine (sumAt_any _ (hG.keep hE) gH ((ls.take i).flatten) hH86 (by omega)).mono ?_
      rintro e w95 ⟨rfl, hx94⟩
      refine ⟨_, rfl, ?_⟩
      have hE : Ext w w95 := (hE.trans hx94)
      have hPi : PA w w95 (gH) ((ls.take i).flatten) (va) ((ls.take i).flatten) (vc) (vs) ((ls.take i)) := (hPi.keep hx94)
      have hH86 : HashAt w95 gH ((ls.take i).flatten) := (hH86.keep hx94)
      have hr87 : RB w95 va ((ls.take i).flatten) := (hr87.keep hx94)
      have hr88 : RBs w95 vc ((ls.take i)) := (hr88.keep hx94)
      refine opsF_on (d := 59) rfl rfl (show _ = (.bool (true) : Value) from rfl) (YieldsK.move (show _ = (va : Value) from T4) ?_)    -- law.go:43 t62 := (Op.move (Operand.tmp 4))
      refine opsF_on (d := 59) rfl rfl (show _ = (.bool (true) : Value) from rfl) (YieldsK.callA1 sha11_pl10 (show _ = (va : Value) from rfl) ?_)    -- law.go:43 t63 := (Op.call { callee := (Callee.value (Operand.func 10)), args := #[(Operand.tmp 62)], argTypes := #[22] })
      refine (refSum_any _ va ((ls.take i).flatten) hr87 (by omega)).mono ?_
      rintro e w97 ⟨rfl, hx96⟩
      refine ⟨_, rfl, ?_⟩
      have hE : Ext w w97 := (hE.trans hx96)
      have hPi : PA w w97 (gH) ((ls.take i).flatten) (va) ((ls.take i).flatten) (vc) (vs) ((ls.take i)) := (hPi.keep hx96)
      have hH86 : HashAt w97 gH ((ls.take i).flatten) := (hH86.keep hx96)
      have hr87 : RB w97 va ((ls.take i).flatten) := (hr87.keep hx96)
      have hr88 : RBs w97 vc ((ls.take i)) := (hr88.keep hx96)
      refine opsF_on (d := 59) rfl rfl (show _ = (.bool (true) : Value) from rfl) (YieldsK.eqArr (l1 := (Sha.sum ((ls.take i).flatten))) (l2 := (Sha.sum ((ls.take i).flatten))) sha11_ty24 sha11_ty5 sha11_sz5 sha11_eg24 (show _ = (.agg (Lib.byteCells (Sha.sum ((ls.take i).flatten))).toArray : Value) from rfl) (show _ = (.agg (Lib.byteCells (Sha.sum ((ls.take i).flatten))).toArray : Value) from rfl) (Sha.sum_length _) (Sha.sum_length _) ?_)    -- law.go:43 t64 := (Op.binOp BinOp.eql 24 (Operand.tmp 61) (Operand.tmp 63) 24)
      refine opsF_step rfl (YieldsK.pickT (show _ = (.bool (true) : Value) from rfl) (show _ = (.bool (true) : Value) from (congrArg Value.bool (decide_eq_true (rfl)))) ?_)    -- law.go:43 t65 := (Op.pick (Operand.tmp 59) (Operand.tmp 64) (Operand.const (Value.bool false)))
      refine opsF_step rfl (YieldsK.move (show _ = (.bool (true) : Value) from rfl) ?_)    -- law.go:43 t66 := (Op.move (Operand.tmp 65))
      refine opsF_on (d := 66) rfl rfl (show _ = (.bool (true) : Value) from rfl) (YieldsK.callA0 sha11_pl11  ?_)    -- law.go:43 t67 := (Op.call { callee := (Callee.value (Operand.func 11)), args := #[], argTypes := #[] })
      refine (awake01 _ (hG.keep hE)).mono ?_
      rintro e w99 ⟨rfl, hx98⟩
      refine ⟨_, rfl, ?_⟩
      have hE : Ext w w99 := (hE.trans hx98)
      have hPi : PA w w99 (gH) ((ls.take i).flatten) (va) ((ls.take i).flatten) (vc) (vs) ((ls.take i)) := (hPi.keep hx98)
      have hH86 : HashAt w99 gH ((ls.take i).flatten) := (hH86.keep hx98)
      have hr87 : RB w99 va ((ls.take i).flatten) := (hr87.keep hx98)
      have hr88 : RBs w99 vc ((ls.take i)) := (hr88.keep hx98)
      refine opsF_step rfl (YieldsK.pickT (show _ = (.bool (true) : Value) from rfl) (show _ = (.bool (true) : Value) from rfl) ?_)    -- law.go:43 t68 := (Op.pick (Operand.tmp 66) (Operand.tmp 67) (Operand.const (Value.bool false)))
      refine opsF_step rfl (YieldsK.assign (show _ = (.bool (true) : Value) from rfl) ?_)    -- law.go:43 t2 := (Op.assign (Operand.tmp 68))
      refine opsF_end (fun ρ => ρ 0 = (v : Value) ∧ ρ 2 = (.bool (true) : Value) ∧ ρ 3 = (.pointer (some ⟨gH, 0, none⟩) : Value) ∧ ρ 4 = (va : Value) ∧ ρ 5 = (vc : Value) ∧ ρ 6 = (.int .i64 ((i : Nat) : Int) : Value) ∧ True) ⟨T0, rfl, T3, T4, T5, T6, trivial⟩ fun ρ100 ⟨T0, T2, T3, T4, T5, T6, _⟩ => ?_
      refine thenF_normal (hK89 _ _ ?_)
      refine wpF_ret ?_
      refine postF_ret (fn := Tryd.f5) _ rfl [.bool (true)] (.bool (true)) rfl ⟨T2, trivial⟩ ?_
      exact ⟨rfl, hE⟩
end Go.Proofs.YtcindgknimallaaDoor
