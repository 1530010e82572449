/- The laws of the sum, walked. -/
import Derived.Test.YtcindgknimallaaDoorSha9
namespace Go.Proofs.YtcindgknimallaaDoor
open Go.RowKit
/-- The example's sum. -/
def shaAbc : List UInt8 := [186, 120, 22, 191, 143, 1, 207, 234, 65, 65, 64, 222, 93, 174, 34, 35, 176, 3, 97, 163, 150, 23, 122, 156, 180, 16, 255, 97, 242, 0, 21, 173]
set_option maxRecDepth 100000 in
theorem shaAbc_eq : Sha.sum ([([97, 98, 99] : List UInt8)] : List (List UInt8)).flatten = shaAbc := by decide +kernel
theorem own_nil (w : World) (b : Nat) (e : TypeId) : w.ownsRow b e 1 (.slice none 0 0) 0 [] := World.ownsRow_nil w b e 1
theorem own_nilAny {w w' : World} {b : Nat} {e : TypeId} (_ : w.ownsRow b e 1 (.slice none 0 0) ([] : List UInt8).length (Lib.byteCells ([] : List UInt8))) : w'.ownsRow b e 1 (.slice none 0 0) ([] : List UInt8).length (Lib.byteCells ([] : List UInt8)) := World.ownsRow_nil w' b e 1
theorem u64_nat (n : Int) : ∃ C : Nat, IntKind.u64.wrap n = (C : Int) := by
  refine ⟨(IntKind.u64.wrap n).toNat, ?_⟩
  have : 0 ≤ IntKind.u64.wrap n := by
    simp only [IntKind.wrap, IntKind.bits, IntKind.signed]
    simp
    omega
  omega
theorem sha10_isz24 : (Tryd.prog.info? 24).map (·.size) = some 32 := by kernel_rfl
theorem sha10_ty22 : Tryd.prog.underlying 22 = some (.slice 5) := by kernel_rfl
theorem sha10_ty5 : Tryd.prog.underlying 5 = some (.int .u8) := by kernel_rfl
theorem sha10_rows1_35 (ao : Option Addr) (n c : Nat) (w : World) : (Instr.buildSlice 35 1 #[(0, .slice ao n c)]).run Tryd.prog w = .ok (.slice (some ⟨w.heap.size, 0, none⟩) 1 1) (w.alloc (.cells #[.slice ao n c] 22)) := by kernel_rfl
theorem sha10_pl8 : Plain Tryd.prog 8 := fun _ _ => by kernel_rfl
theorem sha10_al24 {d : Option Tmp} {ty : TypeId} {pos : String} {af : Array Edge} {gd : Option (Nat × Bool)} (σ : Operand → Value) (w : World) : (execOp σ ⟨d, .alloc 24, ty, pos, af, gd⟩).run Tryd.prog w = .ok (.value (.pointer (some ⟨w.heap.size, 0, none⟩))) (w.alloc (.cells (Lib.byteCells (List.replicate 32 0)).toArray 24)) := by kernel_rfl
theorem sha10_ty24 : Tryd.prog.underlying 24 = some (.array 32 5) := by kernel_rfl
theorem sha10_sz5 : ∀ w' : World, (sizeOf 5).run Tryd.prog w' = .ok 1 w' := fun _ => by kernel_rfl
theorem sha10_pl9 : Plain Tryd.prog 9 := fun _ _ => by kernel_rfl
theorem sha10_pl10 : Plain Tryd.prog 10 := fun _ _ => by kernel_rfl
theorem sha10_eg24 : Tryd.prog.eqGuardType Tryd.prog.depth 24 = false := by kernel_rfl
theorem sha10_pl11 : Plain Tryd.prog 11 := fun _ _ => by kernel_rfl
theorem sha10_pl13 : Plain Tryd.prog 13 := fun _ _ => by kernel_rfl
theorem sha10_pl15 : Plain Tryd.prog 15 := fun _ _ => by kernel_rfl
theorem sha10_pl14 : Plain Tryd.prog 14 := fun _ _ => by kernel_rfl
theorem sha10_rows2_35 (ao : Option Addr) (n c : Nat) (ao' : Option Addr) (n' c' : Nat) (w : World) : (Instr.buildSlice 35 2 #[(0, .slice ao n c), (1, .slice ao' n' c')]).run Tryd.prog w = .ok (.slice (some ⟨w.heap.size, 0, none⟩) 2 2) (w.alloc (.cells #[.slice ao n c, .slice ao' n' c'] 22)) := by kernel_rfl
theorem sha10_ty3 : Tryd.prog.underlying 3 = some (.int .i64) := by kernel_rfl
theorem sha10_pl12 : Plain Tryd.prog 12 := fun _ _ => by kernel_rfl
theorem sha10_l1_22 (z : Int) (w : World) : (Instr.buildSlice 22 1 #[(0, .int .u8 z)]).run Tryd.prog w = .ok (.slice (some ⟨w.heap.size, 0, none⟩) 1 1) (w.alloc (.cells #[.int .u8 z] 5)) := by kernel_rfl
theorem sha10_inf5 : (Tryd.prog.info? 5).map (fun i => (i.zero, i.size, i.bytes)) = some (some (.int .u8 0), 1, 1) := by kernel_rfl
theorem sha10_ty38 : Tryd.prog.underlying 38 = some (.int .u64) := by kernel_rfl
theorem awake01 (w : World) (hG : Laid w) :
    Calls Tryd.prog 11 #[] w fun e w' => e = .returned (.bool true) ∧ Ext w w' := by
  refine calls_of_wpF (args := []) Tryd.func11 rfl 24 rfl (Nat.le_of_ble_eq_true rfl) ?_
  intro ρ0 hb
  clear hb
  have hE := Ext.refl w
  refine wpF_seq_k fun K1 hK1 => ?_
  refine wpF_text ?_
  refine opsF_step rfl (YieldsK.assign (show _ = (.bool (false) : Value) from rfl) ?_)    -- law.go:10 t0 := (Op.assign (Operand.const (Value.bool false)))
  refine opsF_end (fun ρ => ρ 0 = (.bool (false) : Value) ∧ True) ⟨rfl, trivial⟩ fun ρ2 ⟨T0, _⟩ => ?_
  refine thenF_normal (hK1 _ _ ?_)
  refine wpF_seq_k fun K3 hK3 => ?_
  refine wpF_text ?_
  refine opsF_step rfl (YieldsK.litN (e := 5) ([97, 98, 99] : List UInt8) (by decide) (fun _ _ => by kernel_rfl) fun v4 w5 hN6 => ?_)    -- law.go:11 t2 := (Op.buildSlice 22 3 #[(0, (Operand.const (Value.int IntKind.u8 97))), (1, (Operand.const (Value.int IntKind.u8
  have hE : Ext w w5 := (hE.trans hN6.ext)
  have ho7 := hN6.own; clear hN6
  refine opsF_step rfl (YieldsK.convMark sha10_ty22 sha10_ty5 (show _ = (v4 : Value) from rfl) ho7 (by decide) fun w8 hr9 hg10 => ?_)    -- law.go:11 t3 := (Op.convert 22 22 (Operand.tmp 2))
  have hE : Ext w w8 := ext_grew hE hg10 ho7 (Nat.le_refl _)
  clear ho7
  refine opsF_step rfl (YieldsK.rows1 sha10_rows1_35 (RB.of hr9 (show _ = (v4 : Value) from rfl)) fun v11 w12 hr13 hx14 => ?_)    -- law.go:11 t4 := (Op.buildSlice 35 1 #[(0, (Operand.tmp 3))])
  have hE : Ext w w12 := (hE.trans hx14)
  have hr9 : RB w12 v4 (([97, 98, 99] : List UInt8)) := (hr9.keep hx14)
  refine opsF_step rfl (YieldsK.callA1 sha10_pl8 (show _ = (v11 : Value) from rfl) ?_)    -- law.go:11 t5 := (Op.call { callee := (Callee.value (Operand.func 8)), args := #[(Operand.tmp 4)], argTypes := #[35] })
  refine (sum_any _ (hG.keep hE) v11 [([97, 98, 99] : List UInt8)] hr13 (by decide) (by decide)).mono ?_
  rintro e w16 ⟨rfl, hx15⟩
  refine ⟨_, rfl, ?_⟩
  have hE : Ext w w16 := (hE.trans hx15)
  have hr9 : RB w16 v4 (([97, 98, 99] : List UInt8)) := (hr9.keep hx15)
  have hr13 : RBs w16 v11 [([97, 98, 99] : List UInt8)] := (hr13.keep hx15)
  refine opsF_step rfl (YieldsK.alloc (cs := (Lib.byteCells (List.replicate 32 0)).toArray) sha10_al24 fun n17 w18 hn19 hb20 hx21 hs22 => ?_)    -- law.go:11 t1 := (Op.alloc 24)
  have hA23 := Ext.refl w16
  have hea24 := hE
  have hz25 : w.heap.size ≤ w16.heap.size := hE.size
  have hE : Ext w w18 := (hE.trans hx21)
  have hA23 : Ext w16 w18 := (hA23.trans hx21)
  have hb26 := hb20; clear hb20
  have hl27 : n17 < w18.heap.size := by omega
  refine opsF_step rfl (YieldsK.storeAll (show _ = (.pointer (some ⟨n17, 0, none⟩) : Value) from rfl) (show _ = (.agg (Lib.byteCells shaAbc).toArray : Value) from (congrArg (fun z => Value.agg (Lib.byteCells z).toArray) shaAbc_eq)) hb26 (rfl) (sha10_isz24) (byteCells_one _) fun w28 hb29 hg30 hs31 => ?_)    -- law.go:11 tNone := (Op.store 24 (Operand.tmp 1) (Operand.tmp 5))
  have hE : Ext w w28 := row_fresh hE hg30 (Nat.le_trans hz25 (by omega))
  have hA23 : Ext w16 w28 := row_fresh hA23 hg30 (Nat.le_trans (Nat.le_refl _) (by omega))
  clear hb26
  have hb26 := hb29; clear hb29
  have hl32 : n17 < w28.heap.size := (Array.getElem?_eq_some_iff.1 hb26).1
  refine opsF_end (fun ρ => ρ 0 = (.bool (false) : Value) ∧ ρ 1 = (.pointer (some ⟨n17, 0, none⟩) : Value) ∧ True) ⟨T0, rfl, trivial⟩ fun ρ33 ⟨T0, T1, _⟩ => ?_
  refine thenF_normal (hK3 _ _ ?_)
  refine wpF_seq_k fun K34 hK34 => ?_
  refine wpF_text ?_
  refine opsF_step rfl (YieldsK.atArr0 (i := 0) sha10_ty24 sha10_sz5 (show _ = (.pointer (some ⟨n17, 0, none⟩) : Value) from T1) (show _ = (.int .i64 ((0 : Nat) : Int) : Value) from rfl) (by decide) ?_)    -- law.go:12 t6 := (Op.indexAddr 24 (Operand.tmp 1) (Operand.const (Value.int IntKind.i64 0)))
  refine opsF_step rfl (YieldsK.cell1 sha10_ty5 rfl (show _ = (.pointer (some ⟨n17, 0, none⟩) : Value) from rfl) (cellAt hb26 (byte_at (i := 0) (by decide))) ?_)    -- law.go:12 t7 := (Op.load 5 (Operand.tmp 6))
  refine opsF_step rfl (YieldsK.eqI (a := ((((shaAbc).getD (0) 0).toNat : Nat) : Int)) (b := ((186 : Nat) : Int)) (show _ = (B8 ((shaAbc).getD (0) 0) : Value) from rfl) (show _ = (B8 (186) : Value) from rfl) (k_eql _ .u8 (((shaAbc).getD (0) 0).toNat) (186)) ?_)    -- law.go:12 t8 := (Op.binOp BinOp.eql 5 (Operand.tmp 7) (Operand.const (Value.int IntKind.u8 186)) 5)
  refine opsF_step rfl (YieldsK.move (show _ = (.bool (true) : Value) from (congrArg Value.bool (decide_eq_true (by decide)))) ?_)    -- law.go:12 t9 := (Op.move (Operand.tmp 8))
  refine opsF_on (d := 9) rfl rfl (show _ = (.bool (true) : Value) from rfl) (YieldsK.atArr0 (i := 1) sha10_ty24 sha10_sz5 (show _ = (.pointer (some ⟨n17, 0, none⟩) : Value) from T1) (show _ = (.int .i64 ((1 : Nat) : Int) : Value) from rfl) (by decide) ?_)    -- law.go:12 t10 := (Op.indexAddr 24 (Operand.tmp 1) (Operand.const (Value.int IntKind.i64 1)))
  refine opsF_on (d := 9) rfl rfl (show _ = (.bool (true) : Value) from rfl) (YieldsK.cell1 sha10_ty5 rfl (show _ = (.pointer (some ⟨n17, 1, none⟩) : Value) from rfl) (cellAt hb26 (byte_at (i := 1) (by decide))) ?_)    -- law.go:12 t11 := (Op.load 5 (Operand.tmp 10))
  refine opsF_on (d := 9) rfl rfl (show _ = (.bool (true) : Value) from rfl) (YieldsK.eqI (a := ((((shaAbc).getD (1) 0).toNat : Nat) : Int)) (b := ((120 : Nat) : Int)) (show _ = (B8 ((shaAbc).getD (1) 0) : Value) from rfl) (show _ = (B8 (120) : Value) from rfl) (k_eql _ .u8 (((shaAbc).getD (1) 0).toNat) (120)) ?_)    -- law.go:12 t12 := (Op.binOp BinOp.eql 5 (Operand.tmp 11) (Operand.const (Value.int IntKind.u8 120)) 5)
  refine opsF_step rfl (YieldsK.pickT (show _ = (.bool (true) : Value) from rfl) (show _ = (.bool (true) : Value) from (congrArg Value.bool (decide_eq_true (by decide)))) ?_)    -- law.go:12 t13 := (Op.pick (Operand.tmp 9) (Operand.tmp 12) (Operand.const (Value.bool false)))
  refine opsF_step rfl (YieldsK.move (show _ = (.bool (true) : Value) from rfl) ?_)    -- law.go:12 t14 := (Op.move (Operand.tmp 13))
  refine opsF_on (d := 14) rfl rfl (show _ = (.bool (true) : Value) from rfl) (YieldsK.atArr0 (i := 2) sha10_ty24 sha10_sz5 (show _ = (.pointer (some ⟨n17, 0, none⟩) : Value) from T1) (show _ = (.int .i64 ((2 : Nat) : Int) : Value) from rfl) (by decide) ?_)    -- law.go:12 t15 := (Op.indexAddr 24 (Operand.tmp 1) (Operand.const (Value.int IntKind.i64 2)))
  refine opsF_on (d := 14) rfl rfl (show _ = (.bool (true) : Value) from rfl) (YieldsK.cell1 sha10_ty5 rfl (show _ = (.pointer (some ⟨n17, 2, none⟩) : Value) from rfl) (cellAt hb26 (byte_at (i := 2) (by decide))) ?_)    -- law.go:12 t16 := (Op.load 5 (Operand.tmp 15))
  refine opsF_on (d := 14) rfl rfl (show _ = (.bool (true) : Value) from rfl) (YieldsK.eqI (a := ((((shaAbc).getD (2) 0).toNat : Nat) : Int)) (b := ((22 : Nat) : Int)) (show _ = (B8 ((shaAbc).getD (2) 0) : Value) from rfl) (show _ = (B8 (22) : Value) from rfl) (k_eql _ .u8 (((shaAbc).getD (2) 0).toNat) (22)) ?_)    -- law.go:12 t17 := (Op.binOp BinOp.eql 5 (Operand.tmp 16) (Operand.const (Value.int IntKind.u8 22)) 5)
  refine opsF_step rfl (YieldsK.pickT (show _ = (.bool (true) : Value) from rfl) (show _ = (.bool (true) : Value) from (congrArg Value.bool (decide_eq_true (by decide)))) ?_)    -- law.go:12 t18 := (Op.pick (Operand.tmp 14) (Operand.tmp 17) (Operand.const (Value.bool false)))
  refine opsF_step rfl (YieldsK.move (show _ = (.bool (true) : Value) from rfl) ?_)    -- law.go:12 t19 := (Op.move (Operand.tmp 18))
  refine opsF_on (d := 19) rfl rfl (show _ = (.bool (true) : Value) from rfl) (YieldsK.atArr0 (i := 31) sha10_ty24 sha10_sz5 (show _ = (.pointer (some ⟨n17, 0, none⟩) : Value) from T1) (show _ = (.int .i64 ((31 : Nat) : Int) : Value) from rfl) (by decide) ?_)    -- law.go:12 t20 := (Op.indexAddr 24 (Operand.tmp 1) (Operand.const (Value.int IntKind.i64 31)))
  refine opsF_on (d := 19) rfl rfl (show _ = (.bool (true) : Value) from rfl) (YieldsK.cell1 sha10_ty5 rfl (show _ = (.pointer (some ⟨n17, 31, none⟩) : Value) from rfl) (cellAt hb26 (byte_at (i := 31) (by decide))) ?_)    -- law.go:12 t21 := (Op.load 5 (Operand.tmp 20))
  refine opsF_on (d := 19) rfl rfl (show _ = (.bool (true) : Value) from rfl) (YieldsK.eqI (a := ((((shaAbc).getD (31) 0).toNat : Nat) : Int)) (b := ((173 : Nat) : Int)) (show _ = (B8 ((shaAbc).getD (31) 0) : Value) from rfl) (show _ = (B8 (173) : Value) from rfl) (k_eql _ .u8 (((shaAbc).getD (31) 0).toNat) (173)) ?_)    -- law.go:12 t22 := (Op.binOp BinOp.eql 5 (Operand.tmp 21) (Operand.const (Value.int IntKind.u8 173)) 5)
  refine opsF_step rfl (YieldsK.pickT (show _ = (.bool (true) : Value) from rfl) (show _ = (.bool (true) : Value) from (congrArg Value.bool (decide_eq_true (by decide)))) ?_)    -- law.go:12 t23 := (Op.pick (Operand.tmp 19) (Operand.tmp 22) (Operand.const (Value.bool false)))
  refine opsF_step rfl (YieldsK.assign (show _ = (.bool (true) : Value) from rfl) ?_)    -- law.go:12 t0 := (Op.assign (Operand.tmp 23))
  refine opsF_end (fun ρ => ρ 0 = (.bool (true) : Value) ∧ ρ 1 = (.pointer (some ⟨n17, 0, none⟩) : Value) ∧ True) ⟨rfl, T1, trivial⟩ fun ρ35 ⟨T0, T1, _⟩ => ?_
  refine thenF_normal (hK34 _ _ ?_)
  refine wpF_ret ?_
  refine postF_ret (fn := Tryd.f11) _ rfl [.bool (true)] (.bool (true)) rfl ⟨T0, trivial⟩ ?_
  exact ⟨rfl, hE⟩

theorem shaSums_walk (w : World) (hG : Laid w) (v : Value) (l : List UInt8) (hr : RB w v l) :
    Calls Tryd.prog 3 #[v] w fun e w' => e = .returned (.bool true) ∧ Ext w w' := by
  refine calls_of_wpF (args := [v]) Tryd.func3 rfl 16 rfl (Nat.le_of_ble_eq_true rfl) ?_
  intro ρ0 hb
  have T0 : ρ0 0 = (v : Value) := hb.get 0
  clear hb
  have hE := Ext.refl w
  refine wpF_seq_k fun K1 hK1 => ?_
  refine wpF_text ?_
  refine opsF_step rfl (YieldsK.assign (show _ = (.bool (false) : Value) from rfl) ?_)    -- law.go:16 t2 := (Op.assign (Operand.const (Value.bool false)))
  refine opsF_end (fun ρ => ρ 0 = (v : Value) ∧ ρ 2 = (.bool (false) : Value) ∧ True) ⟨T0, rfl, trivial⟩ fun ρ2 ⟨T0, T2, _⟩ => ?_
  refine thenF_normal (hK1 _ _ ?_)
  refine wpF_seq_k fun K3 hK3 => ?_
  refine wpF_seq_k fun K4 hK4 => ?_
  refine wpF_text ?_
  refine opsF_step rfl (YieldsK.move (show _ = (v : Value) from T0) ?_)    -- law.go:17 t3 := (Op.move (Operand.tmp 0))
  refine opsF_step rfl (YieldsK.lenRB sha10_ty22 (RB.of (hr.keep hE) (show _ = (v : Value) from rfl)) ?_)    -- law.go:17 t4 := (Op.call { callee := (Callee.builtin Builtin.len), args := #[(Operand.tmp 3)], argTypes := #[22] })
  refine opsF_step rfl (YieldsK.eqI (a := ((l.length : Nat) : Int)) (b := ((20000 : Nat) : Int)) (show _ = (.int .i64 ((l.length : Nat) : Int) : Value) from rfl) (show _ = (.int .i64 ((20000 : Nat) : Int) : Value) from rfl) (k_gtr _ .i64 (l.length) (20000)) ?_)    -- law.go:17 t5 := (Op.binOp BinOp.gtr 3 (Operand.tmp 4) (Operand.const (Value.int IntKind.i64 20000)) 3)
  refine opsF_end (fun ρ => ρ 0 = (v : Value) ∧ ρ 2 = (.bool (false) : Value) ∧ ρ 5 = (.bool (decide ((20000) < (l.length))) : Value) ∧ True) ⟨T0, T2, rfl, trivial⟩ fun ρ5 ⟨T0, T2, T5, _⟩ => ?_
  refine thenF_normal (hK4 _ _ ?_)
  refine wpF_cond ((20000) < (l.length)) (show _ = (.bool (decide ((20000) < (l.length))) : Value) from T5) (fun hc0 => ?_) (fun hc0 => ?_)
  · refine wpF_seq_k fun K6 hK6 => ?_
    refine wpF_text ?_
    refine opsF_step rfl (YieldsK.assign (show _ = (.bool (true) : Value) from rfl) ?_)    -- law.go:18 t2 := (Op.assign (Operand.const (Value.bool true)))
    refine opsF_end (fun ρ => ρ 0 = (v : Value) ∧ ρ 2 = (.bool (true) : Value) ∧ True) ⟨T0, rfl, trivial⟩ fun ρ7 ⟨T0, T2, _⟩ => ?_
    refine thenF_normal (hK6 _ _ ?_)
    refine wpF_ret (thenF_ret ?_)
    refine postF_ret (fn := Tryd.f3) _ rfl [.bool (true)] (.bool (true)) rfl ⟨T2, trivial⟩ ?_
    exact ⟨rfl, hE⟩
  · refine wpF_skip ?_
    refine thenF_normal (hK3 _ _ ?_)
    refine wpF_seq_k fun K8 hK8 => ?_
    refine wpF_text ?_
    refine opsF_step rfl (YieldsK.move (show _ = (v : Value) from T0) ?_)    -- law.go:20 t6 := (Op.move (Operand.tmp 0))
    refine opsF_step rfl (YieldsK.callA1 sha10_pl9 (show _ = (v : Value) from rfl) ?_)    -- law.go:20 t7 := (Op.call { callee := (Callee.value (Operand.func 9)), args := #[(Operand.tmp 6)], argTypes := #[22] })
    refine (copy_any _ v (l) (hr.keep hE) (by omega)).mono ?_
    rintro e w11 ⟨v9, rfl, hN10⟩
    refine ⟨_, rfl, ?_⟩
    have hE : Ext w w11 := (hE.trans hN10.ext)
    have ho12 := hN10.own; clear hN10
    refine opsF_step rfl (YieldsK.rows1 sha10_rows1_35 (RB.of (RB.ofOwn ho12) (show _ = (v9 : Value) from rfl)) fun v13 w14 hr15 hx16 => ?_)    -- law.go:20 t8 := (Op.buildSlice 35 1 #[(0, (Operand.tmp 7))])
    have hE : Ext w w14 := (hE.trans hx16)
    have ho12 : w14.ownsRow w.heap.size 5 1 v9 l.length (Lib.byteCells (l)) := (Stab.own _ _ _ _ _ _ _ _ ho12 hx16)
    refine opsF_step rfl (YieldsK.callA1 sha10_pl8 (show _ = (v13 : Value) from rfl) ?_)    -- law.go:20 t9 := (Op.call { callee := (Callee.value (Operand.func 8)), args := #[(Operand.tmp 8)], argTypes := #[35] })
    refine (sum_any _ (hG.keep hE) v13 [l] hr15 (by simp; omega) (by simp)).mono ?_
    rintro e w18 ⟨rfl, hx17⟩
    refine ⟨_, rfl, ?_⟩
    have hE : Ext w w18 := (hE.trans hx17)
    have ho12 : w18.ownsRow w.heap.size 5 1 v9 l.length (Lib.byteCells (l)) := (Stab.own _ _ _ _ _ _ _ _ ho12 hx17)
    have hr15 : RBs w18 v13 [l] := (hr15.keep hx17)
    refine opsF_step rfl (YieldsK.move (show _ = (v : Value) from T0) ?_)    -- law.go:20 t10 := (Op.move (Operand.tmp 0))
    refine opsF_step rfl (YieldsK.callA1 sha10_pl10 (show _ = (v : Value) from rfl) ?_)    -- law.go:20 t11 := (Op.call { callee := (Callee.value (Operand.func 10)), args := #[(Operand.tmp 10)], argTypes := #[22] })
    refine (refSum_any _ v (l) (hr.keep hE) (by omega)).mono ?_
    rintro e w20 ⟨rfl, hx19⟩
    refine ⟨_, rfl, ?_⟩
    have hE : Ext w w20 := (hE.trans hx19)
    have ho12 : w20.ownsRow w.heap.size 5 1 v9 l.length (Lib.byteCells (l)) := (Stab.own _ _ _ _ _ _ _ _ ho12 hx19)
    have hr15 : RBs w20 v13 [l] := (hr15.keep hx19)
    refine opsF_step rfl (YieldsK.eqArr (l1 := (Sha.sum ([l]).flatten)) (l2 := (Sha.sum (l))) sha10_ty24 sha10_ty5 sha10_sz5 sha10_eg24 (show _ = (.agg (Lib.byteCells (Sha.sum ([l]).flatten)).toArray : Value) from rfl) (show _ = (.agg (Lib.byteCells (Sha.sum (l))).toArray : Value) from rfl) (Sha.sum_length _) (Sha.sum_length _) ?_)    -- law.go:20 t12 := (Op.binOp BinOp.eql 24 (Operand.tmp 9) (Operand.tmp 11) 24)
    refine opsF_step rfl (YieldsK.move (show _ = (.bool (true) : Value) from (congrArg Value.bool (decide_eq_true (by simp)))) ?_)    -- law.go:20 t13 := (Op.move (Operand.tmp 12))
    refine opsF_on (d := 13) rfl rfl (show _ = (.bool (true) : Value) from rfl) (YieldsK.callA0 sha10_pl11  ?_)    -- law.go:20 t14 := (Op.call { callee := (Callee.value (Operand.func 11)), args := #[], argTypes := #[] })
    refine (awake01 _ (hG.keep hE)).mono ?_
    rintro e w22 ⟨rfl, hx21⟩
    refine ⟨_, rfl, ?_⟩
    have hE : Ext w w22 := (hE.trans hx21)
    have ho12 : w22.ownsRow w.heap.size 5 1 v9 l.length (Lib.byteCells (l)) := (Stab.own _ _ _ _ _ _ _ _ ho12 hx21)
    have hr15 : RBs w22 v13 [l] := (hr15.keep hx21)
    refine opsF_step rfl (YieldsK.pickT (show _ = (.bool (true) : Value) from rfl) (show _ = (.bool (true) : Value) from rfl) ?_)    -- law.go:20 t15 := (Op.pick (Operand.tmp 13) (Operand.tmp 14) (Operand.const (Value.bool false)))
    refine opsF_step rfl (YieldsK.assign (show _ = (.bool (true) : Value) from rfl) ?_)    -- law.go:20 t2 := (Op.assign (Operand.tmp 15))
    refine opsF_end (fun ρ => ρ 0 = (v : Value) ∧ ρ 2 = (.bool (true) : Value) ∧ True) ⟨T0, rfl, trivial⟩ fun ρ23 ⟨T0, T2, _⟩ => ?_
    refine thenF_normal (hK8 _ _ ?_)
    refine wpF_ret ?_
    refine postF_ret (fn := Tryd.f3) _ rfl [.bool (true)] (.bool (true)) rfl ⟨T2, trivial⟩ ?_
    exact ⟨rfl, hE⟩

theorem shaNil_walk (w : World) (hG : Laid w) (v : Value) :
    Calls Tryd.prog 7 #[v] w fun e w' => e = .returned (.bool true) ∧ Ext w w' := by
  refine calls_of_wpF (args := [v]) Tryd.func7 rfl 26 rfl (Nat.le_of_ble_eq_true rfl) ?_
  intro ρ0 hb
  have T0 : ρ0 0 = (v : Value) := hb.get 0
  clear hb
  have hE := Ext.refl w
  refine wpF_seq_k fun K1 hK1 => ?_
  refine wpF_text ?_
  refine opsF_step rfl (YieldsK.assign (show _ = (.bool (false) : Value) from rfl) ?_)    -- outright.go:31 t2 := (Op.assign (Operand.const (Value.bool false)))
  refine opsF_end (fun ρ => ρ 0 = (v : Value) ∧ ρ 2 = (.bool (false) : Value) ∧ True) ⟨T0, rfl, trivial⟩ fun ρ2 ⟨T0, T2, _⟩ => ?_
  refine thenF_normal (hK1 _ _ ?_)
  refine wpF_seq_k fun K3 hK3 => ?_
  refine wpF_text ?_
  refine opsF_step rfl (YieldsK.assign (show _ = (.pointer none : Value) from rfl) ?_)    -- outright.go:32 t3 := (Op.assign (Operand.const (Value.pointer none)))
  refine opsF_end (fun ρ => ρ 0 = (v : Value) ∧ ρ 2 = (.bool (false) : Value) ∧ ρ 3 = (.pointer none : Value) ∧ True) ⟨T0, T2, rfl, trivial⟩ fun ρ4 ⟨T0, T2, T3, _⟩ => ?_
  refine thenF_normal (hK3 _ _ ?_)
  refine wpF_seq_k fun K5 hK5 => ?_
  refine wpF_text ?_
  refine opsF_step rfl (YieldsK.move (show _ = (.pointer none : Value) from T3) ?_)    -- outright.go:33 t4 := (Op.move (Operand.tmp 3))
  refine opsF_step rfl (YieldsK.move (show _ = (v : Value) from T0) ?_)    -- outright.go:33 t5 := (Op.move (Operand.tmp 0))
  refine opsF_step rfl (YieldsK.callA2 sha10_pl13 (show _ = (.pointer none : Value) from rfl) (show _ = (v : Value) from rfl) ?_)    -- outright.go:33 t6 := (Op.call { callee := (Callee.value (Operand.func 13)), args := #[(Operand.tmp 4), (Operand.tmp 5)], argTypes :
  refine (writeNil_any _ _).mono ?_
  rintro e w7 ⟨rfl, hx6⟩
  refine ⟨_, rfl, ?_⟩
  have hE : Ext w w7 := (hE.trans hx6)
  refine opsF_end (fun ρ => ρ 0 = (v : Value) ∧ ρ 2 = (.bool (false) : Value) ∧ ρ 3 = (.pointer none : Value) ∧ True) ⟨T0, T2, T3, trivial⟩ fun ρ8 ⟨T0, T2, T3, _⟩ => ?_
  refine thenF_normal (hK5 _ _ ?_)
  refine wpF_seq_k fun K9 hK9 => ?_
  refine wpF_text ?_
  refine opsF_step rfl (YieldsK.move (show _ = (.pointer none : Value) from T3) ?_)    -- outright.go:34 t7 := (Op.move (Operand.tmp 3))
  refine opsF_step rfl (YieldsK.callA1 sha10_pl15 (show _ = (.pointer none : Value) from rfl) ?_)    -- outright.go:34 t8 := (Op.call { callee := (Callee.value (Operand.func 15)), args := #[(Operand.tmp 7)], argTypes := #[30] })
  refine (lenNil_any _).mono ?_
  rintro e w11 ⟨rfl, hx10⟩
  refine ⟨_, rfl, ?_⟩
  have hE : Ext w w11 := (hE.trans hx10)
  refine opsF_step rfl (YieldsK.eqI (a := ((0 : Nat) : Int)) (b := ((0 : Nat) : Int)) (show _ = (.int .i64 ((0 : Nat) : Int) : Value) from rfl) (show _ = (.int .i64 ((0 : Nat) : Int) : Value) from rfl) (k_eql _ .i64 (0) (0)) ?_)    -- outright.go:34 t9 := (Op.binOp BinOp.eql 3 (Operand.tmp 8) (Operand.const (Value.int IntKind.i64 0)) 3)
  refine opsF_step rfl (YieldsK.move (show _ = (.bool (true) : Value) from (congrArg Value.bool (decide_eq_true (rfl)))) ?_)    -- outright.go:34 t10 := (Op.move (Operand.tmp 9))
  refine opsF_on (d := 10) rfl rfl (show _ = (.bool (true) : Value) from rfl) (YieldsK.move (show _ = (.pointer none : Value) from T3) ?_)    -- outright.go:34 t11 := (Op.move (Operand.tmp 3))
  refine opsF_on (d := 10) rfl rfl (show _ = (.bool (true) : Value) from rfl) (YieldsK.callA1 sha10_pl14 (show _ = (.pointer none : Value) from rfl) ?_)    -- outright.go:34 t12 := (Op.call { callee := (Callee.value (Operand.func 14)), args := #[(Operand.tmp 11)], argTypes := #[30] })
  refine (sumNil_any _ (hG.keep hE)).mono ?_
  rintro e w13 ⟨rfl, hx12⟩
  refine ⟨_, rfl, ?_⟩
  have hE : Ext w w13 := (hE.trans hx12)
  refine opsF_on (d := 10) rfl rfl (show _ = (.bool (true) : Value) from rfl) (YieldsK.callA1 sha10_pl8 (show _ = ((Value.slice none 0 0) : Value) from rfl) ?_)    -- outright.go:34 t13 := (Op.call { callee := (Callee.value (Operand.func 8)), args := #[(Operand.const (Value.slice none 0 0))], argTy
  refine (sum_any _ (hG.keep hE) (Value.slice none 0 0) ([] : List (List UInt8)) (RBs.nil _) (by simp) (by simp)).mono ?_
  rintro e w15 ⟨rfl, hx14⟩
  refine ⟨_, rfl, ?_⟩
  have hE : Ext w w15 := (hE.trans hx14)
  refine opsF_on (d := 10) rfl rfl (show _ = (.bool (true) : Value) from rfl) (YieldsK.eqArr (l1 := (Sha.sum [])) (l2 := (Sha.sum (([] : List (List UInt8))).flatten)) sha10_ty24 sha10_ty5 sha10_sz5 sha10_eg24 (show _ = (.agg (Lib.byteCells (Sha.sum [])).toArray : Value) from rfl) (show _ = (.agg (Lib.byteCells (Sha.sum (([] : List (List UInt8))).flatten)).toArray : Value) from rfl) (Sha.sum_length _) (Sha.sum_length _) ?_)    -- outright.go:34 t14 := (Op.binOp BinOp.eql 24 (Operand.tmp 12) (Operand.tmp 13) 24)
  refine opsF_step rfl (YieldsK.pickT (show _ = (.bool (true) : Value) from rfl) (show _ = (.bool (true) : Value) from (congrArg Value.bool (decide_eq_true (by simp)))) ?_)    -- outright.go:34 t15 := (Op.pick (Operand.tmp 10) (Operand.tmp 14) (Operand.const (Value.bool false)))
  refine opsF_step rfl (YieldsK.move (show _ = (.bool (true) : Value) from rfl) ?_)    -- outright.go:34 t16 := (Op.move (Operand.tmp 15))
  refine opsF_on (d := 16) rfl rfl (show _ = (.bool (true) : Value) from rfl) (YieldsK.move (show _ = (.pointer none : Value) from T3) ?_)    -- outright.go:34 t17 := (Op.move (Operand.tmp 3))
  refine opsF_on (d := 16) rfl rfl (show _ = (.bool (true) : Value) from rfl) (YieldsK.callA1 sha10_pl14 (show _ = (.pointer none : Value) from rfl) ?_)    -- outright.go:34 t18 := (Op.call { callee := (Callee.value (Operand.func 14)), args := #[(Operand.tmp 17)], argTypes := #[30] })
  refine (sumNil_any _ (hG.keep hE)).mono ?_
  rintro e w17 ⟨rfl, hx16⟩
  refine ⟨_, rfl, ?_⟩
  have hE : Ext w w17 := (hE.trans hx16)
  refine opsF_on (d := 16) rfl rfl (show _ = (.bool (true) : Value) from rfl) (YieldsK.rows2 sha10_rows2_35 (RB.nil _) (RB.nil _) fun v18 w19 hr20 hx21 => ?_)    -- outright.go:34 t19 := (Op.buildSlice 35 2 #[(0, (Operand.const (Value.slice none 0 0))), (1, (Operand.const (Value.slice none 0 0)))
  have hE : Ext w w19 := (hE.trans hx21)
  refine opsF_on (d := 16) rfl rfl (show _ = (.bool (true) : Value) from rfl) (YieldsK.callA1 sha10_pl8 (show _ = (v18 : Value) from rfl) ?_)    -- outright.go:34 t20 := (Op.call { callee := (Callee.value (Operand.func 8)), args := #[(Operand.tmp 19)], argTypes := #[35] })
  refine (sum_any _ (hG.keep hE) v18 [([] : List UInt8), ([] : List UInt8)] hr20 (by simp) (by simp)).mono ?_
  rintro e w23 ⟨rfl, hx22⟩
  refine ⟨_, rfl, ?_⟩
  have hE : Ext w w23 := (hE.trans hx22)
  have hr20 : RBs w23 v18 [([] : List UInt8), ([] : List UInt8)] := (hr20.keep hx22)
  refine opsF_on (d := 16) rfl rfl (show _ = (.bool (true) : Value) from rfl) (YieldsK.eqArr (l1 := (Sha.sum [])) (l2 := (Sha.sum ([([] : List UInt8), ([] : List UInt8)]).flatten)) sha10_ty24 sha10_ty5 sha10_sz5 sha10_eg24 (show _ = (.agg (Lib.byteCells (Sha.sum [])).toArray : Value) from rfl) (show _ = (.agg (Lib.byteCells (Sha.sum ([([] : List UInt8), ([] : List UInt8)]).flatten)).toArray : Value) from rfl) (Sha.sum_length _) (Sha.sum_length _) ?_)    -- outright.go:34 t21 := (Op.binOp BinOp.eql 24 (Operand.tmp 18) (Operand.tmp 20) 24)
  refine opsF_step rfl (YieldsK.pickT (show _ = (.bool (true) : Value) from rfl) (show _ = (.bool (true) : Value) from (congrArg Value.bool (decide_eq_true (by simp)))) ?_)    -- outright.go:34 t22 := (Op.pick (Operand.tmp 16) (Operand.tmp 21) (Operand.const (Value.bool false)))
  refine opsF_step rfl (YieldsK.move (show _ = (.bool (true) : Value) from rfl) ?_)    -- outright.go:34 t23 := (Op.move (Operand.tmp 22))
  refine opsF_on (d := 23) rfl rfl (show _ = (.bool (true) : Value) from rfl) (YieldsK.callA0 sha10_pl11  ?_)    -- outright.go:34 t24 := (Op.call { callee := (Callee.value (Operand.func 11)), args := #[], argTypes := #[] })
  refine (awake01 _ (hG.keep hE)).mono ?_
  rintro e w25 ⟨rfl, hx24⟩
  refine ⟨_, rfl, ?_⟩
  have hE : Ext w w25 := (hE.trans hx24)
  have hr20 : RBs w25 v18 [([] : List UInt8), ([] : List UInt8)] := (hr20.keep hx24)
  refine opsF_step rfl (YieldsK.pickT (show _ = (.bool (true) : Value) from rfl) (show _ = (.bool (true) : Value) from rfl) ?_)    -- outright.go:34 t25 := (Op.pick (Operand.tmp 23) (Operand.tmp 24) (Operand.const (Value.bool false)))
  refine opsF_step rfl (YieldsK.assign (show _ = (.bool (true) : Value) from rfl) ?_)    -- outright.go:34 t2 := (Op.assign (Operand.tmp 25))
  refine opsF_end (fun ρ => ρ 0 = (v : Value) ∧ ρ 2 = (.bool (true) : Value) ∧ ρ 3 = (.pointer none : Value) ∧ True) ⟨T0, rfl, T3, trivial⟩ fun ρ26 ⟨T0, T2, T3, _⟩ => ?_
  refine thenF_normal (hK9 _ _ ?_)
  refine wpF_ret ?_
  refine postF_ret (fn := Tryd.f7) _ rfl [.bool (true)] (.bool (true)) rfl ⟨T2, trivial⟩ ?_
  exact ⟨rfl, hE⟩

theorem shaRuns_walk (w : World) (hG : Laid w) (c n : UInt8) :
    Calls Tryd.prog 4 #[B8 c, B8 n] w fun e w' => e = .returned (.bool true) ∧ Ext w w' := by
  have hw2 := hG.two
  refine calls_of_wpF (args := [B8 (c), B8 (n)]) Tryd.func4 rfl 42 rfl (Nat.le_of_ble_eq_true rfl) ?_
  intro ρ0 hb
  have T0 : ρ0 0 = (B8 (c) : Value) := hb.get 0
  have T1 : ρ0 1 = (B8 (n) : Value) := hb.get 1
  clear hb
  have hE := Ext.refl w
  refine wpF_seq_k fun K1 hK1 => ?_
  refine wpF_text ?_
  refine opsF_step rfl (YieldsK.assign (show _ = (.bool (false) : Value) from rfl) ?_)    -- outright.go:19 t4 := (Op.assign (Operand.const (Value.bool false)))
  refine opsF_end (fun ρ => ρ 0 = (B8 (c) : Value) ∧ ρ 1 = (B8 (n) : Value) ∧ ρ 4 = (.bool (false) : Value) ∧ True) ⟨T0, T1, rfl, trivial⟩ fun ρ2 ⟨T0, T1, T4, _⟩ => ?_
  refine thenF_normal (hK1 _ _ ?_)
  refine wpF_seq_k fun K3 hK3 => ?_
  refine wpF_text ?_
  refine opsF_step rfl (YieldsK.move (show _ = (B8 (n) : Value) from T1) ?_)    -- outright.go:20 t9 := (Op.move (Operand.tmp 1))
  refine opsF_step rfl (YieldsK.convI sha10_ty5 sha10_ty3 (show _ = (B8 (n) : Value) from rfl) (ofByte .i64 (n) (fun n hn => wrap_i64 n (by omega))) ?_)    -- outright.go:20 t10 := (Op.convert 5 3 (Operand.tmp 9))
  refine opsF_step rfl (YieldsK.bin (xv := .int .i64 (((n).toNat : Nat) : Int)) (yv := .int .i64 ((200 : Nat) : Int)) (show _ = (.int .i64 (((n).toNat : Nat) : Int) : Value) from rfl) (show _ = (.int .i64 ((200 : Nat) : Int) : Value) from rfl) rfl (i64_rem _ ((n).toNat) (200) (by omega)) ?_)    -- outright.go:20 t11 := (Op.binOp BinOp.rem 3 (Operand.tmp 10) (Operand.const (Value.int IntKind.i64 200)) 3)
  refine opsF_step rfl (YieldsK.assign (show _ = (.int .i64 ((((n).toNat) % (200) : Nat) : Int) : Value) from rfl) ?_)    -- outright.go:20 t5 := (Op.assign (Operand.tmp 11))
  refine opsF_end (fun ρ => ρ 0 = (B8 (c) : Value) ∧ ρ 1 = (B8 (n) : Value) ∧ ρ 4 = (.bool (false) : Value) ∧ ρ 5 = (.int .i64 ((((n).toNat) % (200) : Nat) : Int) : Value) ∧ True) ⟨T0, T1, T4, rfl, trivial⟩ fun ρ4 ⟨T0, T1, T4, T5, _⟩ => ?_
  obtain ⟨k, hk⟩ : ∃ k, k = n.toNat % 200 := ⟨_, rfl⟩
  have hk2 : k < 200 := by omega
  rw [← hk] at T5
  refine thenF_normal (hK3 _ _ ?_)
  refine wpF_seq_k fun K5 hK5 => ?_
  refine wpF_text ?_
  refine opsF_step rfl (YieldsK.callA0 sha10_pl12  ?_)    -- outright.go:21 t12 := (Op.call { callee := (Callee.value (Operand.func 12)), args := #[], argTypes := #[] })
  refine (new_any _ (hG.keep hE)).mono ?_
  rintro e w9 ⟨gH, rfl, hn8, hH7, hx6⟩
  refine ⟨_, rfl, ?_⟩
  have hE : Ext w w9 := (hE.trans hx6)
  refine opsF_step rfl (YieldsK.assign (show _ = (.pointer (some ⟨gH, 0, none⟩) : Value) from rfl) ?_)    -- outright.go:21 t6 := (Op.assign (Operand.tmp 12))
  refine opsF_end (fun ρ => ρ 0 = (B8 (c) : Value) ∧ ρ 1 = (B8 (n) : Value) ∧ ρ 4 = (.bool (false) : Value) ∧ ρ 5 = (.int .i64 ((k : Nat) : Int) : Value) ∧ ρ 6 = (.pointer (some ⟨gH, 0, none⟩) : Value) ∧ True) ⟨T0, T1, T4, T5, rfl, trivial⟩ fun ρ10 ⟨T0, T1, T4, T5, T6, _⟩ => ?_
  refine thenF_normal (hK5 _ _ ?_)
  refine wpF_seq_k fun K11 hK11 => ?_
  refine wpF_text ?_
  refine opsF_step rfl (YieldsK.assign (show _ = ((Value.slice none 0 0) : Value) from rfl) ?_)    -- outright.go:22 t7 := (Op.assign (Operand.const (Value.slice none 0 0)))
  refine opsF_end (fun ρ => ρ 0 = (B8 (c) : Value) ∧ ρ 1 = (B8 (n) : Value) ∧ ρ 4 = (.bool (false) : Value) ∧ ρ 5 = (.int .i64 ((k : Nat) : Int) : Value) ∧ ρ 6 = (.pointer (some ⟨gH, 0, none⟩) : Value) ∧ ρ 7 = ((Value.slice none 0 0) : Value) ∧ True) ⟨T0, T1, T4, T5, T6, rfl, trivial⟩ fun ρ12 ⟨T0, T1, T4, T5, T6, T7, _⟩ => ?_
  refine thenF_normal (hK11 _ _ ?_)
  refine wpF_seq_k fun K13 hK13 => ?_
  refine wpF_seq_k fun K14 hK14 => ?_
  refine wpF_text ?_
  refine opsF_step rfl (YieldsK.assign (show _ = (.int .i64 ((0 : Nat) : Int) : Value) from rfl) ?_)    -- outright.go:23 t8 := (Op.assign (Operand.const (Value.int IntKind.i64 0)))
  refine opsF_end (fun ρ => ρ 0 = (B8 (c) : Value) ∧ ρ 1 = (B8 (n) : Value) ∧ ρ 4 = (.bool (false) : Value) ∧ ρ 5 = (.int .i64 ((k : Nat) : Int) : Value) ∧ ρ 6 = (.pointer (some ⟨gH, 0, none⟩) : Value) ∧ ρ 7 = ((Value.slice none 0 0) : Value) ∧ ρ 8 = (.int .i64 ((0 : Nat) : Int) : Value) ∧ True) ⟨T0, T1, T4, T5, T6, T7, rfl, trivial⟩ fun ρ15 ⟨T0, T1, T4, T5, T6, T7, T8, _⟩ => ?_
  have hoN := own_nil w w.heap.size 5
  have hoN : w.ownsRow w.heap.size 5 1 (Value.slice none 0 0) ([] : List UInt8).length (Lib.byteCells ([] : List UInt8)) := hoN
  have hoN : w9.ownsRow w.heap.size 5 1 (Value.slice none 0 0) ([] : List UInt8).length (Lib.byteCells ([] : List UInt8)) := own_nilAny hoN
  have hapN : Value.ownBlock (Value.slice none 0 0) ≠ some gH := by simp [Value.ownBlock]
  refine thenF_normal (hK14 _ _ ?_)
  refine wpF_block ?_
  refine wpF_loop (fun (ρ : Slots) (wz : World) => ∃ i : Nat, ∃ v7 : Value, ρ 0 = (B8 (c) : Value) ∧ ρ 1 = (B8 (n) : Value) ∧ ρ 4 = (.bool (false) : Value) ∧ ρ 5 = (.int .i64 ((k : Nat) : Int) : Value) ∧ ρ 6 = (.pointer (some ⟨gH, 0, none⟩) : Value) ∧ ρ 8 = (.int .i64 ((i : Nat) : Int) : Value) ∧ ρ 7 = (v7 : Value) ∧ Ext w wz ∧ HashAt wz gH (List.replicate i c) ∧ wz.ownsRow w.heap.size 5 1 v7 (List.replicate i c : List UInt8).length (Lib.byteCells (List.replicate i c)) ∧ (i ≤ k) ∧ (Value.ownBlock v7 ≠ some gH) ∧ True) (fun ρ _ => k - (intOf (ρ 8)).toNat) ⟨0, (Value.slice none 0 0), T0, T1, T4, T5, T6, T8, T7, hE, hH7, own_eq hoN (rfl), Nat.zero_le _, hapN, trivial⟩ ?_
  clear hH7
  clear hoN
  clear hE
  rintro ρ16 w17 ⟨i, v7, T0, T1, T4, T5, T6, T8, T7, hE, hHi, ho_v7, hi, hap_v7_gH, -⟩
  have q8 := T8
  have ql7 := own_sliceLen ho_v7
  refine wpF_seq_k fun K18 hK18 => ?_
  refine wpF_seq_k fun K19 hK19 => ?_
  refine wpF_text ?_
  refine opsF_step rfl (YieldsK.move (show _ = (.int .i64 ((i : Nat) : Int) : Value) from T8) ?_)    -- outright.go:23 t13 := (Op.move (Operand.tmp 8))
  refine opsF_step rfl (YieldsK.move (show _ = (.int .i64 ((k : Nat) : Int) : Value) from T5) ?_)    -- outright.go:23 t14 := (Op.move (Operand.tmp 5))
  refine opsF_step rfl (YieldsK.eqI (a := ((i : Nat) : Int)) (b := ((k : Nat) : Int)) (show _ = (.int .i64 ((i : Nat) : Int) : Value) from rfl) (show _ = (.int .i64 ((k : Nat) : Int) : Value) from rfl) (k_lss _ .i64 (i) (k)) ?_)    -- outright.go:23 t15 := (Op.binOp BinOp.lss 3 (Operand.tmp 13) (Operand.tmp 14) 3)
  refine opsF_end (fun ρ => ρ 0 = (B8 (c) : Value) ∧ ρ 1 = (B8 (n) : Value) ∧ ρ 4 = (.bool (false) : Value) ∧ ρ 5 = (.int .i64 ((k : Nat) : Int) : Value) ∧ ρ 6 = (.pointer (some ⟨gH, 0, none⟩) : Value) ∧ ρ 7 = (v7 : Value) ∧ ρ 8 = (.int .i64 ((i : Nat) : Int) : Value) ∧ ρ 15 = (.bool (decide ((i) < (k))) : Value) ∧ True) ⟨T0, T1, T4, T5, T6, T7, T8, rfl, trivial⟩ fun ρ20 ⟨T0, T1, T4, T5, T6, T7, T8, T15, _⟩ => ?_
  refine thenF_normal (hK19 _ _ ?_)
  refine wpF_cond ((i) < (k)) (show _ = (.bool (decide ((i) < (k))) : Value) from T15) (fun hc0 => ?_) (fun hc0 => ?_)
  · refine wpF_skip ?_
    refine thenF_normal (hK18 _ _ ?_)
    refine wpF_seq_k fun K21 hK21 => ?_
    refine wpF_block ?_
    refine wpF_seq_k fun K22 hK22 => ?_
    refine wpF_text ?_
    refine opsF_step rfl (YieldsK.move (show _ = (.pointer (some ⟨gH, 0, none⟩) : Value) from T6) ?_)    -- outright.go:24 t18 := (Op.move (Operand.tmp 6))
    refine opsF_step rfl (YieldsK.move (show _ = (B8 (c) : Value) from T0) ?_)    -- outright.go:24 t19 := (Op.move (Operand.tmp 0))
    refine opsF_step rfl (YieldsK.lit1 (b := c) sha10_l1_22 (show _ = (B8 (c) : Value) from rfl) fun v23 w24 hN25 => ?_)    -- outright.go:24 t20 := (Op.buildSlice 22 1 #[(0, (Operand.tmp 19))])
    have hA26 := Ext.refl w17
    have hea27 := hE
    have hz28 : w.heap.size ≤ w17.heap.size := hE.size
    have hap29 : Value.ownBlock v23 ≠ some gH := own_older hN25.own hHi.lt
    have hE : Ext w w24 := (hE.trans hN25.ext)
    have hHi : HashAt w24 gH (List.replicate i c) := (hHi.keep hN25.ext)
    have ho_v7 : w24.ownsRow w.heap.size 5 1 v7 (List.replicate i c : List UInt8).length (Lib.byteCells (List.replicate i c)) := (Stab.own _ _ _ _ _ _ _ _ ho_v7 hN25.ext)
    have hA26 : Ext w17 w24 := (hA26.trans hN25.ext)
    have ho30 := hN25.own; clear hN25
    refine opsF_step rfl (YieldsK.callA2 sha10_pl13 (show _ = (.pointer (some ⟨gH, 0, none⟩) : Value) from rfl) (show _ = (v23 : Value) from rfl) ?_)    -- outright.go:24 t21 := (Op.call { callee := (Callee.value (Operand.func 13)), args := #[(Operand.tmp 18), (Operand.tmp 20)], argTypes
    refine (write_all _ (hG.keep hE) gH (by omega) (List.replicate i c) hHi v23 ([(c : UInt8)]) (RB.ofOwn ho30) (fun _ => hap29) (by simp; omega)).mono ?_
    rintro e w33 ⟨rfl, hH31, hg32⟩
    refine ⟨_, rfl, ?_⟩
    have hE : Ext w w33 := row_fresh hE hg32 (Nat.le_trans (Nat.le_refl _) hn8)
    clear hHi
    have ho_v7 : w33.ownsRow w.heap.size 5 1 v7 (List.replicate i c : List UInt8).length (Lib.byteCells (List.replicate i c)) := own_kept ho_v7 hg32 hap_v7_gH
    clear hA26
    have ho30 : w33.ownsRow w17.heap.size 5 1 v23 ([(c : UInt8)] : List UInt8).length (Lib.byteCells ([(c : UInt8)])) := own_kept ho30 hg32 hap29
    have hH31 : HashAt w33 gH (List.replicate (i + 1) c) := (by rw [List.replicate_succ'] : List.replicate i c ++ [(c : UInt8)] = List.replicate (i + 1) c) ▸ hH31
    refine opsF_end (fun ρ => ρ 0 = (B8 (c) : Value) ∧ ρ 1 = (B8 (n) : Value) ∧ ρ 4 = (.bool (false) : Value) ∧ ρ 5 = (.int .i64 ((k : Nat) : Int) : Value) ∧ ρ 6 = (.pointer (some ⟨gH, 0, none⟩) : Value) ∧ ρ 7 = (v7 : Value) ∧ ρ 8 = (.int .i64 ((i : Nat) : Int) : Value) ∧ True) ⟨T0, T1, T4, T5, T6, T7, T8, trivial⟩ fun ρ34 ⟨T0, T1, T4, T5, T6, T7, T8, _⟩ => ?_
    refine thenF_normal (hK22 _ _ ?_)
    refine wpF_text ?_
    refine opsF_step rfl (YieldsK.move (show _ = (v7 : Value) from T7) ?_)    -- outright.go:25 t22 := (Op.move (Operand.tmp 7))
    refine opsF_step rfl (YieldsK.move (show _ = (B8 (c) : Value) from T0) ?_)    -- outright.go:25 t23 := (Op.move (Operand.tmp 0))
    refine opsF_step rfl (YieldsK.lit1 (b := c) sha10_l1_22 (show _ = (B8 (c) : Value) from rfl) fun v35 w36 hN37 => ?_)    -- outright.go:25 t24 := (Op.buildSlice 22 1 #[(0, (Operand.tmp 23))])
    have hA38 := Ext.refl w33
    have hea39 := hE
    have hz40 : w.heap.size ≤ w33.heap.size := hE.size
    have hap41 : Value.ownBlock v35 ≠ some gH := own_older hN37.own hH31.lt
    have hE : Ext w w36 := (hE.trans hN37.ext)
    have ho_v7 : w36.ownsRow w.heap.size 5 1 v7 (List.replicate i c : List UInt8).length (Lib.byteCells (List.replicate i c)) := (Stab.own _ _ _ _ _ _ _ _ ho_v7 hN37.ext)
    have ho30 : w36.ownsRow w17.heap.size 5 1 v23 ([(c : UInt8)] : List UInt8).length (Lib.byteCells ([(c : UInt8)])) := (Stab.own _ _ _ _ _ _ _ _ ho30 hN37.ext)
    have hH31 : HashAt w36 gH (List.replicate (i + 1) c) := (hH31.keep hN37.ext)
    have hA38 : Ext w33 w36 := (hA38.trans hN37.ext)
    have ho42 := hN37.own; clear hN37
    refine opsF_step rfl (YieldsK.appendRB _ _ w.heap.size (.int .u8 0) sha10_ty22 sha10_inf5 rfl sha10_ty22 (List.replicate i c) ([(c : UInt8)]) (own_of ho_v7 (show _ = (v7 : Value) from rfl)) (RB.of (RB.ofOwn ho42) (show _ = (v35 : Value) from rfl)) (by simp; omega) hE.size fun v43 w44 ho45 hg46 => ?_)    -- outright.go:25 t25 := (Op.call { callee := (Callee.builtin Builtin.append), args := #[(Operand.tmp 22), (Operand.tmp 24)], argTypes 
    have hg46 : Grew w36 w44 v7 v43 := hg46
    have hap47 : Value.ownBlock v43 ≠ some gH := apart_grew hg46 hap_v7_gH hH31.lt
    have hE : Ext w w44 := ext_grew hE hg46 ho_v7 (Nat.le_refl _)
    clear ho_v7
    clear ho30
    have hH31 : HashAt w44 gH (List.replicate (i + 1) c) := HashAt.grew hH31 hg46 hap_v7_gH
    clear hA38
    clear ho42
    refine opsF_step rfl (YieldsK.assign (show _ = (v43 : Value) from rfl) ?_)    -- outright.go:25 t7 := (Op.assign (Operand.tmp 25))
    refine opsF_end (fun ρ => ρ 0 = (B8 (c) : Value) ∧ ρ 1 = (B8 (n) : Value) ∧ ρ 4 = (.bool (false) : Value) ∧ ρ 5 = (.int .i64 ((k : Nat) : Int) : Value) ∧ ρ 6 = (.pointer (some ⟨gH, 0, none⟩) : Value) ∧ ρ 7 = (v43 : Value) ∧ ρ 8 = (.int .i64 ((i : Nat) : Int) : Value) ∧ True) ⟨T0, T1, T4, T5, T6, rfl, T8, trivial⟩ fun ρ48 ⟨T0, T1, T4, T5, T6, T7, T8, _⟩ => ?_
    refine inBlockF_normal ?_
    refine thenF_normal (hK21 _ _ ?_)
    refine wpF_text ?_
    refine opsF_step rfl (YieldsK.move (show _ = (.int .i64 ((i : Nat) : Int) : Value) from T8) ?_)    -- outright.go:23 t16 := (Op.move (Operand.tmp 8))
    refine opsF_step rfl (YieldsK.bin (xv := .int .i64 ((i : Nat) : Int)) (yv := .int .i64 ((1 : Nat) : Int)) (show _ = (.int .i64 ((i : Nat) : Int) : Value) from rfl) (show _ = (.int .i64 ((1 : Nat) : Int) : Value) from rfl) rfl (i64_add _ (i) (1) (by omega)) ?_)    -- outright.go:23 t17 := (Op.binOp BinOp.add 3 (Operand.tmp 16) (Operand.const (Value.int IntKind.i64 1)) 3)
    refine opsF_step rfl (YieldsK.assign (show _ = (.int .i64 (((i) + (1) : Nat) : Int) : Value) from rfl) ?_)    -- outright.go:23 t8 := (Op.assign (Operand.tmp 17))
    refine opsF_end (fun ρ => ρ 0 = (B8 (c) : Value) ∧ ρ 1 = (B8 (n) : Value) ∧ ρ 4 = (.bool (false) : Value) ∧ ρ 5 = (.int .i64 ((k : Nat) : Int) : Value) ∧ ρ 6 = (.pointer (some ⟨gH, 0, none⟩) : Value) ∧ ρ 7 = (v43 : Value) ∧ ρ 8 = (.int .i64 (((i) + (1) : Nat) : Int) : Value) ∧ True) ⟨T0, T1, T4, T5, T6, T7, rfl, trivial⟩ fun ρ49 ⟨T0, T1, T4, T5, T6, T7, T8, _⟩ => ?_
    refine thenF_normal (And.intro ⟨i + 1, v43, T0, T1, T4, T5, T6, T8, T7, hE, hH31, own_eq ho45 (by rw [List.replicate_succ']), by omega, hap47, trivial⟩ ?_)
    show k - (intOf (ρ49 8)).toNat < k - (intOf (ρ16 8)).toNat
    rw [T8, q8]
    simp only [intOf, Int.toNat_natCast]; omega
  · have hik : i = k := by omega
    refine wpF_exit (thenF_exit (thenF_exit (inBlockF_hit ?_)))
    refine thenF_normal (hK13 _ _ ?_)
    refine wpF_seq_k fun K50 hK50 => ?_
    refine wpF_text ?_
    refine opsF_step rfl (YieldsK.move (show _ = (.pointer (some ⟨gH, 0, none⟩) : Value) from T6) ?_)    -- outright.go:27 t26 := (Op.move (Operand.tmp 6))
    refine opsF_step rfl (YieldsK.callA1 sha10_pl14 (show _ = (.pointer (some ⟨gH, 0, none⟩) : Value) from rfl) ?_)    -- outright.go:27 t27 := (Op.call { callee := (Callee.value (Operand.func 14)), args := #[(Operand.tmp 26)], argTypes := #[30] })
    refine (sumAt_any _ (hG.keep hE) gH (List.replicate i c) hHi (by simp; omega)).mono ?_
    rintro e w52 ⟨rfl, hx51⟩
    refine ⟨_, rfl, ?_⟩
    have hE : Ext w w52 := (hE.trans hx51)
    have hHi : HashAt w52 gH (List.replicate i c) := (hHi.keep hx51)
    have ho_v7 : w52.ownsRow w.heap.size 5 1 v7 (List.replicate i c : List UInt8).length (Lib.byteCells (List.replicate i c)) := (Stab.own _ _ _ _ _ _ _ _ ho_v7 hx51)
    refine opsF_step rfl (YieldsK.move (show _ = (v7 : Value) from T7) ?_)    -- outright.go:27 t28 := (Op.move (Operand.tmp 7))
    refine opsF_step rfl (YieldsK.rows1 sha10_rows1_35 (RB.of (RB.ofOwn ho_v7) (show _ = (v7 : Value) from rfl)) fun v53 w54 hr55 hx56 => ?_)    -- outright.go:27 t29 := (Op.buildSlice 35 1 #[(0, (Operand.tmp 28))])
    have hE : Ext w w54 := (hE.trans hx56)
    have hHi : HashAt w54 gH (List.replicate i c) := (hHi.keep hx56)
    have ho_v7 : w54.ownsRow w.heap.size 5 1 v7 (List.replicate i c : List UInt8).length (Lib.byteCells (List.replicate i c)) := (Stab.own _ _ _ _ _ _ _ _ ho_v7 hx56)
    refine opsF_step rfl (YieldsK.callA1 sha10_pl8 (show _ = (v53 : Value) from rfl) ?_)    -- outright.go:27 t30 := (Op.call { callee := (Callee.value (Operand.func 8)), args := #[(Operand.tmp 29)], argTypes := #[35] })
    refine (sum_any _ (hG.keep hE) v53 [List.replicate i c] hr55 (by simp; omega) (by simp)).mono ?_
    rintro e w58 ⟨rfl, hx57⟩
    refine ⟨_, rfl, ?_⟩
    have hE : Ext w w58 := (hE.trans hx57)
    have hHi : HashAt w58 gH (List.replicate i c) := (hHi.keep hx57)
    have ho_v7 : w58.ownsRow w.heap.size 5 1 v7 (List.replicate i c : List UInt8).length (Lib.byteCells (List.replicate i c)) := (Stab.own _ _ _ _ _ _ _ _ ho_v7 hx57)
    have hr55 : RBs w58 v53 [List.replicate i c] := (hr55.keep hx57)
    refine opsF_step rfl (YieldsK.eqArr (l1 := (Sha.sum (List.replicate i c))) (l2 := (Sha.sum ([List.replicate i c]).flatten)) sha10_ty24 sha10_ty5 sha10_sz5 sha10_eg24 (show _ = (.agg (Lib.byteCells (Sha.sum (List.replicate i c))).toArray : Value) from rfl) (show _ = (.agg (Lib.byteCells (Sha.sum ([List.replicate i c]).flatten)).toArray : Value) from rfl) (Sha.sum_length _) (Sha.sum_length _) ?_)    -- outright.go:27 t31 := (Op.binOp BinOp.eql 24 (Operand.tmp 27) (Operand.tmp 30) 24)
    refine opsF_step rfl (YieldsK.move (show _ = (.bool (true) : Value) from (congrArg Value.bool (decide_eq_true (by simp)))) ?_)    -- outright.go:27 t32 := (Op.move (Operand.tmp 31))
    refine opsF_on (d := 32) rfl rfl (show _ = (.bool (true) : Value) from rfl) (YieldsK.move (show _ = (.pointer (some ⟨gH, 0, none⟩) : Value) from T6) ?_)    -- outright.go:27 t33 := (Op.move (Operand.tmp 6))
    refine opsF_on (d := 32) rfl rfl (show _ = (.bool (true) : Value) from rfl) (YieldsK.callA1 sha10_pl14 (show _ = (.pointer (some ⟨gH, 0, none⟩) : Value) from rfl) ?_)    -- outright.go:27 t34 := (Op.call { callee := (Callee.value (Operand.func 14)), args := #[(Operand.tmp 33)], argTypes := #[30] })
    refine (sumAt_any _ (hG.keep hE) gH (List.replicate i c) hHi (by simp; omega)).mono ?_
    rintro e w60 ⟨rfl, hx59⟩
    refine ⟨_, rfl, ?_⟩
    have hE : Ext w w60 := (hE.trans hx59)
    have hHi : HashAt w60 gH (List.replicate i c) := (hHi.keep hx59)
    have ho_v7 : w60.ownsRow w.heap.size 5 1 v7 (List.replicate i c : List UInt8).length (Lib.byteCells (List.replicate i c)) := (Stab.own _ _ _ _ _ _ _ _ ho_v7 hx59)
    have hr55 : RBs w60 v53 [List.replicate i c] := (hr55.keep hx59)
    refine opsF_on (d := 32) rfl rfl (show _ = (.bool (true) : Value) from rfl) (YieldsK.move (show _ = (.pointer (some ⟨gH, 0, none⟩) : Value) from T6) ?_)    -- outright.go:27 t35 := (Op.move (Operand.tmp 6))
    refine opsF_on (d := 32) rfl rfl (show _ = (.bool (true) : Value) from rfl) (YieldsK.callA1 sha10_pl14 (show _ = (.pointer (some ⟨gH, 0, none⟩) : Value) from rfl) ?_)    -- outright.go:27 t36 := (Op.call { callee := (Callee.value (Operand.func 14)), args := #[(Operand.tmp 35)], argTypes := #[30] })
    refine (sumAt_any _ (hG.keep hE) gH (List.replicate i c) hHi (by simp; omega)).mono ?_
    rintro e w62 ⟨rfl, hx61⟩
    refine ⟨_, rfl, ?_⟩
    have hE : Ext w w62 := (hE.trans hx61)
    have hHi : HashAt w62 gH (List.replicate i c) := (hHi.keep hx61)
    have ho_v7 : w62.ownsRow w.heap.size 5 1 v7 (List.replicate i c : List UInt8).length (Lib.byteCells (List.replicate i c)) := (Stab.own _ _ _ _ _ _ _ _ ho_v7 hx61)
    have hr55 : RBs w62 v53 [List.replicate i c] := (hr55.keep hx61)
    refine opsF_on (d := 32) rfl rfl (show _ = (.bool (true) : Value) from rfl) (YieldsK.eqArr (l1 := (Sha.sum (List.replicate i c))) (l2 := (Sha.sum (List.replicate i c))) sha10_ty24 sha10_ty5 sha10_sz5 sha10_eg24 (show _ = (.agg (Lib.byteCells (Sha.sum (List.replicate i c))).toArray : Value) from rfl) (show _ = (.agg (Lib.byteCells (Sha.sum (List.replicate i c))).toArray : Value) from rfl) (Sha.sum_length _) (Sha.sum_length _) ?_)    -- outright.go:27 t37 := (Op.binOp BinOp.eql 24 (Operand.tmp 34) (Operand.tmp 36) 24)
    refine opsF_step rfl (YieldsK.pickT (show _ = (.bool (true) : Value) from rfl) (show _ = (.bool (true) : Value) from (congrArg Value.bool (decide_eq_true (rfl)))) ?_)    -- outright.go:27 t38 := (Op.pick (Operand.tmp 32) (Operand.tmp 37) (Operand.const (Value.bool false)))
    refine opsF_step rfl (YieldsK.move (show _ = (.bool (true) : Value) from rfl) ?_)    -- outright.go:27 t39 := (Op.move (Operand.tmp 38))
    refine opsF_on (d := 39) rfl rfl (show _ = (.bool (true) : Value) from rfl) (YieldsK.callA0 sha10_pl11  ?_)    -- outright.go:27 t40 := (Op.call { callee := (Callee.value (Operand.func 11)), args := #[], argTypes := #[] })
    refine (awake01 _ (hG.keep hE)).mono ?_
    rintro e w64 ⟨rfl, hx63⟩
    refine ⟨_, rfl, ?_⟩
    have hE : Ext w w64 := (hE.trans hx63)
    have hHi : HashAt w64 gH (List.replicate i c) := (hHi.keep hx63)
    have ho_v7 : w64.ownsRow w.heap.size 5 1 v7 (List.replicate i c : List UInt8).length (Lib.byteCells (List.replicate i c)) := (Stab.own _ _ _ _ _ _ _ _ ho_v7 hx63)
    have hr55 : RBs w64 v53 [List.replicate i c] := (hr55.keep hx63)
    refine opsF_step rfl (YieldsK.pickT (show _ = (.bool (true) : Value) from rfl) (show _ = (.bool (true) : Value) from rfl) ?_)    -- outright.go:27 t41 := (Op.pick (Operand.tmp 39) (Operand.tmp 40) (Operand.const (Value.bool false)))
    refine opsF_step rfl (YieldsK.assign (show _ = (.bool (true) : Value) from rfl) ?_)    -- outright.go:27 t4 := (Op.assign (Operand.tmp 41))
    refine opsF_end (fun ρ => ρ 0 = (B8 (c) : Value) ∧ ρ 1 = (B8 (n) : Value) ∧ ρ 4 = (.bool (true) : Value) ∧ ρ 5 = (.int .i64 ((k : Nat) : Int) : Value) ∧ ρ 6 = (.pointer (some ⟨gH, 0, none⟩) : Value) ∧ ρ 7 = (v7 : Value) ∧ ρ 8 = (.int .i64 ((i : Nat) : Int) : Value) ∧ True) ⟨T0, T1, rfl, T5, T6, T7, T8, trivial⟩ fun ρ65 ⟨T0, T1, T4, T5, T6, T7, T8, _⟩ => ?_
    refine thenF_normal (hK50 _ _ ?_)
    refine wpF_ret ?_
    refine postF_ret (fn := Tryd.f4) _ rfl [.bool (true)] (.bool (true)) rfl ⟨T4, trivial⟩ ?_
    exact ⟨rfl, hE⟩

theorem shaCuts_walk (w : World) (hG : Laid w) (v : Value) (l : List UInt8) (hr : RB w v l) (cut : Int) :
    Calls Tryd.prog 6 #[v, .int .i64 cut] w fun e w' => e = .returned (.bool true) ∧ Ext w w' := by
  have hw2 := hG.two
  obtain ⟨C, hcut⟩ := u64_nat cut
  refine calls_of_wpF (args := [v, .int .i64 (cut : Int)]) Tryd.func6 rfl 61 rfl (Nat.le_of_ble_eq_true rfl) ?_
  intro ρ0 hb
  have T0 : ρ0 0 = (v : Value) := hb.get 0
  have T1 : ρ0 1 = (.int .i64 (cut : Int) : Value) := hb.get 1
  clear hb
  have hE := Ext.refl w
  refine wpF_seq_k fun K1 hK1 => ?_
  refine wpF_text ?_
  refine opsF_step rfl (YieldsK.assign (show _ = (.bool (false) : Value) from rfl) ?_)    -- outright.go:6 t4 := (Op.assign (Operand.const (Value.bool false)))
  refine opsF_end (fun ρ => ρ 0 = (v : Value) ∧ ρ 1 = (.int .i64 (cut : Int) : Value) ∧ ρ 4 = (.bool (false) : Value) ∧ True) ⟨T0, T1, rfl, trivial⟩ fun ρ2 ⟨T0, T1, T4, _⟩ => ?_
  refine thenF_normal (hK1 _ _ ?_)
  refine wpF_seq_k fun K3 hK3 => ?_
  refine wpF_seq_k fun K4 hK4 => ?_
  refine wpF_text ?_
  refine opsF_step rfl (YieldsK.move (show _ = (v : Value) from T0) ?_)    -- outright.go:7 t7 := (Op.move (Operand.tmp 0))
  refine opsF_step rfl (YieldsK.lenRB sha10_ty22 (RB.of (hr.keep hE) (show _ = (v : Value) from rfl)) ?_)    -- outright.go:7 t8 := (Op.call { callee := (Callee.builtin Builtin.len), args := #[(Operand.tmp 7)], argTypes := #[22] })
  refine opsF_step rfl (YieldsK.eqI (a := ((l.length : Nat) : Int)) (b := ((5000 : Nat) : Int)) (show _ = (.int .i64 ((l.length : Nat) : Int) : Value) from rfl) (show _ = (.int .i64 ((5000 : Nat) : Int) : Value) from rfl) (k_gtr _ .i64 (l.length) (5000)) ?_)    -- outright.go:7 t9 := (Op.binOp BinOp.gtr 3 (Operand.tmp 8) (Operand.const (Value.int IntKind.i64 5000)) 3)
  refine opsF_end (fun ρ => ρ 0 = (v : Value) ∧ ρ 1 = (.int .i64 (cut : Int) : Value) ∧ ρ 4 = (.bool (false) : Value) ∧ ρ 9 = (.bool (decide ((5000) < (l.length))) : Value) ∧ True) ⟨T0, T1, T4, rfl, trivial⟩ fun ρ5 ⟨T0, T1, T4, T9, _⟩ => ?_
  refine thenF_normal (hK4 _ _ ?_)
  refine wpF_cond ((5000) < (l.length)) (show _ = (.bool (decide ((5000) < (l.length))) : Value) from T9) (fun hc0 => ?_) (fun hc0 => ?_)
  · refine wpF_seq_k fun K6 hK6 => ?_
    refine wpF_text ?_
    refine opsF_step rfl (YieldsK.assign (show _ = (.bool (true) : Value) from rfl) ?_)    -- outright.go:8 t4 := (Op.assign (Operand.const (Value.bool true)))
    refine opsF_end (fun ρ => ρ 0 = (v : Value) ∧ ρ 1 = (.int .i64 (cut : Int) : Value) ∧ ρ 4 = (.bool (true) : Value) ∧ True) ⟨T0, T1, rfl, trivial⟩ fun ρ7 ⟨T0, T1, T4, _⟩ => ?_
    refine thenF_normal (hK6 _ _ ?_)
    refine wpF_ret (thenF_ret ?_)
    refine postF_ret (fn := Tryd.f6) _ rfl [.bool (true)] (.bool (true)) rfl ⟨T4, trivial⟩ ?_
    exact ⟨rfl, hE⟩
  · refine wpF_skip ?_
    refine thenF_normal (hK3 _ _ ?_)
    refine wpF_seq_k fun K8 hK8 => ?_
    refine wpF_text ?_
    refine opsF_step rfl (YieldsK.move (show _ = (.int .i64 (cut : Int) : Value) from T1) ?_)    -- outright.go:10 t10 := (Op.move (Operand.tmp 1))
    refine opsF_step rfl (YieldsK.convI sha10_ty3 sha10_ty38 (show _ = (.int .i64 (cut : Int) : Value) from rfl) hcut ?_)    -- outright.go:10 t11 := (Op.convert 3 38 (Operand.tmp 10))
    refine opsF_step rfl (YieldsK.move (show _ = (v : Value) from T0) ?_)    -- outright.go:10 t12 := (Op.move (Operand.tmp 0))
    refine opsF_step rfl (YieldsK.lenRB sha10_ty22 (RB.of (hr.keep hE) (show _ = (v : Value) from rfl)) ?_)    -- outright.go:10 t13 := (Op.call { callee := (Callee.builtin Builtin.len), args := #[(Operand.tmp 12)], argTypes := #[22] })
    refine opsF_step rfl (YieldsK.bin (xv := .int .i64 ((l.length : Nat) : Int)) (yv := .int .i64 ((1 : Nat) : Int)) (show _ = (.int .i64 ((l.length : Nat) : Int) : Value) from rfl) (show _ = (.int .i64 ((1 : Nat) : Int) : Value) from rfl) rfl (i64_add _ (l.length) (1) (by omega)) ?_)    -- outright.go:10 t14 := (Op.binOp BinOp.add 3 (Operand.tmp 13) (Operand.const (Value.int IntKind.i64 1)) 3)
    refine opsF_step rfl (YieldsK.convI sha10_ty3 sha10_ty38 (show _ = (.int .i64 (((l.length) + (1) : Nat) : Int) : Value) from rfl) (wrap_u64 ((l.length) + (1)) (by omega)) ?_)    -- outright.go:10 t15 := (Op.convert 3 38 (Operand.tmp 14))
    refine opsF_step rfl (YieldsK.bin (xv := .int .u64 ((C : Nat) : Int)) (yv := .int .u64 (((l.length) + (1) : Nat) : Int)) (show _ = (.int .u64 ((C : Nat) : Int) : Value) from rfl) (show _ = (.int .u64 (((l.length) + (1) : Nat) : Int) : Value) from rfl) rfl (u64_rem _ (C) ((l.length) + (1)) (by omega)) ?_)    -- outright.go:10 t16 := (Op.binOp BinOp.rem 38 (Operand.tmp 11) (Operand.tmp 15) 38)
    refine opsF_step rfl (YieldsK.convI sha10_ty38 sha10_ty3 (show _ = (.int .u64 (((C) % ((l.length) + (1)) : Nat) : Int) : Value) from rfl) (wrap_i64 ((C) % ((l.length) + (1))) (by have := Nat.mod_lt C (show 0 < l.length + 1 by omega); omega)) ?_)    -- outright.go:10 t17 := (Op.convert 38 3 (Operand.tmp 16))
    refine opsF_step rfl (YieldsK.assign (show _ = (.int .i64 (((C) % ((l.length) + (1)) : Nat) : Int) : Value) from rfl) ?_)    -- outright.go:10 t5 := (Op.assign (Operand.tmp 17))
    refine opsF_end (fun ρ => ρ 0 = (v : Value) ∧ ρ 1 = (.int .i64 (cut : Int) : Value) ∧ ρ 4 = (.bool (false) : Value) ∧ ρ 5 = (.int .i64 (((C) % ((l.length) + (1)) : Nat) : Int) : Value) ∧ True) ⟨T0, T1, T4, rfl, trivial⟩ fun ρ9 ⟨T0, T1, T4, T5, _⟩ => ?_
    obtain ⟨K, hK⟩ : ∃ K, K = C % (l.length + 1) := ⟨_, rfl⟩
    have hKl : K ≤ l.length := by have := Nat.mod_lt C (show 0 < l.length + 1 by omega); omega
    rw [← hK] at T5
    refine thenF_normal (hK8 _ _ ?_)
    refine wpF_seq_k fun K10 hK10 => ?_
    refine wpF_text ?_
    refine opsF_step rfl (YieldsK.callA0 sha10_pl12  ?_)    -- outright.go:11 t18 := (Op.call { callee := (Callee.value (Operand.func 12)), args := #[], argTypes := #[] })
    refine (new_any _ (hG.keep hE)).mono ?_
    rintro e w14 ⟨gH, rfl, hn13, hH12, hx11⟩
    refine ⟨_, rfl, ?_⟩
    have hE : Ext w w14 := (hE.trans hx11)
    refine opsF_step rfl (YieldsK.assign (show _ = (.pointer (some ⟨gH, 0, none⟩) : Value) from rfl) ?_)    -- outright.go:11 t6 := (Op.assign (Operand.tmp 18))
    refine opsF_end (fun ρ => ρ 0 = (v : Value) ∧ ρ 1 = (.int .i64 (cut : Int) : Value) ∧ ρ 4 = (.bool (false) : Value) ∧ ρ 5 = (.int .i64 ((K : Nat) : Int) : Value) ∧ ρ 6 = (.pointer (some ⟨gH, 0, none⟩) : Value) ∧ True) ⟨T0, T1, T4, T5, rfl, trivial⟩ fun ρ15 ⟨T0, T1, T4, T5, T6, _⟩ => ?_
    refine thenF_normal (hK10 _ _ ?_)
    refine wpF_seq_k fun K16 hK16 => ?_
    refine wpF_text ?_
    refine opsF_step rfl (YieldsK.move (show _ = (.pointer (some ⟨gH, 0, none⟩) : Value) from T6) ?_)    -- outright.go:12 t19 := (Op.move (Operand.tmp 6))
    refine opsF_step rfl (YieldsK.move (show _ = (v : Value) from T0) ?_)    -- outright.go:12 t20 := (Op.move (Operand.tmp 0))
    refine opsF_step rfl (YieldsK.move (show _ = (.int .i64 ((K : Nat) : Int) : Value) from T5) ?_)    -- outright.go:12 t21 := (Op.move (Operand.tmp 5))
    refine opsF_step rfl (YieldsK.sliceHi (xs := l) (n := K) sha10_ty22 sha10_sz5 (show _ = (v : Value) from rfl) (hr.keep hE) (show _ = (.int .i64 ((K : Nat) : Int) : Value) from rfl) (by omega) fun v17 hr18 ha19 => ?_)    -- outright.go:12 t22 := (Op.slice 22 (Operand.tmp 20) none (some (Operand.tmp 21)) none)
    refine opsF_step rfl (YieldsK.callA2 sha10_pl13 (show _ = (.pointer (some ⟨gH, 0, none⟩) : Value) from rfl) (show _ = (v17 : Value) from rfl) ?_)    -- outright.go:12 t23 := (Op.call { callee := (Callee.value (Operand.func 13)), args := #[(Operand.tmp 19), (Operand.tmp 22)], argTypes
    refine (write_all _ (hG.keep hE) gH (by omega) (([] : List UInt8)) hH12 v17 (l.take (K)) hr18 (fun h0 h1 => by have := RB.lt hr (by simp at h0; omega) (ha19.symm.trans h1); omega) (by simp; omega)).mono ?_
    rintro e w22 ⟨rfl, hH20, hg21⟩
    refine ⟨_, rfl, ?_⟩
    have hE : Ext w w22 := row_fresh hE hg21 (Nat.le_trans (Nat.le_refl _) hn13)
    clear hH12
    clear hr18
    refine opsF_end (fun ρ => ρ 0 = (v : Value) ∧ ρ 1 = (.int .i64 (cut : Int) : Value) ∧ ρ 4 = (.bool (false) : Value) ∧ ρ 5 = (.int .i64 ((K : Nat) : Int) : Value) ∧ ρ 6 = (.pointer (some ⟨gH, 0, none⟩) : Value) ∧ True) ⟨T0, T1, T4, T5, T6, trivial⟩ fun ρ23 ⟨T0, T1, T4, T5, T6, _⟩ => ?_
    refine thenF_normal (hK16 _ _ ?_)
    refine wpF_seq_k fun K24 hK24 => ?_
    refine wpF_text ?_
    refine opsF_step rfl (YieldsK.move (show _ = (.pointer (some ⟨gH, 0, none⟩) : Value) from T6) ?_)    -- outright.go:13 t24 := (Op.move (Operand.tmp 6))
    refine opsF_step rfl (YieldsK.callA2 sha10_pl13 (show _ = (.pointer (some ⟨gH, 0, none⟩) : Value) from rfl) (show _ = ((Value.slice none 0 0) : Value) from rfl) ?_)    -- outright.go:13 t25 := (Op.call { callee := (Callee.value (Operand.func 13)), args := #[(Operand.tmp 24), (Operand.const (Value.slice
    refine (write_all _ (hG.keep hE) gH (by omega) (([] : List UInt8) ++ l.take (K)) hH20 (Value.slice none 0 0) (([] : List UInt8)) (RB.nil _) (fun h0 => absurd h0 (by simp)) (by simp; omega)).mono ?_
    rintro e w27 ⟨rfl, hH25, hg26⟩
    refine ⟨_, rfl, ?_⟩
    have hE : Ext w w27 := row_fresh hE hg26 (Nat.le_trans (Nat.le_refl _) hn13)
    clear hH20
    refine opsF_end (fun ρ => ρ 0 = (v : Value) ∧ ρ 1 = (.int .i64 (cut : Int) : Value) ∧ ρ 4 = (.bool (false) : Value) ∧ ρ 5 = (.int .i64 ((K : Nat) : Int) : Value) ∧ ρ 6 = (.pointer (some ⟨gH, 0, none⟩) : Value) ∧ True) ⟨T0, T1, T4, T5, T6, trivial⟩ fun ρ28 ⟨T0, T1, T4, T5, T6, _⟩ => ?_
    refine thenF_normal (hK24 _ _ ?_)
    refine wpF_seq_k fun K29 hK29 => ?_
    refine wpF_text ?_
    refine opsF_step rfl (YieldsK.move (show _ = (.pointer (some ⟨gH, 0, none⟩) : Value) from T6) ?_)    -- outright.go:14 t26 := (Op.move (Operand.tmp 6))
    refine opsF_step rfl (YieldsK.move (show _ = (v : Value) from T0) ?_)    -- outright.go:14 t27 := (Op.move (Operand.tmp 0))
    refine opsF_step rfl (YieldsK.move (show _ = (.int .i64 ((K : Nat) : Int) : Value) from T5) ?_)    -- outright.go:14 t28 := (Op.move (Operand.tmp 5))
    refine opsF_step rfl (YieldsK.sliceLo (xs := l) (l := K) sha10_ty22 sha10_sz5 (show _ = (v : Value) from rfl) (hr.keep hE) (show _ = (.int .i64 ((K : Nat) : Int) : Value) from rfl) (by omega) fun v30 hr31 ha32 => ?_)    -- outright.go:14 t29 := (Op.slice 22 (Operand.tmp 27) (some (Operand.tmp 28)) none none)
    refine opsF_step rfl (YieldsK.callA2 sha10_pl13 (show _ = (.pointer (some ⟨gH, 0, none⟩) : Value) from rfl) (show _ = (v30 : Value) from rfl) ?_)    -- outright.go:14 t30 := (Op.call { callee := (Callee.value (Operand.func 13)), args := #[(Operand.tmp 26), (Operand.tmp 29)], argTypes
    refine (write_all _ (hG.keep hE) gH (by omega) (([] : List UInt8) ++ l.take (K) ++ ([] : List UInt8)) hH25 v30 (l.drop (K)) hr31 (fun h0 h1 => by have := RB.lt hr (by simp at h0; omega) (ha32.symm.trans h1); omega) (by simp; omega)).mono ?_
    rintro e w35 ⟨rfl, hH33, hg34⟩
    refine ⟨_, rfl, ?_⟩
    have hE : Ext w w35 := row_fresh hE hg34 (Nat.le_trans (Nat.le_refl _) hn13)
    clear hH25
    clear hr31
    have hH33 : HashAt w35 gH (l) := (by simp : ([] : List UInt8) ++ l.take (K) ++ ([] : List UInt8) ++ l.drop (K) = l) ▸ hH33
    refine opsF_end (fun ρ => ρ 0 = (v : Value) ∧ ρ 1 = (.int .i64 (cut : Int) : Value) ∧ ρ 4 = (.bool (false) : Value) ∧ ρ 5 = (.int .i64 ((K : Nat) : Int) : Value) ∧ ρ 6 = (.pointer (some ⟨gH, 0, none⟩) : Value) ∧ True) ⟨T0, T1, T4, T5, T6, trivial⟩ fun ρ36 ⟨T0, T1, T4, T5, T6, _⟩ => ?_
    refine thenF_normal (hK29 _ _ ?_)
    refine wpF_seq_k fun K37 hK37 => ?_
    refine wpF_draw [Is (.pointer (some ⟨gH, 0, none⟩)), Is (.agg (Lib.byteCells (Sha.sum (l))).toArray), Is (v), fun x w' => RBs w' x [l], Is (.agg (Lib.byteCells (Sha.sum ([l]).flatten)).toArray), Is (.bool (true)), Is (.bool (true)), Is (v), Is (.int .i64 ((K : Nat) : Int)), fun x w' => RB w' x (l.take (K)), Is (v), Is (.int .i64 ((K : Nat) : Int)), fun x w' => RB w' x (l.drop (K)), fun x w' => RBs w' x [l.take (K), l.drop (K)], Is (.agg (Lib.byteCells (Sha.sum ([l.take (K), l.drop (K)]).flatten)).toArray), Is (v), fun x w' => RBs w' x [l], Is (.agg (Lib.byteCells (Sha.sum ([l]).flatten)).toArray), Is (.bool (true)), Is (.bool (true)), Is (.bool (true)), Is (.pointer (some ⟨gH, 0, none⟩)), Is (.int .i64 ((l.length : Nat) : Int)), Is (v), Is (.int .i64 ((l.length : Nat) : Int)), Is (.bool (true)), Is (.bool (true)), Is (.bool (true)), Is (.bool (true)), Is (.bool (true)), Is (.bool (true))] (by kernel_rfl) [31, 32, 33, 34, 35, 36, 37, 38, 39, 40, 41, 42, 43, 44, 45, 46, 47, 48, 49, 50, 51, 52, 53, 54, 55, 56, 57, 58, 59, 60, 4] (by kernel_rfl) (by kernel_rfl) ⟨Stab.is _, Stab.is _, Stab.is _, (fun _ _ _ h k => RBs.keep h k), Stab.is _, Stab.is _, Stab.is _, Stab.is _, Stab.is _, (fun _ _ _ h k => RB.keep h k), Stab.is _, Stab.is _, (fun _ _ _ h k => RB.keep h k), (fun _ _ _ h k => RBs.keep h k), Stab.is _, Stab.is _, (fun _ _ _ h k => RBs.keep h k), Stab.is _, Stab.is _, Stab.is _, Stab.is _, Stab.is _, Stab.is _, Stab.is _, Stab.is _, Stab.is _, Stab.is _, Stab.is _, Stab.is _, Stab.is _, Stab.is _, trivial⟩ ?hs8 ?hQ8
    case hs8 =>
      refine ⟨?_, ?_, ?_, ?_, ?_, ?_, ?_, ?_, ?_, ?_, ?_, ?_, ?_, ?_, ?_, ?_, ?_, ?_, ?_, ?_, ?_, ?_, ?_, ?_, ?_, ?_, ?_, ?_, ?_, ?_, ?_, trivial⟩
      · refine stepN rfl fun σ w1 hC h => ?_    -- t31 := (Op.move (Operand.tmp 6))
        have e6 : σ 6 = .pointer (some ⟨gH, 0, none⟩) := (show _ = _ from h 6 (by decide)).trans T6
        exact YieldsK.move e6 ⟨Ext.refl _, rfl⟩
      · refine stepN rfl fun σ w1 hC h => ?_    -- t32 := (Op.call { callee := (Callee.value (Operand.func 14)), args := #[(Operand.tmp 31)], argTypes := #[30] })
        have e31 : σ 31 = .pointer (some ⟨gH, 0, none⟩) := h 31 (by decide)
        refine YieldsK.callA1 sha10_pl14 e31 ?_
        refine (sumAt_any _ (hG.keep (hE.trans hC)) gH (l) (hH33.keep hC) (by omega)).mono ?_
        rintro e w2 ⟨rfl, hx⟩
        exact ⟨_, rfl, hx, rfl⟩
      · refine stepN rfl fun σ w1 hC h => ?_    -- t33 := (Op.move (Operand.tmp 0))
        have e0 : σ 0 = v := (show _ = _ from h 0 (by decide)).trans T0
        exact YieldsK.move e0 ⟨Ext.refl _, rfl⟩
      · refine stepN rfl fun σ w1 hC h => ?_    -- t34 := (Op.buildSlice 35 1 #[(0, (Operand.tmp 33))])
        have e33 : σ 33 = v := h 33 (by decide)
        exact YieldsK.rows1 sha10_rows1_35 (RB.of (hr.keep (hE.trans hC)) e33) fun v w2 h hx => ⟨hx, h⟩
      · refine stepN rfl fun σ w1 hC h => ?_    -- t35 := (Op.call { callee := (Callee.value (Operand.func 8)), args := #[(Operand.tmp 34)], argTypes := #[35] })
        have e34 : (fun x w' => RBs w' x [l]) (σ 34) w1 := h 34 (by decide)
        refine YieldsK.callA1 sha10_pl8 rfl ?_
        refine (sum_any _ (hG.keep (hE.trans hC)) _ [l] e34 (by simp; omega) (by simp)).mono ?_
        rintro e w2 ⟨rfl, hx⟩
        exact ⟨_, rfl, hx, rfl⟩
      · refine stepN rfl fun σ w1 hC h => ?_    -- t36 := (Op.binOp BinOp.eql 24 (Operand.tmp 32) (Operand.tmp 35) 24)
        have e32 : σ 32 = .agg (Lib.byteCells (Sha.sum (l))).toArray := h 32 (by decide)
        have e35 : σ 35 = .agg (Lib.byteCells (Sha.sum ([l]).flatten)).toArray := h 35 (by decide)
        exact YieldsK.eqArr (l1 := (Sha.sum (l))) (l2 := (Sha.sum ([l]).flatten)) sha10_ty24 sha10_ty5 sha10_sz5 sha10_eg24 e32 e35 (Sha.sum_length _) (Sha.sum_length _) ⟨Ext.refl _, (congrArg Value.bool (decide_eq_true (by simp)))⟩
      · refine stepN rfl fun σ w1 hC h => ?_    -- t37 := (Op.move (Operand.tmp 36))
        have e36 : σ 36 = .bool (true) := h 36 (by decide)
        exact YieldsK.move e36 ⟨Ext.refl _, rfl⟩
      · refine stepY 6 true 37 rfl rfl (fun _ _ h => h) fun σ w1 hC h => ?_    -- t38 := (Op.move (Operand.tmp 0))
        have e0 : σ 0 = v := (show _ = _ from h 0 (by decide)).trans T0
        exact YieldsK.move e0 ⟨Ext.refl _, rfl⟩
      · refine stepY 6 true 37 rfl rfl (fun _ _ h => h) fun σ w1 hC h => ?_    -- t39 := (Op.move (Operand.tmp 5))
        have e5 : σ 5 = .int .i64 ((K : Nat) : Int) := (show _ = _ from h 5 (by decide)).trans T5
        exact YieldsK.move e5 ⟨Ext.refl _, rfl⟩
      · refine stepY 6 true 37 rfl rfl (fun _ _ h => h) fun σ w1 hC h => ?_    -- t40 := (Op.slice 22 (Operand.tmp 38) none (some (Operand.tmp 39)) none)
        have e38 : σ 38 = v := h 38 (by decide)
        have e39 : σ 39 = .int .i64 ((K : Nat) : Int) := h 39 (by decide)
        exact YieldsK.sliceHi (xs := l) (n := K) sha10_ty22 sha10_sz5 rfl (RB.of (hr.keep (hE.trans hC)) e38) e39 (by omega) fun v hr _ => ⟨Ext.refl _, hr⟩
      · refine stepY 6 true 37 rfl rfl (fun _ _ h => h) fun σ w1 hC h => ?_    -- t41 := (Op.move (Operand.tmp 0))
        have e0 : σ 0 = v := (show _ = _ from h 0 (by decide)).trans T0
        exact YieldsK.move e0 ⟨Ext.refl _, rfl⟩
      · refine stepY 6 true 37 rfl rfl (fun _ _ h => h) fun σ w1 hC h => ?_    -- t42 := (Op.move (Operand.tmp 5))
        have e5 : σ 5 = .int .i64 ((K : Nat) : Int) := (show _ = _ from h 5 (by decide)).trans T5
        exact YieldsK.move e5 ⟨Ext.refl _, rfl⟩
      · refine stepY 6 true 37 rfl rfl (fun _ _ h => h) fun σ w1 hC h => ?_    -- t43 := (Op.slice 22 (Operand.tmp 41) (some (Operand.tmp 42)) none none)
        have e41 : σ 41 = v := h 41 (by decide)
        have e42 : σ 42 = .int .i64 ((K : Nat) : Int) := h 42 (by decide)
        exact YieldsK.sliceLo (xs := l) (l := K) sha10_ty22 sha10_sz5 rfl (RB.of (hr.keep (hE.trans hC)) e41) e42 (by omega) fun v hr _ => ⟨Ext.refl _, hr⟩
      · refine stepY 6 true 37 rfl rfl (fun _ _ h => h) fun σ w1 hC h => ?_    -- t44 := (Op.buildSlice 35 2 #[(0, (Operand.tmp 40)), (1, (Operand.tmp 43))])
        have e40 : (fun x w' => RB w' x (l.take (K))) (σ 40) w1 := h 40 (by decide)
        have e43 : (fun x w' => RB w' x (l.drop (K))) (σ 43) w1 := h 43 (by decide)
        exact YieldsK.rows2 sha10_rows2_35 e40 e43 fun v w2 h hx => ⟨hx, h⟩
      · refine stepY 6 true 37 rfl rfl (fun _ _ h => h) fun σ w1 hC h => ?_    -- t45 := (Op.call { callee := (Callee.value (Operand.func 8)), args := #[(Operand.tmp 44)], argTypes := #[35] })
        have e44 : (fun x w' => RBs w' x [l.take (K), l.drop (K)]) (σ 44) w1 := h 44 (by decide)
        refine YieldsK.callA1 sha10_pl8 rfl ?_
        refine (sum_any _ (hG.keep (hE.trans hC)) _ [l.take (K), l.drop (K)] e44 (by simp; omega) (by simp)).mono ?_
        rintro e w2 ⟨rfl, hx⟩
        exact ⟨_, rfl, hx, rfl⟩
      · refine stepY 6 true 37 rfl rfl (fun _ _ h => h) fun σ w1 hC h => ?_    -- t46 := (Op.move (Operand.tmp 0))
        have e0 : σ 0 = v := (show _ = _ from h 0 (by decide)).trans T0
        exact YieldsK.move e0 ⟨Ext.refl _, rfl⟩
      · refine stepY 6 true 37 rfl rfl (fun _ _ h => h) fun σ w1 hC h => ?_    -- t47 := (Op.buildSlice 35 1 #[(0, (Operand.tmp 46))])
        have e46 : σ 46 = v := h 46 (by decide)
        exact YieldsK.rows1 sha10_rows1_35 (RB.of (hr.keep (hE.trans hC)) e46) fun v w2 h hx => ⟨hx, h⟩
      · refine stepY 6 true 37 rfl rfl (fun _ _ h => h) fun σ w1 hC h => ?_    -- t48 := (Op.call { callee := (Callee.value (Operand.func 8)), args := #[(Operand.tmp 47)], argTypes := #[35] })
        have e47 : (fun x w' => RBs w' x [l]) (σ 47) w1 := h 47 (by decide)
        refine YieldsK.callA1 sha10_pl8 rfl ?_
        refine (sum_any _ (hG.keep (hE.trans hC)) _ [l] e47 (by simp; omega) (by simp)).mono ?_
        rintro e w2 ⟨rfl, hx⟩
        exact ⟨_, rfl, hx, rfl⟩
      · refine stepY 6 true 37 rfl rfl (fun _ _ h => h) fun σ w1 hC h => ?_    -- t49 := (Op.binOp BinOp.eql 24 (Operand.tmp 45) (Operand.tmp 48) 24)
        have e45 : σ 45 = .agg (Lib.byteCells (Sha.sum ([l.take (K), l.drop (K)]).flatten)).toArray := h 45 (by decide)
        have e48 : σ 48 = .agg (Lib.byteCells (Sha.sum ([l]).flatten)).toArray := h 48 (by decide)
        exact YieldsK.eqArr (l1 := (Sha.sum ([l.take (K), l.drop (K)]).flatten)) (l2 := (Sha.sum ([l]).flatten)) sha10_ty24 sha10_ty5 sha10_sz5 sha10_eg24 e45 e48 (Sha.sum_length _) (Sha.sum_length _) ⟨Ext.refl _, (congrArg Value.bool (decide_eq_true (by simp)))⟩
      · refine stepN rfl fun σ w1 hC h => ?_    -- t50 := (Op.pick (Operand.tmp 37) (Operand.tmp 49) (Operand.const (Value.bool false)))
        have e37 : σ 37 = .bool (true) := h 37 (by decide)
        have e49 : σ 49 = .bool (true) := h 49 (by decide)
        exact YieldsK.pickT e37 e49 ⟨Ext.refl _, rfl⟩
      · refine stepN rfl fun σ w1 hC h => ?_    -- t51 := (Op.move (Operand.tmp 50))
        have e50 : σ 50 = .bool (true) := h 50 (by decide)
        exact YieldsK.move e50 ⟨Ext.refl _, rfl⟩
      · refine stepY 20 true 51 rfl rfl (fun _ _ h => h) fun σ w1 hC h => ?_    -- t52 := (Op.move (Operand.tmp 6))
        have e6 : σ 6 = .pointer (some ⟨gH, 0, none⟩) := (show _ = _ from h 6 (by decide)).trans T6
        exact YieldsK.move e6 ⟨Ext.refl _, rfl⟩
      · refine stepY 20 true 51 rfl rfl (fun _ _ h => h) fun σ w1 hC h => ?_    -- t53 := (Op.call { callee := (Callee.value (Operand.func 15)), args := #[(Operand.tmp 52)], argTypes := #[30] })
        have e52 : σ 52 = .pointer (some ⟨gH, 0, none⟩) := h 52 (by decide)
        refine YieldsK.callA1 sha10_pl15 e52 ?_
        refine (len_any _ gH l (hH33.keep hC)).mono ?_
        rintro e w2 ⟨rfl, hx⟩
        exact ⟨_, rfl, hx, rfl⟩
      · refine stepY 20 true 51 rfl rfl (fun _ _ h => h) fun σ w1 hC h => ?_    -- t54 := (Op.move (Operand.tmp 0))
        have e0 : σ 0 = v := (show _ = _ from h 0 (by decide)).trans T0
        exact YieldsK.move e0 ⟨Ext.refl _, rfl⟩
      · refine stepY 20 true 51 rfl rfl (fun _ _ h => h) fun σ w1 hC h => ?_    -- t55 := (Op.call { callee := (Callee.builtin Builtin.len), args := #[(Operand.tmp 54)], argTypes := #[22] })
        have e54 : σ 54 = v := h 54 (by decide)
        exact YieldsK.lenRB sha10_ty22 (RB.of (hr.keep (hE.trans hC)) e54) ⟨Ext.refl _, rfl⟩
      · refine stepY 20 true 51 rfl rfl (fun _ _ h => h) fun σ w1 hC h => ?_    -- t56 := (Op.binOp BinOp.eql 3 (Operand.tmp 53) (Operand.tmp 55) 3)
        have e53 : σ 53 = .int .i64 ((l.length : Nat) : Int) := h 53 (by decide)
        have e55 : σ 55 = .int .i64 ((l.length : Nat) : Int) := h 55 (by decide)
        exact YieldsK.eqI (a := ((l.length : Nat) : Int)) (b := ((l.length : Nat) : Int)) e53 e55 (k_eql _ .i64 (l.length) (l.length)) ⟨Ext.refl _, (congrArg Value.bool (decide_eq_true (rfl)))⟩
      · refine stepN rfl fun σ w1 hC h => ?_    -- t57 := (Op.pick (Operand.tmp 51) (Operand.tmp 56) (Operand.const (Value.bool false)))
        have e51 : σ 51 = .bool (true) := h 51 (by decide)
        have e56 : σ 56 = .bool (true) := h 56 (by decide)
        exact YieldsK.pickT e51 e56 ⟨Ext.refl _, rfl⟩
      · refine stepN rfl fun σ w1 hC h => ?_    -- t58 := (Op.move (Operand.tmp 57))
        have e57 : σ 57 = .bool (true) := h 57 (by decide)
        exact YieldsK.move e57 ⟨Ext.refl _, rfl⟩
      · refine stepY 27 true 58 rfl rfl (fun _ _ h => h) fun σ w1 hC h => ?_    -- t59 := (Op.call { callee := (Callee.value (Operand.func 11)), args := #[], argTypes := #[] })
        refine YieldsK.callA0 sha10_pl11  ?_
        refine (awake01 _ (hG.keep (hE.trans hC))).mono ?_
        rintro e w2 ⟨rfl, hx⟩
        exact ⟨_, rfl, hx, rfl⟩
      · refine stepN rfl fun σ w1 hC h => ?_    -- t60 := (Op.pick (Operand.tmp 58) (Operand.tmp 59) (Operand.const (Value.bool false)))
        have e58 : σ 58 = .bool (true) := h 58 (by decide)
        have e59 : σ 59 = .bool (true) := h 59 (by decide)
        exact YieldsK.pickT e58 e59 ⟨Ext.refl _, rfl⟩
      · refine stepN rfl fun σ w1 hC h => ?_    -- t4 := (Op.assign (Operand.tmp 60))
        have e60 : σ 60 = .bool (true) := h 60 (by decide)
        exact YieldsK.assign e60 ⟨Ext.refl _, rfl⟩
    intro ρ38 w39 hx40 he hf
    obtain ⟨-, -, -, -, -, -, -, -, -, -, -, -, -, -, -, -, -, -, -, -, -, -, -, -, -, -, -, -, -, -, k4, -⟩ := hf
    have T0 : ρ38 0 = v := he.at_ T0 rfl
    have T1 : ρ38 1 = .int .i64 (cut : Int) := he.at_ T1 rfl
    have T5 : ρ38 5 = .int .i64 ((K : Nat) : Int) := he.at_ T5 rfl
    have T6 : ρ38 6 = .pointer (some ⟨gH, 0, none⟩) := he.at_ T6 rfl
    clear he
    have hE : Ext w w39 := (hE.trans hx40)
    have hH33 : HashAt w39 gH (l) := (hH33.keep hx40)
    have T4 : ρ38 4 = .bool (true) := k4
    clear k4
    refine thenF_normal (hK37 _ _ ?_)
    refine wpF_ret ?_
    refine postF_ret (fn := Tryd.f6) _ rfl [.bool (true)] (.bool (true)) rfl ⟨T4, trivial⟩ ?_
    exact ⟨rfl, hE⟩
end Go.Proofs.YtcindgknimallaaDoor
