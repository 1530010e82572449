/- Part 4 of what stands behind these statements: laws and walks of the functions that are reached. Conditions: those that each theorem names. -/
import Derived.Test.YtmonlobfofkbdaaDoorP3
set_option linter.unusedVariables false
namespace Go.Proofs.YtmonlobfofkbdaaDoor
open Go.RowKit
set_option maxRecDepth 100000
def stopW : PanicEntry := { v := .iface 107 (.agg #[]), recovered := false }
theorem wr7_ty107 : ∃ fs, Tryd.prog.underlying 107 = some (.struct fs) := struct_of (by kernel_rfl)
theorem wr7_fo111_1 : FieldOff Tryd.prog 111 1 1 := fun b o w => by simp [go_sem]
theorem wr7_ty3 : Tryd.prog.underlying 3 = some (.int .i64) := by kernel_rfl
theorem wr7_fo111_0 : FieldOff Tryd.prog 111 0 0 := fun b o w => by simp [go_sem]
theorem wr7_ty26 : Tryd.prog.underlying 26 = some (.slice 5) := by kernel_rfl
theorem wr7_pl109 : Plain Tryd.prog 109 := fun _ _ => by kernel_rfl
theorem wr7_isz3 : (Tryd.prog.info? 3).map (·.size) = some 1 := by kernel_rfl
theorem wr7_sz5 : ∀ w' : World, (sizeOf 5).run Tryd.prog w' = .ok 1 w' := fun _ => by kernel_rfl
theorem wr7_ty5 : Tryd.prog.underlying 5 = some (.int .u8) := by kernel_rfl
theorem wr7_pl145 : Plain Tryd.prog 145 := fun _ _ => by kernel_rfl
theorem wr7_pl146 : Plain Tryd.prog 146 := fun _ _ => by kernel_rfl
theorem wr7_al25 {d : Option Tmp} {ty : TypeId} {pos : String} {af : Array Edge} {gd : Option (Nat × Bool)} (σ : Operand → Value) (w : World) : (execOp σ ⟨d, .alloc 25, ty, pos, af, gd⟩).run Tryd.prog w = .ok (.value (PQ w.heap.size 0)) (w.alloc (.cells (Lib.byteCells (List.replicate 32 0)).toArray 25)) := by kernel_rfl
theorem wr7_pl147 : Plain Tryd.prog 147 := fun _ _ => by kernel_rfl
theorem wr7_ty25 : Tryd.prog.underlying 25 = some (.array 32 5) := by kernel_rfl
set_option maxHeartbeats 1600000
theorem needW_any (w : World) (b : Bool) :
  Calls Tryd.prog 109 #[.bool b] w fun r w' => (∃ v, r = .returned v ∧ v = .tuple #[] ∧ b = true ∧ Ext w w') ∨ ∃ ch, r = .panicked ch ∧ ch = [stopW] ∧ b = false ∧ Ext w w' := by
 refine calls_of_wpP (args := [.bool (b)]) Tryd.func109 rfl 6 rfl (Nat.le_of_ble_eq_true rfl) ?_
 intro ρ0 hb
 have T0 : ρ0 0 = (.bool (b) : Value) := hb.get 0
 clear hb
 have hE := Ext.refl w
 refine sk fun K1 hK1 => (wt (oM rfl (oS rfl (Yk.notB T0 (oZ (tN (hK1 _ _ ?_)))))))
 refine wpF_condB (!(b)) (vr (.bool (!(b))) rfl) (fun hc0 => ?_) (fun hc0 => ?_)
 ·refine wt (oS rfl (Yk.run (v := .agg #[]) (by kernel_rfl) (oS rfl (Yk.mkIface (wr7_ty107).choose_spec (vr (.agg #[]) rfl) (oP rfl (Yp.panic (vr (.iface 107 (.agg #[])) rfl) (postP_panic ?_)))))))
  exact .inr ⟨_, rfl, rfl, by simpa using hc0, hE⟩
 refine wpF_skip (postP_end (fn := Tryd.f109) [] rfl [] (.tuple #[]) rfl trivial ?_)
 exact .inl ⟨_, rfl, rfl, by simpa using hc0, hE⟩

theorem byte_any (w : World) (r : Nat) (v : Value) (b : Bs) (i : Nat) (hb : w.heap[r]? = some (.cells (rdC (rdX v b (i))).toArray 111 (0, 0))) (hr : RB w v b) (hap : b = [] ∨ OB v r) (hi : i ≤ b.length) (hl : b.length ≤ 4611686018427387904) :
  Calls Tryd.prog 108 #[PQ r 0] w fun e w' => (∃ x, e = .returned x ∧ ∃ c n, byteP b i = some (c, n) ∧ x = B8 c ∧ w'.heap[r]? = some (.cells (rdC (rdX v b (n))).toArray 111 (0, 0)) ∧ w.grownBy w' (some r)) ∨ ∃ ch, e = .panicked ch ∧ byteP b i = none ∧ ch = [stopW] ∧ w.grownBy w' (some r) := by
 have hlr := (bl hb)
 have hgr := World.grownBy.refl w (some r)
 refine calls_of_wpP (args := [PQ r 0]) Tryd.func108 rfl 32 rfl (Nat.le_of_ble_eq_true rfl) ?_
 intro ρ0 hb
 have T0 : ρ0 0 = (PQ r 0 : Value) := hb.get 0
 clear hb
 have hE := Ext.refl w
 refine sk fun K1 hK1 => (wt (oA rfl (oZ ?_)))
 by_cases hlt : i < b.length
 ·have hP : byteP b i = some (b.getD i 0, i + 1) := if_pos hlt
  refine tN (hK1 _ _ (sk fun K2 hK2 => ?_))
  refine wpF_draw_endE 10 _ [Is (PQ r 0), Is (PQ r 0), Is (PQ r 1), Is (NI i), Is (PQ r 0), Is (PQ r 0), Is (PQ r 0), Is (v), Is (NI b.length), Is (.bool (true))] (by kernel_rfl) [3, 4, 5, 6, 7, 8, 9, 10, 11, 12, 13] (by kernel_rfl) (by kernel_rfl) (by kernel_rfl) rfl rfl rfl (fun _ _ => trivial) (si10 trivial) ?hs1001 ?hQ1001
  case hs1001 =>
   refine ⟨?_, ?_, ?_, ?_, ?_, ?_, ?_, ?_, ?_, ?_, ?_, trivial⟩
   ·refine stepFL (stepN rfl fun σ w1 hC h => ?_)
    have e0 := (eqo (h 0 (by decide))).trans T0
    exact Yk.move e0 ⟨Ext.refl _, rfl⟩
   ·refine stepFL (stepN rfl fun σ w1 hC h => ?_)
    have e3 := eqo (h 3 (by decide))
    exact Yk.nilCheck e3 ⟨Ext.refl _, rfl⟩
   ·refine stepFL (stepN rfl fun σ w1 hC h => ?_)
    have e4 := eqo (h 4 (by decide))
    exact Yk.fieldAt wr7_fo111_1 e4 ⟨Ext.refl _, rfl⟩
   ·refine stepFL (stepN rfl fun σ w1 hC h => ?_)
    have e5 := eqo (h 5 (by decide))
    exact Yk.cell1 wr7_ty3 rfl e5 (cellAt (eb hC hb) (show (rdC (rdX v b (i)))[1]? = some (NI i : Value) from rd_g1 (rdX v b (i)))) ⟨Ext.refl _, rfl⟩
   ·refine stepFL (stepN rfl fun σ w1 hC h => ?_)
    have e0 := (eqo (h 0 (by decide))).trans T0
    exact Yk.move e0 ⟨Ext.refl _, rfl⟩
   ·refine stepFL (stepN rfl fun σ w1 hC h => ?_)
    have e7 := eqo (h 7 (by decide))
    exact Yk.nilCheck e7 ⟨Ext.refl _, rfl⟩
   ·refine stepFL (stepN rfl fun σ w1 hC h => ?_)
    have e8 := eqo (h 8 (by decide))
    exact Yk.fieldAt wr7_fo111_0 e8 ⟨Ext.refl _, rfl⟩
   ·refine stepFL (stepN rfl fun σ w1 hC h => ?_)
    have e9 := eqo (h 9 (by decide))
    exact Yk.cell1 wr7_ty26 rfl e9 (cellAt (eb hC hb) (show (rdC (rdX v b (i)))[0]? = some (v : Value) from rd_g0 (rdX v b (i)))) ⟨Ext.refl _, rfl⟩
   ·refine stepFL (stepN rfl fun σ w1 hC h => ?_)
    have e10 := eqo (h 10 (by decide))
    exact Yk.lenRB wr7_ty26 (RB.of (hr.keep (hE.trans hC)) e10) ⟨Ext.refl _, rfl⟩
   ·refine stepFL (stepN rfl fun σ w1 hC h => ?_)
    have e6 := eqo (h 6 (by decide))
    have e11 := eqo (h 11 (by decide))
    exact Yk.eqI (a := (i : Nat)) (b := (b.length : Nat)) e6 e11 (k_lss _ _ _ _) ⟨Ext.refl _, (congrArg Value.bool (decide_eq_true ((by omega))))⟩
   ·exact trivial
  intro ρ3 w4 hx5 he hf
  obtain ⟨-, -, -, -, -, -, -, -, -, k12, -⟩ := hf
  obtain ⟨T0, T2, -⟩ := he.hold [(0, _), (2, B8 (0))] ⟨T0, rfl, trivial⟩ rfl
  clear he
  have hb := eb hx5 hb
  have hgr : w.grownBy w4 (some r) := grownBy_trans hgr hx5.grown (fun _ e => by cases e)
  have hE := hE.trans hx5
  have T12 : ρ3 12 = .bool (true) := k12
  clear k12
  refine Yp.callA1 wr7_pl109 T12 ?_
  refine calls_either (needW_any _ (true)) ?_ ?_
  rotate_left
  ·
   rintro ch w8 ⟨rfl, hb, hx⟩
   refine thenF_panic (postP_panic ?_)
   cases hb
  rintro v_ w9 ⟨rfl, hb6, hx7⟩
  have hb := eb hx7 hb
  have hgr : w.grownBy w9 (some r) := grownBy_trans hgr hx7.grown (fun _ e => by cases e)
  have hE := hE.trans hx7
  intro ρ10 hu11
  have T0 : ρ10 0 = (PQ r 0 : Value) := (hu11 0 (by decide)).trans T0
  have T2 : ρ10 2 = (B8 (0) : Value) := (hu11 2 (by decide)).trans T2
  have hr := (hr.keep hE)
  refine tN (hK2 _ _ (sk fun K12 hK12 => (wt (oM rfl (oS rfl (Yk.nilCheck T0 (oS rfl (Yk.fieldAt wr7_fo111_1 (vr (PQ r 0) rfl) (oS rfl (Yk.cell1 wr7_ty3 rfl (vr (PQ r 1) rfl) (cellAt hb (show (rdC (rdX v b (i)))[1]? = some (NI i : Value) from rd_g1 (rdX v b (i)))) (oS rfl (Yk.bin (xv := NI i) (yv := NI 1) rfl rfl rfl (i64_add _ _ _ (by omega)) (oS rfl (Yk.nilCheck T0 (oS rfl (Yk.fieldAt wr7_fo111_1 (vr (PQ r 0) rfl) (oS rfl (Yk.storeC (i := 1) (v := NI ((i) + (1))) (vr (PQ r 1) rfl) (vr (NI ((i) + (1))) rfl) hb (by rw [rd_len]; decide) wr7_isz3 rfl rfl fun w13 hb14 hg15 hs16 => ?_))))))))))))))))))
  clear hb
  have hr := RB.keptE hr hg15 hap
  have hgr : w.grownBy w13 (some r) := grownBy_trans hgr hg15 (fun _ e => .inl e)
  clear hE
  have hb : w13.heap[r]? = some (.cells (rdC ((⟨b, (((i) + (1) : Nat) : Int)⟩, ⟨v⟩) : RdV)).toArray 111 (0, 0)) := blk_eq hb14 (rd_s1 (rdX v b (i)) (((i) + (1) : Nat) : Int)); clear hb14
  have hl17 := bl hb
  refine oZ (tN (hK12 _ _ (sk fun K18 hK18 => ?_)))
  refine wpF_draw [Is (PQ r 0), Is (PQ r 0), Is (PQ r 0), Is (v), Is (PQ r 0), Is (PQ r 0), Is (PQ r 1), Is (NI ((i) + (1))), Is (NI (((i) + (1)) - (1))), PCell (B8 (b.getD (((i) + (1)) - (1)) 0)), Is (B8 (b.getD (((i) + (1)) - (1)) 0)), Is (B8 (b.getD (((i) + (1)) - (1)) 0))] (by kernel_rfl) [21, 22, 23, 24, 25, 26, 27, 28, 29, 30, 31, 2] (by kernel_rfl) (by kernel_rfl) (si9 ⟨Stab.pcell _, (si2 trivial)⟩) ?hs2003 ?hQ2003
  case hs2003 =>
   refine ⟨?_, ?_, ?_, ?_, ?_, ?_, ?_, ?_, ?_, ?_, ?_, ?_, trivial⟩
   ·refine stepN rfl fun σ w1 hC h => ?_
    have e0 := (eqo (h 0 (by decide))).trans T0
    exact Yk.move e0 ⟨Ext.refl _, rfl⟩
   ·refine stepN rfl fun σ w1 hC h => ?_
    have e21 := eqo (h 21 (by decide))
    exact Yk.nilCheck e21 ⟨Ext.refl _, rfl⟩
   ·refine stepN rfl fun σ w1 hC h => ?_
    have e22 := eqo (h 22 (by decide))
    exact Yk.fieldAt wr7_fo111_0 e22 ⟨Ext.refl _, rfl⟩
   ·refine stepN rfl fun σ w1 hC h => ?_
    have e23 := eqo (h 23 (by decide))
    exact Yk.cell1 wr7_ty26 rfl e23 (cellAt (eb hC hb) (show (rdC ((⟨b, (((i) + (1) : Nat) : Int)⟩, ⟨v⟩) : RdV))[0]? = some (v : Value) from rd_g0 ((⟨b, (((i) + (1) : Nat) : Int)⟩, ⟨v⟩) : RdV))) ⟨Ext.refl _, rfl⟩
   ·refine stepN rfl fun σ w1 hC h => ?_
    have e0 := (eqo (h 0 (by decide))).trans T0
    exact Yk.move e0 ⟨Ext.refl _, rfl⟩
   ·refine stepN rfl fun σ w1 hC h => ?_
    have e25 := eqo (h 25 (by decide))
    exact Yk.nilCheck e25 ⟨Ext.refl _, rfl⟩
   ·refine stepN rfl fun σ w1 hC h => ?_
    have e26 := eqo (h 26 (by decide))
    exact Yk.fieldAt wr7_fo111_1 e26 ⟨Ext.refl _, rfl⟩
   ·refine stepN rfl fun σ w1 hC h => ?_
    have e27 := eqo (h 27 (by decide))
    exact Yk.cell1 wr7_ty3 rfl e27 (cellAt (eb hC hb) (show (rdC ((⟨b, (((i) + (1) : Nat) : Int)⟩, ⟨v⟩) : RdV))[1]? = some (NI ((i) + (1)) : Value) from rd_g1 ((⟨b, (((i) + (1) : Nat) : Int)⟩, ⟨v⟩) : RdV))) ⟨Ext.refl _, rfl⟩
   ·refine stepN rfl fun σ w1 hC h => ?_
    have e28 := eqo (h 28 (by decide))
    exact Yk.bin (xv := NI ((i) + (1))) (yv := NI 1) e28 rfl rfl (i64_sub _ _ _ (by omega) (by omega)) ⟨Ext.refl _, rfl⟩
   ·refine stepN rfl fun σ w1 hC h => ?_
    have e24 := eqo (h 24 (by decide))
    have e29 := eqo (h 29 (by decide))
    exact Yk.atRB (l := b) (i := ((i) + (1)) - (1)) wr7_ty26 wr7_sz5 (RB.of (hr.keep hC) e24) e29 (by omega) fun _ h => ⟨Ext.refl _, h⟩
   ·refine stepN rfl fun σ w1 hC h => ?_
    have e30 : (PCell (B8 (b.getD (((i) + (1)) - (1)) 0))) (σ 30) w1 := h 30 (by decide)
    exact Yk.loadC wr7_ty5 rfl e30 ⟨Ext.refl _, rfl⟩
   ·refine stepN rfl fun σ w1 hC h => ?_
    have e31 := eqo (h 31 (by decide))
    exact Yk.assign e31 ⟨Ext.refl _, rfl⟩
  intro ρ19 w20 hx21 he hf
  obtain ⟨-, -, -, -, -, -, -, -, -, -, -, k2, -⟩ := hf
  have T0 : ρ19 0 = PQ r 0 := he.at_ T0 rfl
  clear he
  have hr := hr.keep hx21
  have hgr : w.grownBy w20 (some r) := grownBy_trans hgr hx21.grown (fun _ e => by cases e)
  have hb := eb hx21 hb
  have T2 : ρ19 2 = B8 (b.getD (((i) + (1)) - (1)) 0) := k2
  clear k2
  refine tN (hK18 _ _ (wpF_ret (postP_ret (fn := Tryd.f108) _ rfl [B8 (b.getD (((i) + (1)) - (1)) 0)] (B8 (b.getD (((i) + (1)) - (1)) 0)) rfl ⟨T2, trivial⟩ ?_)))
  exact .inl ⟨_, rfl, _, _, hP, rfl, hb, hgr⟩
 have hP : byteP b i = none := if_neg hlt
 refine tN (hK1 _ _ (sk fun K22 hK22 => ?_))
 refine wpF_draw_endE 10 _ [Is (PQ r 0), Is (PQ r 0), Is (PQ r 1), Is (NI i), Is (PQ r 0), Is (PQ r 0), Is (PQ r 0), Is (v), Is (NI b.length), Is (.bool (false))] (by kernel_rfl) [3, 4, 5, 6, 7, 8, 9, 10, 11, 12, 13] (by kernel_rfl) (by kernel_rfl) (by kernel_rfl) rfl rfl rfl (fun _ _ => trivial) (si10 trivial) ?hs3001 ?hQ3001
 case hs3001 =>
  refine ⟨?_, ?_, ?_, ?_, ?_, ?_, ?_, ?_, ?_, ?_, ?_, trivial⟩
  ·refine stepFL (stepN rfl fun σ w1 hC h => ?_)
   have e0 := (eqo (h 0 (by decide))).trans T0
   exact Yk.move e0 ⟨Ext.refl _, rfl⟩
  ·refine stepFL (stepN rfl fun σ w1 hC h => ?_)
   have e3 := eqo (h 3 (by decide))
   exact Yk.nilCheck e3 ⟨Ext.refl _, rfl⟩
  ·refine stepFL (stepN rfl fun σ w1 hC h => ?_)
   have e4 := eqo (h 4 (by decide))
   exact Yk.fieldAt wr7_fo111_1 e4 ⟨Ext.refl _, rfl⟩
  ·refine stepFL (stepN rfl fun σ w1 hC h => ?_)
   have e5 := eqo (h 5 (by decide))
   exact Yk.cell1 wr7_ty3 rfl e5 (cellAt (eb hC hb) (show (rdC (rdX v b (i)))[1]? = some (NI i : Value) from rd_g1 (rdX v b (i)))) ⟨Ext.refl _, rfl⟩
  ·refine stepFL (stepN rfl fun σ w1 hC h => ?_)
   have e0 := (eqo (h 0 (by decide))).trans T0
   exact Yk.move e0 ⟨Ext.refl _, rfl⟩
  ·refine stepFL (stepN rfl fun σ w1 hC h => ?_)
   have e7 := eqo (h 7 (by decide))
   exact Yk.nilCheck e7 ⟨Ext.refl _, rfl⟩
  ·refine stepFL (stepN rfl fun σ w1 hC h => ?_)
   have e8 := eqo (h 8 (by decide))
   exact Yk.fieldAt wr7_fo111_0 e8 ⟨Ext.refl _, rfl⟩
  ·refine stepFL (stepN rfl fun σ w1 hC h => ?_)
   have e9 := eqo (h 9 (by decide))
   exact Yk.cell1 wr7_ty26 rfl e9 (cellAt (eb hC hb) (show (rdC (rdX v b (i)))[0]? = some (v : Value) from rd_g0 (rdX v b (i)))) ⟨Ext.refl _, rfl⟩
  ·refine stepFL (stepN rfl fun σ w1 hC h => ?_)
   have e10 := eqo (h 10 (by decide))
   exact Yk.lenRB wr7_ty26 (RB.of (hr.keep (hE.trans hC)) e10) ⟨Ext.refl _, rfl⟩
  ·refine stepFL (stepN rfl fun σ w1 hC h => ?_)
   have e6 := eqo (h 6 (by decide))
   have e11 := eqo (h 11 (by decide))
   exact Yk.eqI (a := (i : Nat)) (b := (b.length : Nat)) e6 e11 (k_lss _ _ _ _) ⟨Ext.refl _, (congrArg Value.bool (decide_eq_false ((by omega))))⟩
  ·exact trivial
 intro ρ23 w24 hx25 he hf
 obtain ⟨-, -, -, -, -, -, -, -, -, k12, -⟩ := hf
 obtain ⟨T0, T2, -⟩ := he.hold [(0, _), (2, B8 (0))] ⟨T0, rfl, trivial⟩ rfl
 clear he
 have hb := eb hx25 hb
 have hgr : w.grownBy w24 (some r) := grownBy_trans hgr hx25.grown (fun _ e => by cases e)
 have hE := hE.trans hx25
 have T12 : ρ23 12 = .bool (false) := k12
 clear k12
 refine Yp.callA1 wr7_pl109 T12 ?_
 refine calls_either (needW_any _ (false)) ?_ ?_
 rotate_left
 ·
  rintro ch w28 ⟨rfl, hb, hx⟩
  refine thenF_panic (postP_panic ?_)
  exact .inr ⟨_, rfl, hP, rfl, (grownBy_trans hgr hx.grown (fun _ e => by cases e))⟩
 rintro v_ w29 ⟨rfl, hb26, hx27⟩
 cases hb26

theorem numberW_any (w : World) (r : Nat) (v : Value) (b : Bs) (i : Nat) (hb : w.heap[r]? = some (.cells (rdC (rdX v b (i))).toArray 111 (0, 0))) (hr : RB w v b) (hap : b = [] ∨ OB v r) (hi : i ≤ b.length) (hl : b.length ≤ 4611686018427387904) :
  Calls Tryd.prog 110 #[PQ r 0] w fun e w' => (∃ x, e = .returned x ∧ ∃ c n, numP b i = some (c, n) ∧ x = NI c ∧ w'.heap[r]? = some (.cells (rdC (rdX v b (n))).toArray 111 (0, 0)) ∧ w.grownBy w' (some r)) ∨ ∃ ch, e = .panicked ch ∧ numP b i = none ∧ ch = [stopW] ∧ w.grownBy w' (some r) := by
 have hlr := (bl hb)
 have hgr := World.grownBy.refl w (some r)
 refine calls_of_wpP (args := [PQ r 0]) Tryd.func110 rfl 27 rfl (Nat.le_of_ble_eq_true rfl) ?_
 intro ρ0 hb
 have T0 : ρ0 0 = (PQ r 0 : Value) := hb.get 0
 clear hb
 have hE := Ext.refl w
 refine sk fun K1 hK1 => (wt (oA rfl (oZ ?_)))
 rcases hd : lebDec 0 (b.drop i) with _ | ⟨xn, xk⟩
 ·have hP : numP b i = none := by unfold numP; rw [hd]; rfl
  refine tN (hK1 _ _ (sk fun K2 hK2 => ?_))
  refine wpF_draw [Is (PQ r 0), Is (PQ r 0), Is (PQ r 0), Is (v), Is (PQ r 0), Is (PQ r 0), Is (PQ r 1), Is (NI i), Is (.tuple #[NI 0, NI 0, NI 6]), Is (.tuple #[NI 0, NI 0, NI 6]), Is (NI 0), Is (NI 0), Is (NI 6), Is (NI 0), Is (NI 0), Is (NI 6)] (by kernel_rfl) [7, 8, 9, 10, 11, 12, 13, 14, 15, 6, 16, 17, 18, 3, 4, 5] (by kernel_rfl) (by kernel_rfl) (si4 (si12 trivial)) ?hs1001 ?hQ1001
  case hs1001 =>
   refine ⟨?_, ?_, ?_, ?_, ?_, ?_, ?_, ?_, ?_, ?_, ?_, ?_, ?_, ?_, ?_, ?_, trivial⟩
   ·refine stepN rfl fun σ w1 hC h => ?_
    have e0 := (eqo (h 0 (by decide))).trans T0
    exact Yk.move e0 ⟨Ext.refl _, rfl⟩
   ·refine stepN rfl fun σ w1 hC h => ?_
    have e7 := eqo (h 7 (by decide))
    exact Yk.nilCheck e7 ⟨Ext.refl _, rfl⟩
   ·refine stepN rfl fun σ w1 hC h => ?_
    have e8 := eqo (h 8 (by decide))
    exact Yk.fieldAt wr7_fo111_0 e8 ⟨Ext.refl _, rfl⟩
   ·refine stepN rfl fun σ w1 hC h => ?_
    have e9 := eqo (h 9 (by decide))
    exact Yk.cell1 wr7_ty26 rfl e9 (cellAt (eb hC hb) (show (rdC (rdX v b (i)))[0]? = some (v : Value) from rd_g0 (rdX v b (i)))) ⟨Ext.refl _, rfl⟩
   ·refine stepN rfl fun σ w1 hC h => ?_
    have e0 := (eqo (h 0 (by decide))).trans T0
    exact Yk.move e0 ⟨Ext.refl _, rfl⟩
   ·refine stepN rfl fun σ w1 hC h => ?_
    have e11 := eqo (h 11 (by decide))
    exact Yk.nilCheck e11 ⟨Ext.refl _, rfl⟩
   ·refine stepN rfl fun σ w1 hC h => ?_
    have e12 := eqo (h 12 (by decide))
    exact Yk.fieldAt wr7_fo111_1 e12 ⟨Ext.refl _, rfl⟩
   ·refine stepN rfl fun σ w1 hC h => ?_
    have e13 := eqo (h 13 (by decide))
    exact Yk.cell1 wr7_ty3 rfl e13 (cellAt (eb hC hb) (show (rdC (rdX v b (i)))[1]? = some (NI i : Value) from rd_g1 (rdX v b (i)))) ⟨Ext.refl _, rfl⟩
   ·refine stepN rfl fun σ w1 hC h => ?_
    have e10 := eqo (h 10 (by decide))
    have e14 := eqo (h 14 (by decide))
    refine Yk.callA2 wr7_pl145 e10 e14 ?_
    refine ((show Calls _ _ _ _ (fun e w2 => e = .returned (.tuple #[NI 0, NI 0, NI 6]) ∧ Ext _ w2) from (get_in _ v b (hr.keep (hE.trans hC)) i hi).mono fun e w2 ⟨h1, h2⟩ => by subst h2; subst h1; refine ⟨?_, Ext.refl _⟩; rw [hd]; rfl)).mono ?_
    rintro e w2 ⟨rfl, hx⟩
    exact ⟨_, rfl, hx, rfl⟩
   ·refine stepN rfl fun σ w1 hC h => ?_
    have e15 := eqo (h 15 (by decide))
    exact Yk.move e15 ⟨Ext.refl _, rfl⟩
   ·refine stepN rfl fun σ w1 hC h => ?_
    have e6 := eqo (h 6 (by decide))
    exact Yk.extract (vs := [NI 0, NI 0, NI 6]) e6 (show _ = some (NI 0 : Value) from rfl) ⟨Ext.refl _, rfl⟩
   ·refine stepN rfl fun σ w1 hC h => ?_
    have e6 := eqo (h 6 (by decide))
    exact Yk.extract (vs := [NI 0, NI 0, NI 6]) e6 (show _ = some (NI 0 : Value) from rfl) ⟨Ext.refl _, rfl⟩
   ·refine stepN rfl fun σ w1 hC h => ?_
    have e6 := eqo (h 6 (by decide))
    exact Yk.extract (vs := [NI 0, NI 0, NI 6]) e6 (show _ = some (NI 6 : Value) from rfl) ⟨Ext.refl _, rfl⟩
   ·refine stepN rfl fun σ w1 hC h => ?_
    have e16 := eqo (h 16 (by decide))
    exact Yk.assign e16 ⟨Ext.refl _, rfl⟩
   ·refine stepN rfl fun σ w1 hC h => ?_
    have e17 := eqo (h 17 (by decide))
    exact Yk.assign e17 ⟨Ext.refl _, rfl⟩
   ·refine stepN rfl fun σ w1 hC h => ?_
    have e18 := eqo (h 18 (by decide))
    exact Yk.assign e18 ⟨Ext.refl _, rfl⟩
  intro ρ3 w4 hx5 he hf
  obtain ⟨-, -, -, -, -, -, -, -, -, -, -, -, -, k3, k4, k5, -⟩ := hf
  obtain ⟨T0, T2, -⟩ := he.hold [(0, _), (2, NI 0)] ⟨T0, rfl, trivial⟩ rfl
  clear he
  have hb := eb hx5 hb
  have hgr : w.grownBy w4 (some r) := grownBy_trans hgr hx5.grown (fun _ e => by cases e)
  have hE := hE.trans hx5
  have T3 : ρ3 3 = NI 0 := k3
  have T4 : ρ3 4 = NI 0 := k4
  have T5 : ρ3 5 = NI 6 := k5
  clear k3 k4 k5
  refine tN (hK2 _ _ (sk fun K6 hK6 => (wt (oM rfl (oS rfl (Yk.eqI (a := (6 : Nat)) (b := (0 : Nat)) T5 rfl (k_eql _ _ _ _) (oP rfl (Yp.callA1 wr7_pl109 (vr (.bool (decide ((6 : Nat) = (0)))) rfl) ?_))))))))
  refine calls_either (needW_any _ (decide ((6 : Nat) = (0)))) ?_ ?_
  rotate_left
  ·
   rintro ch w9 ⟨rfl, hb, hx⟩
   refine thenF_panic (postP_panic ?_)
   have hno := of_decide_eq_false hb
   exact .inr ⟨_, rfl, hP, rfl, (grownBy_trans hgr hx.grown (fun _ e => by cases e))⟩
  rintro v_ w11 ⟨rfl, hb7, hx8⟩
  have hb := eb hx8 hb
  have hgr : w.grownBy w11 (some r) := grownBy_trans hgr hx8.grown (fun _ e => by cases e)
  have hE := hE.trans hx8
  have hn12 := of_decide_eq_true hb7
  refine oZ (tN (hK6 _ _ (sk fun K13 hK13 => (wt (oM rfl (oM rfl (oS rfl (Yk.nilCheck T0 (oS rfl (Yk.fieldAt wr7_fo111_1 (vr (PQ r 0) rfl) (oS rfl (Yk.storeC (i := 1) (v := NI 0) (vr (PQ r 1) rfl) T4 hb (by rw [rd_len]; decide) wr7_isz3 rfl rfl fun w14 hb15 hg16 hs17 => ?_))))))))))))
  clear hb
  have hgr : w.grownBy w14 (some r) := grownBy_trans hgr hg16 (fun _ e => .inl e)
  clear hE
  have hb : w14.heap[r]? = some (.cells (rdC ((⟨b, ((0 : Nat) : Int)⟩, ⟨v⟩) : RdV)).toArray 111 (0, 0)) := blk_eq hb15 (rd_s1 (rdX v b (i)) ((0 : Nat) : Int)); clear hb15
  have hl18 := bl hb
  refine oZ (tN (hK13 _ _ (sk fun K19 hK19 => (wt (oM rfl (oA rfl (oZ (tN (hK19 _ _ (wpF_ret (postP_ret (fn := Tryd.f110) _ rfl [NI 0] (NI 0) rfl ⟨T3, trivial⟩ ?_)))))))))))
  omega
 have hP : numP b i = some (xn, i + xk) := by unfold numP; rw [hd]; rfl
 refine tN (hK1 _ _ (sk fun K20 hK20 => ?_))
 refine wpF_draw [Is (PQ r 0), Is (PQ r 0), Is (PQ r 0), Is (v), Is (PQ r 0), Is (PQ r 0), Is (PQ r 1), Is (NI i), Is (.tuple #[NI xn, NI (i + xk), NI 0]), Is (.tuple #[NI xn, NI (i + xk), NI 0]), Is (NI xn), Is (NI (i + xk)), Is (NI 0), Is (NI xn), Is (NI (i + xk)), Is (NI 0)] (by kernel_rfl) [7, 8, 9, 10, 11, 12, 13, 14, 15, 6, 16, 17, 18, 3, 4, 5] (by kernel_rfl) (by kernel_rfl) (si4 (si12 trivial)) ?hs2001 ?hQ2001
 case hs2001 =>
  refine ⟨?_, ?_, ?_, ?_, ?_, ?_, ?_, ?_, ?_, ?_, ?_, ?_, ?_, ?_, ?_, ?_, trivial⟩
  ·refine stepN rfl fun σ w1 hC h => ?_
   have e0 := (eqo (h 0 (by decide))).trans T0
   exact Yk.move e0 ⟨Ext.refl _, rfl⟩
  ·refine stepN rfl fun σ w1 hC h => ?_
   have e7 := eqo (h 7 (by decide))
   exact Yk.nilCheck e7 ⟨Ext.refl _, rfl⟩
  ·refine stepN rfl fun σ w1 hC h => ?_
   have e8 := eqo (h 8 (by decide))
   exact Yk.fieldAt wr7_fo111_0 e8 ⟨Ext.refl _, rfl⟩
  ·refine stepN rfl fun σ w1 hC h => ?_
   have e9 := eqo (h 9 (by decide))
   exact Yk.cell1 wr7_ty26 rfl e9 (cellAt (eb hC hb) (show (rdC (rdX v b (i)))[0]? = some (v : Value) from rd_g0 (rdX v b (i)))) ⟨Ext.refl _, rfl⟩
  ·refine stepN rfl fun σ w1 hC h => ?_
   have e0 := (eqo (h 0 (by decide))).trans T0
   exact Yk.move e0 ⟨Ext.refl _, rfl⟩
  ·refine stepN rfl fun σ w1 hC h => ?_
   have e11 := eqo (h 11 (by decide))
   exact Yk.nilCheck e11 ⟨Ext.refl _, rfl⟩
  ·refine stepN rfl fun σ w1 hC h => ?_
   have e12 := eqo (h 12 (by decide))
   exact Yk.fieldAt wr7_fo111_1 e12 ⟨Ext.refl _, rfl⟩
  ·refine stepN rfl fun σ w1 hC h => ?_
   have e13 := eqo (h 13 (by decide))
   exact Yk.cell1 wr7_ty3 rfl e13 (cellAt (eb hC hb) (show (rdC (rdX v b (i)))[1]? = some (NI i : Value) from rd_g1 (rdX v b (i)))) ⟨Ext.refl _, rfl⟩
  ·refine stepN rfl fun σ w1 hC h => ?_
   have e10 := eqo (h 10 (by decide))
   have e14 := eqo (h 14 (by decide))
   refine Yk.callA2 wr7_pl145 e10 e14 ?_
   refine ((show Calls _ _ _ _ (fun e w2 => e = .returned (.tuple #[NI xn, NI (i + xk), NI 0]) ∧ Ext _ w2) from (get_in _ v b (hr.keep (hE.trans hC)) i hi).mono fun e w2 ⟨h1, h2⟩ => by subst h2; subst h1; refine ⟨?_, Ext.refl _⟩; rw [hd]; rfl)).mono ?_
   rintro e w2 ⟨rfl, hx⟩
   exact ⟨_, rfl, hx, rfl⟩
  ·refine stepN rfl fun σ w1 hC h => ?_
   have e15 := eqo (h 15 (by decide))
   exact Yk.move e15 ⟨Ext.refl _, rfl⟩
  ·refine stepN rfl fun σ w1 hC h => ?_
   have e6 := eqo (h 6 (by decide))
   exact Yk.extract (vs := [NI xn, NI (i + xk), NI 0]) e6 (show _ = some (NI xn : Value) from rfl) ⟨Ext.refl _, rfl⟩
  ·refine stepN rfl fun σ w1 hC h => ?_
   have e6 := eqo (h 6 (by decide))
   exact Yk.extract (vs := [NI xn, NI (i + xk), NI 0]) e6 (show _ = some (NI (i + xk) : Value) from rfl) ⟨Ext.refl _, rfl⟩
  ·refine stepN rfl fun σ w1 hC h => ?_
   have e6 := eqo (h 6 (by decide))
   exact Yk.extract (vs := [NI xn, NI (i + xk), NI 0]) e6 (show _ = some (NI 0 : Value) from rfl) ⟨Ext.refl _, rfl⟩
  ·refine stepN rfl fun σ w1 hC h => ?_
   have e16 := eqo (h 16 (by decide))
   exact Yk.assign e16 ⟨Ext.refl _, rfl⟩
  ·refine stepN rfl fun σ w1 hC h => ?_
   have e17 := eqo (h 17 (by decide))
   exact Yk.assign e17 ⟨Ext.refl _, rfl⟩
  ·refine stepN rfl fun σ w1 hC h => ?_
   have e18 := eqo (h 18 (by decide))
   exact Yk.assign e18 ⟨Ext.refl _, rfl⟩
 intro ρ21 w22 hx23 he hf
 obtain ⟨-, -, -, -, -, -, -, -, -, -, -, -, -, k3, k4, k5, -⟩ := hf
 obtain ⟨T0, T2, -⟩ := he.hold [(0, _), (2, NI 0)] ⟨T0, rfl, trivial⟩ rfl
 clear he
 have hb := eb hx23 hb
 have hgr : w.grownBy w22 (some r) := grownBy_trans hgr hx23.grown (fun _ e => by cases e)
 have hE := hE.trans hx23
 have T3 : ρ21 3 = NI xn := k3
 have T4 : ρ21 4 = NI (i + xk) := k4
 have T5 : ρ21 5 = NI 0 := k5
 clear k3 k4 k5
 refine tN (hK20 _ _ (sk fun K24 hK24 => (wt (oM rfl (oS rfl (Yk.eqI (a := (0 : Nat)) (b := (0 : Nat)) T5 rfl (k_eql _ _ _ _) (oP rfl (Yp.callA1 wr7_pl109 (vr (.bool (decide ((0 : Nat) = (0)))) rfl) ?_))))))))
 refine calls_either (needW_any _ (decide ((0 : Nat) = (0)))) ?_ ?_
 rotate_left
 ·
  rintro ch w27 ⟨rfl, hb, hx⟩
  refine thenF_panic (postP_panic ?_)
  have hno := of_decide_eq_false hb
  exact absurd rfl hno
 rintro v_ w29 ⟨rfl, hb25, hx26⟩
 have hb := eb hx26 hb
 have hgr : w.grownBy w29 (some r) := grownBy_trans hgr hx26.grown (fun _ e => by cases e)
 have hE := hE.trans hx26
 have hn30 := of_decide_eq_true hb25
 refine oZ (tN (hK24 _ _ (sk fun K31 hK31 => (wt (oM rfl (oM rfl (oS rfl (Yk.nilCheck T0 (oS rfl (Yk.fieldAt wr7_fo111_1 (vr (PQ r 0) rfl) (oS rfl (Yk.storeC (i := 1) (v := NI (i + xk)) (vr (PQ r 1) rfl) T4 hb (by rw [rd_len]; decide) wr7_isz3 rfl rfl fun w32 hb33 hg34 hs35 => ?_))))))))))))
 clear hb
 have hgr : w.grownBy w32 (some r) := grownBy_trans hgr hg34 (fun _ e => .inl e)
 clear hE
 have hb : w32.heap[r]? = some (.cells (rdC ((⟨b, ((i + xk : Nat) : Int)⟩, ⟨v⟩) : RdV)).toArray 111 (0, 0)) := blk_eq hb33 (rd_s1 (rdX v b (i)) ((i + xk : Nat) : Int)); clear hb33
 have hl36 := bl hb
 refine oZ (tN (hK31 _ _ (sk fun K37 hK37 => (wt (oM rfl (oA rfl (oZ (tN (hK37 _ _ (wpF_ret (postP_ret (fn := Tryd.f110) _ rfl [NI xn] (NI xn) rfl ⟨T3, trivial⟩ ?_)))))))))))
 exact .inl ⟨_, rfl, _, _, hP, rfl, hb, hgr⟩

theorem textW_any (w : World) (r : Nat) (v : Value) (b : Bs) (i : Nat) (hb : w.heap[r]? = some (.cells (rdC (rdX v b (i))).toArray 111 (0, 0))) (hr : RB w v b) (hap : b = [] ∨ OB v r) (hi : i ≤ b.length) (hl : b.length ≤ 4611686018427387904) (most : Nat) :
  Calls Tryd.prog 113 #[PQ r 0, NI most] w fun e w' => (∃ x, e = .returned x ∧ ∃ c n, txtP b i most = some (c, n) ∧ x = St c ∧ w'.heap[r]? = some (.cells (rdC (rdX v b (n))).toArray 111 (0, 0)) ∧ w.grownBy w' (some r)) ∨ ∃ ch, e = .panicked ch ∧ txtP b i most = none ∧ ch = [stopW] ∧ w.grownBy w' (some r) := by
 have hlr := (bl hb)
 have hgr := World.grownBy.refl w (some r)
 refine calls_of_wpP (args := [PQ r 0, NI most]) Tryd.func113 rfl 30 rfl (Nat.le_of_ble_eq_true rfl) ?_
 intro ρ0 hb
 have T0 : ρ0 0 = (PQ r 0 : Value) := hb.get 0
 have T1 : ρ0 1 = (NI most : Value) := hb.get 1
 clear hb
 have hE := Ext.refl w
 refine sk fun K1 hK1 => (wt (oA rfl (oZ ?_)))
 rcases hd : lebDec 0 (b.drop i) with _ | ⟨xn, xk⟩
 ·have hP : txtP b i most = none := by unfold txtP; rw [hd]
  refine tN (hK1 _ _ (sk fun K2 hK2 => ?_))
  refine wpF_draw [Is (PQ r 0), Is (PQ r 0), Is (PQ r 0), Is (v), Is (PQ r 0), Is (PQ r 0), Is (PQ r 1), Is (NI i), Is (NI most), Is (.tuple #[St (([] : List UInt8)), NI 0, NI 6]), Is (.tuple #[St (([] : List UInt8)), NI 0, NI 6]), Is (St (([] : List UInt8))), Is (NI 0), Is (NI 6), Is (St (([] : List UInt8))), Is (NI 0), Is (NI 6)] (by kernel_rfl) [9, 10, 11, 12, 13, 14, 15, 16, 17, 18, 8, 19, 20, 21, 5, 6, 7] (by kernel_rfl) (by kernel_rfl) (si5 (si12 trivial)) ?hs1001 ?hQ1001
  case hs1001 =>
   refine ⟨?_, ?_, ?_, ?_, ?_, ?_, ?_, ?_, ?_, ?_, ?_, ?_, ?_, ?_, ?_, ?_, ?_, trivial⟩
   ·refine stepN rfl fun σ w1 hC h => ?_
    have e0 := (eqo (h 0 (by decide))).trans T0
    exact Yk.move e0 ⟨Ext.refl _, rfl⟩
   ·refine stepN rfl fun σ w1 hC h => ?_
    have e9 := eqo (h 9 (by decide))
    exact Yk.nilCheck e9 ⟨Ext.refl _, rfl⟩
   ·refine stepN rfl fun σ w1 hC h => ?_
    have e10 := eqo (h 10 (by decide))
    exact Yk.fieldAt wr7_fo111_0 e10 ⟨Ext.refl _, rfl⟩
   ·refine stepN rfl fun σ w1 hC h => ?_
    have e11 := eqo (h 11 (by decide))
    exact Yk.cell1 wr7_ty26 rfl e11 (cellAt (eb hC hb) (show (rdC (rdX v b (i)))[0]? = some (v : Value) from rd_g0 (rdX v b (i)))) ⟨Ext.refl _, rfl⟩
   ·refine stepN rfl fun σ w1 hC h => ?_
    have e0 := (eqo (h 0 (by decide))).trans T0
    exact Yk.move e0 ⟨Ext.refl _, rfl⟩
   ·refine stepN rfl fun σ w1 hC h => ?_
    have e13 := eqo (h 13 (by decide))
    exact Yk.nilCheck e13 ⟨Ext.refl _, rfl⟩
   ·refine stepN rfl fun σ w1 hC h => ?_
    have e14 := eqo (h 14 (by decide))
    exact Yk.fieldAt wr7_fo111_1 e14 ⟨Ext.refl _, rfl⟩
   ·refine stepN rfl fun σ w1 hC h => ?_
    have e15 := eqo (h 15 (by decide))
    exact Yk.cell1 wr7_ty3 rfl e15 (cellAt (eb hC hb) (show (rdC (rdX v b (i)))[1]? = some (NI i : Value) from rd_g1 (rdX v b (i)))) ⟨Ext.refl _, rfl⟩
   ·refine stepN rfl fun σ w1 hC h => ?_
    have e1 := (eqo (h 1 (by decide))).trans T1
    exact Yk.move e1 ⟨Ext.refl _, rfl⟩
   ·refine stepN rfl fun σ w1 hC h => ?_
    have e12 := eqo (h 12 (by decide))
    have e16 := eqo (h 16 (by decide))
    have e17 := eqo (h 17 (by decide))
    refine Yk.callA3 wr7_pl146 e12 e16 e17 ?_
    refine ((show Calls _ _ _ _ (fun e w2 => e = .returned (.tuple #[St (([] : List UInt8)), NI 0, NI 6]) ∧ Ext _ w2) from (getText_in _ v b (hr.keep (hE.trans hC)) i hi ((most : Nat) : Int)).mono fun e w2 ⟨h1, h2⟩ => by subst h2; subst h1; refine ⟨?_, Ext.refl _⟩; unfold getTextRes; rw [hd]; simp only; rfl)).mono ?_
    rintro e w2 ⟨rfl, hx⟩
    exact ⟨_, rfl, hx, rfl⟩
   ·refine stepN rfl fun σ w1 hC h => ?_
    have e18 := eqo (h 18 (by decide))
    exact Yk.move e18 ⟨Ext.refl _, rfl⟩
   ·refine stepN rfl fun σ w1 hC h => ?_
    have e8 := eqo (h 8 (by decide))
    exact Yk.extract (vs := [St (([] : List UInt8)), NI 0, NI 6]) e8 (show _ = some (St (([] : List UInt8)) : Value) from rfl) ⟨Ext.refl _, rfl⟩
   ·refine stepN rfl fun σ w1 hC h => ?_
    have e8 := eqo (h 8 (by decide))
    exact Yk.extract (vs := [St (([] : List UInt8)), NI 0, NI 6]) e8 (show _ = some (NI 0 : Value) from rfl) ⟨Ext.refl _, rfl⟩
   ·refine stepN rfl fun σ w1 hC h => ?_
    have e8 := eqo (h 8 (by decide))
    exact Yk.extract (vs := [St (([] : List UInt8)), NI 0, NI 6]) e8 (show _ = some (NI 6 : Value) from rfl) ⟨Ext.refl _, rfl⟩
   ·refine stepN rfl fun σ w1 hC h => ?_
    have e19 := eqo (h 19 (by decide))
    exact Yk.assign e19 ⟨Ext.refl _, rfl⟩
   ·refine stepN rfl fun σ w1 hC h => ?_
    have e20 := eqo (h 20 (by decide))
    exact Yk.assign e20 ⟨Ext.refl _, rfl⟩
   ·refine stepN rfl fun σ w1 hC h => ?_
    have e21 := eqo (h 21 (by decide))
    exact Yk.assign e21 ⟨Ext.refl _, rfl⟩
  intro ρ3 w4 hx5 he hf
  obtain ⟨-, -, -, -, -, -, -, -, -, -, -, -, -, -, k5, k6, k7, -⟩ := hf
  obtain ⟨T0, T1, T4, -⟩ := he.hold [(0, _), (1, _), (4, St (([] : List UInt8)))] ⟨T0, T1, rfl, trivial⟩ rfl
  clear he
  have hb := eb hx5 hb
  have hgr : w.grownBy w4 (some r) := grownBy_trans hgr hx5.grown (fun _ e => by cases e)
  have hE := hE.trans hx5
  have T5 : ρ3 5 = St (([] : List UInt8)) := k5
  have T6 : ρ3 6 = NI 0 := k6
  have T7 : ρ3 7 = NI 6 := k7
  clear k5 k6 k7
  refine tN (hK2 _ _ (sk fun K6 hK6 => (wt (oM rfl (oS rfl (Yk.eqI (a := (6 : Nat)) (b := (0 : Nat)) T7 rfl (k_eql _ _ _ _) (oP rfl (Yp.callA1 wr7_pl109 (vr (.bool (decide ((6 : Nat) = (0)))) rfl) ?_))))))))
  refine calls_either (needW_any _ (decide ((6 : Nat) = (0)))) ?_ ?_
  rotate_left
  ·
   rintro ch w9 ⟨rfl, hb, hx⟩
   refine thenF_panic (postP_panic ?_)
   have hno := of_decide_eq_false hb
   exact .inr ⟨_, rfl, hP, rfl, (grownBy_trans hgr hx.grown (fun _ e => by cases e))⟩
  rintro v_ w11 ⟨rfl, hb7, hx8⟩
  have hb := eb hx8 hb
  have hgr : w.grownBy w11 (some r) := grownBy_trans hgr hx8.grown (fun _ e => by cases e)
  have hE := hE.trans hx8
  have hn12 := of_decide_eq_true hb7
  refine oZ (tN (hK6 _ _ (sk fun K13 hK13 => (wt (oM rfl (oM rfl (oS rfl (Yk.nilCheck T0 (oS rfl (Yk.fieldAt wr7_fo111_1 (vr (PQ r 0) rfl) (oS rfl (Yk.storeC (i := 1) (v := NI 0) (vr (PQ r 1) rfl) T6 hb (by rw [rd_len]; decide) wr7_isz3 rfl rfl fun w14 hb15 hg16 hs17 => ?_))))))))))))
  clear hb
  have hgr : w.grownBy w14 (some r) := grownBy_trans hgr hg16 (fun _ e => .inl e)
  clear hE
  have hb : w14.heap[r]? = some (.cells (rdC ((⟨b, ((0 : Nat) : Int)⟩, ⟨v⟩) : RdV)).toArray 111 (0, 0)) := blk_eq hb15 (rd_s1 (rdX v b (i)) ((0 : Nat) : Int)); clear hb15
  have hl18 := bl hb
  refine oZ (tN (hK13 _ _ (sk fun K19 hK19 => (wt (oM rfl (oA rfl (oZ (tN (hK19 _ _ (wpF_ret (postP_ret (fn := Tryd.f113) _ rfl [St (([] : List UInt8))] (St (([] : List UInt8))) rfl ⟨T5, trivial⟩ ?_)))))))))))
  omega
 by_cases hm : most < xn
 ·have hP : txtP b i most = none := by unfold txtP; rw [hd]; exact if_pos hm
  refine tN (hK1 _ _ (sk fun K20 hK20 => ?_))
  refine wpF_draw [Is (PQ r 0), Is (PQ r 0), Is (PQ r 0), Is (v), Is (PQ r 0), Is (PQ r 0), Is (PQ r 1), Is (NI i), Is (NI most), Is (.tuple #[St (([] : List UInt8)), NI 0, NI 2]), Is (.tuple #[St (([] : List UInt8)), NI 0, NI 2]), Is (St (([] : List UInt8))), Is (NI 0), Is (NI 2), Is (St (([] : List UInt8))), Is (NI 0), Is (NI 2)] (by kernel_rfl) [9, 10, 11, 12, 13, 14, 15, 16, 17, 18, 8, 19, 20, 21, 5, 6, 7] (by kernel_rfl) (by kernel_rfl) (si5 (si12 trivial)) ?hs2001 ?hQ2001
  case hs2001 =>
   refine ⟨?_, ?_, ?_, ?_, ?_, ?_, ?_, ?_, ?_, ?_, ?_, ?_, ?_, ?_, ?_, ?_, ?_, trivial⟩
   ·refine stepN rfl fun σ w1 hC h => ?_
    have e0 := (eqo (h 0 (by decide))).trans T0
    exact Yk.move e0 ⟨Ext.refl _, rfl⟩
   ·refine stepN rfl fun σ w1 hC h => ?_
    have e9 := eqo (h 9 (by decide))
    exact Yk.nilCheck e9 ⟨Ext.refl _, rfl⟩
   ·refine stepN rfl fun σ w1 hC h => ?_
    have e10 := eqo (h 10 (by decide))
    exact Yk.fieldAt wr7_fo111_0 e10 ⟨Ext.refl _, rfl⟩
   ·refine stepN rfl fun σ w1 hC h => ?_
    have e11 := eqo (h 11 (by decide))
    exact Yk.cell1 wr7_ty26 rfl e11 (cellAt (eb hC hb) (show (rdC (rdX v b (i)))[0]? = some (v : Value) from rd_g0 (rdX v b (i)))) ⟨Ext.refl _, rfl⟩
   ·refine stepN rfl fun σ w1 hC h => ?_
    have e0 := (eqo (h 0 (by decide))).trans T0
    exact Yk.move e0 ⟨Ext.refl _, rfl⟩
   ·refine stepN rfl fun σ w1 hC h => ?_
    have e13 := eqo (h 13 (by decide))
    exact Yk.nilCheck e13 ⟨Ext.refl _, rfl⟩
   ·refine stepN rfl fun σ w1 hC h => ?_
    have e14 := eqo (h 14 (by decide))
    exact Yk.fieldAt wr7_fo111_1 e14 ⟨Ext.refl _, rfl⟩
   ·refine stepN rfl fun σ w1 hC h => ?_
    have e15 := eqo (h 15 (by decide))
    exact Yk.cell1 wr7_ty3 rfl e15 (cellAt (eb hC hb) (show (rdC (rdX v b (i)))[1]? = some (NI i : Value) from rd_g1 (rdX v b (i)))) ⟨Ext.refl _, rfl⟩
   ·refine stepN rfl fun σ w1 hC h => ?_
    have e1 := (eqo (h 1 (by decide))).trans T1
    exact Yk.move e1 ⟨Ext.refl _, rfl⟩
   ·refine stepN rfl fun σ w1 hC h => ?_
    have e12 := eqo (h 12 (by decide))
    have e16 := eqo (h 16 (by decide))
    have e17 := eqo (h 17 (by decide))
    refine Yk.callA3 wr7_pl146 e12 e16 e17 ?_
    refine ((show Calls _ _ _ _ (fun e w2 => e = .returned (.tuple #[St (([] : List UInt8)), NI 0, NI 2]) ∧ Ext _ w2) from (getText_in _ v b (hr.keep (hE.trans hC)) i hi ((most : Nat) : Int)).mono fun e w2 ⟨h1, h2⟩ => by subst h2; subst h1; refine ⟨?_, Ext.refl _⟩; unfold getTextRes; rw [hd]; simp only; rw [if_pos (by omega)]; rfl)).mono ?_
    rintro e w2 ⟨rfl, hx⟩
    exact ⟨_, rfl, hx, rfl⟩
   ·refine stepN rfl fun σ w1 hC h => ?_
    have e18 := eqo (h 18 (by decide))
    exact Yk.move e18 ⟨Ext.refl _, rfl⟩
   ·refine stepN rfl fun σ w1 hC h => ?_
    have e8 := eqo (h 8 (by decide))
    exact Yk.extract (vs := [St (([] : List UInt8)), NI 0, NI 2]) e8 (show _ = some (St (([] : List UInt8)) : Value) from rfl) ⟨Ext.refl _, rfl⟩
   ·refine stepN rfl fun σ w1 hC h => ?_
    have e8 := eqo (h 8 (by decide))
    exact Yk.extract (vs := [St (([] : List UInt8)), NI 0, NI 2]) e8 (show _ = some (NI 0 : Value) from rfl) ⟨Ext.refl _, rfl⟩
   ·refine stepN rfl fun σ w1 hC h => ?_
    have e8 := eqo (h 8 (by decide))
    exact Yk.extract (vs := [St (([] : List UInt8)), NI 0, NI 2]) e8 (show _ = some (NI 2 : Value) from rfl) ⟨Ext.refl _, rfl⟩
   ·refine stepN rfl fun σ w1 hC h => ?_
    have e19 := eqo (h 19 (by decide))
    exact Yk.assign e19 ⟨Ext.refl _, rfl⟩
   ·refine stepN rfl fun σ w1 hC h => ?_
    have e20 := eqo (h 20 (by decide))
    exact Yk.assign e20 ⟨Ext.refl _, rfl⟩
   ·refine stepN rfl fun σ w1 hC h => ?_
    have e21 := eqo (h 21 (by decide))
    exact Yk.assign e21 ⟨Ext.refl _, rfl⟩
  intro ρ21 w22 hx23 he hf
  obtain ⟨-, -, -, -, -, -, -, -, -, -, -, -, -, -, k5, k6, k7, -⟩ := hf
  obtain ⟨T0, T1, T4, -⟩ := he.hold [(0, _), (1, _), (4, St (([] : List UInt8)))] ⟨T0, T1, rfl, trivial⟩ rfl
  clear he
  have hb := eb hx23 hb
  have hgr : w.grownBy w22 (some r) := grownBy_trans hgr hx23.grown (fun _ e => by cases e)
  have hE := hE.trans hx23
  have T5 : ρ21 5 = St (([] : List UInt8)) := k5
  have T6 : ρ21 6 = NI 0 := k6
  have T7 : ρ21 7 = NI 2 := k7
  clear k5 k6 k7
  refine tN (hK20 _ _ (sk fun K24 hK24 => (wt (oM rfl (oS rfl (Yk.eqI (a := (2 : Nat)) (b := (0 : Nat)) T7 rfl (k_eql _ _ _ _) (oP rfl (Yp.callA1 wr7_pl109 (vr (.bool (decide ((2 : Nat) = (0)))) rfl) ?_))))))))
  refine calls_either (needW_any _ (decide ((2 : Nat) = (0)))) ?_ ?_
  rotate_left
  ·
   rintro ch w27 ⟨rfl, hb, hx⟩
   refine thenF_panic (postP_panic ?_)
   have hno := of_decide_eq_false hb
   exact .inr ⟨_, rfl, hP, rfl, (grownBy_trans hgr hx.grown (fun _ e => by cases e))⟩
  rintro v_ w29 ⟨rfl, hb25, hx26⟩
  have hb := eb hx26 hb
  have hgr : w.grownBy w29 (some r) := grownBy_trans hgr hx26.grown (fun _ e => by cases e)
  have hE := hE.trans hx26
  have hn30 := of_decide_eq_true hb25
  refine oZ (tN (hK24 _ _ (sk fun K31 hK31 => (wt (oM rfl (oM rfl (oS rfl (Yk.nilCheck T0 (oS rfl (Yk.fieldAt wr7_fo111_1 (vr (PQ r 0) rfl) (oS rfl (Yk.storeC (i := 1) (v := NI 0) (vr (PQ r 1) rfl) T6 hb (by rw [rd_len]; decide) wr7_isz3 rfl rfl fun w32 hb33 hg34 hs35 => ?_))))))))))))
  clear hb
  have hgr : w.grownBy w32 (some r) := grownBy_trans hgr hg34 (fun _ e => .inl e)
  clear hE
  have hb : w32.heap[r]? = some (.cells (rdC ((⟨b, ((0 : Nat) : Int)⟩, ⟨v⟩) : RdV)).toArray 111 (0, 0)) := blk_eq hb33 (rd_s1 (rdX v b (i)) ((0 : Nat) : Int)); clear hb33
  have hl36 := bl hb
  refine oZ (tN (hK31 _ _ (sk fun K37 hK37 => (wt (oM rfl (oA rfl (oZ (tN (hK37 _ _ (wpF_ret (postP_ret (fn := Tryd.f113) _ rfl [St (([] : List UInt8))] (St (([] : List UInt8))) rfl ⟨T5, trivial⟩ ?_)))))))))))
  omega
 by_cases hl2 : b.length < i + xk + xn
 ·have hP : txtP b i most = none := by unfold txtP; rw [hd]; exact (if_neg hm).trans (if_pos hl2)
  refine tN (hK1 _ _ (sk fun K38 hK38 => ?_))
  refine wpF_draw [Is (PQ r 0), Is (PQ r 0), Is (PQ r 0), Is (v), Is (PQ r 0), Is (PQ r 0), Is (PQ r 1), Is (NI i), Is (NI most), Is (.tuple #[St (([] : List UInt8)), NI 0, NI 6]), Is (.tuple #[St (([] : List UInt8)), NI 0, NI 6]), Is (St (([] : List UInt8))), Is (NI 0), Is (NI 6), Is (St (([] : List UInt8))), Is (NI 0), Is (NI 6)] (by kernel_rfl) [9, 10, 11, 12, 13, 14, 15, 16, 17, 18, 8, 19, 20, 21, 5, 6, 7] (by kernel_rfl) (by kernel_rfl) (si5 (si12 trivial)) ?hs3001 ?hQ3001
  case hs3001 =>
   refine ⟨?_, ?_, ?_, ?_, ?_, ?_, ?_, ?_, ?_, ?_, ?_, ?_, ?_, ?_, ?_, ?_, ?_, trivial⟩
   ·refine stepN rfl fun σ w1 hC h => ?_
    have e0 := (eqo (h 0 (by decide))).trans T0
    exact Yk.move e0 ⟨Ext.refl _, rfl⟩
   ·refine stepN rfl fun σ w1 hC h => ?_
    have e9 := eqo (h 9 (by decide))
    exact Yk.nilCheck e9 ⟨Ext.refl _, rfl⟩
   ·refine stepN rfl fun σ w1 hC h => ?_
    have e10 := eqo (h 10 (by decide))
    exact Yk.fieldAt wr7_fo111_0 e10 ⟨Ext.refl _, rfl⟩
   ·refine stepN rfl fun σ w1 hC h => ?_
    have e11 := eqo (h 11 (by decide))
    exact Yk.cell1 wr7_ty26 rfl e11 (cellAt (eb hC hb) (show (rdC (rdX v b (i)))[0]? = some (v : Value) from rd_g0 (rdX v b (i)))) ⟨Ext.refl _, rfl⟩
   ·refine stepN rfl fun σ w1 hC h => ?_
    have e0 := (eqo (h 0 (by decide))).trans T0
    exact Yk.move e0 ⟨Ext.refl _, rfl⟩
   ·refine stepN rfl fun σ w1 hC h => ?_
    have e13 := eqo (h 13 (by decide))
    exact Yk.nilCheck e13 ⟨Ext.refl _, rfl⟩
   ·refine stepN rfl fun σ w1 hC h => ?_
    have e14 := eqo (h 14 (by decide))
    exact Yk.fieldAt wr7_fo111_1 e14 ⟨Ext.refl _, rfl⟩
   ·refine stepN rfl fun σ w1 hC h => ?_
    have e15 := eqo (h 15 (by decide))
    exact Yk.cell1 wr7_ty3 rfl e15 (cellAt (eb hC hb) (show (rdC (rdX v b (i)))[1]? = some (NI i : Value) from rd_g1 (rdX v b (i)))) ⟨Ext.refl _, rfl⟩
   ·refine stepN rfl fun σ w1 hC h => ?_
    have e1 := (eqo (h 1 (by decide))).trans T1
    exact Yk.move e1 ⟨Ext.refl _, rfl⟩
   ·refine stepN rfl fun σ w1 hC h => ?_
    have e12 := eqo (h 12 (by decide))
    have e16 := eqo (h 16 (by decide))
    have e17 := eqo (h 17 (by decide))
    refine Yk.callA3 wr7_pl146 e12 e16 e17 ?_
    refine ((show Calls _ _ _ _ (fun e w2 => e = .returned (.tuple #[St (([] : List UInt8)), NI 0, NI 6]) ∧ Ext _ w2) from (getText_in _ v b (hr.keep (hE.trans hC)) i hi ((most : Nat) : Int)).mono fun e w2 ⟨h1, h2⟩ => by subst h2; subst h1; refine ⟨?_, Ext.refl _⟩; unfold getTextRes; rw [hd]; simp only; rw [if_neg (by omega), if_pos hl2]; rfl)).mono ?_
    rintro e w2 ⟨rfl, hx⟩
    exact ⟨_, rfl, hx, rfl⟩
   ·refine stepN rfl fun σ w1 hC h => ?_
    have e18 := eqo (h 18 (by decide))
    exact Yk.move e18 ⟨Ext.refl _, rfl⟩
   ·refine stepN rfl fun σ w1 hC h => ?_
    have e8 := eqo (h 8 (by decide))
    exact Yk.extract (vs := [St (([] : List UInt8)), NI 0, NI 6]) e8 (show _ = some (St (([] : List UInt8)) : Value) from rfl) ⟨Ext.refl _, rfl⟩
   ·refine stepN rfl fun σ w1 hC h => ?_
    have e8 := eqo (h 8 (by decide))
    exact Yk.extract (vs := [St (([] : List UInt8)), NI 0, NI 6]) e8 (show _ = some (NI 0 : Value) from rfl) ⟨Ext.refl _, rfl⟩
   ·refine stepN rfl fun σ w1 hC h => ?_
    have e8 := eqo (h 8 (by decide))
    exact Yk.extract (vs := [St (([] : List UInt8)), NI 0, NI 6]) e8 (show _ = some (NI 6 : Value) from rfl) ⟨Ext.refl _, rfl⟩
   ·refine stepN rfl fun σ w1 hC h => ?_
    have e19 := eqo (h 19 (by decide))
    exact Yk.assign e19 ⟨Ext.refl _, rfl⟩
   ·refine stepN rfl fun σ w1 hC h => ?_
    have e20 := eqo (h 20 (by decide))
    exact Yk.assign e20 ⟨Ext.refl _, rfl⟩
   ·refine stepN rfl fun σ w1 hC h => ?_
    have e21 := eqo (h 21 (by decide))
    exact Yk.assign e21 ⟨Ext.refl _, rfl⟩
  intro ρ39 w40 hx41 he hf
  obtain ⟨-, -, -, -, -, -, -, -, -, -, -, -, -, -, k5, k6, k7, -⟩ := hf
  obtain ⟨T0, T1, T4, -⟩ := he.hold [(0, _), (1, _), (4, St (([] : List UInt8)))] ⟨T0, T1, rfl, trivial⟩ rfl
  clear he
  have hb := eb hx41 hb
  have hgr : w.grownBy w40 (some r) := grownBy_trans hgr hx41.grown (fun _ e => by cases e)
  have hE := hE.trans hx41
  have T5 : ρ39 5 = St (([] : List UInt8)) := k5
  have T6 : ρ39 6 = NI 0 := k6
  have T7 : ρ39 7 = NI 6 := k7
  clear k5 k6 k7
  refine tN (hK38 _ _ (sk fun K42 hK42 => (wt (oM rfl (oS rfl (Yk.eqI (a := (6 : Nat)) (b := (0 : Nat)) T7 rfl (k_eql _ _ _ _) (oP rfl (Yp.callA1 wr7_pl109 (vr (.bool (decide ((6 : Nat) = (0)))) rfl) ?_))))))))
  refine calls_either (needW_any _ (decide ((6 : Nat) = (0)))) ?_ ?_
  rotate_left
  ·
   rintro ch w45 ⟨rfl, hb, hx⟩
   refine thenF_panic (postP_panic ?_)
   have hno := of_decide_eq_false hb
   exact .inr ⟨_, rfl, hP, rfl, (grownBy_trans hgr hx.grown (fun _ e => by cases e))⟩
  rintro v_ w47 ⟨rfl, hb43, hx44⟩
  have hb := eb hx44 hb
  have hgr : w.grownBy w47 (some r) := grownBy_trans hgr hx44.grown (fun _ e => by cases e)
  have hE := hE.trans hx44
  have hn48 := of_decide_eq_true hb43
  refine oZ (tN (hK42 _ _ (sk fun K49 hK49 => (wt (oM rfl (oM rfl (oS rfl (Yk.nilCheck T0 (oS rfl (Yk.fieldAt wr7_fo111_1 (vr (PQ r 0) rfl) (oS rfl (Yk.storeC (i := 1) (v := NI 0) (vr (PQ r 1) rfl) T6 hb (by rw [rd_len]; decide) wr7_isz3 rfl rfl fun w50 hb51 hg52 hs53 => ?_))))))))))))
  clear hb
  have hgr : w.grownBy w50 (some r) := grownBy_trans hgr hg52 (fun _ e => .inl e)
  clear hE
  have hb : w50.heap[r]? = some (.cells (rdC ((⟨b, ((0 : Nat) : Int)⟩, ⟨v⟩) : RdV)).toArray 111 (0, 0)) := blk_eq hb51 (rd_s1 (rdX v b (i)) ((0 : Nat) : Int)); clear hb51
  have hl54 := bl hb
  refine oZ (tN (hK49 _ _ (sk fun K55 hK55 => (wt (oM rfl (oA rfl (oZ (tN (hK55 _ _ (wpF_ret (postP_ret (fn := Tryd.f113) _ rfl [St (([] : List UInt8))] (St (([] : List UInt8))) rfl ⟨T5, trivial⟩ ?_)))))))))))
  omega
 have hP : txtP b i most = some ((b.drop (i + xk)).take xn, i + xk + xn) := by unfold txtP; rw [hd]; exact (if_neg hm).trans (if_neg hl2)
 refine tN (hK1 _ _ (sk fun K56 hK56 => ?_))
 refine wpF_draw [Is (PQ r 0), Is (PQ r 0), Is (PQ r 0), Is (v), Is (PQ r 0), Is (PQ r 0), Is (PQ r 1), Is (NI i), Is (NI most), Is (.tuple #[St (((b.drop (i + xk)).take xn)), NI (i + xk + xn), NI 0]), Is (.tuple #[St (((b.drop (i + xk)).take xn)), NI (i + xk + xn), NI 0]), Is (St (((b.drop (i + xk)).take xn))), Is (NI (i + xk + xn)), Is (NI 0), Is (St (((b.drop (i + xk)).take xn))), Is (NI (i + xk + xn)), Is (NI 0)] (by kernel_rfl) [9, 10, 11, 12, 13, 14, 15, 16, 17, 18, 8, 19, 20, 21, 5, 6, 7] (by kernel_rfl) (by kernel_rfl) (si5 (si12 trivial)) ?hs4001 ?hQ4001
 case hs4001 =>
  refine ⟨?_, ?_, ?_, ?_, ?_, ?_, ?_, ?_, ?_, ?_, ?_, ?_, ?_, ?_, ?_, ?_, ?_, trivial⟩
  ·refine stepN rfl fun σ w1 hC h => ?_
   have e0 := (eqo (h 0 (by decide))).trans T0
   exact Yk.move e0 ⟨Ext.refl _, rfl⟩
  ·refine stepN rfl fun σ w1 hC h => ?_
   have e9 := eqo (h 9 (by decide))
   exact Yk.nilCheck e9 ⟨Ext.refl _, rfl⟩
  ·refine stepN rfl fun σ w1 hC h => ?_
   have e10 := eqo (h 10 (by decide))
   exact Yk.fieldAt wr7_fo111_0 e10 ⟨Ext.refl _, rfl⟩
  ·refine stepN rfl fun σ w1 hC h => ?_
   have e11 := eqo (h 11 (by decide))
   exact Yk.cell1 wr7_ty26 rfl e11 (cellAt (eb hC hb) (show (rdC (rdX v b (i)))[0]? = some (v : Value) from rd_g0 (rdX v b (i)))) ⟨Ext.refl _, rfl⟩
  ·refine stepN rfl fun σ w1 hC h => ?_
   have e0 := (eqo (h 0 (by decide))).trans T0
   exact Yk.move e0 ⟨Ext.refl _, rfl⟩
  ·refine stepN rfl fun σ w1 hC h => ?_
   have e13 := eqo (h 13 (by decide))
   exact Yk.nilCheck e13 ⟨Ext.refl _, rfl⟩
  ·refine stepN rfl fun σ w1 hC h => ?_
   have e14 := eqo (h 14 (by decide))
   exact Yk.fieldAt wr7_fo111_1 e14 ⟨Ext.refl _, rfl⟩
  ·refine stepN rfl fun σ w1 hC h => ?_
   have e15 := eqo (h 15 (by decide))
   exact Yk.cell1 wr7_ty3 rfl e15 (cellAt (eb hC hb) (show (rdC (rdX v b (i)))[1]? = some (NI i : Value) from rd_g1 (rdX v b (i)))) ⟨Ext.refl _, rfl⟩
  ·refine stepN rfl fun σ w1 hC h => ?_
   have e1 := (eqo (h 1 (by decide))).trans T1
   exact Yk.move e1 ⟨Ext.refl _, rfl⟩
  ·refine stepN rfl fun σ w1 hC h => ?_
   have e12 := eqo (h 12 (by decide))
   have e16 := eqo (h 16 (by decide))
   have e17 := eqo (h 17 (by decide))
   refine Yk.callA3 wr7_pl146 e12 e16 e17 ?_
   refine ((show Calls _ _ _ _ (fun e w2 => e = .returned (.tuple #[St (((b.drop (i + xk)).take xn)), NI (i + xk + xn), NI 0]) ∧ Ext _ w2) from (getText_in _ v b (hr.keep (hE.trans hC)) i hi ((most : Nat) : Int)).mono fun e w2 ⟨h1, h2⟩ => by subst h2; subst h1; refine ⟨?_, Ext.refl _⟩; unfold getTextRes; rw [hd]; simp only; rw [if_neg (by omega), if_neg hl2]; rfl)).mono ?_
   rintro e w2 ⟨rfl, hx⟩
   exact ⟨_, rfl, hx, rfl⟩
  ·refine stepN rfl fun σ w1 hC h => ?_
   have e18 := eqo (h 18 (by decide))
   exact Yk.move e18 ⟨Ext.refl _, rfl⟩
  ·refine stepN rfl fun σ w1 hC h => ?_
   have e8 := eqo (h 8 (by decide))
   exact Yk.extract (vs := [St (((b.drop (i + xk)).take xn)), NI (i + xk + xn), NI 0]) e8 (show _ = some (St (((b.drop (i + xk)).take xn)) : Value) from rfl) ⟨Ext.refl _, rfl⟩
  ·refine stepN rfl fun σ w1 hC h => ?_
   have e8 := eqo (h 8 (by decide))
   exact Yk.extract (vs := [St (((b.drop (i + xk)).take xn)), NI (i + xk + xn), NI 0]) e8 (show _ = some (NI (i + xk + xn) : Value) from rfl) ⟨Ext.refl _, rfl⟩
  ·refine stepN rfl fun σ w1 hC h => ?_
   have e8 := eqo (h 8 (by decide))
   exact Yk.extract (vs := [St (((b.drop (i + xk)).take xn)), NI (i + xk + xn), NI 0]) e8 (show _ = some (NI 0 : Value) from rfl) ⟨Ext.refl _, rfl⟩
  ·refine stepN rfl fun σ w1 hC h => ?_
   have e19 := eqo (h 19 (by decide))
   exact Yk.assign e19 ⟨Ext.refl _, rfl⟩
  ·refine stepN rfl fun σ w1 hC h => ?_
   have e20 := eqo (h 20 (by decide))
   exact Yk.assign e20 ⟨Ext.refl _, rfl⟩
  ·refine stepN rfl fun σ w1 hC h => ?_
   have e21 := eqo (h 21 (by decide))
   exact Yk.assign e21 ⟨Ext.refl _, rfl⟩
 intro ρ57 w58 hx59 he hf
 obtain ⟨-, -, -, -, -, -, -, -, -, -, -, -, -, -, k5, k6, k7, -⟩ := hf
 obtain ⟨T0, T1, T4, -⟩ := he.hold [(0, _), (1, _), (4, St (([] : List UInt8)))] ⟨T0, T1, rfl, trivial⟩ rfl
 clear he
 have hb := eb hx59 hb
 have hgr : w.grownBy w58 (some r) := grownBy_trans hgr hx59.grown (fun _ e => by cases e)
 have hE := hE.trans hx59
 have T5 : ρ57 5 = St (((b.drop (i + xk)).take xn)) := k5
 have T6 : ρ57 6 = NI (i + xk + xn) := k6
 have T7 : ρ57 7 = NI 0 := k7
 clear k5 k6 k7
 refine tN (hK56 _ _ (sk fun K60 hK60 => (wt (oM rfl (oS rfl (Yk.eqI (a := (0 : Nat)) (b := (0 : Nat)) T7 rfl (k_eql _ _ _ _) (oP rfl (Yp.callA1 wr7_pl109 (vr (.bool (decide ((0 : Nat) = (0)))) rfl) ?_))))))))
 refine calls_either (needW_any _ (decide ((0 : Nat) = (0)))) ?_ ?_
 rotate_left
 ·
  rintro ch w63 ⟨rfl, hb, hx⟩
  refine thenF_panic (postP_panic ?_)
  have hno := of_decide_eq_false hb
  exact absurd rfl hno
 rintro v_ w65 ⟨rfl, hb61, hx62⟩
 have hb := eb hx62 hb
 have hgr : w.grownBy w65 (some r) := grownBy_trans hgr hx62.grown (fun _ e => by cases e)
 have hE := hE.trans hx62
 have hn66 := of_decide_eq_true hb61
 refine oZ (tN (hK60 _ _ (sk fun K67 hK67 => (wt (oM rfl (oM rfl (oS rfl (Yk.nilCheck T0 (oS rfl (Yk.fieldAt wr7_fo111_1 (vr (PQ r 0) rfl) (oS rfl (Yk.storeC (i := 1) (v := NI (i + xk + xn)) (vr (PQ r 1) rfl) T6 hb (by rw [rd_len]; decide) wr7_isz3 rfl rfl fun w68 hb69 hg70 hs71 => ?_))))))))))))
 clear hb
 have hgr : w.grownBy w68 (some r) := grownBy_trans hgr hg70 (fun _ e => .inl e)
 clear hE
 have hb : w68.heap[r]? = some (.cells (rdC ((⟨b, ((i + xk + xn : Nat) : Int)⟩, ⟨v⟩) : RdV)).toArray 111 (0, 0)) := blk_eq hb69 (rd_s1 (rdX v b (i)) ((i + xk + xn : Nat) : Int)); clear hb69
 have hl72 := bl hb
 refine oZ (tN (hK67 _ _ (sk fun K73 hK73 => (wt (oM rfl (oA rfl (oZ (tN (hK73 _ _ (wpF_ret (postP_ret (fn := Tryd.f113) _ rfl [St (((b.drop (i + xk)).take xn))] (St (((b.drop (i + xk)).take xn))) rfl ⟨T5, trivial⟩ ?_)))))))))))
 exact .inl ⟨_, rfl, _, _, hP, rfl, hb, hgr⟩

theorem idW_any (w : World) (r : Nat) (v : Value) (b : Bs) (i : Nat) (hb : w.heap[r]? = some (.cells (rdC (rdX v b (i))).toArray 111 (0, 0))) (hr : RB w v b) (hap : b = [] ∨ OB v r) (hi : i ≤ b.length) (hl : b.length ≤ 4611686018427387904) :
  Calls Tryd.prog 114 #[PQ r 0] w fun e w' => (∃ x, e = .returned x ∧ ∃ c n, idP b i = some (c, n) ∧ x = AB c.1 ∧ w'.heap[r]? = some (.cells (rdC (rdX v b (n))).toArray 111 (0, 0)) ∧ w.grownBy w' (some r)) ∨ ∃ ch, e = .panicked ch ∧ idP b i = none ∧ ch = [stopW] ∧ w.grownBy w' (some r) := by
 have hlr := (bl hb)
 have hgr := World.grownBy.refl w (some r)
 refine calls_of_wpP (args := [PQ r 0]) Tryd.func114 rfl 27 rfl (Nat.le_of_ble_eq_true rfl) ?_
 intro ρ0 hb
 have T0 : ρ0 0 = (PQ r 0 : Value) := hb.get 0
 clear hb
 have hE := Ext.refl w
 refine sk fun K1 hK1 => (wt (oS rfl (Yk.alloc (cs := (Lib.byteCells (List.replicate 32 0)).toArray) wr7_al25 fun n2 w3 hn4 hb5 hx6 hs7 => ?_)))
 have hlt8 := lte (bl hb) hn4
 have hb := eb hx6 hb
 have hgr : w.grownBy w3 (some r) := grownBy_trans hgr hx6.grown (fun _ e => by cases e)
 have hE := hE.trans hx6
 have hb9 := hb5; clear hb5
 have hl10 : n2 < w3.heap.size := by omega
 refine oZ ?_
 by_cases hle : i + 32 ≤ b.length
 ·have hQ : ((b.drop i).take 32).length = 32 := by rw [List.length_take, List.length_drop]; omega
  have hP : idP b i = some (⟨(b.drop i).take 32, hQ⟩, i + 32) := dif_pos hle
  refine tN (hK1 _ _ (sk fun K11 hK11 => ?_))
  have hx12 : Ext w3 (World.drew w3) := (Below.refl _ _).drew
  have hb := eb hx12 hb
  have hgr : w.grownBy (World.drew w3) (some r) := grownBy_trans hgr hx12.grown (fun _ e => by cases e)
  have hE := hE.trans hx12
  have hb9 := eb hx12 hb9
  refine wpF_floatE [(0, 7, PQ r 0), (1, 8, PQ r 0), (2, 9, PQ r 0), (3, 10, v), (4, 11, PQ r 0), (5, 12, PQ r 0), (6, 13, PQ r 1), (7, 14, NI i), (8, 15, .tuple #[AB ((b.drop i).take 32), NI (i + 32), NI 0]), (9, 6, .tuple #[AB ((b.drop i).take 32), NI (i + 32), NI 0]), (10, 16, AB ((b.drop i).take 32)), (11, 17, NI (i + 32)), (12, 18, NI 0)] [13, 14, 15, 16] (fun wz => wz.heap[r]? = some (.cells (rdC (rdX v b (i))).toArray 111 (0, 0)) ∧ Ext w wz ∧ wz.heap[n2]? = some (.cells (Lib.byteCells (List.replicate 32 0)).toArray 25 (0, 0)) ∧ True) (fun _ _ ⟨hb, hE, hb9, _⟩ k => ⟨(eb k hb), (hE.trans k), (eb k hb9), trivial⟩) (by kernel_rfl) (by kernel_rfl) (by kernel_rfl) ⟨hb, hE, hb9, trivial⟩ ⟨fun w13 ⟨hb, hE, hb9, _⟩ => Yk.move T0 ⟨rfl, Ext.refl _⟩, fun w13 ⟨hb, hE, hb9, _⟩ => Yk.nilCheck (vr (PQ r 0) rfl) ⟨rfl, Ext.refl _⟩, fun w13 ⟨hb, hE, hb9, _⟩ => Yk.fieldAt wr7_fo111_0 (vr (PQ r 0) rfl) ⟨rfl, Ext.refl _⟩, fun w13 ⟨hb, hE, hb9, _⟩ => Yk.cell1 wr7_ty26 rfl (vr (PQ r 0) rfl) (cellAt hb (show (rdC (rdX v b (i)))[0]? = some (v : Value) from rd_g0 (rdX v b (i)))) ⟨rfl, Ext.refl _⟩, fun w13 ⟨hb, hE, hb9, _⟩ => Yk.move T0 ⟨rfl, Ext.refl _⟩, fun w13 ⟨hb, hE, hb9, _⟩ => Yk.nilCheck (vr (PQ r 0) rfl) ⟨rfl, Ext.refl _⟩, fun w13 ⟨hb, hE, hb9, _⟩ => Yk.fieldAt wr7_fo111_1 (vr (PQ r 0) rfl) ⟨rfl, Ext.refl _⟩, fun w13 ⟨hb, hE, hb9, _⟩ => Yk.cell1 wr7_ty3 rfl (vr (PQ r 1) rfl) (cellAt hb (show (rdC (rdX v b (i)))[1]? = some (NI i : Value) from rd_g1 (rdX v b (i)))) ⟨rfl, Ext.refl _⟩, fun w13 ⟨hb, hE, hb9, _⟩ => Yk.callA2 wr7_pl147 (vr v rfl) (vr (NI i) rfl) (((show Calls _ _ _ _ (fun e w2 => e = .returned (.tuple #[AB ((b.drop i).take 32), NI (i + 32), NI 0]) ∧ Ext _ w2) from (getId_in _ v b (hr.keep hE) i hi).mono fun e w2 ⟨h1, h2⟩ => by subst h1; refine ⟨?_, h2⟩; unfold getIdRes; rw [if_neg (by omega)]; rfl)).mono (by rintro e w2 ⟨rfl, hx⟩; exact ⟨_, rfl, rfl, hx⟩)), fun w13 ⟨hb, hE, hb9, _⟩ => Yk.move (vr (.tuple #[AB ((b.drop i).take 32), NI (i + 32), NI 0]) rfl) ⟨rfl, Ext.refl _⟩, fun w13 ⟨hb, hE, hb9, _⟩ => Yk.extract (vs := [AB ((b.drop i).take 32), NI (i + 32), NI 0]) (vr (.tuple #[AB ((b.drop i).take 32), NI (i + 32), NI 0]) rfl) (show _ = some (AB ((b.drop i).take 32) : Value) from rfl) ⟨rfl, Ext.refl _⟩, fun w13 ⟨hb, hE, hb9, _⟩ => Yk.extract (vs := [AB ((b.drop i).take 32), NI (i + 32), NI 0]) (vr (.tuple #[AB ((b.drop i).take 32), NI (i + 32), NI 0]) rfl) (show _ = some (NI (i + 32) : Value) from rfl) ⟨rfl, Ext.refl _⟩, fun w13 ⟨hb, hE, hb9, _⟩ => Yk.extract (vs := [AB ((b.drop i).take 32), NI (i + 32), NI 0]) (vr (.tuple #[AB ((b.drop i).take 32), NI (i + 32), NI 0]) rfl) (show _ = some (NI 0 : Value) from rfl) ⟨rfl, Ext.refl _⟩, trivial⟩ ?_
  refine chX_step rfl fun w15 hx16 => ?_
  have hb := eb hx16 hb
  have hgr : w.grownBy w15 (some r) := grownBy_trans hgr hx16.grown (fun _ e => by cases e)
  have hE := hE.trans hx16
  have hb9 := eb hx16 hb9
  refine chX_go (Yk.alloc (cs := (Lib.byteCells (List.replicate 32 0)).toArray) wr7_al25 fun n17 w18 hn19 hb20 hx21 hs22 => ?_)
  have hA23 := Ext.refl w15
  have hea24 := hE
  have hz25 := hE.size
  have hlt26 := lte (bl hb) hn19
  have hlt27 := lte (bl hb9) hn19
  have hb := eb hx21 hb
  have hgr : w.grownBy w18 (some r) := grownBy_trans hgr hx21.grown (fun _ e => by cases e)
  have hE := hE.trans hx21
  have hb9 := eb hx21 hb9
  have hA23 := hA23.trans hx21
  have hb28 := hb20; clear hb20
  have hl29 : n17 < w18.heap.size := by omega
  refine ⟨.inr ⟨hb, hE, hb9, trivial⟩, ?_⟩
  refine chX_step rfl fun w30 hx31 => ?_
  have hb := eb hx31 hb
  have hgr : w.grownBy w30 (some r) := grownBy_trans hgr hx31.grown (fun _ e => by cases e)
  have hE := hE.trans hx31
  have hb9 := eb hx31 hb9
  have hA23 := hA23.trans hx31
  have hb28 := eb hx31 hb28
  refine chX_go (Yk.storeAll (vr (PQ n17 0) rfl) (vr (AB ((b.drop i).take 32)) rfl) hb28 (by exact idsize hQ List.length_replicate) (by exact sizeId_of hQ) (byteCells_one _) fun w32 hb33 hg34 hs35 => ?_)
  have hb := kb hg34 hb (by omega)
  have hgr : w.grownBy w32 (some r) := grownBy_trans hgr hg34 (fun _ e => .inr (by cases e; omega))
  have hE := row_fresh hE hg34 (Nat.le_trans hz25 (by omega))
  have hb9 := kb hg34 hb9 (by omega)
  have hA23 := row_fresh hA23 hg34 (Nat.le_trans (Nat.le_refl _) (by omega))
  clear hb28
  have hb28 := hb33; clear hb33
  have hl36 := bl hb28
  refine ⟨.inr ⟨hb, hE, hb9, trivial⟩, ?_⟩
  refine chX_step rfl fun w37 hx38 => ?_
  have hb := eb hx38 hb
  have hgr : w.grownBy w37 (some r) := grownBy_trans hgr hx38.grown (fun _ e => by cases e)
  have hE := hE.trans hx38
  have hb9 := eb hx38 hb9
  have hA23 := hA23.trans hx38
  have hb28 := eb hx38 hb28
  refine chX_go (Yk.assign (vr (NI (i + 32)) rfl) ?_)
  refine ⟨.inr ⟨hb, hE, hb9, trivial⟩, ?_⟩
  refine chX_step rfl fun w39 hx40 => ?_
  have hb := eb hx40 hb
  have hgr : w.grownBy w39 (some r) := grownBy_trans hgr hx40.grown (fun _ e => by cases e)
  have hE := hE.trans hx40
  have hb9 := eb hx40 hb9
  have hA23 := hA23.trans hx40
  have hb28 := eb hx40 hb28
  refine chX_go (Yk.assign (vr (NI 0) rfl) ?_)
  refine ⟨.inl rfl, ?_⟩
  refine chX_nil (tN (hK11 _ _ (sk fun K41 hK41 => (wt (oM rfl (oS rfl (Yk.eqI (a := (0 : Nat)) (b := (0 : Nat)) rfl rfl (k_eql _ _ _ _) (oP rfl (Yp.callA1 wr7_pl109 (vr (.bool (decide ((0 : Nat) = (0)))) rfl) ?_)))))))))
  refine calls_either (needW_any _ (decide ((0 : Nat) = (0)))) ?_ ?_
  rotate_left
  ·
   rintro ch w44 ⟨rfl, hb, hx⟩
   refine thenF_panic (postP_panic ?_)
   have hno := of_decide_eq_false hb
   exact absurd rfl hno
  rintro v_ w46 ⟨rfl, hb42, hx43⟩
  have hb := eb hx43 hb
  have hgr : w.grownBy w46 (some r) := grownBy_trans hgr hx43.grown (fun _ e => by cases e)
  have hE := hE.trans hx43
  have hb9 := eb hx43 hb9
  have hA23 := hA23.trans hx43
  have hb28 := eb hx43 hb28
  have hn47 := of_decide_eq_true hb42
  refine oZ (tN (hK41 _ _ (sk fun K48 hK48 => (wt (oM rfl (oM rfl (oS rfl (Yk.nilCheck T0 (oS rfl (Yk.fieldAt wr7_fo111_1 (vr (PQ r 0) rfl) (oS rfl (Yk.storeC (i := 1) (v := NI (i + 32)) (vr (PQ r 1) rfl) (vr (NI (i + 32)) rfl) hb (by rw [rd_len]; decide) wr7_isz3 rfl rfl fun w49 hb50 hg51 hs52 => ?_))))))))))))
  clear hb
  have hgr : w.grownBy w49 (some r) := grownBy_trans hgr hg51 (fun _ e => .inl e)
  clear hE
  have hb9 := kb hg51 hb9 (by omega)
  clear hA23
  have hb28 := kb hg51 hb28 (by omega)
  have hb : w49.heap[r]? = some (.cells (rdC ((⟨b, ((i + 32 : Nat) : Int)⟩, ⟨v⟩) : RdV)).toArray 111 (0, 0)) := blk_eq hb50 (rd_s1 (rdX v b (i)) ((i + 32 : Nat) : Int)); clear hb50
  have hl53 := bl hb
  refine oZ (tN (hK48 _ _ (sk fun K54 hK54 => (wt (oS rfl (Yk.loadAll (vr (PQ n17 0) rfl) hb28 wr7_ty25 rfl (by exact sizeId_of hQ) (oS rfl (Yk.storeAll (vr (PQ n2 0) rfl) (vr (AB ((b.drop i).take 32)) rfl) hb9 (by exact idsize hQ List.length_replicate) (by exact sizeId_of hQ) (byteCells_one _) fun w55 hb56 hg57 hs58 => ?_))))))))
  have hgr : w.grownBy w55 (some r) := grownBy_trans hgr hg57 (fun _ e => .inr (by cases e; omega))
  clear hb9
  have hb28 := kb hg57 hb28 (by omega)
  have hb := kb hg57 hb (by omega)
  have hb9 := hb56; clear hb56
  have hl59 := bl hb9
  refine oZ (tN (hK54 _ _ (wpF_ret (postP_ret (fn := Tryd.f114) _ rfl [AB ((b.drop i).take 32)] (AB ((b.drop i).take 32)) rfl ⟨ResF.row rfl hb9 wr7_ty25 rfl (by exact sizeId_of hQ), trivial⟩ ?_))))
  exact .inl ⟨_, rfl, _, _, hP, rfl, hb, hgr⟩
 have hP : idP b i = none := dif_neg hle
 refine tN (hK1 _ _ (sk fun K60 hK60 => ?_))
 have hx61 : Ext w3 (World.drew w3) := (Below.refl _ _).drew
 have hb := eb hx61 hb
 have hgr : w.grownBy (World.drew w3) (some r) := grownBy_trans hgr hx61.grown (fun _ e => by cases e)
 have hE := hE.trans hx61
 have hb9 := eb hx61 hb9
 refine wpF_floatE [(0, 7, PQ r 0), (1, 8, PQ r 0), (2, 9, PQ r 0), (3, 10, v), (4, 11, PQ r 0), (5, 12, PQ r 0), (6, 13, PQ r 1), (7, 14, NI i), (8, 15, .tuple #[AB zero32, NI 0, NI 6]), (9, 6, .tuple #[AB zero32, NI 0, NI 6]), (10, 16, AB zero32), (11, 17, NI 0), (12, 18, NI 6)] [13, 14, 15, 16] (fun wz => wz.heap[r]? = some (.cells (rdC (rdX v b (i))).toArray 111 (0, 0)) ∧ Ext w wz ∧ wz.heap[n2]? = some (.cells (Lib.byteCells (List.replicate 32 0)).toArray 25 (0, 0)) ∧ True) (fun _ _ ⟨hb, hE, hb9, _⟩ k => ⟨(eb k hb), (hE.trans k), (eb k hb9), trivial⟩) (by kernel_rfl) (by kernel_rfl) (by kernel_rfl) ⟨hb, hE, hb9, trivial⟩ ⟨fun w62 ⟨hb, hE, hb9, _⟩ => Yk.move T0 ⟨rfl, Ext.refl _⟩, fun w62 ⟨hb, hE, hb9, _⟩ => Yk.nilCheck (vr (PQ r 0) rfl) ⟨rfl, Ext.refl _⟩, fun w62 ⟨hb, hE, hb9, _⟩ => Yk.fieldAt wr7_fo111_0 (vr (PQ r 0) rfl) ⟨rfl, Ext.refl _⟩, fun w62 ⟨hb, hE, hb9, _⟩ => Yk.cell1 wr7_ty26 rfl (vr (PQ r 0) rfl) (cellAt hb (show (rdC (rdX v b (i)))[0]? = some (v : Value) from rd_g0 (rdX v b (i)))) ⟨rfl, Ext.refl _⟩, fun w62 ⟨hb, hE, hb9, _⟩ => Yk.move T0 ⟨rfl, Ext.refl _⟩, fun w62 ⟨hb, hE, hb9, _⟩ => Yk.nilCheck (vr (PQ r 0) rfl) ⟨rfl, Ext.refl _⟩, fun w62 ⟨hb, hE, hb9, _⟩ => Yk.fieldAt wr7_fo111_1 (vr (PQ r 0) rfl) ⟨rfl, Ext.refl _⟩, fun w62 ⟨hb, hE, hb9, _⟩ => Yk.cell1 wr7_ty3 rfl (vr (PQ r 1) rfl) (cellAt hb (show (rdC (rdX v b (i)))[1]? = some (NI i : Value) from rd_g1 (rdX v b (i)))) ⟨rfl, Ext.refl _⟩, fun w62 ⟨hb, hE, hb9, _⟩ => Yk.callA2 wr7_pl147 (vr v rfl) (vr (NI i) rfl) (((show Calls _ _ _ _ (fun e w2 => e = .returned (.tuple #[AB zero32, NI 0, NI 6]) ∧ Ext _ w2) from (getId_in _ v b (hr.keep hE) i hi).mono fun e w2 ⟨h1, h2⟩ => by subst h1; refine ⟨?_, h2⟩; unfold getIdRes; rw [if_pos (by omega)]; rfl)).mono (by rintro e w2 ⟨rfl, hx⟩; exact ⟨_, rfl, rfl, hx⟩)), fun w62 ⟨hb, hE, hb9, _⟩ => Yk.move (vr (.tuple #[AB zero32, NI 0, NI 6]) rfl) ⟨rfl, Ext.refl _⟩, fun w62 ⟨hb, hE, hb9, _⟩ => Yk.extract (vs := [AB zero32, NI 0, NI 6]) (vr (.tuple #[AB zero32, NI 0, NI 6]) rfl) (show _ = some (AB zero32 : Value) from rfl) ⟨rfl, Ext.refl _⟩, fun w62 ⟨hb, hE, hb9, _⟩ => Yk.extract (vs := [AB zero32, NI 0, NI 6]) (vr (.tuple #[AB zero32, NI 0, NI 6]) rfl) (show _ = some (NI 0 : Value) from rfl) ⟨rfl, Ext.refl _⟩, fun w62 ⟨hb, hE, hb9, _⟩ => Yk.extract (vs := [AB zero32, NI 0, NI 6]) (vr (.tuple #[AB zero32, NI 0, NI 6]) rfl) (show _ = some (NI 6 : Value) from rfl) ⟨rfl, Ext.refl _⟩, trivial⟩ ?_
 refine chX_step rfl fun w64 hx65 => ?_
 have hb := eb hx65 hb
 have hgr : w.grownBy w64 (some r) := grownBy_trans hgr hx65.grown (fun _ e => by cases e)
 have hE := hE.trans hx65
 have hb9 := eb hx65 hb9
 refine chX_go (Yk.alloc (cs := (Lib.byteCells (List.replicate 32 0)).toArray) wr7_al25 fun n66 w67 hn68 hb69 hx70 hs71 => ?_)
 have hA72 := Ext.refl w64
 have hea73 := hE
 have hz74 := hE.size
 have hlt75 := lte (bl hb) hn68
 have hlt76 := lte (bl hb9) hn68
 have hb := eb hx70 hb
 have hgr : w.grownBy w67 (some r) := grownBy_trans hgr hx70.grown (fun _ e => by cases e)
 have hE := hE.trans hx70
 have hb9 := eb hx70 hb9
 have hA72 := hA72.trans hx70
 have hb77 := hb69; clear hb69
 have hl78 : n66 < w67.heap.size := by omega
 refine ⟨.inr ⟨hb, hE, hb9, trivial⟩, ?_⟩
 refine chX_step rfl fun w79 hx80 => ?_
 have hb := eb hx80 hb
 have hgr : w.grownBy w79 (some r) := grownBy_trans hgr hx80.grown (fun _ e => by cases e)
 have hE := hE.trans hx80
 have hb9 := eb hx80 hb9
 have hA72 := hA72.trans hx80
 have hb77 := eb hx80 hb77
 refine chX_go (Yk.storeAll (vr (PQ n66 0) rfl) (vr (AB zero32) rfl) hb77 (by exact idsize (by decide) List.length_replicate) (by exact sizeId_of (by decide)) (byteCells_one _) fun w81 hb82 hg83 hs84 => ?_)
 have hb := kb hg83 hb (by omega)
 have hgr : w.grownBy w81 (some r) := grownBy_trans hgr hg83 (fun _ e => .inr (by cases e; omega))
 have hE := row_fresh hE hg83 (Nat.le_trans hz74 (by omega))
 have hb9 := kb hg83 hb9 (by omega)
 have hA72 := row_fresh hA72 hg83 (Nat.le_trans (Nat.le_refl _) (by omega))
 clear hb77
 have hb77 := hb82; clear hb82
 have hl85 := bl hb77
 refine ⟨.inr ⟨hb, hE, hb9, trivial⟩, ?_⟩
 refine chX_step rfl fun w86 hx87 => ?_
 have hb := eb hx87 hb
 have hgr : w.grownBy w86 (some r) := grownBy_trans hgr hx87.grown (fun _ e => by cases e)
 have hE := hE.trans hx87
 have hb9 := eb hx87 hb9
 have hA72 := hA72.trans hx87
 have hb77 := eb hx87 hb77
 refine chX_go (Yk.assign (vr (NI 0) rfl) ?_)
 refine ⟨.inr ⟨hb, hE, hb9, trivial⟩, ?_⟩
 refine chX_step rfl fun w88 hx89 => ?_
 have hb := eb hx89 hb
 have hgr : w.grownBy w88 (some r) := grownBy_trans hgr hx89.grown (fun _ e => by cases e)
 have hE := hE.trans hx89
 have hb9 := eb hx89 hb9
 have hA72 := hA72.trans hx89
 have hb77 := eb hx89 hb77
 refine chX_go (Yk.assign (vr (NI 6) rfl) ?_)
 refine ⟨.inl rfl, ?_⟩
 refine chX_nil (tN (hK60 _ _ (sk fun K90 hK90 => (wt (oM rfl (oS rfl (Yk.eqI (a := (6 : Nat)) (b := (0 : Nat)) rfl rfl (k_eql _ _ _ _) (oP rfl (Yp.callA1 wr7_pl109 (vr (.bool (decide ((6 : Nat) = (0)))) rfl) ?_)))))))))
 refine calls_either (needW_any _ (decide ((6 : Nat) = (0)))) ?_ ?_
 rotate_left
 ·
  rintro ch w93 ⟨rfl, hb, hx⟩
  refine thenF_panic (postP_panic ?_)
  have hno := of_decide_eq_false hb
  exact .inr ⟨_, rfl, hP, rfl, (grownBy_trans hgr hx.grown (fun _ e => by cases e))⟩
 rintro v_ w95 ⟨rfl, hb91, hx92⟩
 have hb := eb hx92 hb
 have hgr : w.grownBy w95 (some r) := grownBy_trans hgr hx92.grown (fun _ e => by cases e)
 have hE := hE.trans hx92
 have hb9 := eb hx92 hb9
 have hA72 := hA72.trans hx92
 have hb77 := eb hx92 hb77
 have hn96 := of_decide_eq_true hb91
 refine oZ (tN (hK90 _ _ (sk fun K97 hK97 => (wt (oM rfl (oM rfl (oS rfl (Yk.nilCheck T0 (oS rfl (Yk.fieldAt wr7_fo111_1 (vr (PQ r 0) rfl) (oS rfl (Yk.storeC (i := 1) (v := NI 0) (vr (PQ r 1) rfl) (vr (NI 0) rfl) hb (by rw [rd_len]; decide) wr7_isz3 rfl rfl fun w98 hb99 hg100 hs101 => ?_))))))))))))
 clear hb
 have hgr : w.grownBy w98 (some r) := grownBy_trans hgr hg100 (fun _ e => .inl e)
 clear hE
 have hb9 := kb hg100 hb9 (by omega)
 clear hA72
 have hb77 := kb hg100 hb77 (by omega)
 have hb : w98.heap[r]? = some (.cells (rdC ((⟨b, ((0 : Nat) : Int)⟩, ⟨v⟩) : RdV)).toArray 111 (0, 0)) := blk_eq hb99 (rd_s1 (rdX v b (i)) ((0 : Nat) : Int)); clear hb99
 have hl102 := bl hb
 refine oZ (tN (hK97 _ _ (sk fun K103 hK103 => (wt (oS rfl (Yk.loadAll (vr (PQ n66 0) rfl) hb77 wr7_ty25 rfl (by exact sizeId_of (by decide)) (oS rfl (Yk.storeAll (vr (PQ n2 0) rfl) (vr (AB zero32) rfl) hb9 (by exact idsize (by decide) List.length_replicate) (by exact sizeId_of (by decide)) (byteCells_one _) fun w104 hb105 hg106 hs107 => ?_))))))))
 have hgr : w.grownBy w104 (some r) := grownBy_trans hgr hg106 (fun _ e => .inr (by cases e; omega))
 clear hb9
 have hb77 := kb hg106 hb77 (by omega)
 have hb := kb hg106 hb (by omega)
 have hb9 := hb105; clear hb105
 have hl108 := bl hb9
 refine oZ (tN (hK103 _ _ (wpF_ret (postP_ret (fn := Tryd.f114) _ rfl [AB zero32] (AB zero32) rfl ⟨ResF.row rfl hb9 wr7_ty25 rfl (by exact sizeId_of (by decide)), trivial⟩ ?_))))
 omega
open Go.RowKit
theorem info_ex {P : Program} {e : TypeId} {k b : Nat} (h : (P.info? e).map (fun i => (i.zero.map (fun z => z.cells.size), i.size, i.bytes)) = some (some k, k, b)) : ∃ z, (P.info? e).map (fun i => (i.zero, i.size, i.bytes)) = some (some z, k, b) ∧ z.cells.size = k := by
  cases hi : P.info? e with
  | none => rw [hi] at h; cases h
  | some i =>
    rw [hi] at h
    simp only [Option.map_some, Option.some.injEq, Prod.mk.injEq] at h
    cases hz : i.zero with
    | none => rw [hz] at h; cases h.1
    | some z =>
      rw [hz] at h
      simp only [Option.map_some, Option.some.injEq] at h
      exact ⟨z, by simp [hz, h.2.1, h.2.2], h.1⟩
section
variable {P : Program} {ρ : Slots} {w : World}
theorem Yp.clo {f : FuncId} {dst : Option Tmp} {ty : TypeId} {pos : String} {af : Array Edge} {gd : Option (Nat × Bool)} {K : Value → World → Prop} {J : List PanicEntry → World → Prop} (hp : Plain P f) {c : Operand} {args : Array Operand} {at_ : Array TypeId} {caps : Array Value} (hc : evalR ρ c = .func (.func f) #[] caps) (vs : Array Value) (hv : args.map (evalR ρ) ++ caps = vs)
    (h : Calls P f vs w fun e w' => match e with | .returned v => K v w' | .panicked ch => J ch w' | .outgrown => False) : Yp P K J ((execOp (evalR ρ) ⟨dst, .call ⟨.value c, args, at_⟩, ty, pos, af, gd⟩).run P w) := by
  subst hv
  have hr : (execOp (evalR ρ) ⟨dst, .call ⟨.value c, args, at_⟩, ty, pos, af, gd⟩).run P w = .ok (.enter f (args.map (evalR ρ) ++ caps)) w := by
    unfold execOp
    simp [resolve, hc, Deferred.ofValue, invoke, hp _ w]
  rw [hr]
  exact h
end
section
variable {P : Program} {K : Value → World → Prop} {ρ : Slots} {w : World} {d : Option Tmp} {ty : TypeId} {pos : String} {af : Array Edge} {gd : Option (Nat × Bool)}
theorem Yk.convStr {t e s : TypeId} {u : TypeDesc} (hs : P.underlying s = some u) (ht : P.underlying t = some (.slice e)) (he : P.underlying e = some (.int .u8)) {x : Operand} {l : List UInt8} (hx : evalR ρ x = St l) (hl : l.length ≤ 9223372036854775807)
    (hk : ∀ v w', RB w' v l → Ext w w' → (∀ k, v.ownBlock = some k → w.heap.size ≤ k ∧ k < w'.heap.size) → K v w') : Yk P K ((execOp (evalR ρ) ⟨d, .convert s t x, ty, pos, af, gd⟩).run P w) := by
  have hr := Lib.run_convert_string_bytes (P := P) w s t e ⟨l.toArray⟩ hs ht he
  have hsz : (⟨l.toArray⟩ : ByteArray).size = l.length := by simp [ByteArray.size]
  rw [hsz] at hr
  refine Yk.value (v := .slice (some ⟨w.heap.size, 0, none⟩) l.length (grownCap w l.length 0 e)) (w' := Lib.bytesWorld w e ⟨l.toArray⟩) ?_ (hk _ _ ?_ (Lib.bytesWorld_below w e _) ?_)
  · unfold execOp
    simp only [hx, hr, Sem.run_bind, Sem.run_pure, Result.andThen_ok]
  · refine ⟨by rw [Lib.byteCells_length, Nat.mul_one], _, _, rfl, grownCap_ge w _ _ _, grownCap_le_maxLen w _ _ _ (by simpa [maxLen] using hl), (fun h => by cases h), fun a ha j u hu => ?_⟩
    cases ha
    have hj : j < l.length := by have := (List.getElem?_eq_some_iff.1 hu).1; rwa [Lib.byteCells_length] at this
    have hc := Lib.bytesWorld_cell w e ⟨l.toArray⟩ j (by rw [hsz]; exact hj)
    rw [show (⟨w.heap.size, 0, none⟩ : Addr).add j = ⟨w.heap.size, j, none⟩ by simp [Addr.add]; exact fun h => h.symm]
    rw [hc, ← hu, byte_at hj]
  · intro k hk
    cases hk
    rw [Lib.bytesWorld_size]
    exact ⟨Nat.le_refl _, Nat.lt_succ_self _⟩
end
open Go.RowKit
set_option maxRecDepth 100000
theorem wr8_pl110 : Plain Tryd.prog 110 := fun _ _ => by kernel_rfl
theorem wr8_pl109 : Plain Tryd.prog 109 := fun _ _ => by kernel_rfl
theorem wr8_pl112 : Plain Tryd.prog 112 := fun _ _ => by kernel_rfl
theorem wr8_pl115 : Plain Tryd.prog 115 := fun _ _ => by kernel_rfl
theorem wr8_pl116 : Plain Tryd.prog 116 := fun _ _ => by kernel_rfl
set_option maxHeartbeats 1600000
theorem list1_any (w : World) (r g m : Nat) (v : Value) (b : Bs) (i most : Nat) (hb : w.heap[r]? = some (.cells (rdC (rdX v b (i))).toArray 111 (0, 0))) (hr : RB w v b) (hap : b = [] ∨ OB v r) (hi : i ≤ b.length) (hl : b.length ≤ 4611686018427387904) (Inv : Nat → World → Prop) (Bad : World → Prop)
  (h0 : ∀ (n j : Nat) (w' : World), numP b i = some (n, j) → n ≤ most → w'.heap[r]? = some (.cells (rdC (rdX v b (j))).toArray 111 (0, 0)) → w.grownBy w' (some r) → Inv 0 w')
  (hstep : ∀ (n j k : Nat) (u : World), numP b i = some (n, j) → k < n → Inv k u → Calls Tryd.prog 112 #[PQ g 0, PQ m 0] u fun e u' => (∃ x, e = .returned x ∧ x = .tuple #[] ∧ Inv (k + 1) u') ∨ ∃ ch, e = .panicked ch ∧ ch = [stopW] ∧ Bad u')
  (hbad : ∀ w' : World, (numP b i = none ∨ ∃ n j, numP b i = some (n, j) ∧ ¬ n ≤ most) → w.grownBy w' (some r) → Bad w') :
  Calls Tryd.prog 111 #[PQ r 0, NI most, .func (.func 112) #[] #[PQ g 0, PQ m 0]] w fun e w' => (∃ x, e = .returned x ∧ x = .tuple #[] ∧ ∃ n j, numP b i = some (n, j) ∧ n ≤ most ∧ Inv n w') ∨ ∃ ch, e = .panicked ch ∧ ch = [stopW] ∧ Bad w' := by
 have hlr := (bl hb)
 have hgr := World.grownBy.refl w (some r)
 refine calls_of_wpP (args := [PQ r 0, NI most, .func (.func 112) #[] #[PQ g 0, PQ m 0]]) Tryd.func111 rfl 19 rfl (Nat.le_of_ble_eq_true rfl) ?_
 intro ρ0 hb
 have T0 : ρ0 0 = (PQ r 0 : Value) := hb.get 0
 have T1 : ρ0 1 = (NI most : Value) := hb.get 1
 have T2 : ρ0 2 = (.func (.func 112) #[] #[PQ g 0, PQ m 0] : Value) := hb.get 2
 clear hb
 have hE := Ext.refl w
 refine sk fun K1 hK1 => (wt (oM rfl (oP rfl (Yp.callA1 wr8_pl110 T0 ?_))))
 refine calls_either (numberW_any _ r v b i hb (hr.keep hE) hap hi hl) ?_ ?_
 rotate_left
 ·
  rintro ch w2 ⟨hP, rfl, hgn⟩
  refine thenF_panic (postP_panic ?_)
  exact .inr ⟨_, rfl, rfl, hbad _ (.inl hP) (grownBy_trans hgr hgn (fun _ e => .inl e))⟩
 rintro v_ w4 ⟨c, j, hP, rfl, hbn, hgn⟩
 clear hb
 have hgr : w.grownBy w4 (some r) := grownBy_trans hgr hgn (fun _ e => .inl e)
 clear hE
 have hb := hbn; clear hbn
 refine oA rfl (oZ (tN (hK1 _ _ (sk fun K5 hK5 => (wt (oM rfl (oM rfl (oS rfl (Yk.eqI (a := (c : Nat)) (b := (most : Nat)) rfl T1 (k_leq _ _ _ _) (oP rfl (Yp.callA1 wr8_pl109 (vr (.bool (decide ((c) ≤ (most)))) rfl) ?_)))))))))))
 refine calls_either (needW_any _ (decide ((c) ≤ (most)))) ?_ ?_
 rotate_left
 ·
  rintro ch w8 ⟨rfl, hb, hx⟩
  refine thenF_panic (postP_panic ?_)
  have hno := of_decide_eq_false hb
  exact .inr ⟨_, rfl, rfl, hbad _ (.inr ⟨c, j, hP, by omega⟩) (grownBy_trans hgr hx.grown (fun _ e => by cases e))⟩
 rintro v_ w10 ⟨rfl, hb6, hx7⟩
 have hgr : w.grownBy w10 (some r) := grownBy_trans hgr hx7.grown (fun _ e => by cases e)
 have hb := eb hx7 hb
 have hn11 := of_decide_eq_true hb6
 refine oZ ?_
 have hle := hn11
 have hcl := numP_lt hP
 refine tN (hK5 _ _ (sk fun K12 hK12 => (wt (oM rfl (oM rfl (oL_ [(0, PQ r 0), (1, NI most), (2, .func (.func 112) #[] #[PQ g 0, PQ m 0]), (6, NI c), (13, NI c), (14, NI 0)] ⟨T0, T1, T2, rfl, rfl, rfl, trivial⟩ fun ρ13 ⟨T0, T1, T2, T6, T13, T14, _⟩ => (tN (hK12 _ _ (wpF_block (wpF_loop (fun (ρ : Slots) (wz : World) => ∃ k : Nat, ρ 0 = (PQ r 0 : Value) ∧ ρ 1 = (NI most : Value) ∧ ρ 2 = (.func (.func 112) #[] #[PQ g 0, PQ m 0] : Value) ∧ ρ 6 = (NI c : Value) ∧ ρ 13 = (NI c : Value) ∧ ρ 14 = (NI k : Value) ∧ Inv k wz ∧ (k ≤ c) ∧ True) (fun ρ _ => c - (intOf (ρ 14)).toNat) ⟨0, T0, T1, T2, T6, T13, T14, h0 c j _ hP hle hb hgr, Nat.zero_le _, trivial⟩ ?_))))))))))
 clear hgr
 clear hb
 rintro ρ14 w15 ⟨k, T0, T1, T2, T6, T13, T14, hI, hk, -⟩
 have q14 := T14
 by_cases hlt : k < c
 ·refine sk fun K16 hK16 => (wt (oS rfl (Yk.eqI (a := (k : Nat)) (b := (c : Nat)) T14 T13 (k_lss _ _ _ _) (oZ (tN (hK16 _ _ (sk fun K17 hK17 => (wpF_true (vr (.bool (true)) (congrArg Value.bool (decide_eq_true (hlt)))) (wpF_skip (tN (hK17 _ _ (sk fun K18 hK18 => (wpF_block (wt (oM rfl (oP rfl (Yp.clo wr8_pl112 (caps := #[PQ g 0, PQ m 0]) T2 #[PQ g 0, PQ m 0] (by simp) ?_)))))))))))))))))
  refine calls_either (hstep c j k _ hP hlt hI) ?_ ?_
  rotate_left
  ·
   rintro ch w19 ⟨rfl, hB⟩
   refine inBlockF_panic (thenF_panic (thenF_panic (inBlockF_panic (postP_panic ?_))))
   exact .inr ⟨_, rfl, rfl, hB⟩
  rintro v_ w21 ⟨rfl, hI2⟩
  have hI := hI2; clear hI2
  refine oZ (bN (tN (hK18 _ _ (wt (oS rfl (Yk.bin (xv := NI k) (yv := NI 1) T14 rfl rfl (i64_add _ _ _ (by omega)) (oM rfl (oL_ [(0, PQ r 0), (1, NI most), (2, .func (.func 112) #[] #[PQ g 0, PQ m 0]), (6, NI c), (13, NI c), (14, NI ((k) + (1))), (15, .bool (true))] ⟨T0, T1, T2, T6, T13, rfl, (congrArg Value.bool (decide_eq_true (hlt))), trivial⟩ fun ρ22 ⟨T0, T1, T2, T6, T13, T14, T15, _⟩ => (tN (And.intro ⟨k + 1, T0, T1, T2, T6, T13, T14, hI, by omega, trivial⟩ ?_))))))))))
  show c - (intOf (ρ22 14)).toNat < c - (intOf (ρ14 14)).toNat
  rw [T14, q14]
  simp only [intOf, Int.toNat_natCast]; omega
 refine sk fun K23 hK23 => (wt (oS rfl (Yk.eqI (a := (k : Nat)) (b := (c : Nat)) T14 T13 (k_lss _ _ _ _) (oZ (tN (hK23 _ _ (sk fun K24 hK24 => (wpF_false (vr (.bool (false)) (congrArg Value.bool (decide_eq_false (hlt)))) (wpF_exit (thenF_exit (thenF_exit (inBlockF_hit (postP_end (fn := Tryd.f111) [] rfl [] (.tuple #[]) rfl trivial ?_)))))))))))))
 have hkc : k = c := by omega
 subst hkc
 exact .inl ⟨_, rfl, rfl, k, j, hP, hle, hI⟩

theorem list2_any (w : World) (r g m : Nat) (v : Value) (b : Bs) (i most : Nat) (hb : w.heap[r]? = some (.cells (rdC (rdX v b (i))).toArray 111 (0, 0))) (hr : RB w v b) (hap : b = [] ∨ OB v r) (hi : i ≤ b.length) (hl : b.length ≤ 4611686018427387904) (Inv : Nat → World → Prop) (Bad : World → Prop)
  (h0 : ∀ (n j : Nat) (w' : World), numP b i = some (n, j) → n ≤ most → w'.heap[r]? = some (.cells (rdC (rdX v b (j))).toArray 111 (0, 0)) → w.grownBy w' (some r) → Inv 0 w')
  (hstep : ∀ (n j k : Nat) (u : World), numP b i = some (n, j) → k < n → Inv k u → Calls Tryd.prog 115 #[PQ m 0, PQ g 0] u fun e u' => (∃ x, e = .returned x ∧ x = .tuple #[] ∧ Inv (k + 1) u') ∨ ∃ ch, e = .panicked ch ∧ ch = [stopW] ∧ Bad u')
  (hbad : ∀ w' : World, (numP b i = none ∨ ∃ n j, numP b i = some (n, j) ∧ ¬ n ≤ most) → w.grownBy w' (some r) → Bad w') :
  Calls Tryd.prog 111 #[PQ r 0, NI most, .func (.func 115) #[] #[PQ m 0, PQ g 0]] w fun e w' => (∃ x, e = .returned x ∧ x = .tuple #[] ∧ ∃ n j, numP b i = some (n, j) ∧ n ≤ most ∧ Inv n w') ∨ ∃ ch, e = .panicked ch ∧ ch = [stopW] ∧ Bad w' := by
 have hlr := (bl hb)
 have hgr := World.grownBy.refl w (some r)
 refine calls_of_wpP (args := [PQ r 0, NI most, .func (.func 115) #[] #[PQ m 0, PQ g 0]]) Tryd.func111 rfl 19 rfl (Nat.le_of_ble_eq_true rfl) ?_
 intro ρ0 hb
 have T0 : ρ0 0 = (PQ r 0 : Value) := hb.get 0
 have T1 : ρ0 1 = (NI most : Value) := hb.get 1
 have T2 : ρ0 2 = (.func (.func 115) #[] #[PQ m 0, PQ g 0] : Value) := hb.get 2
 clear hb
 have hE := Ext.refl w
 refine sk fun K1 hK1 => (wt (oM rfl (oP rfl (Yp.callA1 wr8_pl110 T0 ?_))))
 refine calls_either (numberW_any _ r v b i hb (hr.keep hE) hap hi hl) ?_ ?_
 rotate_left
 ·
  rintro ch w2 ⟨hP, rfl, hgn⟩
  refine thenF_panic (postP_panic ?_)
  exact .inr ⟨_, rfl, rfl, hbad _ (.inl hP) (grownBy_trans hgr hgn (fun _ e => .inl e))⟩
 rintro v_ w4 ⟨c, j, hP, rfl, hbn, hgn⟩
 clear hb
 have hgr : w.grownBy w4 (some r) := grownBy_trans hgr hgn (fun _ e => .inl e)
 clear hE
 have hb := hbn; clear hbn
 refine oA rfl (oZ (tN (hK1 _ _ (sk fun K5 hK5 => (wt (oM rfl (oM rfl (oS rfl (Yk.eqI (a := (c : Nat)) (b := (most : Nat)) rfl T1 (k_leq _ _ _ _) (oP rfl (Yp.callA1 wr8_pl109 (vr (.bool (decide ((c) ≤ (most)))) rfl) ?_)))))))))))
 refine calls_either (needW_any _ (decide ((c) ≤ (most)))) ?_ ?_
 rotate_left
 ·
  rintro ch w8 ⟨rfl, hb, hx⟩
  refine thenF_panic (postP_panic ?_)
  have hno := of_decide_eq_false hb
  exact .inr ⟨_, rfl, rfl, hbad _ (.inr ⟨c, j, hP, by omega⟩) (grownBy_trans hgr hx.grown (fun _ e => by cases e))⟩
 rintro v_ w10 ⟨rfl, hb6, hx7⟩
 have hgr : w.grownBy w10 (some r) := grownBy_trans hgr hx7.grown (fun _ e => by cases e)
 have hb := eb hx7 hb
 have hn11 := of_decide_eq_true hb6
 refine oZ ?_
 have hle := hn11
 have hcl := numP_lt hP
 refine tN (hK5 _ _ (sk fun K12 hK12 => (wt (oM rfl (oM rfl (oL_ [(0, PQ r 0), (1, NI most), (2, .func (.func 115) #[] #[PQ m 0, PQ g 0]), (6, NI c), (13, NI c), (14, NI 0)] ⟨T0, T1, T2, rfl, rfl, rfl, trivial⟩ fun ρ13 ⟨T0, T1, T2, T6, T13, T14, _⟩ => (tN (hK12 _ _ (wpF_block (wpF_loop (fun (ρ : Slots) (wz : World) => ∃ k : Nat, ρ 0 = (PQ r 0 : Value) ∧ ρ 1 = (NI most : Value) ∧ ρ 2 = (.func (.func 115) #[] #[PQ m 0, PQ g 0] : Value) ∧ ρ 6 = (NI c : Value) ∧ ρ 13 = (NI c : Value) ∧ ρ 14 = (NI k : Value) ∧ Inv k wz ∧ (k ≤ c) ∧ True) (fun ρ _ => c - (intOf (ρ 14)).toNat) ⟨0, T0, T1, T2, T6, T13, T14, h0 c j _ hP hle hb hgr, Nat.zero_le _, trivial⟩ ?_))))))))))
 clear hgr
 clear hb
 rintro ρ14 w15 ⟨k, T0, T1, T2, T6, T13, T14, hI, hk, -⟩
 have q14 := T14
 by_cases hlt : k < c
 ·refine sk fun K16 hK16 => (wt (oS rfl (Yk.eqI (a := (k : Nat)) (b := (c : Nat)) T14 T13 (k_lss _ _ _ _) (oZ (tN (hK16 _ _ (sk fun K17 hK17 => (wpF_true (vr (.bool (true)) (congrArg Value.bool (decide_eq_true (hlt)))) (wpF_skip (tN (hK17 _ _ (sk fun K18 hK18 => (wpF_block (wt (oM rfl (oP rfl (Yp.clo wr8_pl115 (caps := #[PQ m 0, PQ g 0]) T2 #[PQ m 0, PQ g 0] (by simp) ?_)))))))))))))))))
  refine calls_either (hstep c j k _ hP hlt hI) ?_ ?_
  rotate_left
  ·
   rintro ch w19 ⟨rfl, hB⟩
   refine inBlockF_panic (thenF_panic (thenF_panic (inBlockF_panic (postP_panic ?_))))
   exact .inr ⟨_, rfl, rfl, hB⟩
  rintro v_ w21 ⟨rfl, hI2⟩
  have hI := hI2; clear hI2
  refine oZ (bN (tN (hK18 _ _ (wt (oS rfl (Yk.bin (xv := NI k) (yv := NI 1) T14 rfl rfl (i64_add _ _ _ (by omega)) (oM rfl (oL_ [(0, PQ r 0), (1, NI most), (2, .func (.func 115) #[] #[PQ m 0, PQ g 0]), (6, NI c), (13, NI c), (14, NI ((k) + (1))), (15, .bool (true))] ⟨T0, T1, T2, T6, T13, rfl, (congrArg Value.bool (decide_eq_true (hlt))), trivial⟩ fun ρ22 ⟨T0, T1, T2, T6, T13, T14, T15, _⟩ => (tN (And.intro ⟨k + 1, T0, T1, T2, T6, T13, T14, hI, by omega, trivial⟩ ?_))))))))))
  show c - (intOf (ρ22 14)).toNat < c - (intOf (ρ14 14)).toNat
  rw [T14, q14]
  simp only [intOf, Int.toNat_natCast]; omega
 refine sk fun K23 hK23 => (wt (oS rfl (Yk.eqI (a := (k : Nat)) (b := (c : Nat)) T14 T13 (k_lss _ _ _ _) (oZ (tN (hK23 _ _ (sk fun K24 hK24 => (wpF_false (vr (.bool (false)) (congrArg Value.bool (decide_eq_false (hlt)))) (wpF_exit (thenF_exit (thenF_exit (inBlockF_hit (postP_end (fn := Tryd.f111) [] rfl [] (.tuple #[]) rfl trivial ?_)))))))))))))
 have hkc : k = c := by omega
 subst hkc
 exact .inl ⟨_, rfl, rfl, k, j, hP, hle, hI⟩

theorem list3_any (w : World) (r g m : Nat) (v : Value) (b : Bs) (i most : Nat) (hb : w.heap[r]? = some (.cells (rdC (rdX v b (i))).toArray 111 (0, 0))) (hr : RB w v b) (hap : b = [] ∨ OB v r) (hi : i ≤ b.length) (hl : b.length ≤ 4611686018427387904) (Inv : Nat → World → Prop) (Bad : World → Prop)
  (h0 : ∀ (n j : Nat) (w' : World), numP b i = some (n, j) → n ≤ most → w'.heap[r]? = some (.cells (rdC (rdX v b (j))).toArray 111 (0, 0)) → w.grownBy w' (some r) → Inv 0 w')
  (hstep : ∀ (n j k : Nat) (u : World), numP b i = some (n, j) → k < n → Inv k u → Calls Tryd.prog 116 #[PQ m 0, PQ g 0] u fun e u' => (∃ x, e = .returned x ∧ x = .tuple #[] ∧ Inv (k + 1) u') ∨ ∃ ch, e = .panicked ch ∧ ch = [stopW] ∧ Bad u')
  (hbad : ∀ w' : World, (numP b i = none ∨ ∃ n j, numP b i = some (n, j) ∧ ¬ n ≤ most) → w.grownBy w' (some r) → Bad w') :
  Calls Tryd.prog 111 #[PQ r 0, NI most, .func (.func 116) #[] #[PQ m 0, PQ g 0]] w fun e w' => (∃ x, e = .returned x ∧ x = .tuple #[] ∧ ∃ n j, numP b i = some (n, j) ∧ n ≤ most ∧ Inv n w') ∨ ∃ ch, e = .panicked ch ∧ ch = [stopW] ∧ Bad w' := by
 have hlr := (bl hb)
 have hgr := World.grownBy.refl w (some r)
 refine calls_of_wpP (args := [PQ r 0, NI most, .func (.func 116) #[] #[PQ m 0, PQ g 0]]) Tryd.func111 rfl 19 rfl (Nat.le_of_ble_eq_true rfl) ?_
 intro ρ0 hb
 have T0 : ρ0 0 = (PQ r 0 : Value) := hb.get 0
 have T1 : ρ0 1 = (NI most : Value) := hb.get 1
 have T2 : ρ0 2 = (.func (.func 116) #[] #[PQ m 0, PQ g 0] : Value) := hb.get 2
 clear hb
 have hE := Ext.refl w
 refine sk fun K1 hK1 => (wt (oM rfl (oP rfl (Yp.callA1 wr8_pl110 T0 ?_))))
 refine calls_either (numberW_any _ r v b i hb (hr.keep hE) hap hi hl) ?_ ?_
 rotate_left
 ·
  rintro ch w2 ⟨hP, rfl, hgn⟩
  refine thenF_panic (postP_panic ?_)
  exact .inr ⟨_, rfl, rfl, hbad _ (.inl hP) (grownBy_trans hgr hgn (fun _ e => .inl e))⟩
 rintro v_ w4 ⟨c, j, hP, rfl, hbn, hgn⟩
 clear hb
 have hgr : w.grownBy w4 (some r) := grownBy_trans hgr hgn (fun _ e => .inl e)
 clear hE
 have hb := hbn; clear hbn
 refine oA rfl (oZ (tN (hK1 _ _ (sk fun K5 hK5 => (wt (oM rfl (oM rfl (oS rfl (Yk.eqI (a := (c : Nat)) (b := (most : Nat)) rfl T1 (k_leq _ _ _ _) (oP rfl (Yp.callA1 wr8_pl109 (vr (.bool (decide ((c) ≤ (most)))) rfl) ?_)))))))))))
 refine calls_either (needW_any _ (decide ((c) ≤ (most)))) ?_ ?_
 rotate_left
 ·
  rintro ch w8 ⟨rfl, hb, hx⟩
  refine thenF_panic (postP_panic ?_)
  have hno := of_decide_eq_false hb
  exact .inr ⟨_, rfl, rfl, hbad _ (.inr ⟨c, j, hP, by omega⟩) (grownBy_trans hgr hx.grown (fun _ e => by cases e))⟩
 rintro v_ w10 ⟨rfl, hb6, hx7⟩
 have hgr : w.grownBy w10 (some r) := grownBy_trans hgr hx7.grown (fun _ e => by cases e)
 have hb := eb hx7 hb
 have hn11 := of_decide_eq_true hb6
 refine oZ ?_
 have hle := hn11
 have hcl := numP_lt hP
 refine tN (hK5 _ _ (sk fun K12 hK12 => (wt (oM rfl (oM rfl (oL_ [(0, PQ r 0), (1, NI most), (2, .func (.func 116) #[] #[PQ m 0, PQ g 0]), (6, NI c), (13, NI c), (14, NI 0)] ⟨T0, T1, T2, rfl, rfl, rfl, trivial⟩ fun ρ13 ⟨T0, T1, T2, T6, T13, T14, _⟩ => (tN (hK12 _ _ (wpF_block (wpF_loop (fun (ρ : Slots) (wz : World) => ∃ k : Nat, ρ 0 = (PQ r 0 : Value) ∧ ρ 1 = (NI most : Value) ∧ ρ 2 = (.func (.func 116) #[] #[PQ m 0, PQ g 0] : Value) ∧ ρ 6 = (NI c : Value) ∧ ρ 13 = (NI c : Value) ∧ ρ 14 = (NI k : Value) ∧ Inv k wz ∧ (k ≤ c) ∧ True) (fun ρ _ => c - (intOf (ρ 14)).toNat) ⟨0, T0, T1, T2, T6, T13, T14, h0 c j _ hP hle hb hgr, Nat.zero_le _, trivial⟩ ?_))))))))))
 clear hgr
 clear hb
 rintro ρ14 w15 ⟨k, T0, T1, T2, T6, T13, T14, hI, hk, -⟩
 have q14 := T14
 by_cases hlt : k < c
 ·refine sk fun K16 hK16 => (wt (oS rfl (Yk.eqI (a := (k : Nat)) (b := (c : Nat)) T14 T13 (k_lss _ _ _ _) (oZ (tN (hK16 _ _ (sk fun K17 hK17 => (wpF_true (vr (.bool (true)) (congrArg Value.bool (decide_eq_true (hlt)))) (wpF_skip (tN (hK17 _ _ (sk fun K18 hK18 => (wpF_block (wt (oM rfl (oP rfl (Yp.clo wr8_pl116 (caps := #[PQ m 0, PQ g 0]) T2 #[PQ m 0, PQ g 0] (by simp) ?_)))))))))))))))))
  refine calls_either (hstep c j k _ hP hlt hI) ?_ ?_
  rotate_left
  ·
   rintro ch w19 ⟨rfl, hB⟩
   refine inBlockF_panic (thenF_panic (thenF_panic (inBlockF_panic (postP_panic ?_))))
   exact .inr ⟨_, rfl, rfl, hB⟩
  rintro v_ w21 ⟨rfl, hI2⟩
  have hI := hI2; clear hI2
  refine oZ (bN (tN (hK18 _ _ (wt (oS rfl (Yk.bin (xv := NI k) (yv := NI 1) T14 rfl rfl (i64_add _ _ _ (by omega)) (oM rfl (oL_ [(0, PQ r 0), (1, NI most), (2, .func (.func 116) #[] #[PQ m 0, PQ g 0]), (6, NI c), (13, NI c), (14, NI ((k) + (1))), (15, .bool (true))] ⟨T0, T1, T2, T6, T13, rfl, (congrArg Value.bool (decide_eq_true (hlt))), trivial⟩ fun ρ22 ⟨T0, T1, T2, T6, T13, T14, T15, _⟩ => (tN (And.intro ⟨k + 1, T0, T1, T2, T6, T13, T14, hI, by omega, trivial⟩ ?_))))))))))
  show c - (intOf (ρ22 14)).toNat < c - (intOf (ρ14 14)).toNat
  rw [T14, q14]
  simp only [intOf, Int.toNat_natCast]; omega
 refine sk fun K23 hK23 => (wt (oS rfl (Yk.eqI (a := (k : Nat)) (b := (c : Nat)) T14 T13 (k_lss _ _ _ _) (oZ (tN (hK23 _ _ (sk fun K24 hK24 => (wpF_false (vr (.bool (false)) (congrArg Value.bool (decide_eq_false (hlt)))) (wpF_exit (thenF_exit (thenF_exit (inBlockF_hit (postP_end (fn := Tryd.f111) [] rfl [] (.tuple #[]) rfl trivial ?_)))))))))))))
 have hkc : k = c := by omega
 subst hkc
 exact .inl ⟨_, rfl, rfl, k, j, hP, hle, hI⟩
open Go.RowKit
set_option maxRecDepth 100000
structure RC (w0 : World) (r m g n : Nat) (v : Value) (b : Bs) : Prop where
 hr : RB w0 v b
 lr : w0.heap.size ≤ r
 lm : w0.heap.size ≤ m
 lg : w0.heap.size ≤ g
 ln : w0.heap.size ≤ n
 hrm : r ≠ m
 hrg : r ≠ g
 hrn : r ≠ n
 hmg : m ≠ g
 hmn : m ≠ n
 hgn : g ≠ n
 hl : b.length ≤ 4611686018427387904
structure RS (w0 : World) (r m g n : Nat) (v : Value) (b : Bs) (p : Parts) (w : World) (i : Nat) (X : MsgV) : Prop where
 hb : w.heap[r]? = some (.cells (rdC (rdX v b (i))).toArray 111 (0, 0))
 hm : w.heap[m]? = some (.cells (msgC X).toArray 29 (0, 0))
 hg : w.heap[g]? = some (.cells ([PQ r 0]).toArray 109 (0, 0))
 hn : w.heap[n]? = some (.cells (partsC p).toArray 92 (0, 0))
 hE0 : Ext w0 w
 hi : i ≤ b.length
structure Ap4 (u : Value) (r m g n : Nat) : Prop where
 r : OB u r
 m : OB u m
 g : OB u g
 n : OB u n
theorem wr9_ty109 : Tryd.prog.underlying 109 = some (.pointer 111) := by kernel_rfl
theorem wr9_pl108 : Plain Tryd.prog 108 := fun _ _ => by kernel_rfl
theorem wr9_bs67_0h (z0 : Int) (w : World) : (Instr.build 67 #[(0, .int .u8 z0)]).run Tryd.prog w = .ok (.agg #[.int .u8 z0, .string ⟨#[]⟩, .int .u8 0, .int .u8 0, .int .u8 0, .int .u8 0, .int .u8 0, .int .u8 0, .int .u8 0, .int .u8 0, .int .u8 0, .int .u8 0, .int .u8 0, .int .u8 0, .int .u8 0, .int .u8 0, .int .u8 0, .int .u8 0, .int .u8 0, .int .u8 0, .int .u8 0, .int .u8 0, .int .u8 0, .int .u8 0, .int .u8 0, .int .u8 0, .int .u8 0, .int .u8 0, .int .u8 0, .int .u8 0, .int .u8 0, .int .u8 0, .int .u8 0, .int .u8 0, .int .u8 0, .int .u8 0, .int .u8 0, .int .u8 0, .int .u8 0, .int .u8 0, .int .u8 0, .int .u8 0, .int .u8 0, .int .u8 0, .int .u8 0, .int .u8 0, .int .u8 0, .int .u8 0, .int .u8 0, .int .u8 0, .int .u8 0, .int .u8 0, .int .u8 0, .int .u8 0, .int .u8 0, .int .u8 0, .int .u8 0, .int .u8 0, .int .u8 0, .int .u8 0, .int .u8 0, .int .u8 0, .int .u8 0, .int .u8 0, .int .u8 0, .int .u8 0]) w := by kernel_rfl
theorem wr9_bs67_0 (z0 : UInt8) (w : World) : (Instr.build 67 #[(0, B8 z0)]).run Tryd.prog w = .ok (.agg (B8 (z0) :: (St ([]) :: (Lib.byteCells zid.1 ++ (Lib.byteCells zid.1)))).toArray) w := by
 exact wr9_bs67_0h _ w
theorem wr9_al67 {d : Option Tmp} {ty : TypeId} {pos : String} {af : Array Edge} {gd : Option (Nat × Bool)} (σ : Operand → Value) (w : World) : (execOp σ ⟨d, .alloc 67, ty, pos, af, gd⟩).run Tryd.prog w = .ok (.value (PQ w.heap.size 0)) (w.alloc (.cells (updC (⟨0, [], zid, zid⟩ : Upd)).toArray 67)) := by kernel_rfl
theorem wr9_isz67 : (Tryd.prog.info? 67).map (·.size) = some 66 := by kernel_rfl
theorem wr9_pl113 : Plain Tryd.prog 113 := fun _ _ => by kernel_rfl
theorem wr9_fo67_1 : FieldOff Tryd.prog 67 1 1 := fun b o w => by simp [go_sem]
theorem wr9_isz9 : (Tryd.prog.info? 9).map (·.size) = some 1 := by kernel_rfl
theorem wr9_pl114 : Plain Tryd.prog 114 := fun _ _ => by kernel_rfl
theorem wr9_fo67_3 : FieldOff Tryd.prog 67 3 34 := fun b o w => by simp [go_sem]
theorem wr9_isz25 : (Tryd.prog.info? 25).map (·.size) = some 32 := by kernel_rfl
theorem wr9_fo29_2 : FieldOff Tryd.prog 29 2 2 := fun b o w => by simp [go_sem]
theorem wr9_ty22 : Tryd.prog.underlying 22 = some (.slice 67) := by kernel_rfl
theorem wr9_ty67 : ∃ fs, Tryd.prog.underlying 67 = some (.struct fs) := struct_of (by kernel_rfl)
theorem wr9_lh22 (c0 c1 c2 c3 c4 c5 c6 c7 c8 c9 c10 c11 c12 c13 c14 c15 c16 c17 c18 c19 c20 c21 c22 c23 c24 c25 c26 c27 c28 c29 c30 c31 c32 c33 c34 c35 c36 c37 c38 c39 c40 c41 c42 c43 c44 c45 c46 c47 c48 c49 c50 c51 c52 c53 c54 c55 c56 c57 c58 c59 c60 c61 c62 c63 c64 c65 : Value) (w : World) : (Instr.buildSlice 22 1 #[(0, .agg #[c0, c1, c2, c3, c4, c5, c6, c7, c8, c9, c10, c11, c12, c13, c14, c15, c16, c17, c18, c19, c20, c21, c22, c23, c24, c25, c26, c27, c28, c29, c30, c31, c32, c33, c34, c35, c36, c37, c38, c39, c40, c41, c42, c43, c44, c45, c46, c47, c48, c49, c50, c51, c52, c53, c54, c55, c56, c57, c58, c59, c60, c61, c62, c63, c64, c65])]).run Tryd.prog w = .ok (.slice (some ⟨w.heap.size, 0, none⟩) 1 1) (w.alloc (.cells #[c0, c1, c2, c3, c4, c5, c6, c7, c8, c9, c10, c11, c12, c13, c14, c15, c16, c17, c18, c19, c20, c21, c22, c23, c24, c25, c26, c27, c28, c29, c30, c31, c32, c33, c34, c35, c36, c37, c38, c39, c40, c41, c42, c43, c44, c45, c46, c47, c48, c49, c50, c51, c52, c53, c54, c55, c56, c57, c58, c59, c60, c61, c62, c63, c64, c65] 67)) := by kernel_rfl
theorem wr9_lg22 : ∀ (cs : Array Value), cs.size = 66 → ∀ w : World, (Instr.buildSlice 22 1 #[(0, .agg cs)]).run Tryd.prog w = .ok (.slice (some ⟨w.heap.size, 0, none⟩) 1 1) (w.alloc (.cells cs 67))
 | ⟨c0 :: c1 :: c2 :: c3 :: c4 :: c5 :: c6 :: c7 :: c8 :: c9 :: c10 :: c11 :: c12 :: c13 :: c14 :: c15 :: c16 :: c17 :: c18 :: c19 :: c20 :: c21 :: c22 :: c23 :: c24 :: c25 :: c26 :: c27 :: c28 :: c29 :: c30 :: c31 :: c32 :: c33 :: c34 :: c35 :: c36 :: c37 :: c38 :: c39 :: c40 :: c41 :: c42 :: c43 :: c44 :: c45 :: c46 :: c47 :: c48 :: c49 :: c50 :: c51 :: c52 :: c53 :: c54 :: c55 :: c56 :: c57 :: c58 :: c59 :: c60 :: c61 :: c62 :: c63 :: c64 :: c65 :: []⟩, _, w => wr9_lh22 c0 c1 c2 c3 c4 c5 c6 c7 c8 c9 c10 c11 c12 c13 c14 c15 c16 c17 c18 c19 c20 c21 c22 c23 c24 c25 c26 c27 c28 c29 c30 c31 c32 c33 c34 c35 c36 c37 c38 c39 c40 c41 c42 c43 c44 c45 c46 c47 c48 c49 c50 c51 c52 c53 c54 c55 c56 c57 c58 c59 c60 c61 c62 c63 c64 c65 w
theorem wr9_ig67 : ∃ z, (Tryd.prog.info? 67).map (fun i => (i.zero, i.size, i.bytes)) = some (some z, 66, 88) ∧ z.cells.size = 66 := info_ex (by kernel_rfl)
theorem wr9_isz22 : (Tryd.prog.info? 22).map (·.size) = some 1 := by kernel_rfl
theorem wr9_fo29_3 : FieldOff Tryd.prog 29 3 3 := fun b o w => by simp [go_sem]
theorem wr9_ty23 : Tryd.prog.underlying 23 = some (.slice 25) := by kernel_rfl
theorem wr9_lh23 (c0 c1 c2 c3 c4 c5 c6 c7 c8 c9 c10 c11 c12 c13 c14 c15 c16 c17 c18 c19 c20 c21 c22 c23 c24 c25 c26 c27 c28 c29 c30 c31 : Value) (w : World) : (Instr.buildSlice 23 1 #[(0, .agg #[c0, c1, c2, c3, c4, c5, c6, c7, c8, c9, c10, c11, c12, c13, c14, c15, c16, c17, c18, c19, c20, c21, c22, c23, c24, c25, c26, c27, c28, c29, c30, c31])]).run Tryd.prog w = .ok (.slice (some ⟨w.heap.size, 0, none⟩) 1 1) (w.alloc (.cells #[c0, c1, c2, c3, c4, c5, c6, c7, c8, c9, c10, c11, c12, c13, c14, c15, c16, c17, c18, c19, c20, c21, c22, c23, c24, c25, c26, c27, c28, c29, c30, c31] 25)) := by kernel_rfl
theorem wr9_lg23 : ∀ (cs : Array Value), cs.size = 32 → ∀ w : World, (Instr.buildSlice 23 1 #[(0, .agg cs)]).run Tryd.prog w = .ok (.slice (some ⟨w.heap.size, 0, none⟩) 1 1) (w.alloc (.cells cs 25))
 | ⟨[c0, c1, c2, c3, c4, c5, c6, c7, c8, c9, c10, c11, c12, c13, c14, c15, c16, c17, c18, c19, c20, c21, c22, c23, c24, c25, c26, c27, c28, c29, c30, c31]⟩, _, w => wr9_lh23 c0 c1 c2 c3 c4 c5 c6 c7 c8 c9 c10 c11 c12 c13 c14 c15 c16 c17 c18 c19 c20 c21 c22 c23 c24 c25 c26 c27 c28 c29 c30 c31 w
theorem wr9_ig25 : ∃ z, (Tryd.prog.info? 25).map (fun i => (i.zero, i.size, i.bytes)) = some (some z, 32, 32) ∧ z.cells.size = 32 := info_ex (by kernel_rfl)
theorem wr9_isz23 : (Tryd.prog.info? 23).map (·.size) = some 1 := by kernel_rfl
theorem wr9_fo29_4 : FieldOff Tryd.prog 29 4 4 := fun b o w => by simp [go_sem]
set_option maxHeartbeats 1600000
theorem clo1_any {w0 w : World} {r m g n : Nat} {v : Value} {b : Bs} {p : Parts} {i : Nat} {X : MsgV} (C : RC w0 r m g n v b) (hS : RS w0 r m g n v b p w i X) (ho : OG w0.heap.size 67 66 updC w X.2.refs X.1.refs) (hlw : X.1.refs.length ≤ 1000000) (ap : Ap4 X.2.refs r m g n) :
  Calls Tryd.prog 112 #[PQ g 0, PQ m 0] w fun e w' => (∃ x, e = .returned x ∧ x = .tuple #[] ∧ ∃ c j vw, updP b i = some (c, j) ∧ RS w0 r m g n v b p w' j (({ X.1 with refs := X.1.refs ++ [c] }, { X.2 with refs := vw }) : MsgV) ∧ OG w0.heap.size 67 66 updC w' vw (X.1.refs ++ [c]) ∧ Ap4 vw r m g n) ∨ ∃ ch, e = .panicked ch ∧ updP b i = none ∧ ch = [stopW] ∧ Ext w0 w' := by
 obtain ⟨hr, lr, lm, lg, ln, hrm, hrg, hrn, hmg, hmn, hgn, hl⟩ := C
 obtain ⟨hb, hm, hg, hn, hE0, hi⟩ := hS
 have hlr := (bl hb)
 have hlm := (bl hm)
 have hlg := (bl hg)
 have hln := (bl hn)
 have hapr : b = [] ∨ OB v r := by
   rcases b with _ | ⟨b0, b1⟩
   ·exact .inl rfl
   ·exact .inr fun e => by have := RB.lt hr (by simp) e; omega
 refine calls_of_wpP (args := [PQ g 0, PQ m 0]) Tryd.func112 rfl 18 rfl (Nat.le_of_ble_eq_true rfl) ?_
 intro ρ0 hb
 have T0 : ρ0 0 = (PQ g 0 : Value) := hb.get 0
 have T1 : ρ0 1 = (PQ m 0 : Value) := hb.get 1
 clear hb
 have hE := Ext.refl w
 refine sk fun K1 hK1 => (wt (oS rfl (Yk.cell1 wr9_ty109 rfl T0 (cellAt hg (show _ = some (PQ r 0 : Value) from rfl)) (oP rfl (Yp.callA1 wr9_pl108 (vr (PQ r 0) rfl) ?_)))))
 refine calls_either (byte_any _ r v b i hb (hr.keep hE0) hapr hi hl) ?_ ?_
 rotate_left
 ·
  rintro ch w4 ⟨hPx, rfl, hgx⟩
  refine thenF_panic (postP_panic ?_)
  exact .inr ⟨_, rfl, by simp only [updP, hPx, Option.bind_some, Option.bind_none], rfl, row_fresh hE0 hgx lr⟩
 rintro v_ w6 ⟨c1, j1, hP1, rfl, hb2, hg3⟩
 have hE0 := row_fresh hE0 hg3 (Nat.le_trans (Nat.le_refl _) lr)
 clear hb
 have hm := kb hg3 hm (by omega)
 have hg := kb hg3 hg (by omega)
 have hn := kb hg3 hn (by omega)
 have ho := OG.kept ho hg3 ap.r
 clear hE
 have hb := hb2; clear hb2
 have hle_j1 := byteP_le hP1
 have hl7 := bl hb
 refine oS rfl (Yk.build1 (vr (B8 (c1)) rfl) (fun w => wr9_bs67_0 c1 w) (oS rfl (Yk.alloc (cs := (updC (⟨0, [], zid, zid⟩ : Upd)).toArray) wr9_al67 fun n8 w9 hn10 hb11 hx12 hs13 => ?_)))
 have hA14 := Ext.refl w6
 have hea15 := hE0
 have hz16 := hE0.size
 have hlt17 := lte (bl hm) hn10
 have hlt18 := lte (bl hg) hn10
 have hlt19 := lte (bl hn) hn10
 have hlt20 := lte (bl hb) hn10
 have hap21 : OB X.2.refs n8 := own_newer ho.2 (by omega)
 have hE0 := hE0.trans hx12
 have hm := eb hx12 hm
 have hg := eb hx12 hg
 have hn := eb hx12 hn
 have ho := ho.keep hx12
 have hb := eb hx12 hb
 have hA14 := hA14.trans hx12
 have hb22 := hb11; clear hb11
 have hl23 : n8 < w9.heap.size := by omega
 refine oS rfl (Yk.storeAll (vr (PQ n8 0) rfl) (vr (.agg (updC (⟨c1, [], zid, zid⟩ : Upd)).toArray) rfl) hb22 (by simp only [List.size_toArray, upd_len]) (st_isz (upd_len _) wr9_isz67) (upd_one (x := (⟨c1, [], zid, zid⟩ : Upd))) fun w24 hb25 hg26 hs27 => ?_)
 have hE0 := row_fresh hE0 hg26 (Nat.le_trans hz16 (by omega))
 have hm := kb hg26 hm (by omega)
 have hg := kb hg26 hg (by omega)
 have hn := kb hg26 hn (by omega)
 have ho := OG.kept ho hg26 hap21
 have hb := kb hg26 hb (by omega)
 have hA14 := row_fresh hA14 hg26 (Nat.le_trans (Nat.le_refl _) (by omega))
 clear hb22
 have hb22 : w24.heap[n8]? = some (.cells (updC (⟨c1, [], zid, zid⟩ : Upd)).toArray 67 (0, 0)) := hb25; clear hb25
 have hl28 := bl hb22
 refine oZ (tN (hK1 _ _ (sk fun K29 hK29 => (wt (oS rfl (Yk.cell1 wr9_ty109 rfl T0 (cellAt hg (show _ = some (PQ r 0 : Value) from rfl)) (oP rfl (Yp.callA2 wr9_pl113 (vr (PQ r 0) rfl) (vr (NI 32) rfl) ?_))))))))
 refine calls_either (textW_any _ r v b j1 hb (hr.keep hE0) hapr hle_j1 hl 32) ?_ ?_
 rotate_left
 ·
  rintro ch w32 ⟨hPx, rfl, hgx⟩
  refine thenF_panic (postP_panic ?_)
  exact .inr ⟨_, rfl, by simp only [updP, hP1, hPx, Option.bind_some, Option.bind_none], rfl, row_fresh hE0 hgx lr⟩
 rintro v_ w34 ⟨c2, j2, hP2, rfl, hb30, hg31⟩
 have hE0 := row_fresh hE0 hg31 (Nat.le_trans (Nat.le_refl _) lr)
 have hm := kb hg31 hm (by omega)
 have hg := kb hg31 hg (by omega)
 have hn := kb hg31 hn (by omega)
 have ho := OG.kept ho hg31 ap.r
 clear hb
 clear hA14
 have hb22 := kb hg31 hb22 (by omega)
 have hb := hb30; clear hb30
 have hle_j2 :=   (txtP_le hP2).1
 have hl35 := bl hb
 refine oS rfl (Yk.fieldAt wr9_fo67_1 (vr (PQ n8 0) rfl) (oS rfl (Yk.storeC (i := 1) (v := St (c2)) (vr (PQ n8 1) rfl) (vr (St (c2)) rfl) hb22 (by rw [upd_len]; decide) wr9_isz9 rfl rfl fun w36 hb37 hg38 hs39 => ?_)))
 have hE0 := row_fresh hE0 hg38 (Nat.le_trans hz16 (by omega))
 have hm := kb hg38 hm (by omega)
 have hg := kb hg38 hg (by omega)
 have hn := kb hg38 hn (by omega)
 have ho := OG.kept ho hg38 hap21
 clear hb22
 have hb := kb hg38 hb (by omega)
 have hb22 : w36.heap[n8]? = some (.cells (updC (⟨c1, c2, zid, zid⟩ : Upd)).toArray 67 (0, 0)) := blk_eq hb37 (upd_s1 (⟨c1, [], zid, zid⟩ : Upd) c2); clear hb37
 have hl40 := bl hb22
 refine oZ (tN (hK29 _ _ (sk fun K41 hK41 => (wt (oS rfl (Yk.cell1 wr9_ty109 rfl T0 (cellAt hg (show _ = some (PQ r 0 : Value) from rfl)) (oP rfl (Yp.callA1 wr9_pl114 (vr (PQ r 0) rfl) ?_))))))))
 refine calls_either (idW_any _ r v b j2 hb (hr.keep hE0) hapr hle_j2 hl) ?_ ?_
 rotate_left
 ·
  rintro ch w44 ⟨hPx, rfl, hgx⟩
  refine thenF_panic (postP_panic ?_)
  exact .inr ⟨_, rfl, by simp only [updP, hP1, hP2, hPx, Option.bind_some, Option.bind_none], rfl, row_fresh hE0 hgx lr⟩
 rintro v_ w46 ⟨c3, j3, hP3, rfl, hb42, hg43⟩
 have hE0 := row_fresh hE0 hg43 (Nat.le_trans (Nat.le_refl _) lr)
 have hm := kb hg43 hm (by omega)
 have hg := kb hg43 hg (by omega)
 have hn := kb hg43 hn (by omega)
 have ho := OG.kept ho hg43 ap.r
 clear hb
 have hb22 := kb hg43 hb22 (by omega)
 have hb := hb42; clear hb42
 have hle_j3 := idP_le hP3
 have hl47 := bl hb
 refine oS rfl (Yk.fieldAt wr9_fo67_3 (vr (PQ n8 0) rfl) (oS rfl (Yk.storeMid (a := upd_a3 (⟨c1, c2, zid, zid⟩ : Upd)) (m := Lib.byteCells zid.1) (z := upd_z3 (⟨c1, c2, zid, zid⟩ : Upd)) (cells := Lib.byteCells c3.1) (vr (PQ n8 34) rfl) (vr (AB c3.1) rfl) (upd_m3 (⟨c1, c2, zid, zid⟩ : Upd) ▸ hb22) (upd_n3 (⟨c1, c2, zid, zid⟩ : Upd)) (by rw [Lib.byteCells_length, Lib.byteCells_length, zid.2, c3.2]) (by rw [Lib.byteCells_length, c3.2]; exact wr9_isz25) (byteCells_one _) fun w48 hb49 hg50 hs51 => ?_)))
 have hE0 := row_fresh hE0 hg50 (Nat.le_trans hz16 (by omega))
 have hm := kb hg50 hm (by omega)
 have hg := kb hg50 hg (by omega)
 have hn := kb hg50 hn (by omega)
 have ho := OG.kept ho hg50 hap21
 clear hb22
 have hb := kb hg50 hb (by omega)
 have hb22 : w48.heap[n8]? = some (.cells (updC (⟨c1, c2, zid, c3⟩ : Upd)).toArray 67 (0, 0)) := blk_eq hb49 (upd_s3 (⟨c1, c2, zid, zid⟩ : Upd) c3); clear hb49
 have hl52 := bl hb22
 refine oZ (tN (hK41 _ _ (wt (oS rfl (Yk.fieldAt wr9_fo29_2 T1 (oS rfl (Yk.cell1 wr9_ty22 rfl (vr (PQ m 2) rfl) (cellAt hm (show (msgC X)[2]? = some (X.2.refs : Value) from msg_g2 X)) (oS rfl (Yk.loadAll (vr (PQ n8 0) rfl) hb22 (wr9_ty67).choose_spec rfl (st_isz (upd_len (⟨c1, c2, zid, c3⟩ : Upd)) wr9_isz67) (oS rfl (Yk.lit1G (a := (⟨c1, c2, zid, c3⟩ : Upd)) (enc := updC) (vr (.agg (updC (⟨c1, c2, zid, c3⟩ : Upd)).toArray) rfl) (upd_len _) wr9_lg22 fun v53 w54 hr55 hx56 => ?_)))))))))))
 have hE0 := hE0.trans hx56
 have hm := eb hx56 hm
 have hg := eb hx56 hg
 have hn := eb hx56 hn
 have ho := ho.keep hx56
 have hb := eb hx56 hb
 have hb22 := eb hx56 hb22
 refine oS rfl (Yk.appendRG _ _ w0.heap.size _ 88 wr9_ty22 wr9_ig67.choose_spec.1 wr9_ig67.choose_spec.2 wr9_ty22 (X.1.refs) ([(⟨c1, c2, zid, c3⟩ : Upd)]) (OG.of ho (vr X.2.refs rfl)) (RG.of hr55 (vr v53 rfl)) (fun _ _ => upd_one) (by simp only [List.length_cons, List.length_nil]; omega) (by simp only [List.length_cons, List.length_nil]; omega) hE0.size fun v57 w58 ho59 hg60 => ?_)
 have hg60 : Grew w54 w58 X.2.refs v57 := hg60
 have hap61 : OB v57 r := apart_grew hg60 ap.r (bl hb)
 have hap62 : OB v57 m := apart_grew hg60 ap.m (bl hm)
 have hap63 : OB v57 g := apart_grew hg60 ap.g (bl hg)
 have hap64 : OB v57 n := apart_grew hg60 ap.n (bl hn)
 have hap65 : OB v57 n8 := apart_grew hg60 hap21 (bl hb22)
 have hE0 := ext_grew hE0 hg60 ho.2 (Nat.le_refl _)
 have hm := blk_grew hm hg60 ap.m
 have hg := blk_grew hg hg60 ap.g
 have hn := blk_grew hn hg60 ap.n
 clear ho
 have hb := blk_grew hb hg60 ap.r
 have hb22 := blk_grew hb22 hg60 hap21
 clear hr55
 refine oS rfl (Yk.fieldAt wr9_fo29_2 T1 (oS rfl (Yk.storeC (i := 2) (v := v57) (vr (PQ m 2) rfl) (vr v57 rfl) hm (by rw [msg_len]; decide) wr9_isz22 (RG.one (RG.ofOwn ho59)).1 (RG.one (RG.ofOwn ho59)).2 fun w66 hb67 hg68 hs69 => ?_)))
 have hE0 := row_fresh hE0 hg68 (Nat.le_trans (Nat.le_refl _) (by omega))
 clear hm
 have hg := kb hg68 hg (by omega)
 have hn := kb hg68 hn (by omega)
 have hb := kb hg68 hb (by omega)
 have hb22 := kb hg68 hb22 (by omega)
 have ho59 := OG.kept ho59 hg68 hap62
 have hm : w66.heap[m]? = some (.cells (msgC ((⟨X.1.kind, X.1.session, (X.1.refs) ++ [(⟨c1, c2, zid, c3⟩ : Upd)], X.1.wants, X.1.haves, X.1.size, X.1.at_, X.1.id, X.1.bytes, X.1.name, X.1.old, X.1.new, X.1.force, X.1.code⟩, ⟨v57, X.2.wants, X.2.haves, X.2.bytes⟩) : MsgV)).toArray 29 (0, 0)) := blk_eq hb67 (msg_s2 X v57 ((X.1.refs) ++ [(⟨c1, c2, zid, c3⟩ : Upd)])); clear hb67
 have hl70 := bl hm
 refine oZ (postP_end (fn := Tryd.f112) [] rfl [] (.tuple #[]) rfl trivial ?_)
 exact .inl ⟨_, rfl, rfl, ⟨c1, c2, zid, c3⟩, j3, v57, by simp only [updP, hP1, hP2, hP3, Option.bind_some], ⟨hb, hm, hg, hn, hE0, hle_j3⟩, ho59, ⟨hap61, hap62, hap63, hap64⟩⟩

theorem clo2_any {w0 w : World} {r m g n : Nat} {v : Value} {b : Bs} {p : Parts} {i : Nat} {X : MsgV} (C : RC w0 r m g n v b) (hS : RS w0 r m g n v b p w i X) (ho : OG w0.heap.size 25 32 Lib.byteCells w X.2.wants X.1.wants) (hlw : X.1.wants.length ≤ 1000000) (ap : Ap4 X.2.wants r m g n) :
  Calls Tryd.prog 115 #[PQ m 0, PQ g 0] w fun e w' => (∃ x, e = .returned x ∧ x = .tuple #[] ∧ ∃ c j vw, idP b i = some (c, j) ∧ RS w0 r m g n v b p w' j (({ X.1 with wants := X.1.wants ++ [c.1] }, { X.2 with wants := vw }) : MsgV) ∧ OG w0.heap.size 25 32 Lib.byteCells w' vw (X.1.wants ++ [c.1]) ∧ Ap4 vw r m g n) ∨ ∃ ch, e = .panicked ch ∧ idP b i = none ∧ ch = [stopW] ∧ Ext w0 w' := by
 obtain ⟨hr, lr, lm, lg, ln, hrm, hrg, hrn, hmg, hmn, hgn, hl⟩ := C
 obtain ⟨hb, hm, hg, hn, hE0, hi⟩ := hS
 have hlr := (bl hb)
 have hlm := (bl hm)
 have hlg := (bl hg)
 have hln := (bl hn)
 have hapr : b = [] ∨ OB v r := by
   rcases b with _ | ⟨b0, b1⟩
   ·exact .inl rfl
   ·exact .inr fun e => by have := RB.lt hr (by simp) e; omega
 refine calls_of_wpP (args := [PQ m 0, PQ g 0]) Tryd.func115 rfl 9 rfl (Nat.le_of_ble_eq_true rfl) ?_
 intro ρ0 hb
 have T0 : ρ0 0 = (PQ m 0 : Value) := hb.get 0
 have T1 : ρ0 1 = (PQ g 0 : Value) := hb.get 1
 clear hb
 have hE := Ext.refl w
 have hx1 : Ext w (World.drew w) := (Below.refl _ _).drew
 have hE0 := hE0.trans hx1
 have hb := eb hx1 hb
 have hm := eb hx1 hm
 have hg := eb hx1 hg
 have hn := eb hx1 hn
 have ho := ho.keep hx1
 have hE := hE.trans hx1
 refine wpF_floatE [(0, 2, PQ m 3), (1, 3, X.2.wants), (2, 4, PQ r 0), (6, 8, PQ m 3)] [3, 4, 5, 7] (fun wz => Ext w0 wz ∧ wz.heap[m]? = some (.cells (msgC X).toArray 29 (0, 0)) ∧ wz.heap[g]? = some (.cells ([PQ r 0]).toArray 109 (0, 0)) ∧ wz.heap[n]? = some (.cells (partsC p).toArray 92 (0, 0)) ∧ True) (fun _ _ ⟨hE0, hm, hg, hn, _⟩ k => ⟨(hE0.trans k), (eb k hm), (eb k hg), (eb k hn), trivial⟩) (by kernel_rfl) (by kernel_rfl) (by kernel_rfl) ⟨hE0, hm, hg, hn, trivial⟩ ⟨fun w2 ⟨hE0, hm, hg, hn, _⟩ => Yk.fieldAt wr9_fo29_3 T0 ⟨rfl, Ext.refl _⟩, fun w2 ⟨hE0, hm, hg, hn, _⟩ => Yk.cell1 wr9_ty23 rfl (vr (PQ m 3) rfl) (cellAt hm (show (msgC X)[3]? = some (X.2.wants : Value) from msg_g3 X)) ⟨rfl, Ext.refl _⟩, fun w2 ⟨hE0, hm, hg, hn, _⟩ => Yk.cell1 wr9_ty109 rfl T1 (cellAt hg (show _ = some (PQ r 0 : Value) from rfl)) ⟨rfl, Ext.refl _⟩, fun w2 ⟨hE0, hm, hg, hn, _⟩ => Yk.fieldAt wr9_fo29_3 T0 ⟨rfl, Ext.refl _⟩, trivial⟩ (chX_step rfl fun w3 hx4 => ?_)
 have hE0 := hE0.trans hx4
 have hb := eb hx4 hb
 have hm := eb hx4 hm
 have hg := eb hx4 hg
 have hn := eb hx4 hn
 have ho := ho.keep hx4
 have hE := hE.trans hx4
 refine chX_p (Yp.callA1 wr9_pl114 (vr (PQ r 0) rfl) ?_)
 refine calls_either (idW_any _ r v b i hb (hr.keep hE0) hapr hi hl) ?_ ?_
 rotate_left
 ·
  rintro ch w7 ⟨hPx, rfl, hgx⟩
  intro _
  refine postP_panic ?_
  exact .inr ⟨_, rfl, hPx, rfl, row_fresh hE0 hgx lr⟩
 rintro v_ w9 ⟨c, j, hP, rfl, hb5, hg6⟩
 have hE0 := row_fresh hE0 hg6 (Nat.le_trans (Nat.le_refl _) lr)
 clear hb
 have hm := kb hg6 hm (by omega)
 have hg := kb hg6 hg (by omega)
 have hn := kb hg6 hn (by omega)
 have ho := OG.kept ho hg6 ap.r
 clear hE
 have hb := hb5; clear hb5
 have hle_j := idP_le hP
 have hl10 := bl hb
 refine ⟨.inr ⟨hE0, hm, hg, hn, trivial⟩, ?_⟩
 refine chX_step rfl fun w11 hx12 => ?_
 have hE0 := hE0.trans hx12
 have hm := eb hx12 hm
 have hg := eb hx12 hg
 have hn := eb hx12 hn
 have ho := ho.keep hx12
 have hb := eb hx12 hb
 refine chX_go (Yk.lit1G (a := (c.1)) (enc := Lib.byteCells) (vr (AB c.1) rfl) (by rw [Lib.byteCells_length]; exact c.2) wr9_lg23 fun v13 w14 hr15 hx16 => ?_)
 have hE0 := hE0.trans hx16
 have hm := eb hx16 hm
 have hg := eb hx16 hg
 have hn := eb hx16 hn
 have ho := ho.keep hx16
 have hb := eb hx16 hb
 refine ⟨.inr ⟨hE0, hm, hg, hn, trivial⟩, ?_⟩
 refine chX_step rfl fun w17 hx18 => ?_
 have hE0 := hE0.trans hx18
 have hm := eb hx18 hm
 have hg := eb hx18 hg
 have hn := eb hx18 hn
 have ho := ho.keep hx18
 have hb := eb hx18 hb
 have hr15 := hr15.keep hx18
 refine chX_go (Yk.appendRG _ _ w0.heap.size _ 32 wr9_ty23 wr9_ig25.choose_spec.1 wr9_ig25.choose_spec.2 wr9_ty23 (X.1.wants) ([(c.1)]) (OG.of ho (vr X.2.wants rfl)) (RG.of hr15 (vr v13 rfl)) (fun _ _ => byteCells_one _) (by simp only [List.length_cons, List.length_nil]; omega) (by simp only [List.length_cons, List.length_nil]; omega) hE0.size fun v19 w20 ho21 hg22 => ?_)
 have hg22 : Grew w17 w20 X.2.wants v19 := hg22
 have hap23 : OB v19 r := apart_grew hg22 ap.r (bl hb)
 have hap24 : OB v19 m := apart_grew hg22 ap.m (bl hm)
 have hap25 : OB v19 g := apart_grew hg22 ap.g (bl hg)
 have hap26 : OB v19 n := apart_grew hg22 ap.n (bl hn)
 have hE0 := ext_grew hE0 hg22 ho.2 (Nat.le_refl _)
 have hm := blk_grew hm hg22 ap.m
 have hg := blk_grew hg hg22 ap.g
 have hn := blk_grew hn hg22 ap.n
 clear ho
 have hb := blk_grew hb hg22 ap.r
 clear hr15
 refine ⟨.inr ⟨hE0, hm, hg, hn, trivial⟩, ?_⟩
 refine chX_step rfl fun w27 hx28 => ?_
 have hE0 := hE0.trans hx28
 have hm := eb hx28 hm
 have hg := eb hx28 hg
 have hn := eb hx28 hn
 have hb := eb hx28 hb
 have ho21 := ho21.keep hx28
 refine chX_go (Yk.storeC (i := 3) (v := v19) (vr (PQ m 3) rfl) (vr v19 rfl) hm (by rw [msg_len]; decide) wr9_isz23 (RG.one (RG.ofOwn ho21)).1 (RG.one (RG.ofOwn ho21)).2 fun w29 hb30 hg31 hs32 => ?_)
 have hE0 := row_fresh hE0 hg31 (Nat.le_trans (Nat.le_refl _) (by omega))
 clear hm
 have hg := kb hg31 hg (by omega)
 have hn := kb hg31 hn (by omega)
 have hb := kb hg31 hb (by omega)
 have ho21 := OG.kept ho21 hg31 hap24
 have hm : w29.heap[m]? = some (.cells (msgC ((⟨X.1.kind, X.1.session, X.1.refs, (X.1.wants) ++ [(c.1)], X.1.haves, X.1.size, X.1.at_, X.1.id, X.1.bytes, X.1.name, X.1.old, X.1.new, X.1.force, X.1.code⟩, ⟨X.2.refs, v19, X.2.haves, X.2.bytes⟩) : MsgV)).toArray 29 (0, 0)) := blk_eq hb30 (msg_s3 X v19 ((X.1.wants) ++ [(c.1)])); clear hb30
 have hl33 := bl hm
 refine ⟨.inl rfl, ?_⟩
 refine chX_nil (postP_end (fn := Tryd.f115) [] rfl [] (.tuple #[]) rfl trivial ?_)
 exact .inl ⟨_, rfl, rfl, c, j, v19, hP, ⟨hb, hm, hg, hn, hE0, hle_j⟩, ho21, ⟨hap23, hap24, hap25, hap26⟩⟩

theorem clo3_any {w0 w : World} {r m g n : Nat} {v : Value} {b : Bs} {p : Parts} {i : Nat} {X : MsgV} (C : RC w0 r m g n v b) (hS : RS w0 r m g n v b p w i X) (ho : OG w0.heap.size 25 32 Lib.byteCells w X.2.haves X.1.haves) (hlw : X.1.haves.length ≤ 1000000) (ap : Ap4 X.2.haves r m g n) (hq : OG w0.heap.size 25 32 Lib.byteCells w X.2.wants X.1.wants) (qp : Ap4 X.2.wants r m g n) (aq : ApartV X.2.haves X.2.wants) (qa : ApartV X.2.wants X.2.haves) :
  Calls Tryd.prog 116 #[PQ m 0, PQ g 0] w fun e w' => (∃ x, e = .returned x ∧ x = .tuple #[] ∧ ∃ c j vw, idP b i = some (c, j) ∧ RS w0 r m g n v b p w' j (({ X.1 with haves := X.1.haves ++ [c.1] }, { X.2 with haves := vw }) : MsgV) ∧ OG w0.heap.size 25 32 Lib.byteCells w' vw (X.1.haves ++ [c.1]) ∧ Ap4 vw r m g n ∧ OG w0.heap.size 25 32 Lib.byteCells w' X.2.wants X.1.wants ∧ ApartV vw X.2.wants ∧ ApartV X.2.wants vw) ∨ ∃ ch, e = .panicked ch ∧ idP b i = none ∧ ch = [stopW] ∧ Ext w0 w' := by
 obtain ⟨hr, lr, lm, lg, ln, hrm, hrg, hrn, hmg, hmn, hgn, hl⟩ := C
 obtain ⟨hb, hm, hg, hn, hE0, hi⟩ := hS
 have hlr := (bl hb)
 have hlm := (bl hm)
 have hlg := (bl hg)
 have hln := (bl hn)
 have hapr : b = [] ∨ OB v r := by
   rcases b with _ | ⟨b0, b1⟩
   ·exact .inl rfl
   ·exact .inr fun e => by have := RB.lt hr (by simp) e; omega
 refine calls_of_wpP (args := [PQ m 0, PQ g 0]) Tryd.func116 rfl 9 rfl (Nat.le_of_ble_eq_true rfl) ?_
 intro ρ0 hb
 have T0 : ρ0 0 = (PQ m 0 : Value) := hb.get 0
 have T1 : ρ0 1 = (PQ g 0 : Value) := hb.get 1
 clear hb
 have hE := Ext.refl w
 have hx1 : Ext w (World.drew w) := (Below.refl _ _).drew
 have hE0 := hE0.trans hx1
 have hb := eb hx1 hb
 have hm := eb hx1 hm
 have hg := eb hx1 hg
 have hn := eb hx1 hn
 have ho := ho.keep hx1
 have hq := hq.keep hx1
 have hE := hE.trans hx1
 refine wpF_floatE [(0, 2, PQ m 4), (1, 3, X.2.haves), (2, 4, PQ r 0), (6, 8, PQ m 4)] [3, 4, 5, 7] (fun wz => Ext w0 wz ∧ wz.heap[m]? = some (.cells (msgC X).toArray 29 (0, 0)) ∧ wz.heap[g]? = some (.cells ([PQ r 0]).toArray 109 (0, 0)) ∧ wz.heap[n]? = some (.cells (partsC p).toArray 92 (0, 0)) ∧ True) (fun _ _ ⟨hE0, hm, hg, hn, _⟩ k => ⟨(hE0.trans k), (eb k hm), (eb k hg), (eb k hn), trivial⟩) (by kernel_rfl) (by kernel_rfl) (by kernel_rfl) ⟨hE0, hm, hg, hn, trivial⟩ ⟨fun w2 ⟨hE0, hm, hg, hn, _⟩ => Yk.fieldAt wr9_fo29_4 T0 ⟨rfl, Ext.refl _⟩, fun w2 ⟨hE0, hm, hg, hn, _⟩ => Yk.cell1 wr9_ty23 rfl (vr (PQ m 4) rfl) (cellAt hm (show (msgC X)[4]? = some (X.2.haves : Value) from msg_g4 X)) ⟨rfl, Ext.refl _⟩, fun w2 ⟨hE0, hm, hg, hn, _⟩ => Yk.cell1 wr9_ty109 rfl T1 (cellAt hg (show _ = some (PQ r 0 : Value) from rfl)) ⟨rfl, Ext.refl _⟩, fun w2 ⟨hE0, hm, hg, hn, _⟩ => Yk.fieldAt wr9_fo29_4 T0 ⟨rfl, Ext.refl _⟩, trivial⟩ (chX_step rfl fun w3 hx4 => ?_)
 have hE0 := hE0.trans hx4
 have hb := eb hx4 hb
 have hm := eb hx4 hm
 have hg := eb hx4 hg
 have hn := eb hx4 hn
 have ho := ho.keep hx4
 have hq := hq.keep hx4
 have hE := hE.trans hx4
 refine chX_p (Yp.callA1 wr9_pl114 (vr (PQ r 0) rfl) ?_)
 refine calls_either (idW_any _ r v b i hb (hr.keep hE0) hapr hi hl) ?_ ?_
 rotate_left
 ·
  rintro ch w7 ⟨hPx, rfl, hgx⟩
  intro _
  refine postP_panic ?_
  exact .inr ⟨_, rfl, hPx, rfl, row_fresh hE0 hgx lr⟩
 rintro v_ w9 ⟨c, j, hP, rfl, hb5, hg6⟩
 have hE0 := row_fresh hE0 hg6 (Nat.le_trans (Nat.le_refl _) lr)
 clear hb
 have hm := kb hg6 hm (by omega)
 have hg := kb hg6 hg (by omega)
 have hn := kb hg6 hn (by omega)
 have ho := OG.kept ho hg6 ap.r
 have hq := OG.kept hq hg6 qp.r
 clear hE
 have hb := hb5; clear hb5
 have hle_j := idP_le hP
 have hl10 := bl hb
 refine ⟨.inr ⟨hE0, hm, hg, hn, trivial⟩, ?_⟩
 refine chX_step rfl fun w11 hx12 => ?_
 have hE0 := hE0.trans hx12
 have hm := eb hx12 hm
 have hg := eb hx12 hg
 have hn := eb hx12 hn
 have ho := ho.keep hx12
 have hq := hq.keep hx12
 have hb := eb hx12 hb
 refine chX_go (Yk.lit1G (a := (c.1)) (enc := Lib.byteCells) (vr (AB c.1) rfl) (by rw [Lib.byteCells_length]; exact c.2) wr9_lg23 fun v13 w14 hr15 hx16 => ?_)
 have hE0 := hE0.trans hx16
 have hm := eb hx16 hm
 have hg := eb hx16 hg
 have hn := eb hx16 hn
 have ho := ho.keep hx16
 have hq := hq.keep hx16
 have hb := eb hx16 hb
 refine ⟨.inr ⟨hE0, hm, hg, hn, trivial⟩, ?_⟩
 refine chX_step rfl fun w17 hx18 => ?_
 have hE0 := hE0.trans hx18
 have hm := eb hx18 hm
 have hg := eb hx18 hg
 have hn := eb hx18 hn
 have ho := ho.keep hx18
 have hq := hq.keep hx18
 have hb := eb hx18 hb
 have hr15 := hr15.keep hx18
 refine chX_go (Yk.appendRG _ _ w0.heap.size _ 32 wr9_ty23 wr9_ig25.choose_spec.1 wr9_ig25.choose_spec.2 wr9_ty23 (X.1.haves) ([(c.1)]) (OG.of ho (vr X.2.haves rfl)) (RG.of hr15 (vr v13 rfl)) (fun _ _ => byteCells_one _) (by simp only [List.length_cons, List.length_nil]; omega) (by simp only [List.length_cons, List.length_nil]; omega) hE0.size fun v19 w20 ho21 hg22 => ?_)
 have hg22 : Grew w17 w20 X.2.haves v19 := hg22
 have hap23 : OB v19 r := apart_grew hg22 ap.r (bl hb)
 have hap24 : OB v19 m := apart_grew hg22 ap.m (bl hm)
 have hap25 : OB v19 g := apart_grew hg22 ap.g (bl hg)
 have hap26 : OB v19 n := apart_grew hg22 ap.n (bl hn)
 have hap27 : ApartV v19 X.2.wants := apartv_grew hg22 aq hq.2
 have hap28 : ApartV X.2.wants v19 := fun k h1 h2 => hap27 k h2 h1
 have hE0 := ext_grew hE0 hg22 ho.2 (Nat.le_refl _)
 have hm := blk_grew hm hg22 ap.m
 have hg := blk_grew hg hg22 ap.g
 have hn := blk_grew hn hg22 ap.n
 clear ho
 have hq := og_grew hq hg22 aq
 have hb := blk_grew hb hg22 ap.r
 clear hr15
 refine ⟨.inr ⟨hE0, hm, hg, hn, trivial⟩, ?_⟩
 refine chX_step rfl fun w29 hx30 => ?_
 have hE0 := hE0.trans hx30
 have hm := eb hx30 hm
 have hg := eb hx30 hg
 have hn := eb hx30 hn
 have hq := hq.keep hx30
 have hb := eb hx30 hb
 have ho21 := ho21.keep hx30
 refine chX_go (Yk.storeC (i := 4) (v := v19) (vr (PQ m 4) rfl) (vr v19 rfl) hm (by rw [msg_len]; decide) wr9_isz23 (RG.one (RG.ofOwn ho21)).1 (RG.one (RG.ofOwn ho21)).2 fun w31 hb32 hg33 hs34 => ?_)
 have hE0 := row_fresh hE0 hg33 (Nat.le_trans (Nat.le_refl _) (by omega))
 clear hm
 have hg := kb hg33 hg (by omega)
 have hn := kb hg33 hn (by omega)
 have hq := OG.kept hq hg33 qp.m
 have hb := kb hg33 hb (by omega)
 have ho21 := OG.kept ho21 hg33 hap24
 have hm : w31.heap[m]? = some (.cells (msgC ((⟨X.1.kind, X.1.session, X.1.refs, X.1.wants, (X.1.haves) ++ [(c.1)], X.1.size, X.1.at_, X.1.id, X.1.bytes, X.1.name, X.1.old, X.1.new, X.1.force, X.1.code⟩, ⟨X.2.refs, X.2.wants, v19, X.2.bytes⟩) : MsgV)).toArray 29 (0, 0)) := blk_eq hb32 (msg_s4 X v19 ((X.1.haves) ++ [(c.1)])); clear hb32
 have hl35 := bl hm
 refine ⟨.inl rfl, ?_⟩
 refine chX_nil (postP_end (fn := Tryd.f116) [] rfl [] (.tuple #[]) rfl trivial ?_)
 exact .inl ⟨_, rfl, rfl, c, j, v19, hP, ⟨hb, hm, hg, hn, hE0, hle_j⟩, ho21, ⟨hap23, hap24, hap25, hap26⟩, hq, hap27, hap28⟩
open Go.RowKit
set_option maxRecDepth 100000
set_option linter.unusedVariables false
theorem reads1_any {w0 w : World} {r m g n : Nat} {v : Value} {b : Bs} {p : Parts} {i : Nat} {X : MsgV} (C : RC w0 r m g n v b) (hS : RS w0 r m g n v b p w i X) (h0 : X.1.refs = []) (ho : OG w0.heap.size 67 66 updC w X.2.refs X.1.refs) (ap : Ap4 X.2.refs r m g n) :
  Calls Tryd.prog 111 #[PQ r 0, NI 128, .func (.func 112) #[] #[PQ g 0, PQ m 0]] w fun e w' => (∃ x, e = .returned x ∧ x = .tuple #[] ∧ ∃ (l : List Upd) (j : Nat) (vw : Value), listP b i 128 (addUpd b) X.1.refs = some (l, j) ∧ RS w0 r m g n v b p w' j (({ X.1 with refs := l }, { X.2 with refs := vw }) : MsgV) ∧ OG w0.heap.size 67 66 updC w' vw l ∧ Ap4 vw r m g n) ∨ ∃ ch, e = .panicked ch ∧ listP b i 128 (addUpd b) X.1.refs = none ∧ ch = [stopW] ∧ Ext w0 w' := by
 have hb_ := hS.hb
 have hlr := (bl hS.hb)
 have hlm := (bl hS.hm)
 have hlg := (bl hS.hg)
 have hln := (bl hS.hn)
 have hapr : b = [] ∨ OB v r := by
  rcases b with _ | ⟨b0, b1⟩
  ·exact .inl rfl
  ·exact .inr fun e => by have := RB.lt C.hr (by simp) e; have := C.lr; omega
 refine (list1_any w r g m v b i 128 hS.hb (C.hr.keep hS.hE0) hapr hS.hi C.hl (fun q u => ∃ c j0, numP b i = some (c, j0) ∧ c ≤ 128 ∧ ∃ (l : List Upd) (j : Nat) (vw : Value), itP (addUpd b) q (X.1.refs, j0) = some (l, j) ∧ l.length = q ∧ RS w0 r m g n v b p u j (({ X.1 with refs := l }, { X.2 with refs := vw }) : MsgV) ∧ OG w0.heap.size 67 66 updC u vw l ∧ Ap4 vw r m g n) (fun u => listP b i 128 (addUpd b) X.1.refs = none ∧ Ext w0 u) (fun c j0 w' hP hc hb' hgr => ?_) (fun c j0 q u hP hq ⟨c', j0', hP', hc', l, j, vw, hit, hll, hS', ho', ap'⟩ => ?_) (fun w' hn hgr => ⟨listP_none hn, row_fresh hS.hE0 hgr C.lr⟩)).mono ?_
 ·exact ⟨c, j0, hP, hc, X.1.refs, j0, X.2.refs, rfl, by rw [h0]; rfl, ⟨hb', (hgr.block m hlm (some_ne (Ne.symm C.hrm))).trans hS.hm, (hgr.block g hlg (some_ne (Ne.symm C.hrg))).trans hS.hg, (hgr.block n hln (some_ne (Ne.symm C.hrn))).trans hS.hn, row_fresh hS.hE0 hgr C.lr, numP_le hS.hi hP⟩, ho.kept hgr ap.r, ap⟩
 ·rw [hP] at hP'
  cases hP'
  refine (clo1_any C hS' ho' (by show l.length ≤ _; omega) ap').mono ?_
  rintro e u' (⟨x, rfl, rfl, d, j', vw', hd, hS2, ho2, ap2⟩ | ⟨ch, rfl, hd, hch, hE⟩)
  ·exact .inl ⟨_, rfl, rfl, c, j0, hP, hc', _, j', vw', by rw [itP_step hit]; unfold addUpd; rw [hd]; rfl, by show (l ++ [_]).length = _; rw [List.length_append, hll]; rfl, hS2, ho2, ap2⟩
  ·exact .inr ⟨ch, rfl, hch, by rw [listP_some hP hc']; exact itP_none (j := q + 1) (by rw [itP_step hit]; unfold addUpd; rw [hd]; rfl) c hq, hE⟩
 ·rintro e w' (⟨x, rfl, rfl, c, j0, hP, hc, c', j0', hP', -, l, j, vw, hit, -, hS', ho', ap'⟩ | ⟨ch, rfl, hch, hn, hE⟩)
  ·rw [hP] at hP'
   cases hP'
   exact .inl ⟨_, rfl, rfl, l, j, vw, by rw [listP_some hP hc]; exact hit, hS', ho', ap'⟩
  ·exact .inr ⟨ch, rfl, hn, hch, hE⟩
theorem reads2_any {w0 w : World} {r m g n : Nat} {v : Value} {b : Bs} {p : Parts} {i : Nat} {X : MsgV} (C : RC w0 r m g n v b) (hS : RS w0 r m g n v b p w i X) (h0 : X.1.wants = []) (ho : OG w0.heap.size 25 32 Lib.byteCells w X.2.wants X.1.wants) (ap : Ap4 X.2.wants r m g n) :
  Calls Tryd.prog 111 #[PQ r 0, NI 65536, .func (.func 115) #[] #[PQ m 0, PQ g 0]] w fun e w' => (∃ x, e = .returned x ∧ x = .tuple #[] ∧ ∃ (l : List Bs) (j : Nat) (vw : Value), listP b i 65536 (addId b) X.1.wants = some (l, j) ∧ RS w0 r m g n v b p w' j (({ X.1 with wants := l }, { X.2 with wants := vw }) : MsgV) ∧ OG w0.heap.size 25 32 Lib.byteCells w' vw l ∧ Ap4 vw r m g n) ∨ ∃ ch, e = .panicked ch ∧ listP b i 65536 (addId b) X.1.wants = none ∧ ch = [stopW] ∧ Ext w0 w' := by
 have hb_ := hS.hb
 have hlr := (bl hS.hb)
 have hlm := (bl hS.hm)
 have hlg := (bl hS.hg)
 have hln := (bl hS.hn)
 have hapr : b = [] ∨ OB v r := by
  rcases b with _ | ⟨b0, b1⟩
  ·exact .inl rfl
  ·exact .inr fun e => by have := RB.lt C.hr (by simp) e; have := C.lr; omega
 refine (list2_any w r g m v b i 65536 hS.hb (C.hr.keep hS.hE0) hapr hS.hi C.hl (fun q u => ∃ c j0, numP b i = some (c, j0) ∧ c ≤ 65536 ∧ ∃ (l : List Bs) (j : Nat) (vw : Value), itP (addId b) q (X.1.wants, j0) = some (l, j) ∧ l.length = q ∧ RS w0 r m g n v b p u j (({ X.1 with wants := l }, { X.2 with wants := vw }) : MsgV) ∧ OG w0.heap.size 25 32 Lib.byteCells u vw l ∧ Ap4 vw r m g n) (fun u => listP b i 65536 (addId b) X.1.wants = none ∧ Ext w0 u) (fun c j0 w' hP hc hb' hgr => ?_) (fun c j0 q u hP hq ⟨c', j0', hP', hc', l, j, vw, hit, hll, hS', ho', ap'⟩ => ?_) (fun w' hn hgr => ⟨listP_none hn, row_fresh hS.hE0 hgr C.lr⟩)).mono ?_
 ·exact ⟨c, j0, hP, hc, X.1.wants, j0, X.2.wants, rfl, by rw [h0]; rfl, ⟨hb', (hgr.block m hlm (some_ne (Ne.symm C.hrm))).trans hS.hm, (hgr.block g hlg (some_ne (Ne.symm C.hrg))).trans hS.hg, (hgr.block n hln (some_ne (Ne.symm C.hrn))).trans hS.hn, row_fresh hS.hE0 hgr C.lr, numP_le hS.hi hP⟩, ho.kept hgr ap.r, ap⟩
 ·rw [hP] at hP'
  cases hP'
  refine (clo2_any C hS' ho' (by show l.length ≤ _; omega) ap').mono ?_
  rintro e u' (⟨x, rfl, rfl, d, j', vw', hd, hS2, ho2, ap2⟩ | ⟨ch, rfl, hd, hch, hE⟩)
  ·exact .inl ⟨_, rfl, rfl, c, j0, hP, hc', _, j', vw', by rw [itP_step hit]; unfold addId; rw [hd]; rfl, by show (l ++ [_]).length = _; rw [List.length_append, hll]; rfl, hS2, ho2, ap2⟩
  ·exact .inr ⟨ch, rfl, hch, by rw [listP_some hP hc']; exact itP_none (j := q + 1) (by rw [itP_step hit]; unfold addId; rw [hd]; rfl) c hq, hE⟩
 ·rintro e w' (⟨x, rfl, rfl, c, j0, hP, hc, c', j0', hP', -, l, j, vw, hit, -, hS', ho', ap'⟩ | ⟨ch, rfl, hch, hn, hE⟩)
  ·rw [hP] at hP'
   cases hP'
   exact .inl ⟨_, rfl, rfl, l, j, vw, by rw [listP_some hP hc]; exact hit, hS', ho', ap'⟩
  ·exact .inr ⟨ch, rfl, hn, hch, hE⟩
theorem reads3_any {w0 w : World} {r m g n : Nat} {v : Value} {b : Bs} {p : Parts} {i : Nat} {X : MsgV} (C : RC w0 r m g n v b) (hS : RS w0 r m g n v b p w i X) (h0 : X.1.haves = []) (ho : OG w0.heap.size 25 32 Lib.byteCells w X.2.haves X.1.haves) (ap : Ap4 X.2.haves r m g n) (hq : OG w0.heap.size 25 32 Lib.byteCells w X.2.wants X.1.wants) (qp : Ap4 X.2.wants r m g n) (aq : ApartV X.2.haves X.2.wants) (qa : ApartV X.2.wants X.2.haves) :
  Calls Tryd.prog 111 #[PQ r 0, NI 65536, .func (.func 116) #[] #[PQ m 0, PQ g 0]] w fun e w' => (∃ x, e = .returned x ∧ x = .tuple #[] ∧ ∃ (l : List Bs) (j : Nat) (vw : Value), listP b i 65536 (addId b) X.1.haves = some (l, j) ∧ RS w0 r m g n v b p w' j (({ X.1 with haves := l }, { X.2 with haves := vw }) : MsgV) ∧ OG w0.heap.size 25 32 Lib.byteCells w' vw l ∧ Ap4 vw r m g n ∧ OG w0.heap.size 25 32 Lib.byteCells w' X.2.wants X.1.wants ∧ ApartV vw X.2.wants ∧ ApartV X.2.wants vw) ∨ ∃ ch, e = .panicked ch ∧ listP b i 65536 (addId b) X.1.haves = none ∧ ch = [stopW] ∧ Ext w0 w' := by
 have hb_ := hS.hb
 have hlr := (bl hS.hb)
 have hlm := (bl hS.hm)
 have hlg := (bl hS.hg)
 have hln := (bl hS.hn)
 have hapr : b = [] ∨ OB v r := by
  rcases b with _ | ⟨b0, b1⟩
  ·exact .inl rfl
  ·exact .inr fun e => by have := RB.lt C.hr (by simp) e; have := C.lr; omega
 refine (list3_any w r g m v b i 65536 hS.hb (C.hr.keep hS.hE0) hapr hS.hi C.hl (fun q u => ∃ c j0, numP b i = some (c, j0) ∧ c ≤ 65536 ∧ ∃ (l : List Bs) (j : Nat) (vw : Value), itP (addId b) q (X.1.haves, j0) = some (l, j) ∧ l.length = q ∧ RS w0 r m g n v b p u j (({ X.1 with haves := l }, { X.2 with haves := vw }) : MsgV) ∧ OG w0.heap.size 25 32 Lib.byteCells u vw l ∧ Ap4 vw r m g n ∧ OG w0.heap.size 25 32 Lib.byteCells u X.2.wants X.1.wants ∧ ApartV vw X.2.wants ∧ ApartV X.2.wants vw) (fun u => listP b i 65536 (addId b) X.1.haves = none ∧ Ext w0 u) (fun c j0 w' hP hc hb' hgr => ?_) (fun c j0 q u hP hq ⟨c', j0', hP', hc', l, j, vw, hit, hll, hS', ho', ap', hq2, aq2, qa2⟩ => ?_) (fun w' hn hgr => ⟨listP_none hn, row_fresh hS.hE0 hgr C.lr⟩)).mono ?_
 ·exact ⟨c, j0, hP, hc, X.1.haves, j0, X.2.haves, rfl, by rw [h0]; rfl, ⟨hb', (hgr.block m hlm (some_ne (Ne.symm C.hrm))).trans hS.hm, (hgr.block g hlg (some_ne (Ne.symm C.hrg))).trans hS.hg, (hgr.block n hln (some_ne (Ne.symm C.hrn))).trans hS.hn, row_fresh hS.hE0 hgr C.lr, numP_le hS.hi hP⟩, ho.kept hgr ap.r, ap, hq.kept hgr qp.r, aq, qa⟩
 ·rw [hP] at hP'
  cases hP'
  refine (clo3_any C hS' ho' (by show l.length ≤ _; omega) ap' hq2 qp aq2 qa2).mono ?_
  rintro e u' (⟨x, rfl, rfl, d, j', vw', hd, hS2, ho2, ap2, hq3, aq3, qa3⟩ | ⟨ch, rfl, hd, hch, hE⟩)
  ·exact .inl ⟨_, rfl, rfl, c, j0, hP, hc', _, j', vw', by rw [itP_step hit]; unfold addId; rw [hd]; rfl, by show (l ++ [_]).length = _; rw [List.length_append, hll]; rfl, hS2, ho2, ap2, hq3, aq3, qa3⟩
  ·exact .inr ⟨ch, rfl, hch, by rw [listP_some hP hc']; exact itP_none (j := q + 1) (by rw [itP_step hit]; unfold addId; rw [hd]; rfl) c hq, hE⟩
 ·rintro e w' (⟨x, rfl, rfl, c, j0, hP, hc, c', j0', hP', -, l, j, vw, hit, -, hS', ho', ap', hq2, aq2, qa2⟩ | ⟨ch, rfl, hch, hn, hE⟩)
  ·rw [hP] at hP'
   cases hP'
   exact .inl ⟨_, rfl, rfl, l, j, vw, by rw [listP_some hP hc]; exact hit, hS', ho', ap', hq2, aq2, qa2⟩
  ·exact .inr ⟨ch, rfl, hn, hch, hE⟩
end Go.Proofs.YtmonlobfofkbdaaDoor
