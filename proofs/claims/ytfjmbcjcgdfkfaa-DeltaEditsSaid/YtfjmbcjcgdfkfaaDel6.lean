/- delta.Make's closure. -/
import Derived.Test.YtfjmbcjcgdfkfaaDel5
namespace Go.Proofs.Ytfjmbcjcgdfkfaa
open Go.RowKit
theorem del6_isz22 : (Try.prog.info? 22).map (·.size) = some 1 := by kernel_rfl
theorem del6_isz3 : (Try.prog.info? 3).map (·.size) = some 1 := by kernel_rfl
theorem del6_ty3 : Try.prog.underlying 3 = some (.int .i64) := by kernel_rfl
theorem del6_ty22 : Try.prog.underlying 22 = some (.slice 5) := by kernel_rfl
theorem del6_pl16 : Plain Try.prog 16 := fun _ _ => by kernel_rfl
theorem del6_sz5 : ∀ w' : World, (sizeOf 5).run Try.prog w' = .ok 1 w' := fun _ => by kernel_rfl
theorem del6_inf5 : (Try.prog.info? 5).map (fun i => (i.zero, i.size, i.bytes)) = some (some (.int .u8 0), 1, 1) := by kernel_rfl
theorem flush_any (w0 wI w : World) (lo g3 g5 g7 : Nat) (vt v : Value) (o T : List UInt8) (fr to : Nat) (hM : MK w0 wI w lo g3 g5 g7 vt v v o fr) (hT : RB w0 vt T) (hto : to ≤ T.length) (hfr : fr ≤ T.length) (hTl : T.length ≤ 1048576) (hol : o.length ≤ 1073741824) :
    Calls Try.prog 18 #[NI to, .pointer (some ⟨g7, 0, none⟩), .pointer (some ⟨g5, 0, none⟩), .pointer (some ⟨g3, 0, none⟩)] w fun e w' => e = .returned (.tuple #[]) ∧ ∃ v', MK w0 wI w' lo g3 g5 g7 vt v' v' (flushP T fr to o) fr := by
  have hb1 : w.heap[g3]? = some (.cells ([vt] : List Value).toArray 22 (0, 0)) := hM.b3
  have hb2 : w.heap[g5]? = some (.cells ([v] : List Value).toArray 22 (0, 0)) := hM.b5
  have hb3 : w.heap[g7]? = some (.cells ([NI (fr)] : List Value).toArray 3 (0, 0)) := hM.b7
  have hr4 := hT.keep hM.ext
  refine calls_of_wpF (args := [.int .i64 ((to : Nat) : Int), .pointer (some ⟨g7, 0, none⟩), .pointer (some ⟨g5, 0, none⟩), .pointer (some ⟨g3, 0, none⟩)]) Try.func18 rfl 20 rfl (Nat.le_of_ble_eq_true rfl) ?_
  intro ρ0 hb
  have T0 : ρ0 0 = (.int .i64 ((to : Nat) : Int) : Value) := hb.get 0
  have T1 : ρ0 1 = (.pointer (some ⟨g7, 0, none⟩) : Value) := hb.get 1
  have T2 : ρ0 2 = (.pointer (some ⟨g5, 0, none⟩) : Value) := hb.get 2
  have T3 : ρ0 3 = (.pointer (some ⟨g3, 0, none⟩) : Value) := hb.get 3
  clear hb
  refine wpF_seq_k fun K5 hK5 => ?_
  refine wpF_text ?_
  refine opsF_step rfl (YieldsK.move (show _ = (.int .i64 ((to : Nat) : Int) : Value) from T0) ?_)    -- delta.go:46 t5 := (Op.move (Operand.tmp 0))
  refine opsF_step rfl (YieldsK.cell1 del6_ty3 rfl (show _ = (.pointer (some ⟨g7, 0, none⟩) : Value) from T1) (cellAt hb3 (show _ = some (.int .i64 ((fr : Nat) : Int) : Value) from rfl)) ?_)    -- delta.go:46 t6 := (Op.load 3 (Operand.tmp 1))
  refine opsF_step rfl (YieldsK.eqI (a := ((to : Nat) : Int)) (b := ((fr : Nat) : Int)) (show _ = (.int .i64 ((to : Nat) : Int) : Value) from rfl) (show _ = (.int .i64 ((fr : Nat) : Int) : Value) from rfl) (k_gtr _ .i64 (to) (fr)) ?_)    -- delta.go:46 t7 := (Op.binOp BinOp.gtr 3 (Operand.tmp 5) (Operand.tmp 6) 3)
  refine opsF_end (fun ρ => ρ 0 = (.int .i64 ((to : Nat) : Int) : Value) ∧ ρ 1 = (.pointer (some ⟨g7, 0, none⟩) : Value) ∧ ρ 2 = (.pointer (some ⟨g5, 0, none⟩) : Value) ∧ ρ 3 = (.pointer (some ⟨g3, 0, none⟩) : Value) ∧ ρ 7 = (.bool (decide ((fr) < (to))) : Value) ∧ True) ⟨T0, T1, T2, T3, rfl, trivial⟩ fun ρ6 ⟨T0, T1, T2, T3, T7, _⟩ => ?_
  refine thenF_normal (hK5 _ _ ?_)
  refine wpF_cond ((fr) < (to)) (show _ = (.bool (decide ((fr) < (to))) : Value) from T7) (fun hc => ?_) (fun hc => ?_)
  · have hu9 := uvarint_len63 (2 * (to - fr)) (by omega)
    refine wpF_seq_k fun K7 hK7 => ?_
    refine wpF_text ?_
    refine opsF_step rfl (YieldsK.cell1 del6_ty22 rfl (show _ = (.pointer (some ⟨g5, 0, none⟩) : Value) from T2) (cellAt hb2 (show _ = some (v : Value) from rfl)) ?_)    -- delta.go:47 t8 := (Op.load 22 (Operand.tmp 2))
    refine opsF_step rfl (YieldsK.move (show _ = (.int .i64 ((to : Nat) : Int) : Value) from T0) ?_)    -- delta.go:47 t9 := (Op.move (Operand.tmp 0))
    refine opsF_step rfl (YieldsK.cell1 del6_ty3 rfl (show _ = (.pointer (some ⟨g7, 0, none⟩) : Value) from T1) (cellAt hb3 (show _ = some (.int .i64 ((fr : Nat) : Int) : Value) from rfl)) ?_)    -- delta.go:47 t10 := (Op.load 3 (Operand.tmp 1))
    refine opsF_step rfl (YieldsK.bin (xv := .int .i64 ((to : Nat) : Int)) (yv := .int .i64 ((fr : Nat) : Int)) (show _ = (.int .i64 ((to : Nat) : Int) : Value) from rfl) (show _ = (.int .i64 ((fr : Nat) : Int) : Value) from rfl) rfl (i64_sub _ (to) (fr) (by omega) (by omega)) ?_)    -- delta.go:47 t11 := (Op.binOp BinOp.sub 3 (Operand.tmp 9) (Operand.tmp 10) 3)
    refine opsF_step rfl (YieldsK.bin (xv := .int .i64 ((2 : Nat) : Int)) (yv := .int .i64 (((to) - (fr) : Nat) : Int)) (show _ = (.int .i64 ((2 : Nat) : Int) : Value) from rfl) (show _ = (.int .i64 (((to) - (fr) : Nat) : Int) : Value) from rfl) rfl (i64_mul _ (2) ((to) - (fr)) (by omega)) ?_)    -- delta.go:47 t12 := (Op.binOp BinOp.mul 3 (Operand.const (Value.int IntKind.i64 2)) (Operand.tmp 11) 3)
    refine opsF_step rfl (YieldsK.callA2 del6_pl16 (show _ = (v : Value) from rfl) (show _ = (.int .i64 (((2) * ((to) - (fr)) : Nat) : Int) : Value) from rfl) ?_)    -- delta.go:47 t13 := (Op.call { callee := (Callee.value (Operand.func 16)), args := #[(Operand.tmp 8), (Operand.tmp 12)], argTypes 
    refine (dnumber_any _ w0.heap.size v (o) hM.own hM.ext.size ((2) * ((to) - (fr))) (by omega) (by omega)).mono ?_
    rintro e w12 ⟨v8, rfl, ho9, hg10⟩
    refine ⟨_, rfl, ?_⟩
    have hM11 := MK.grew hM hg10 ho9
    clear hM
    have hb13 : w12.heap[g3]? = some (.cells ([vt] : List Value).toArray 22 (0, 0)) := hM11.b3
    have hb14 : w12.heap[g5]? = some (.cells ([v] : List Value).toArray 22 (0, 0)) := hM11.b5
    have hb15 : w12.heap[g7]? = some (.cells ([NI (fr)] : List Value).toArray 3 (0, 0)) := hM11.b7
    have hr16 := hT.keep hM11.ext
    refine opsF_step rfl (YieldsK.storeC (i := 0) (v := v8) (show _ = (.pointer (some ⟨g5, 0, none⟩) : Value) from T2) (show _ = (v8 : Value) from rfl) hM11.b5 (Nat.le_of_ble_eq_true rfl) del6_isz22 (own_one hM11.own).1 (own_one hM11.own).2 fun w17 hb18 hg19 hs20 => ?_)    -- delta.go:47 tNone := (Op.store 22 (Operand.tmp 2) (Operand.tmp 13))
    have hM21 := MK.set5 hM11 hb18 hg19
    clear hM11
    have hb22 : w17.heap[g3]? = some (.cells ([vt] : List Value).toArray 22 (0, 0)) := hM21.b3
    have hb23 : w17.heap[g5]? = some (.cells ([v8] : List Value).toArray 22 (0, 0)) := hM21.b5
    have hb24 : w17.heap[g7]? = some (.cells ([NI (fr)] : List Value).toArray 3 (0, 0)) := hM21.b7
    have hr25 := hT.keep hM21.ext
    refine opsF_end (fun ρ => ρ 0 = (.int .i64 ((to : Nat) : Int) : Value) ∧ ρ 1 = (.pointer (some ⟨g7, 0, none⟩) : Value) ∧ ρ 2 = (.pointer (some ⟨g5, 0, none⟩) : Value) ∧ ρ 3 = (.pointer (some ⟨g3, 0, none⟩) : Value) ∧ True) ⟨T0, T1, T2, T3, trivial⟩ fun ρ26 ⟨T0, T1, T2, T3, _⟩ => ?_
    refine thenF_normal (hK7 _ _ ?_)
    refine wpF_draw_seq2 5 _ [4] [Is (v8), Is (vt), Is (.int .i64 ((fr : Nat) : Int)), Is (.int .i64 ((to : Nat) : Int)), fun x w' => RB w' x ((T.drop (fr)).take ((to) - (fr))), fun x w' => MK w0 wI w' lo g3 g5 g7 vt v8 x ((o ++ Lib.uvarint ((2) * ((to) - (fr)))) ++ (T.drop (fr)).take ((to) - (fr))) (fr)] (by kernel_rfl) [14, 15, 16, 17, 18, 19] (by kernel_rfl) (by kernel_rfl) (by kernel_rfl) (by kernel_rfl) (by kernel_rfl) rfl rfl rfl rfl ⟨Stab.is _, Stab.is _, Stab.is _, Stab.is _, (fun _ _ _ h k => RB.keep h k), trivial⟩ ⟨.inr (Stab.is _), .inr (Stab.is _), .inr (Stab.is _), .inr (Stab.is _), .inl rfl, trivial⟩ ?hs1002 ?hQ1002
    case hs1002 =>
      refine ⟨?_, ?_, ?_, ?_, ?_, ?_, ?_, trivial⟩
      · refine stepFL (stepN rfl fun σ w1 hC h => ?_)    -- t14 := (Op.load 22 (Operand.tmp 2))
        have e2 : σ 2 = .pointer (some ⟨g5, 0, none⟩) := (show _ = _ from h 2 (by decide)).trans T2
        exact YieldsK.cell1 del6_ty22 rfl e2 (cellAt (Ext.blk' hC hb23) (show _ = some (v8 : Value) from rfl)) ⟨Ext.refl _, rfl⟩
      · refine stepFL (stepN rfl fun σ w1 hC h => ?_)    -- t15 := (Op.load 22 (Operand.tmp 3))
        have e3 : σ 3 = .pointer (some ⟨g3, 0, none⟩) := (show _ = _ from h 3 (by decide)).trans T3
        exact YieldsK.cell1 del6_ty22 rfl e3 (cellAt (Ext.blk' hC hb22) (show _ = some (vt : Value) from rfl)) ⟨Ext.refl _, rfl⟩
      · refine stepFL (stepN rfl fun σ w1 hC h => ?_)    -- t16 := (Op.load 3 (Operand.tmp 1))
        have e1 : σ 1 = .pointer (some ⟨g7, 0, none⟩) := (show _ = _ from h 1 (by decide)).trans T1
        exact YieldsK.cell1 del6_ty3 rfl e1 (cellAt (Ext.blk' hC hb24) (show _ = some (.int .i64 ((fr : Nat) : Int) : Value) from rfl)) ⟨Ext.refl _, rfl⟩
      · refine stepFL (stepN rfl fun σ w1 hC h => ?_)    -- t17 := (Op.move (Operand.tmp 0))
        have e0 : σ 0 = .int .i64 ((to : Nat) : Int) := (show _ = _ from h 0 (by decide)).trans T0
        exact YieldsK.move e0 ⟨Ext.refl _, rfl⟩
      · refine stepFL (stepN rfl fun σ w1 hC h => ?_)    -- t18 := (Op.slice 22 (Operand.tmp 15) (some (Operand.tmp 16)) (some (Operand.tmp 17)) none)
        have e15 : σ 15 = vt := h 15 (by decide)
        have e16 : σ 16 = .int .i64 ((fr : Nat) : Int) := h 16 (by decide)
        have e17 : σ 17 = .int .i64 ((to : Nat) : Int) := h 17 (by decide)
        exact YieldsK.sliceLH (xs := T) (l := fr) (n := to) del6_ty22 del6_sz5 rfl (RB.of (hr25.keep hC) e15) e16 e17 (by omega) (by omega) fun v hr _ => ⟨Ext.refl _, hr⟩
      · refine stepFL (stepN rfl fun σ w1 hC h => ?_)    -- t19 := (Op.call { callee := (Callee.builtin Builtin.append), args := #[(Operand.tmp 14), (Operand.tmp 18)], argTypes 
        have e14 : σ 14 = v8 := h 14 (by decide)
        have e18 : (fun x w' => RB w' x ((T.drop (fr)).take ((to) - (fr)))) (σ 18) w1 := h 18 (by decide)
        have hM1 := hM21.keep hC
        exact YieldsK.appendRB _ _ w0.heap.size (.int .u8 0) del6_ty22 del6_inf5 rfl del6_ty22 (o ++ Lib.uvarint ((2) * ((to) - (fr)))) ((T.drop (fr)).take ((to) - (fr))) (own_of hM1.own e14) e18 (by simp only [List.length_append, List.length_take, List.length_drop]; omega) hM1.ext.size fun x w2 ho hg => ⟨trivial, MK.grew hM1 (e14 ▸ hg) ho⟩
      · exact trivial
    intro ρ27 w28 he hf
    obtain ⟨-, -, -, -, -, k19, -⟩ := hf
    have T0 : ρ27 0 = .int .i64 ((to : Nat) : Int) := he.at_ T0 rfl
    have T1 : ρ27 1 = .pointer (some ⟨g7, 0, none⟩) := he.at_ T1 rfl
    have T2 : ρ27 2 = .pointer (some ⟨g5, 0, none⟩) := he.at_ T2 rfl
    have T3 : ρ27 3 = .pointer (some ⟨g3, 0, none⟩) := he.at_ T3 rfl
    clear he
    have k19 : (fun x w' => MK w0 wI w' lo g3 g5 g7 vt v8 x ((o ++ Lib.uvarint ((2) * ((to) - (fr)))) ++ (T.drop (fr)).take ((to) - (fr))) (fr)) (ρ27 19) w28 := k19
    obtain ⟨v30, T19⟩ : ∃ v, ρ27 19 = v := ⟨_, rfl⟩
    rw [T19] at k19
    have hk31 := k19; clear k19
    refine (YieldsK.storeC (i := 0) (v := v30) (show _ = (.pointer (some ⟨g5, 0, none⟩) : Value) from T2) (show _ = (v30 : Value) from T19) hk31.b5 (Nat.le_of_ble_eq_true rfl) del6_isz22 (own_one hk31.own).1 (own_one hk31.own).2 fun w32 hb33 hg34 hs35 => ?_)    -- (Op.store 22 (Operand.tmp 2) (Operand.tmp 19))
    have hM36 := MK.set5 hk31 hb33 hg34
    clear hk31
    have hb37 : w32.heap[g3]? = some (.cells ([vt] : List Value).toArray 22 (0, 0)) := hM36.b3
    have hb38 : w32.heap[g5]? = some (.cells ([v30] : List Value).toArray 22 (0, 0)) := hM36.b5
    have hb39 : w32.heap[g7]? = some (.cells ([NI (fr)] : List Value).toArray 3 (0, 0)) := hM36.b7
    have hr40 := hT.keep hM36.ext
    refine postF_end (fn := Try.f18) [] rfl [] (.tuple #[]) rfl trivial ?_
    refine ⟨rfl, v30, ?_⟩
    rw [flushP, if_pos hc]
    exact hM36
  · refine wpF_skip ?_
    refine postF_end (fn := Try.f18) [] rfl [] (.tuple #[]) rfl trivial ?_
    refine ⟨rfl, v, ?_⟩
    rw [flushP, if_neg (by omega)]
    exact hM
end Go.Proofs.Ytfjmbcjcgdfkfaa
