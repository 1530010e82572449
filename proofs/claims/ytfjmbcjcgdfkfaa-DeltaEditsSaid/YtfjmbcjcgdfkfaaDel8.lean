/- delta.Make. -/
import Derived.Test.YtfjmbcjcgdfkfaaDel7
namespace Go.Proofs.Ytfjmbcjcgdfkfaa
open Go.RowKit
theorem del8_isz22 : (Try.prog.info? 22).map (·.size) = some 1 := by kernel_rfl
theorem del8_isz3 : (Try.prog.info? 3).map (·.size) = some 1 := by kernel_rfl
theorem del8_al22 {d : Option Tmp} {ty : TypeId} {pos : String} {af : Array Edge} {gd : Option (Nat × Bool)} (σ : Operand → Value) (w : World) : (execOp σ ⟨d, .alloc 22, ty, pos, af, gd⟩).run Try.prog w = .ok (.value (.pointer (some ⟨w.heap.size, 0, none⟩))) (w.alloc (.cells ([.slice none 0 0] : List Value).toArray 22)) := by kernel_rfl
theorem del8_ty22 : Try.prog.underlying 22 = some (.slice 5) := by kernel_rfl
theorem del8_pl16 : Plain Try.prog 16 := fun _ _ => by kernel_rfl
theorem del8_pl17 : Plain Try.prog 17 := fun _ _ => by kernel_rfl
theorem del8_al3 {d : Option Tmp} {ty : TypeId} {pos : String} {af : Array Edge} {gd : Option (Nat × Bool)} (σ : Operand → Value) (w : World) : (execOp σ ⟨d, .alloc 3, ty, pos, af, gd⟩).run Try.prog w = .ok (.value (.pointer (some ⟨w.heap.size, 0, none⟩))) (w.alloc (.cells ([.int .i64 ((0 : Nat) : Int)]).toArray 3)) := by kernel_rfl
theorem del8_sz5 : ∀ w' : World, (sizeOf 5).run Try.prog w' = .ok 1 w' := fun _ => by kernel_rfl
theorem del8_ty45 : Try.prog.underlying 45 = some (.array 8 5) := by kernel_rfl
theorem del8_isz45 : (Try.prog.info? 45).map (·.size) = some 8 := by kernel_rfl
theorem del8_ty40 : Try.prog.underlying 40 = some (.map 45 43) := by kernel_rfl
theorem del8_ty43 : Try.prog.underlying 43 = some (.slice 3) := by kernel_rfl
theorem del8_sz3 : ∀ w' : World, (sizeOf 3).run Try.prog w' = .ok 1 w' := fun _ => by kernel_rfl
theorem del8_ty3 : Try.prog.underlying 3 = some (.int .i64) := by kernel_rfl
theorem del8_pl19 : Plain Try.prog 19 := fun _ _ => by kernel_rfl
theorem del8_pl18 : Plain Try.prog 18 := fun _ _ => by kernel_rfl
theorem make_any (w : World) (vb v2 : Value) (B T : List UInt8) (hrb : RB w vb B) (hrt : RB w v2 T) (hB : B.length ≤ 1048576) (hTl : T.length ≤ 1048576) :
    Calls Try.prog 8 #[vb, v2] w fun e w' => ∃ v', e = .returned v' ∧ Ext w w' ∧ w'.ownsRow w.heap.size 5 1 v' (makeP B T).length (Lib.byteCells (makeP B T)) := by
  refine calls_of_wpF (args := [vb, v2]) Try.func8 rfl 83 rfl (Nat.le_of_ble_eq_true rfl) ?_
  intro ρ0 hb
  have T0 : ρ0 0 = (vb : Value) := hb.get 0
  have T1 : ρ0 1 = (v2 : Value) := hb.get 1
  clear hb
  have hE := Ext.refl w
  refine wpF_seq_k fun K1 hK1 => ?_
  refine wpF_text ?_
  refine opsF_step rfl (YieldsK.box1 (show _ = (v2 : Value) from T1) (RB.one (hrt.keep hE)).1 fun n2 w3 hn4 hb5 hx6 hs7 => ?_)    -- delta.go:41 t3 := (Op.box 22 (Operand.tmp 1))
  have hE : Ext w w3 := (hE.trans hx6)
  have hb8 := hb5; clear hb5
  have hl9 : n2 < w3.heap.size := by omega
  refine opsF_step rfl (YieldsK.assign (show _ = ((Value.slice none 0 0) : Value) from rfl) ?_)    -- delta.go:41 t4 := (Op.assign (Operand.const (Value.slice none 0 0)))
  refine opsF_end (fun ρ => ρ 0 = (vb : Value) ∧ ρ 1 = (v2 : Value) ∧ ρ 3 = (.pointer (some ⟨n2, 0, none⟩) : Value) ∧ ρ 4 = ((Value.slice none 0 0) : Value) ∧ True) ⟨T0, T1, rfl, rfl, trivial⟩ fun ρ10 ⟨T0, T1, T3, T4, _⟩ => ?_
  have hA11 := Ext.refl w3
  have hea12 := hE
  have hz13 : w.heap.size ≤ w3.heap.size := hE.size
  have hAS := hA11
  refine thenF_normal (hK1 _ _ ?_)
  refine wpF_seq_k fun K14 hK14 => ?_
  refine wpF_draw_own1 5 7 _ [2] (fun a b => Below w3.heap.size a b ∧ ∀ (g : Nat) (cs : Array Value), a.heap[g]? = some (.cells cs 22 (0, 0)) → b.heap[g]? = some (.cells cs 22 (0, 0))) [Is (vb), Is (.int .i64 ((B.length : Nat) : Int)), fun x w' => w'.ownsRow w3.heap.size 5 1 x (([] : List UInt8) ++ Lib.uvarint B.length).length (Lib.byteCells (([] : List UInt8) ++ Lib.uvarint B.length)), Is (v2), Is (.int .i64 ((T.length : Nat) : Int)), fun x w' => w'.ownsRow w3.heap.size 5 1 x (([] ++ Lib.uvarint B.length) ++ Lib.uvarint T.length).length (Lib.byteCells (([] ++ Lib.uvarint B.length) ++ Lib.uvarint T.length)), fun x w' => ∃ g : Nat, x = .pointer (some ⟨g, 0, none⟩) ∧ w3.heap.size ≤ g ∧ w'.heap[g]? = some (.cells #[.slice none 0 0] 22 (0, 0))] (by kernel_rfl) [15, 16, 17, 18, 19, 20, 5] (by kernel_rfl) (by kernel_rfl) (by kernel_rfl) (by kernel_rfl) rfl rfl rfl (by decide) rfl ⟨Stab.is _, Stab.is _, (fun _ _ _ h k => Stab.own _ _ _ _ _ _ _ _ h k), Stab.is _, Stab.is _, (fun _ _ _ h k => Stab.own _ _ _ _ _ _ _ _ h k), (fun _ _ _ ⟨g, h1, h2, h3⟩ k => ⟨g, h1, h2, Ext.blk' k h3⟩), trivial⟩ ⟨.inr (Stab.is _), .inr (Stab.is _), .inl rfl, .inr (Stab.is _), .inr (Stab.is _), .inl rfl, .inr ((fun _ _ _ ⟨g, h1, h2, h3⟩ k => ⟨g, h1, h2, k.2 _ _ h3⟩)), trivial⟩ (fun _ _ h k => Below.trans h k.1) ?hs3001 ?hQ3001
  case hs3001 =>
    refine ⟨?_, ?_, ?_, ?_, ?_, ?_, ?_, ?_, trivial⟩
    · refine stepFL (stepN rfl fun σ w1 hC h => ?_)    -- t15 := (Op.move (Operand.tmp 0))
      have e0 : σ 0 = vb := (show _ = _ from h 0 (by decide)).trans T0
      exact YieldsK.move e0 ⟨Ext.refl _, rfl⟩
    · refine stepFL (stepN rfl fun σ w1 hC h => ?_)    -- t16 := (Op.call { callee := (Callee.builtin Builtin.len), args := #[(Operand.tmp 15)], argTypes := #[22] })
      have e15 : σ 15 = vb := h 15 (by decide)
      exact YieldsK.lenRB del8_ty22 (RB.of (hrb.keep (hE.trans hC)) e15) ⟨Ext.refl _, rfl⟩
    · refine stepFL (stepN rfl fun σ w1 hC h => ?_)    -- t17 := (Op.call { callee := (Callee.value (Operand.func 16)), args := #[(Operand.const (Value.slice none 0 0)), (Oper
      have e16 : σ 16 = .int .i64 ((B.length : Nat) : Int) := h 16 (by decide)
      have hC : Ext w3 w1 := hC
      have hn0 : w1.ownsRow w3.heap.size 5 1 (.slice none 0 0) ([] : List UInt8).length (Lib.byteCells ([] : List UInt8)) := World.ownsRow_nil _ _ _ 1
      refine YieldsK.callA2 del8_pl16 rfl e16 ?_
      refine (dnumber_any w1 w3.heap.size (.slice none 0 0) [] hn0 hC.size B.length (by omega) (by simp)).mono ?_
      rintro e w2 ⟨v', rfl, ho, hg⟩
      exact ⟨_, rfl, Ext.of hg.by_, ho⟩
    · refine stepFL (stepN rfl fun σ w1 hC h => ?_)    -- t18 := (Op.load 22 (Operand.tmp 3))
      have e3 : σ 3 = .pointer (some ⟨n2, 0, none⟩) := (show _ = _ from h 3 (by decide)).trans T3
      exact YieldsK.cell1 del8_ty22 rfl e3 (cellAt (Ext.blk' hC hb8) (show _ = some (v2 : Value) from rfl)) ⟨Ext.refl _, rfl⟩
    · refine stepFL (stepN rfl fun σ w1 hC h => ?_)    -- t19 := (Op.call { callee := (Callee.builtin Builtin.len), args := #[(Operand.tmp 18)], argTypes := #[22] })
      have e18 : σ 18 = v2 := h 18 (by decide)
      exact YieldsK.lenRB del8_ty22 (RB.of (hrt.keep (hE.trans hC)) e18) ⟨Ext.refl _, rfl⟩
    · refine stepFL (stepN rfl fun σ w1 hC h => ?_)    -- t20 := (Op.call { callee := (Callee.value (Operand.func 16)), args := #[(Operand.tmp 17), (Operand.tmp 19)], argTypes
      have e17 : (fun x w' => w'.ownsRow w3.heap.size 5 1 x (([] : List UInt8) ++ Lib.uvarint B.length).length (Lib.byteCells (([] : List UInt8) ++ Lib.uvarint B.length))) (σ 17) w1 := h 17 (by decide)
      have e19 : σ 19 = .int .i64 ((T.length : Nat) : Int) := h 19 (by decide)
      have hC : Ext w3 w1 := hC
      refine YieldsK.callA2 del8_pl16 rfl e19 ?_
      refine (dnumber_any w1 w3.heap.size (σ 17) (([] : List UInt8) ++ Lib.uvarint B.length) e17 hC.size T.length (by omega) (by have := uvarint_len63 B.length (by omega); simp; omega)).mono ?_
      rintro e w2 ⟨v', rfl, ho, hg⟩
      exact ⟨_, rfl, ⟨hg.below hC.size (fun k hk => (World.ownsRow.lt e17 k hk).1), fun g cs h => blk_grew h hg (own_neT e17 h (by decide))⟩, ho⟩
    · refine stepFL (stepN rfl fun σ w1 hC h => ?_)    -- t5 := (Op.alloc 22)
      have hC : Ext w3 w1 := hC
      exact YieldsK.alloc (cs := ([.slice none 0 0] : List Value).toArray) del8_al22 fun g w2 hn hb hx hs => ⟨hx, g, rfl, by have := hC.size; omega, hb⟩
    · exact trivial
  intro ρ15 w16 hx17 he hf
  obtain ⟨-, -, -, -, -, k20, k5, -⟩ := hf
  have T0 : ρ15 0 = vb := he.at_ T0 rfl
  have T1 : ρ15 1 = v2 := he.at_ T1 rfl
  have T3 : ρ15 3 = .pointer (some ⟨n2, 0, none⟩) := he.at_ T3 rfl
  have T4 : ρ15 4 = (Value.slice none 0 0) := he.at_ T4 rfl
  clear he
  have hE : Ext w w16 := (hE.trans hx17)
  have hb8 : w16.heap[n2]? = some (.cells (([v2] : List Value)).toArray 22 (0, 0)) := (Ext.blk' hx17 hb8)
  have hA11 : Ext w3 w16 := (hA11.trans hx17)
  have k20 : (fun x w' => w'.ownsRow w3.heap.size 5 1 x (([] ++ Lib.uvarint B.length) ++ Lib.uvarint T.length).length (Lib.byteCells (([] ++ Lib.uvarint B.length) ++ Lib.uvarint T.length))) (ρ15 20) w16 := k20
  obtain ⟨v18, T20⟩ : ∃ v, ρ15 20 = v := ⟨_, rfl⟩
  rw [T20] at k20
  have hk19 := k20; clear k20
  have k5 : (fun x w' => ∃ g : Nat, x = .pointer (some ⟨g, 0, none⟩) ∧ w3.heap.size ≤ g ∧ w'.heap[g]? = some (.cells #[.slice none 0 0] 22 (0, 0))) (ρ15 5) w16 := k5
  obtain ⟨v20, T5⟩ : ∃ v, ρ15 5 = v := ⟨_, rfl⟩
  rw [T5] at k5
  have hk21 := k5; clear k5
  obtain ⟨g5, hv5, hlo5, hb5⟩ := hk21
  rw [hv5] at T5
  have hap5 : Value.ownBlock v18 ≠ some g5 := own_neT hk19 hb5 (by decide)
  refine (YieldsK.storeC (i := 0) (v := v18) (show _ = (.pointer (some ⟨g5, 0, none⟩) : Value) from T5) (show _ = (v18 : Value) from T20) hb5 (Nat.le_of_ble_eq_true rfl) del8_isz22 (own_one hk19).1 (own_one hk19).2 fun w22 hb23 hg24 hs25 => ?_)    -- (Op.store 22 (Operand.tmp 5) (Operand.tmp 20))
  have hE : Ext w w22 := row_fresh hE hg24 (Nat.le_trans hz13 (by omega))
  have hb8 : w22.heap[n2]? = some (.cells (([v2] : List Value)).toArray 22 (0, 0)) := (hg24.block _ (Array.getElem?_eq_some_iff.1 hb8).1 (by simp; omega)).trans hb8
  have hA11 : Ext w3 w22 := row_fresh hA11 hg24 (Nat.le_trans (Nat.le_refl _) (by omega))
  clear hb5
  have hk19 : w22.ownsRow w3.heap.size 5 1 v18 (([] ++ Lib.uvarint B.length) ++ Lib.uvarint T.length).length (Lib.byteCells (([] ++ Lib.uvarint B.length) ++ Lib.uvarint T.length)) := own_kept hk19 hg24 hap5
  have hb5 := hb23; clear hb23
  have hl26 : g5 < w22.heap.size := (Array.getElem?_eq_some_iff.1 hb5).1
  have hA27 := Ext.refl w22
  have hea28 := hE
  have hea29 := hA11
  have hz30 : w.heap.size ≤ w22.heap.size := hE.size
  have hz31 : w3.heap.size ≤ w22.heap.size := hA11.size
  have hq3 := (Array.getElem?_eq_some_iff.1 hb8).1
  have hq5 := (Array.getElem?_eq_some_iff.1 hb5).1
  have hoP := hk19
  have hzP := hE.size
  have hzS := hAS.size
  refine thenF_normal (hK14 _ _ ?_)
  refine wpF_seq_k fun K32 hK32 => ?_
  refine wpF_text ?_
  refine opsF_step rfl (YieldsK.move (show _ = (vb : Value) from T0) ?_)    -- delta.go:43 t21 := (Op.move (Operand.tmp 0))
  refine opsF_step rfl (YieldsK.callA1 del8_pl17 (show _ = (vb : Value) from rfl) ?_)    -- delta.go:43 t22 := (Op.call { callee := (Callee.value (Operand.func 17)), args := #[(Operand.tmp 21)], argTypes := #[22] })
  refine (index_any _ vb B (hrb.keep hE) (by omega)).mono ?_
  rintro e w33 ⟨bM, baseM, rfl, hX⟩
  refine ⟨_, rfl, ?_⟩
  have hE : Ext w w33 := (hE.trans hX.ext)
  have hb8 : w33.heap[n2]? = some (.cells (([v2] : List Value)).toArray 22 (0, 0)) := (Ext.blk' hX.ext hb8)
  have hA11 : Ext w3 w33 := (hA11.trans hX.ext)
  have hk19 : w33.ownsRow w3.heap.size 5 1 v18 (([] ++ Lib.uvarint B.length) ++ Lib.uvarint T.length).length (Lib.byteCells (([] ++ Lib.uvarint B.length) ++ Lib.uvarint T.length)) := (Stab.own _ _ _ _ _ _ _ _ hk19 hX.ext)
  have hb5 : w33.heap[g5]? = some (.cells ([v18]).toArray 22 (0, 0)) := (Ext.blk' hX.ext hb5)
  have hA27 : Ext w22 w33 := (hA27.trans hX.ext)
  have hzI := hX.ext.size
  have hA34 := Ext.refl w33
  have hea35 := hE
  have hea36 := hA11
  have hea37 := hA27
  have hz38 : w.heap.size ≤ w33.heap.size := hE.size
  have hz39 : w3.heap.size ≤ w33.heap.size := hA11.size
  have hz40 : w22.heap.size ≤ w33.heap.size := hA27.size
  refine opsF_step rfl (YieldsK.assign (show _ = (.map (some bM) : Value) from rfl) ?_)    -- delta.go:43 t6 := (Op.assign (Operand.tmp 22))
  refine opsF_end (fun ρ => ρ 0 = (vb : Value) ∧ ρ 1 = (v2 : Value) ∧ ρ 3 = (.pointer (some ⟨n2, 0, none⟩) : Value) ∧ ρ 4 = ((Value.slice none 0 0) : Value) ∧ ρ 5 = (.pointer (some ⟨g5, 0, none⟩) : Value) ∧ ρ 6 = (.map (some bM) : Value) ∧ True) ⟨T0, T1, T3, T4, T5, rfl, trivial⟩ fun ρ41 ⟨T0, T1, T3, T4, T5, T6, _⟩ => ?_
  refine thenF_normal (hK32 _ _ ?_)
  refine wpF_seq_k fun K42 hK42 => ?_
  refine wpF_text ?_
  refine opsF_step rfl (YieldsK.alloc (cs := ([.int .i64 ((0 : Nat) : Int)]).toArray) del8_al3 fun n43 w44 hn45 hb46 hx47 hs48 => ?_)    -- delta.go:44 t7 := (Op.alloc 3)
  have hlt49 : n2 < n43 := by have := (Array.getElem?_eq_some_iff.1 hb8).1; omega
  have hlt50 : g5 < n43 := by have := (Array.getElem?_eq_some_iff.1 hb5).1; omega
  have hap51 : Value.ownBlock v18 ≠ some n43 := own_newer hk19 (by omega)
  have hE : Ext w w44 := (hE.trans hx47)
  have hb8 : w44.heap[n2]? = some (.cells (([v2] : List Value)).toArray 22 (0, 0)) := (Ext.blk' hx47 hb8)
  have hA11 : Ext w3 w44 := (hA11.trans hx47)
  have hk19 : w44.ownsRow w3.heap.size 5 1 v18 (([] ++ Lib.uvarint B.length) ++ Lib.uvarint T.length).length (Lib.byteCells (([] ++ Lib.uvarint B.length) ++ Lib.uvarint T.length)) := (Stab.own _ _ _ _ _ _ _ _ hk19 hx47)
  have hb5 : w44.heap[g5]? = some (.cells ([v18]).toArray 22 (0, 0)) := (Ext.blk' hx47 hb5)
  have hA27 : Ext w22 w44 := (hA27.trans hx47)
  have hA34 : Ext w33 w44 := (hA34.trans hx47)
  have hb52 := hb46; clear hb46
  have hl53 : n43 < w44.heap.size := by omega
  refine opsF_step rfl (YieldsK.storeC (i := 0) (v := .int .i64 ((0 : Nat) : Int)) (show _ = (.pointer (some ⟨n43, 0, none⟩) : Value) from rfl) (show _ = (.int .i64 ((0 : Nat) : Int) : Value) from rfl) hb52 (Nat.le_of_ble_eq_true rfl) del8_isz3 rfl rfl fun w54 hb55 hg56 hs57 => ?_)    -- delta.go:44 tNone := (Op.store 3 (Operand.tmp 7) (Operand.const (Value.int IntKind.i64 0)))
  have hE : Ext w w54 := row_fresh hE hg56 (Nat.le_trans hz38 (by omega))
  have hb8 : w54.heap[n2]? = some (.cells (([v2] : List Value)).toArray 22 (0, 0)) := (hg56.block _ (Array.getElem?_eq_some_iff.1 hb8).1 (by simp; omega)).trans hb8
  have hA11 : Ext w3 w54 := row_fresh hA11 hg56 (Nat.le_trans hz39 (by omega))
  have hk19 : w54.ownsRow w3.heap.size 5 1 v18 (([] ++ Lib.uvarint B.length) ++ Lib.uvarint T.length).length (Lib.byteCells (([] ++ Lib.uvarint B.length) ++ Lib.uvarint T.length)) := own_kept hk19 hg56 hap51
  have hb5 : w54.heap[g5]? = some (.cells ([v18]).toArray 22 (0, 0)) := (hg56.block _ (Array.getElem?_eq_some_iff.1 hb5).1 (by simp; omega)).trans hb5
  have hA27 : Ext w22 w54 := row_fresh hA27 hg56 (Nat.le_trans hz40 (by omega))
  have hA34 : Ext w33 w54 := row_fresh hA34 hg56 (Nat.le_trans (Nat.le_refl _) (by omega))
  clear hb52
  have hb52 := hb55; clear hb55
  have hl58 : n43 < w54.heap.size := (Array.getElem?_eq_some_iff.1 hb52).1
  refine opsF_end (fun ρ => ρ 0 = (vb : Value) ∧ ρ 1 = (v2 : Value) ∧ ρ 3 = (.pointer (some ⟨n2, 0, none⟩) : Value) ∧ ρ 4 = ((Value.slice none 0 0) : Value) ∧ ρ 5 = (.pointer (some ⟨g5, 0, none⟩) : Value) ∧ ρ 6 = (.map (some bM) : Value) ∧ ρ 7 = (.pointer (some ⟨n43, 0, none⟩) : Value) ∧ True) ⟨T0, T1, T3, T4, T5, T6, rfl, trivial⟩ fun ρ59 ⟨T0, T1, T3, T4, T5, T6, T7, _⟩ => ?_
  refine thenF_normal (hK42 _ _ ?_)
  refine wpF_seq_k fun K60 hK60 => ?_
  refine wpF_text ?_
  refine opsF_step rfl (YieldsK.mkFunc (vs := #[.pointer (some ⟨n43, 0, none⟩), .pointer (some ⟨g5, 0, none⟩), .pointer (some ⟨n2, 0, none⟩)]) (by simp only [List.map_toArray, List.map_cons, List.map_nil]; exact congrArg List.toArray (list3 (show _ = (.pointer (some ⟨n43, 0, none⟩) : Value) from T7) (show _ = (.pointer (some ⟨g5, 0, none⟩) : Value) from T5) (show _ = (.pointer (some ⟨n2, 0, none⟩) : Value) from T3))) ?_)    -- delta.go:45 t23 := (Op.makeFunc (Fn.func 18) #[] #[(Operand.tmp 7), (Operand.tmp 5), (Operand.tmp 3)])
  refine opsF_step rfl (YieldsK.assign (show _ = (.func (.func 18) #[] #[.pointer (some ⟨n43, 0, none⟩), .pointer (some ⟨g5, 0, none⟩), .pointer (some ⟨n2, 0, none⟩)] : Value) from rfl) ?_)    -- delta.go:45 t8 := (Op.assign (Operand.tmp 23))
  refine opsF_end (fun ρ => ρ 0 = (vb : Value) ∧ ρ 1 = (v2 : Value) ∧ ρ 3 = (.pointer (some ⟨n2, 0, none⟩) : Value) ∧ ρ 4 = ((Value.slice none 0 0) : Value) ∧ ρ 5 = (.pointer (some ⟨g5, 0, none⟩) : Value) ∧ ρ 6 = (.map (some bM) : Value) ∧ ρ 7 = (.pointer (some ⟨n43, 0, none⟩) : Value) ∧ ρ 8 = (.func (.func 18) #[] #[.pointer (some ⟨n43, 0, none⟩), .pointer (some ⟨g5, 0, none⟩), .pointer (some ⟨n2, 0, none⟩)] : Value) ∧ True) ⟨T0, T1, T3, T4, T5, T6, T7, rfl, trivial⟩ fun ρ61 ⟨T0, T1, T3, T4, T5, T6, T7, T8, _⟩ => ?_
  refine thenF_normal (hK60 _ _ ?_)
  refine wpF_seq_k fun K62 hK62 => ?_
  refine wpF_seq_k fun K63 hK63 => ?_
  refine wpF_text ?_
  refine opsF_step rfl (YieldsK.assign (show _ = (.int .i64 ((0 : Nat) : Int) : Value) from rfl) ?_)    -- delta.go:51 t9 := (Op.assign (Operand.const (Value.int IntKind.i64 0)))
  refine opsF_end (fun ρ => ρ 0 = (vb : Value) ∧ ρ 1 = (v2 : Value) ∧ ρ 3 = (.pointer (some ⟨n2, 0, none⟩) : Value) ∧ ρ 4 = ((Value.slice none 0 0) : Value) ∧ ρ 5 = (.pointer (some ⟨g5, 0, none⟩) : Value) ∧ ρ 6 = (.map (some bM) : Value) ∧ ρ 7 = (.pointer (some ⟨n43, 0, none⟩) : Value) ∧ ρ 8 = (.func (.func 18) #[] #[.pointer (some ⟨n43, 0, none⟩), .pointer (some ⟨g5, 0, none⟩), .pointer (some ⟨n2, 0, none⟩)] : Value) ∧ ρ 9 = (.int .i64 ((0 : Nat) : Int) : Value) ∧ True) ⟨T0, T1, T3, T4, T5, T6, T7, T8, rfl, trivial⟩ fun ρ64 ⟨T0, T1, T3, T4, T5, T6, T7, T8, T9, _⟩ => ?_
  refine thenF_normal (hK63 _ _ ?_)
  refine wpF_block ?_
  have hM0 : MK w w33 w54 w22.heap.size n2 g5 n43 v2 v18 v18 (([] ++ Lib.uvarint B.length) ++ Lib.uvarint T.length) (0) := ⟨hE, hb8, hb5, hb52, ownsRow_base hk19 (by omega), fun k h1 h2 => hA34.block k h2, fun k hk => .inl (hoP.lt k hk).2, by omega, by omega, by omega, hq3, hq5, by omega, by omega, by omega, by omega⟩
  have hT := hrt
  refine wpF_loop (fun (ρ : Slots) (wz : World) => ∃ ia : Nat, ∃ fr : Nat, ∃ f : Nat, ∃ o : List UInt8, ∃ v : Value, ρ 0 = (vb : Value) ∧ ρ 1 = (v2 : Value) ∧ ρ 3 = (.pointer (some ⟨n2, 0, none⟩) : Value) ∧ ρ 4 = ((Value.slice none 0 0) : Value) ∧ ρ 5 = (.pointer (some ⟨g5, 0, none⟩) : Value) ∧ ρ 6 = (.map (some bM) : Value) ∧ ρ 7 = (.pointer (some ⟨n43, 0, none⟩) : Value) ∧ ρ 8 = (.func (.func 18) #[] #[.pointer (some ⟨n43, 0, none⟩), .pointer (some ⟨g5, 0, none⟩), .pointer (some ⟨n2, 0, none⟩)] : Value) ∧ ρ 9 = (.int .i64 ((ia : Nat) : Int) : Value) ∧ Ext w wz ∧ MK w w33 wz w22.heap.size n2 g5 n43 v2 v v (o) (fr) ∧ (makeGo B T f ia fr o = makeP B T) ∧ (T.length ≤ ia + f) ∧ (fr ≤ ia) ∧ (ia ≤ T.length) ∧ (o.length ≤ 20 + 40 * fr) ∧ True) (fun ρ _ => T.length - (intOf (ρ 9)).toNat) ⟨0, 0, T.length, ([] ++ Lib.uvarint B.length) ++ Lib.uvarint T.length, v18, T0, T1, T3, T4, T5, T6, T7, T8, T9, hE, hM0, (show makeGo B T T.length 0 0 _ = _ from by rw [makeP, List.nil_append]), by omega, Nat.le_refl _, Nat.zero_le _, by have := uvarint_len63 B.length (by omega); have := uvarint_len63 T.length (by omega); simp only [List.length_append, List.length_nil]; omega, trivial⟩ ?_
  clear hA11
  clear hA27
  clear hA34
  clear hM0
  clear hE
  rintro ρ65 w66 ⟨ia, fr, f, o, v, T0, T1, T3, T4, T5, T6, T7, T8, T9, hE, hM, hgo, hf, hfr, hat, hol, -⟩
  have q9 := T9
  have hb67 : w66.heap[n2]? = some (.cells ([v2] : List Value).toArray 22 (0, 0)) := hM.b3
  have hb68 : w66.heap[g5]? = some (.cells ([v] : List Value).toArray 22 (0, 0)) := hM.b5
  have hb69 : w66.heap[n43]? = some (.cells ([NI (fr)] : List Value).toArray 3 (0, 0)) := hM.b7
  refine wpF_seq_k fun K70 hK70 => ?_
  refine wpF_seq_k fun K71 hK71 => ?_
  refine wpF_text ?_
  refine opsF_step rfl (YieldsK.move (show _ = (.int .i64 ((ia : Nat) : Int) : Value) from T9) ?_)    -- delta.go:51 t24 := (Op.move (Operand.tmp 9))
  refine opsF_step rfl (YieldsK.cell1 del8_ty22 rfl (show _ = (.pointer (some ⟨n2, 0, none⟩) : Value) from T3) (cellAt hb67 (show _ = some (v2 : Value) from rfl)) ?_)    -- delta.go:51 t25 := (Op.load 22 (Operand.tmp 3))
  refine opsF_step rfl (YieldsK.lenRB del8_ty22 (RB.of (hrt.keep hE) (show _ = (v2 : Value) from rfl)) ?_)    -- delta.go:51 t26 := (Op.call { callee := (Callee.builtin Builtin.len), args := #[(Operand.tmp 25)], argTypes := #[22] })
  refine opsF_step rfl (YieldsK.eqI (a := ((ia : Nat) : Int)) (b := ((T.length : Nat) : Int)) (show _ = (.int .i64 ((ia : Nat) : Int) : Value) from rfl) (show _ = (.int .i64 ((T.length : Nat) : Int) : Value) from rfl) (k_lss _ .i64 (ia) (T.length)) ?_)    -- delta.go:51 t27 := (Op.binOp BinOp.lss 3 (Operand.tmp 24) (Operand.tmp 26) 3)
  refine opsF_end (fun ρ => ρ 0 = (vb : Value) ∧ ρ 1 = (v2 : Value) ∧ ρ 3 = (.pointer (some ⟨n2, 0, none⟩) : Value) ∧ ρ 4 = ((Value.slice none 0 0) : Value) ∧ ρ 5 = (.pointer (some ⟨g5, 0, none⟩) : Value) ∧ ρ 6 = (.map (some bM) : Value) ∧ ρ 7 = (.pointer (some ⟨n43, 0, none⟩) : Value) ∧ ρ 8 = (.func (.func 18) #[] #[.pointer (some ⟨n43, 0, none⟩), .pointer (some ⟨g5, 0, none⟩), .pointer (some ⟨n2, 0, none⟩)] : Value) ∧ ρ 9 = (.int .i64 ((ia : Nat) : Int) : Value) ∧ ρ 27 = (.bool (decide ((ia) < (T.length))) : Value) ∧ True) ⟨T0, T1, T3, T4, T5, T6, T7, T8, T9, rfl, trivial⟩ fun ρ72 ⟨T0, T1, T3, T4, T5, T6, T7, T8, T9, T27, _⟩ => ?_
  refine thenF_normal (hK71 _ _ ?_)
  refine wpF_cond ((ia) < (T.length)) (show _ = (.bool (decide ((ia) < (T.length))) : Value) from T27) (fun hc0 => ?_) (fun hc0 => ?_)
  · obtain ⟨f', rfl⟩ : ∃ f', f = f' + 1 := ⟨f - 1, by omega⟩
    refine wpF_skip ?_
    refine thenF_normal (hK70 _ _ ?_)
    refine wpF_block ?_
    refine wpF_seq_k fun K73 hK73 => ?_
    refine wpF_text ?_
    refine opsF_step rfl (YieldsK.assign (show _ = (.int .i64 ((0 : Nat) : Int) : Value) from rfl) ?_)    -- delta.go:52 t10 := (Op.assign (Operand.const (Value.int IntKind.i64 0)))
    refine opsF_step rfl (YieldsK.assign (show _ = (.int .i64 ((0 : Nat) : Int) : Value) from rfl) ?_)    -- delta.go:52 t11 := (Op.assign (Operand.const (Value.int IntKind.i64 0)))
    refine opsF_end (fun ρ => ρ 0 = (vb : Value) ∧ ρ 1 = (v2 : Value) ∧ ρ 3 = (.pointer (some ⟨n2, 0, none⟩) : Value) ∧ ρ 4 = ((Value.slice none 0 0) : Value) ∧ ρ 5 = (.pointer (some ⟨g5, 0, none⟩) : Value) ∧ ρ 6 = (.map (some bM) : Value) ∧ ρ 7 = (.pointer (some ⟨n43, 0, none⟩) : Value) ∧ ρ 8 = (.func (.func 18) #[] #[.pointer (some ⟨n43, 0, none⟩), .pointer (some ⟨g5, 0, none⟩), .pointer (some ⟨n2, 0, none⟩)] : Value) ∧ ρ 9 = (.int .i64 ((ia : Nat) : Int) : Value) ∧ ρ 10 = (.int .i64 ((0 : Nat) : Int) : Value) ∧ ρ 11 = (.int .i64 ((0 : Nat) : Int) : Value) ∧ True) ⟨T0, T1, T3, T4, T5, T6, T7, T8, T9, rfl, rfl, trivial⟩ fun ρ74 ⟨T0, T1, T3, T4, T5, T6, T7, T8, T9, T10, T11, _⟩ => ?_
    refine thenF_normal (hK73 _ _ ?_)
    refine wpF_seq_k fun K75 hK75 => ?_
    refine wpF_seq_k fun K76 hK76 => ?_
    refine wpF_text ?_
    refine opsF_step rfl (YieldsK.move (show _ = (.int .i64 ((ia : Nat) : Int) : Value) from T9) ?_)    -- delta.go:53 t28 := (Op.move (Operand.tmp 9))
    refine opsF_step rfl (YieldsK.bin (xv := .int .i64 ((ia : Nat) : Int)) (yv := .int .i64 ((8 : Nat) : Int)) (show _ = (.int .i64 ((ia : Nat) : Int) : Value) from rfl) (show _ = (.int .i64 ((8 : Nat) : Int) : Value) from rfl) rfl (i64_add _ (ia) (8) (by omega)) ?_)    -- delta.go:53 t29 := (Op.binOp BinOp.add 3 (Operand.tmp 28) (Operand.const (Value.int IntKind.i64 8)) 3)
    refine opsF_step rfl (YieldsK.cell1 del8_ty22 rfl (show _ = (.pointer (some ⟨n2, 0, none⟩) : Value) from T3) (cellAt hb67 (show _ = some (v2 : Value) from rfl)) ?_)    -- delta.go:53 t30 := (Op.load 22 (Operand.tmp 3))
    refine opsF_step rfl (YieldsK.lenRB del8_ty22 (RB.of (hrt.keep hE) (show _ = (v2 : Value) from rfl)) ?_)    -- delta.go:53 t31 := (Op.call { callee := (Callee.builtin Builtin.len), args := #[(Operand.tmp 30)], argTypes := #[22] })
    refine opsF_step rfl (YieldsK.eqI (a := (((ia) + (8) : Nat) : Int)) (b := ((T.length : Nat) : Int)) (show _ = (.int .i64 (((ia) + (8) : Nat) : Int) : Value) from rfl) (show _ = (.int .i64 ((T.length : Nat) : Int) : Value) from rfl) (k_leq _ .i64 ((ia) + (8)) (T.length)) ?_)    -- delta.go:53 t32 := (Op.binOp BinOp.leq 3 (Operand.tmp 29) (Operand.tmp 31) 3)
    refine opsF_end (fun ρ => ρ 0 = (vb : Value) ∧ ρ 1 = (v2 : Value) ∧ ρ 3 = (.pointer (some ⟨n2, 0, none⟩) : Value) ∧ ρ 4 = ((Value.slice none 0 0) : Value) ∧ ρ 5 = (.pointer (some ⟨g5, 0, none⟩) : Value) ∧ ρ 6 = (.map (some bM) : Value) ∧ ρ 7 = (.pointer (some ⟨n43, 0, none⟩) : Value) ∧ ρ 8 = (.func (.func 18) #[] #[.pointer (some ⟨n43, 0, none⟩), .pointer (some ⟨g5, 0, none⟩), .pointer (some ⟨n2, 0, none⟩)] : Value) ∧ ρ 9 = (.int .i64 ((ia : Nat) : Int) : Value) ∧ ρ 10 = (.int .i64 ((0 : Nat) : Int) : Value) ∧ ρ 11 = (.int .i64 ((0 : Nat) : Int) : Value) ∧ ρ 32 = (.bool (decide (((ia) + (8)) ≤ (T.length))) : Value) ∧ True) ⟨T0, T1, T3, T4, T5, T6, T7, T8, T9, T10, T11, rfl, trivial⟩ fun ρ77 ⟨T0, T1, T3, T4, T5, T6, T7, T8, T9, T10, T11, T32, _⟩ => ?_
    refine thenF_normal (hK76 _ _ ?_)
    refine wpF_cond (((ia) + (8)) ≤ (T.length)) (show _ = (.bool (decide (((ia) + (8)) ≤ (T.length))) : Value) from T32) (fun hc1 => ?_) (fun hc1 => ?_)
    · have hrl : ((T.drop ia).take (ia + 8 - ia)).length = 8 := by rw [List.length_take, List.length_drop]; omega
      have hrl8 : ((T.drop ia).take 8).length = 8 := by rw [List.length_take, List.length_drop]; omega
      refine wpF_seq_k fun K78 hK78 => ?_
      refine wpF_text ?_
      refine opsF_step rfl (YieldsK.move (show _ = (.map (some bM) : Value) from T6) ?_)    -- delta.go:54 t33 := (Op.move (Operand.tmp 6))
      refine opsF_step rfl (YieldsK.cell1 del8_ty22 rfl (show _ = (.pointer (some ⟨n2, 0, none⟩) : Value) from T3) (cellAt hb67 (show _ = some (v2 : Value) from rfl)) ?_)    -- delta.go:54 t34 := (Op.load 22 (Operand.tmp 3))
      refine opsF_step rfl (YieldsK.move (show _ = (.int .i64 ((ia : Nat) : Int) : Value) from T9) ?_)    -- delta.go:54 t35 := (Op.move (Operand.tmp 9))
      refine opsF_step rfl (YieldsK.move (show _ = (.int .i64 ((ia : Nat) : Int) : Value) from T9) ?_)    -- delta.go:54 t36 := (Op.move (Operand.tmp 9))
      refine opsF_step rfl (YieldsK.bin (xv := .int .i64 ((ia : Nat) : Int)) (yv := .int .i64 ((8 : Nat) : Int)) (show _ = (.int .i64 ((ia : Nat) : Int) : Value) from rfl) (show _ = (.int .i64 ((8 : Nat) : Int) : Value) from rfl) rfl (i64_add _ (ia) (8) (by omega)) ?_)    -- delta.go:54 t37 := (Op.binOp BinOp.add 3 (Operand.tmp 36) (Operand.const (Value.int IntKind.i64 8)) 3)
      refine opsF_step rfl (YieldsK.sliceLH (xs := T) (l := ia) (n := (ia) + (8)) del8_ty22 del8_sz5 (show _ = (v2 : Value) from rfl) (hrt.keep hE) (show _ = (.int .i64 ((ia : Nat) : Int) : Value) from rfl) (show _ = (.int .i64 (((ia) + (8) : Nat) : Int) : Value) from rfl) (by omega) (by omega) fun v79 hr80 ha81 => ?_)    -- delta.go:54 t38 := (Op.slice 22 (Operand.tmp 34) (some (Operand.tmp 35)) (some (Operand.tmp 37)) none)
      refine opsF_step rfl (YieldsK.toArr del8_ty45 (RB.of hr80 (show _ = (v79 : Value) from rfl)) (l := (T.drop (ia)).take (((ia) + (8)) - (ia))) (n := 8) (by rw [List.length_take, List.length_drop]; omega) (by decide) fun n82 n83 hr84 => ?_)    -- delta.go:54 t39 := (Op.sliceToArrayPointer 45 (Operand.tmp 38))
      refine opsF_step rfl (YieldsK.loadPart (show _ = (.pointer (some ⟨n82, n83, none⟩) : Value) from rfl) (show World.rangeAt _ _ _ (Lib.byteCells ((T.drop ia).take 8)) from by simpa only [Nat.add_sub_cancel_left] using hr84) del8_ty45 rfl (by rw [Lib.byteCells_length, hrl8]; exact del8_isz45) ?_)    -- delta.go:54 t40 := (Op.load 45 (Operand.tmp 39))
      refine opsF_step rfl (YieldsK.look rowLaw rowKey del8_ty40 zeroInts (show _ = (.map (some bM) : Value) from rfl) (show _ = (.agg (Lib.byteCells ((T.drop ia).take 8)).toArray : Value) from rfl) (MK.idx hM hX.idx hX.lo) hrl8 fun v85 ho86 => ?_)    -- delta.go:54 t41 := (Op.lookup 40 (Operand.tmp 33) (Operand.tmp 40) false)
      refine opsF_step rfl (YieldsK.lenOwn del8_ty43 (own_of ho86 (show _ = (v85 : Value) from rfl)) ?_)    -- delta.go:54 t42 := (Op.call { callee := (Callee.builtin Builtin.len), args := #[(Operand.tmp 41)], argTypes := #[43] })
      refine opsF_step rfl (YieldsK.move (show _ = (.int .i64 ((0 : Nat) : Int) : Value) from rfl) ?_)    -- delta.go:54 t43 := (Op.move (Operand.const (Value.int IntKind.i64 0)))
      refine opsF_end (fun ρ => ρ 0 = (vb : Value) ∧ ρ 1 = (v2 : Value) ∧ ρ 3 = (.pointer (some ⟨n2, 0, none⟩) : Value) ∧ ρ 4 = ((Value.slice none 0 0) : Value) ∧ ρ 5 = (.pointer (some ⟨g5, 0, none⟩) : Value) ∧ ρ 6 = (.map (some bM) : Value) ∧ ρ 7 = (.pointer (some ⟨n43, 0, none⟩) : Value) ∧ ρ 8 = (.func (.func 18) #[] #[.pointer (some ⟨n43, 0, none⟩), .pointer (some ⟨g5, 0, none⟩), .pointer (some ⟨n2, 0, none⟩)] : Value) ∧ ρ 9 = (.int .i64 ((ia : Nat) : Int) : Value) ∧ ρ 10 = (.int .i64 ((0 : Nat) : Int) : Value) ∧ ρ 11 = (.int .i64 ((0 : Nat) : Int) : Value) ∧ ρ 41 = (v85 : Value) ∧ ρ 42 = (.int .i64 (((posOf B (B.length - 7) ((T.drop ia).take 8)).length : Nat) : Int) : Value) ∧ ρ 43 = (.int .i64 ((0 : Nat) : Int) : Value) ∧ True) ⟨T0, T1, T3, T4, T5, T6, T7, T8, T9, T10, T11, rfl, rfl, rfl, trivial⟩ fun ρ87 ⟨T0, T1, T3, T4, T5, T6, T7, T8, T9, T10, T11, T41, T42, T43, _⟩ => ?_
      refine thenF_normal (hK78 _ _ ?_)
      refine wpF_block ?_
      refine wpF_loop (fun (ρ : Slots) (wz : World) => ∃ j : Nat, ∃ p : Nat, ∃ n : Nat, ρ 0 = (vb : Value) ∧ ρ 1 = (v2 : Value) ∧ ρ 3 = (.pointer (some ⟨n2, 0, none⟩) : Value) ∧ ρ 4 = ((Value.slice none 0 0) : Value) ∧ ρ 5 = (.pointer (some ⟨g5, 0, none⟩) : Value) ∧ ρ 6 = (.map (some bM) : Value) ∧ ρ 7 = (.pointer (some ⟨n43, 0, none⟩) : Value) ∧ ρ 8 = (.func (.func 18) #[] #[.pointer (some ⟨n43, 0, none⟩), .pointer (some ⟨g5, 0, none⟩), .pointer (some ⟨n2, 0, none⟩)] : Value) ∧ ρ 9 = (.int .i64 ((ia : Nat) : Int) : Value) ∧ ρ 41 = (v85 : Value) ∧ ρ 42 = (.int .i64 (((posOf B (B.length - 7) ((T.drop ia).take 8)).length : Nat) : Int) : Value) ∧ ρ 43 = (.int .i64 ((j : Nat) : Int) : Value) ∧ ρ 10 = (.int .i64 ((p : Nat) : Int) : Value) ∧ ρ 11 = (.int .i64 ((n : Nat) : Int) : Value) ∧ Ext w wz ∧ MK w w33 wz w22.heap.size n2 g5 n43 v2 v v (o) (fr) ∧ wz.heap[n2]? = some (.cells ([v2] : List Value).toArray 22 (0, 0)) ∧ wz.heap[g5]? = some (.cells ([v] : List Value).toArray 22 (0, 0)) ∧ wz.heap[n43]? = some (.cells ([NI (fr)] : List Value).toArray 3 (0, 0)) ∧ RB wz v79 ((T.drop (ia)).take (((ia) + (8)) - (ia))) ∧ wz.ownsRow baseM 3 1 v85 (posOf B (B.length - 7) ((T.drop ia).take 8)).length ((posOf B (B.length - 7) ((T.drop ia).take 8)).map NI) ∧ (j ≤ (posOf B (B.length - 7) ((T.drop ia).take 8)).length) ∧ (((posOf B (B.length - 7) ((T.drop ia).take 8)).take j).foldl (bstep B T ia) (0, 0) = (p, n)) ∧ (p ≤ B.length) ∧ (n ≤ T.length - ia) ∧ True) (fun ρ _ => (posOf B (B.length - 7) ((T.drop ia).take 8)).length - (intOf (ρ 43)).toNat) ⟨0, 0, 0, T0, T1, T3, T4, T5, T6, T7, T8, T9, T41, T42, T43, T10, T11, hE, hM, hb67, hb68, hb69, hr80, ho86, Nat.zero_le _, rfl, Nat.zero_le _, Nat.zero_le _, trivial⟩ ?_
      clear hE hM hb67 hb68 hb69 hr80 ho86
      rintro ρ88 w89 ⟨j, p, n, T0, T1, T3, T4, T5, T6, T7, T8, T9, T41, T42, T43, T10, T11, hE, hM, hb67, hb68, hb69, hr80, ho86, hjl, hbp, hp, hn, -⟩
      have q43 := T43
      refine wpF_seq_k fun K90 hK90 => ?_
      refine wpF_text ?_
      refine opsF_step rfl (YieldsK.eqI (a := ((j : Nat) : Int)) (b := (((posOf B (B.length - 7) ((T.drop ia).take 8)).length : Nat) : Int)) (show _ = (.int .i64 ((j : Nat) : Int) : Value) from T43) (show _ = (.int .i64 (((posOf B (B.length - 7) ((T.drop ia).take 8)).length : Nat) : Int) : Value) from T42) (k_lss _ .i64 (j) ((posOf B (B.length - 7) ((T.drop ia).take 8)).length)) ?_)    -- delta.go:54 t44 := (Op.binOp BinOp.lss 3 (Operand.tmp 43) (Operand.tmp 42) 3)
      refine opsF_end (fun ρ => ρ 0 = (vb : Value) ∧ ρ 1 = (v2 : Value) ∧ ρ 3 = (.pointer (some ⟨n2, 0, none⟩) : Value) ∧ ρ 4 = ((Value.slice none 0 0) : Value) ∧ ρ 5 = (.pointer (some ⟨g5, 0, none⟩) : Value) ∧ ρ 6 = (.map (some bM) : Value) ∧ ρ 7 = (.pointer (some ⟨n43, 0, none⟩) : Value) ∧ ρ 8 = (.func (.func 18) #[] #[.pointer (some ⟨n43, 0, none⟩), .pointer (some ⟨g5, 0, none⟩), .pointer (some ⟨n2, 0, none⟩)] : Value) ∧ ρ 9 = (.int .i64 ((ia : Nat) : Int) : Value) ∧ ρ 10 = (.int .i64 ((p : Nat) : Int) : Value) ∧ ρ 11 = (.int .i64 ((n : Nat) : Int) : Value) ∧ ρ 41 = (v85 : Value) ∧ ρ 42 = (.int .i64 (((posOf B (B.length - 7) ((T.drop ia).take 8)).length : Nat) : Int) : Value) ∧ ρ 43 = (.int .i64 ((j : Nat) : Int) : Value) ∧ ρ 44 = (.bool (decide ((j) < ((posOf B (B.length - 7) ((T.drop ia).take 8)).length))) : Value) ∧ True) ⟨T0, T1, T3, T4, T5, T6, T7, T8, T9, T10, T11, T41, T42, T43, rfl, trivial⟩ fun ρ91 ⟨T0, T1, T3, T4, T5, T6, T7, T8, T9, T10, T11, T41, T42, T43, T44, _⟩ => ?_
      refine thenF_normal (hK90 _ _ ?_)
      refine wpF_seq_k fun K92 hK92 => ?_
      refine wpF_cond ((j) < ((posOf B (B.length - 7) ((T.drop ia).take 8)).length)) (show _ = (.bool (decide ((j) < ((posOf B (B.length - 7) ((T.drop ia).take 8)).length))) : Value) from T44) (fun hj => ?_) (fun hj => ?_)
      · have hq := posOf_lt hj
        have hpl := posOf_length B (B.length - 7) ((T.drop ia).take 8)
        refine wpF_skip ?_
        refine thenF_normal (hK92 _ _ ?_)
        refine wpF_seq_k fun K93 hK93 => ?_
        refine wpF_block ?_
        refine wpF_seq_k fun K94 hK94 => ?_
        refine wpF_text ?_
        refine opsF_step rfl (YieldsK.atOwn (xs := (posOf B (B.length - 7) ((T.drop ia).take 8)).map NI) del8_ty43 del8_sz3 (by rw [List.length_map]; exact own_of ho86 (show _ = (v85 : Value) from T41)) (show _ = (.int .i64 ((j : Nat) : Int) : Value) from T43) (by rw [List.length_map]; exact hj) fun v95 hp96 => ?_)    -- delta.go:54 t45 := (Op.indexAddr 43 (Operand.tmp 41) (Operand.tmp 43))
        rw [NI_getD _ _ hj] at hp96
        refine opsF_step rfl (YieldsK.loadC del8_ty3 rfl (PCell.of hp96 (show _ = (v95 : Value) from rfl)) ?_)    -- delta.go:54 t46 := (Op.load 3 (Operand.tmp 45))
        refine opsF_step rfl (YieldsK.assign (show _ = (.int .i64 (((posOf B (B.length - 7) ((T.drop ia).take 8)).getD j 0 : Nat) : Int) : Value) from rfl) ?_)    -- delta.go:54 t13 := (Op.assign (Operand.tmp 46))
        refine opsF_end (fun ρ => ρ 0 = (vb : Value) ∧ ρ 1 = (v2 : Value) ∧ ρ 3 = (.pointer (some ⟨n2, 0, none⟩) : Value) ∧ ρ 4 = ((Value.slice none 0 0) : Value) ∧ ρ 5 = (.pointer (some ⟨g5, 0, none⟩) : Value) ∧ ρ 6 = (.map (some bM) : Value) ∧ ρ 7 = (.pointer (some ⟨n43, 0, none⟩) : Value) ∧ ρ 8 = (.func (.func 18) #[] #[.pointer (some ⟨n43, 0, none⟩), .pointer (some ⟨g5, 0, none⟩), .pointer (some ⟨n2, 0, none⟩)] : Value) ∧ ρ 9 = (.int .i64 ((ia : Nat) : Int) : Value) ∧ ρ 10 = (.int .i64 ((p : Nat) : Int) : Value) ∧ ρ 11 = (.int .i64 ((n : Nat) : Int) : Value) ∧ ρ 13 = (.int .i64 (((posOf B (B.length - 7) ((T.drop ia).take 8)).getD j 0 : Nat) : Int) : Value) ∧ ρ 41 = (v85 : Value) ∧ ρ 42 = (.int .i64 (((posOf B (B.length - 7) ((T.drop ia).take 8)).length : Nat) : Int) : Value) ∧ ρ 43 = (.int .i64 ((j : Nat) : Int) : Value) ∧ True) ⟨T0, T1, T3, T4, T5, T6, T7, T8, T9, T10, T11, rfl, T41, T42, T43, trivial⟩ fun ρ97 ⟨T0, T1, T3, T4, T5, T6, T7, T8, T9, T10, T11, T13, T41, T42, T43, _⟩ => ?_
        clear hp96
        refine thenF_normal (hK94 _ _ ?_)
        refine wpF_seq_k fun K98 hK98 => ?_
        refine wpF_draw [Is (vb), Is (.int .i64 (((posOf B (B.length - 7) ((T.drop ia).take 8)).getD j 0 : Nat) : Int)), fun x w' => RB w' x (B.drop ((posOf B (B.length - 7) ((T.drop ia).take 8)).getD j 0)), Is (v2), Is (.int .i64 ((ia : Nat) : Int)), fun x w' => RB w' x (T.drop (ia)), Is (.int .i64 ((lcp (B.drop ((posOf B (B.length - 7) ((T.drop ia).take 8)).getD j 0)) (T.drop (ia)) : Nat) : Int)), Is (.int .i64 ((lcp (B.drop ((posOf B (B.length - 7) ((T.drop ia).take 8)).getD j 0)) (T.drop (ia)) : Nat) : Int))] (by kernel_rfl) [47, 48, 49, 50, 51, 52, 53, 14] (by kernel_rfl) (by kernel_rfl) ⟨Stab.is _, Stab.is _, (fun _ _ _ h k => RB.keep h k), Stab.is _, Stab.is _, (fun _ _ _ h k => RB.keep h k), Stab.is _, Stab.is _, trivial⟩ ?hs4012 ?hQ4012
        case hs4012 =>
          refine ⟨?_, ?_, ?_, ?_, ?_, ?_, ?_, ?_, trivial⟩
          · refine stepN rfl fun σ w1 hC h => ?_    -- t47 := (Op.move (Operand.tmp 0))
            have e0 : σ 0 = vb := (show _ = _ from h 0 (by decide)).trans T0
            exact YieldsK.move e0 ⟨Ext.refl _, rfl⟩
          · refine stepN rfl fun σ w1 hC h => ?_    -- t48 := (Op.move (Operand.tmp 13))
            have e13 : σ 13 = .int .i64 (((posOf B (B.length - 7) ((T.drop ia).take 8)).getD j 0 : Nat) : Int) := (show _ = _ from h 13 (by decide)).trans T13
            exact YieldsK.move e13 ⟨Ext.refl _, rfl⟩
          · refine stepN rfl fun σ w1 hC h => ?_    -- t49 := (Op.slice 22 (Operand.tmp 47) (some (Operand.tmp 48)) none none)
            have e47 : σ 47 = vb := h 47 (by decide)
            have e48 : σ 48 = .int .i64 (((posOf B (B.length - 7) ((T.drop ia).take 8)).getD j 0 : Nat) : Int) := h 48 (by decide)
            exact YieldsK.sliceLo (xs := B) (l := (posOf B (B.length - 7) ((T.drop ia).take 8)).getD j 0) del8_ty22 del8_sz5 rfl (RB.of (hrb.keep (hE.trans hC)) e47) e48 (by omega) fun v hr _ => ⟨Ext.refl _, hr⟩
          · refine stepN rfl fun σ w1 hC h => ?_    -- t50 := (Op.load 22 (Operand.tmp 3))
            have e3 : σ 3 = .pointer (some ⟨n2, 0, none⟩) := (show _ = _ from h 3 (by decide)).trans T3
            exact YieldsK.cell1 del8_ty22 rfl e3 (cellAt (Ext.blk' hC hb67) (show _ = some (v2 : Value) from rfl)) ⟨Ext.refl _, rfl⟩
          · refine stepN rfl fun σ w1 hC h => ?_    -- t51 := (Op.move (Operand.tmp 9))
            have e9 : σ 9 = .int .i64 ((ia : Nat) : Int) := (show _ = _ from h 9 (by decide)).trans T9
            exact YieldsK.move e9 ⟨Ext.refl _, rfl⟩
          · refine stepN rfl fun σ w1 hC h => ?_    -- t52 := (Op.slice 22 (Operand.tmp 50) (some (Operand.tmp 51)) none none)
            have e50 : σ 50 = v2 := h 50 (by decide)
            have e51 : σ 51 = .int .i64 ((ia : Nat) : Int) := h 51 (by decide)
            exact YieldsK.sliceLo (xs := T) (l := ia) del8_ty22 del8_sz5 rfl (RB.of (hrt.keep (hE.trans hC)) e50) e51 (by omega) fun v hr _ => ⟨Ext.refl _, hr⟩
          · refine stepN rfl fun σ w1 hC h => ?_    -- t53 := (Op.call { callee := (Callee.value (Operand.func 19)), args := #[(Operand.tmp 49), (Operand.tmp 52)], argTypes
            have e49 : (fun x w' => RB w' x (B.drop ((posOf B (B.length - 7) ((T.drop ia).take 8)).getD j 0))) (σ 49) w1 := h 49 (by decide)
            have e52 : (fun x w' => RB w' x (T.drop (ia))) (σ 52) w1 := h 52 (by decide)
            refine YieldsK.callA2 del8_pl19 rfl rfl ?_
            refine (common_any _ (σ 49) (σ 52) (B.drop ((posOf B (B.length - 7) ((T.drop ia).take 8)).getD j 0)) (T.drop (ia)) e49 e52 (by simp only [List.length_drop]; omega)).mono ?_
            rintro e w2 ⟨rfl, hx⟩
            exact ⟨_, rfl, hx, rfl⟩
          · refine stepN rfl fun σ w1 hC h => ?_    -- t14 := (Op.assign (Operand.tmp 53))
            have e53 : σ 53 = .int .i64 ((lcp (B.drop ((posOf B (B.length - 7) ((T.drop ia).take 8)).getD j 0)) (T.drop (ia)) : Nat) : Int) := h 53 (by decide)
            exact YieldsK.assign e53 ⟨Ext.refl _, rfl⟩
        intro ρ99 w100 hx101 he hf
        obtain ⟨-, -, -, -, -, -, -, k14, -⟩ := hf
        have T0 : ρ99 0 = vb := he.at_ T0 rfl
        have T1 : ρ99 1 = v2 := he.at_ T1 rfl
        have T3 : ρ99 3 = .pointer (some ⟨n2, 0, none⟩) := he.at_ T3 rfl
        have T4 : ρ99 4 = (Value.slice none 0 0) := he.at_ T4 rfl
        have T5 : ρ99 5 = .pointer (some ⟨g5, 0, none⟩) := he.at_ T5 rfl
        have T6 : ρ99 6 = .map (some bM) := he.at_ T6 rfl
        have T7 : ρ99 7 = .pointer (some ⟨n43, 0, none⟩) := he.at_ T7 rfl
        have T8 : ρ99 8 = .func (.func 18) #[] #[.pointer (some ⟨n43, 0, none⟩), .pointer (some ⟨g5, 0, none⟩), .pointer (some ⟨n2, 0, none⟩)] := he.at_ T8 rfl
        have T9 : ρ99 9 = .int .i64 ((ia : Nat) : Int) := he.at_ T9 rfl
        have T10 : ρ99 10 = .int .i64 ((p : Nat) : Int) := he.at_ T10 rfl
        have T11 : ρ99 11 = .int .i64 ((n : Nat) : Int) := he.at_ T11 rfl
        have T13 : ρ99 13 = .int .i64 (((posOf B (B.length - 7) ((T.drop ia).take 8)).getD j 0 : Nat) : Int) := he.at_ T13 rfl
        have T41 : ρ99 41 = v85 := he.at_ T41 rfl
        have T42 : ρ99 42 = .int .i64 (((posOf B (B.length - 7) ((T.drop ia).take 8)).length : Nat) : Int) := he.at_ T42 rfl
        have T43 : ρ99 43 = .int .i64 ((j : Nat) : Int) := he.at_ T43 rfl
        clear he
        have hE : Ext w w100 := (hE.trans hx101)
        have hM : MK w w33 w100 w22.heap.size n2 g5 n43 v2 v v (o) (fr) := (hM.keep hx101)
        have hb67 : w100.heap[n2]? = some (.cells ([v2] : List Value).toArray 22 (0, 0)) := (Ext.blk' hx101 hb67)
        have hb68 : w100.heap[g5]? = some (.cells ([v] : List Value).toArray 22 (0, 0)) := (Ext.blk' hx101 hb68)
        have hb69 : w100.heap[n43]? = some (.cells ([NI (fr)] : List Value).toArray 3 (0, 0)) := (Ext.blk' hx101 hb69)
        have hr80 : RB w100 v79 ((T.drop (ia)).take (((ia) + (8)) - (ia))) := (hr80.keep hx101)
        have ho86 : w100.ownsRow baseM 3 1 v85 (posOf B (B.length - 7) ((T.drop ia).take 8)).length ((posOf B (B.length - 7) ((T.drop ia).take 8)).map NI) := (Stab.own _ _ _ _ _ _ _ _ ho86 hx101)
        have T14 : ρ99 14 = .int .i64 ((lcp (B.drop ((posOf B (B.length - 7) ((T.drop ia).take 8)).getD j 0)) (T.drop (ia)) : Nat) : Int) := k14
        clear k14
        refine thenF_normal (hK98 _ _ ?_)
        refine wpF_seq_k fun K102 hK102 => ?_
        refine wpF_text ?_
        refine opsF_step rfl (YieldsK.move (show _ = (.int .i64 ((lcp (B.drop ((posOf B (B.length - 7) ((T.drop ia).take 8)).getD j 0)) (T.drop (ia)) : Nat) : Int) : Value) from T14) ?_)    -- delta.go:55 t54 := (Op.move (Operand.tmp 14))
        refine opsF_step rfl (YieldsK.move (show _ = (.int .i64 ((n : Nat) : Int) : Value) from T11) ?_)    -- delta.go:55 t55 := (Op.move (Operand.tmp 11))
        refine opsF_step rfl (YieldsK.eqI (a := ((lcp (B.drop ((posOf B (B.length - 7) ((T.drop ia).take 8)).getD j 0)) (T.drop (ia)) : Nat) : Int)) (b := ((n : Nat) : Int)) (show _ = (.int .i64 ((lcp (B.drop ((posOf B (B.length - 7) ((T.drop ia).take 8)).getD j 0)) (T.drop (ia)) : Nat) : Int) : Value) from rfl) (show _ = (.int .i64 ((n : Nat) : Int) : Value) from rfl) (k_gtr _ .i64 (lcp (B.drop ((posOf B (B.length - 7) ((T.drop ia).take 8)).getD j 0)) (T.drop (ia))) (n)) ?_)    -- delta.go:55 t56 := (Op.binOp BinOp.gtr 3 (Operand.tmp 54) (Operand.tmp 55) 3)
        refine opsF_end (fun ρ => ρ 0 = (vb : Value) ∧ ρ 1 = (v2 : Value) ∧ ρ 3 = (.pointer (some ⟨n2, 0, none⟩) : Value) ∧ ρ 4 = ((Value.slice none 0 0) : Value) ∧ ρ 5 = (.pointer (some ⟨g5, 0, none⟩) : Value) ∧ ρ 6 = (.map (some bM) : Value) ∧ ρ 7 = (.pointer (some ⟨n43, 0, none⟩) : Value) ∧ ρ 8 = (.func (.func 18) #[] #[.pointer (some ⟨n43, 0, none⟩), .pointer (some ⟨g5, 0, none⟩), .pointer (some ⟨n2, 0, none⟩)] : Value) ∧ ρ 9 = (.int .i64 ((ia : Nat) : Int) : Value) ∧ ρ 10 = (.int .i64 ((p : Nat) : Int) : Value) ∧ ρ 11 = (.int .i64 ((n : Nat) : Int) : Value) ∧ ρ 13 = (.int .i64 (((posOf B (B.length - 7) ((T.drop ia).take 8)).getD j 0 : Nat) : Int) : Value) ∧ ρ 14 = (.int .i64 ((lcp (B.drop ((posOf B (B.length - 7) ((T.drop ia).take 8)).getD j 0)) (T.drop (ia)) : Nat) : Int) : Value) ∧ ρ 41 = (v85 : Value) ∧ ρ 42 = (.int .i64 (((posOf B (B.length - 7) ((T.drop ia).take 8)).length : Nat) : Int) : Value) ∧ ρ 43 = (.int .i64 ((j : Nat) : Int) : Value) ∧ ρ 56 = (.bool (decide ((n) < (lcp (B.drop ((posOf B (B.length - 7) ((T.drop ia).take 8)).getD j 0)) (T.drop (ia))))) : Value) ∧ True) ⟨T0, T1, T3, T4, T5, T6, T7, T8, T9, T10, T11, T13, T14, T41, T42, T43, rfl, trivial⟩ fun ρ103 ⟨T0, T1, T3, T4, T5, T6, T7, T8, T9, T10, T11, T13, T14, T41, T42, T43, T56, _⟩ => ?_
        refine thenF_normal (hK102 _ _ ?_)
        refine wpF_cond ((n) < (lcp (B.drop ((posOf B (B.length - 7) ((T.drop ia).take 8)).getD j 0)) (T.drop (ia)))) (show _ = (.bool (decide ((n) < (lcp (B.drop ((posOf B (B.length - 7) ((T.drop ia).take 8)).getD j 0)) (T.drop (ia))))) : Value) from T56) (fun hc3 => ?_) (fun hc3 => ?_)
        · refine wpF_text ?_
          refine opsF_step rfl (YieldsK.move (show _ = (.int .i64 (((posOf B (B.length - 7) ((T.drop ia).take 8)).getD j 0 : Nat) : Int) : Value) from T13) ?_)    -- delta.go:56 t57 := (Op.move (Operand.tmp 13))
          refine opsF_step rfl (YieldsK.move (show _ = (.int .i64 ((lcp (B.drop ((posOf B (B.length - 7) ((T.drop ia).take 8)).getD j 0)) (T.drop (ia)) : Nat) : Int) : Value) from T14) ?_)    -- delta.go:56 t58 := (Op.move (Operand.tmp 14))
          refine opsF_step rfl (YieldsK.assign (show _ = (.int .i64 (((posOf B (B.length - 7) ((T.drop ia).take 8)).getD j 0 : Nat) : Int) : Value) from rfl) ?_)    -- delta.go:56 t10 := (Op.assign (Operand.tmp 57))
          refine opsF_step rfl (YieldsK.assign (show _ = (.int .i64 ((lcp (B.drop ((posOf B (B.length - 7) ((T.drop ia).take 8)).getD j 0)) (T.drop (ia)) : Nat) : Int) : Value) from rfl) ?_)    -- delta.go:56 t11 := (Op.assign (Operand.tmp 58))
          refine opsF_end (fun ρ => ρ 0 = (vb : Value) ∧ ρ 1 = (v2 : Value) ∧ ρ 3 = (.pointer (some ⟨n2, 0, none⟩) : Value) ∧ ρ 4 = ((Value.slice none 0 0) : Value) ∧ ρ 5 = (.pointer (some ⟨g5, 0, none⟩) : Value) ∧ ρ 6 = (.map (some bM) : Value) ∧ ρ 7 = (.pointer (some ⟨n43, 0, none⟩) : Value) ∧ ρ 8 = (.func (.func 18) #[] #[.pointer (some ⟨n43, 0, none⟩), .pointer (some ⟨g5, 0, none⟩), .pointer (some ⟨n2, 0, none⟩)] : Value) ∧ ρ 9 = (.int .i64 ((ia : Nat) : Int) : Value) ∧ ρ 10 = (.int .i64 (((posOf B (B.length - 7) ((T.drop ia).take 8)).getD j 0 : Nat) : Int) : Value) ∧ ρ 11 = (.int .i64 ((lcp (B.drop ((posOf B (B.length - 7) ((T.drop ia).take 8)).getD j 0)) (T.drop (ia)) : Nat) : Int) : Value) ∧ ρ 13 = (.int .i64 (((posOf B (B.length - 7) ((T.drop ia).take 8)).getD j 0 : Nat) : Int) : Value) ∧ ρ 14 = (.int .i64 ((lcp (B.drop ((posOf B (B.length - 7) ((T.drop ia).take 8)).getD j 0)) (T.drop (ia)) : Nat) : Int) : Value) ∧ ρ 41 = (v85 : Value) ∧ ρ 42 = (.int .i64 (((posOf B (B.length - 7) ((T.drop ia).take 8)).length : Nat) : Int) : Value) ∧ ρ 43 = (.int .i64 ((j : Nat) : Int) : Value) ∧ True) ⟨T0, T1, T3, T4, T5, T6, T7, T8, T9, rfl, rfl, T13, T14, T41, T42, T43, trivial⟩ fun ρ104 ⟨T0, T1, T3, T4, T5, T6, T7, T8, T9, T10, T11, T13, T14, T41, T42, T43, _⟩ => ?_
          refine inBlockF_normal ?_
          refine thenF_normal (hK93 _ _ ?_)
          refine wpF_text ?_
          refine opsF_step rfl (YieldsK.bin (xv := .int .i64 ((j : Nat) : Int)) (yv := .int .i64 ((1 : Nat) : Int)) (show _ = (.int .i64 ((j : Nat) : Int) : Value) from T43) (show _ = (.int .i64 ((1 : Nat) : Int) : Value) from rfl) rfl (i64_add _ (j) (1) (by omega)) ?_)    -- delta.go:54 t59 := (Op.binOp BinOp.add 3 (Operand.tmp 43) (Operand.const (Value.int IntKind.i64 1)) 3)
          refine opsF_step rfl (YieldsK.move (show _ = (.int .i64 (((j) + (1) : Nat) : Int) : Value) from rfl) ?_)    -- delta.go:54 t43 := (Op.move (Operand.tmp 59))
          refine opsF_end (fun ρ => ρ 0 = (vb : Value) ∧ ρ 1 = (v2 : Value) ∧ ρ 3 = (.pointer (some ⟨n2, 0, none⟩) : Value) ∧ ρ 4 = ((Value.slice none 0 0) : Value) ∧ ρ 5 = (.pointer (some ⟨g5, 0, none⟩) : Value) ∧ ρ 6 = (.map (some bM) : Value) ∧ ρ 7 = (.pointer (some ⟨n43, 0, none⟩) : Value) ∧ ρ 8 = (.func (.func 18) #[] #[.pointer (some ⟨n43, 0, none⟩), .pointer (some ⟨g5, 0, none⟩), .pointer (some ⟨n2, 0, none⟩)] : Value) ∧ ρ 9 = (.int .i64 ((ia : Nat) : Int) : Value) ∧ ρ 10 = (.int .i64 (((posOf B (B.length - 7) ((T.drop ia).take 8)).getD j 0 : Nat) : Int) : Value) ∧ ρ 11 = (.int .i64 ((lcp (B.drop ((posOf B (B.length - 7) ((T.drop ia).take 8)).getD j 0)) (T.drop (ia)) : Nat) : Int) : Value) ∧ ρ 13 = (.int .i64 (((posOf B (B.length - 7) ((T.drop ia).take 8)).getD j 0 : Nat) : Int) : Value) ∧ ρ 14 = (.int .i64 ((lcp (B.drop ((posOf B (B.length - 7) ((T.drop ia).take 8)).getD j 0)) (T.drop (ia)) : Nat) : Int) : Value) ∧ ρ 41 = (v85 : Value) ∧ ρ 42 = (.int .i64 (((posOf B (B.length - 7) ((T.drop ia).take 8)).length : Nat) : Int) : Value) ∧ ρ 43 = (.int .i64 (((j) + (1) : Nat) : Int) : Value) ∧ True) ⟨T0, T1, T3, T4, T5, T6, T7, T8, T9, T10, T11, T13, T14, T41, T42, rfl, trivial⟩ fun ρ105 ⟨T0, T1, T3, T4, T5, T6, T7, T8, T9, T10, T11, T13, T14, T41, T42, T43, _⟩ => ?_
          refine thenF_normal (And.intro ⟨j + 1, (posOf B (B.length - 7) ((T.drop ia).take 8)).getD j 0, lcp (B.drop ((posOf B (B.length - 7) ((T.drop ia).take 8)).getD j 0)) (T.drop ia), T0, T1, T3, T4, T5, T6, T7, T8, T9, T41, T42, T43, T10, T11, hE, hM, hb67, hb68, hb69, hr80, ho86, by omega, by rw [foldl_take_succ _ _ _ _ hj, hbp, bstep, if_pos hc3], by omega, by have := (lcp_le (B.drop ((posOf B (B.length - 7) ((T.drop ia).take 8)).getD j 0)) (T.drop ia)).2; rw [List.length_drop] at this; omega, trivial⟩ ?_)
          show (posOf B (B.length - 7) ((T.drop ia).take 8)).length - (intOf (ρ105 43)).toNat < (posOf B (B.length - 7) ((T.drop ia).take 8)).length - (intOf (ρ88 43)).toNat
          rw [T43, q43]
          simp only [intOf, Int.toNat_natCast]; omega
        · refine wpF_skip ?_
          refine inBlockF_normal ?_
          refine thenF_normal (hK93 _ _ ?_)
          refine wpF_text ?_
          refine opsF_step rfl (YieldsK.bin (xv := .int .i64 ((j : Nat) : Int)) (yv := .int .i64 ((1 : Nat) : Int)) (show _ = (.int .i64 ((j : Nat) : Int) : Value) from T43) (show _ = (.int .i64 ((1 : Nat) : Int) : Value) from rfl) rfl (i64_add _ (j) (1) (by omega)) ?_)    -- delta.go:54 t59 := (Op.binOp BinOp.add 3 (Operand.tmp 43) (Operand.const (Value.int IntKind.i64 1)) 3)
          refine opsF_step rfl (YieldsK.move (show _ = (.int .i64 (((j) + (1) : Nat) : Int) : Value) from rfl) ?_)    -- delta.go:54 t43 := (Op.move (Operand.tmp 59))
          refine opsF_end (fun ρ => ρ 0 = (vb : Value) ∧ ρ 1 = (v2 : Value) ∧ ρ 3 = (.pointer (some ⟨n2, 0, none⟩) : Value) ∧ ρ 4 = ((Value.slice none 0 0) : Value) ∧ ρ 5 = (.pointer (some ⟨g5, 0, none⟩) : Value) ∧ ρ 6 = (.map (some bM) : Value) ∧ ρ 7 = (.pointer (some ⟨n43, 0, none⟩) : Value) ∧ ρ 8 = (.func (.func 18) #[] #[.pointer (some ⟨n43, 0, none⟩), .pointer (some ⟨g5, 0, none⟩), .pointer (some ⟨n2, 0, none⟩)] : Value) ∧ ρ 9 = (.int .i64 ((ia : Nat) : Int) : Value) ∧ ρ 10 = (.int .i64 ((p : Nat) : Int) : Value) ∧ ρ 11 = (.int .i64 ((n : Nat) : Int) : Value) ∧ ρ 13 = (.int .i64 (((posOf B (B.length - 7) ((T.drop ia).take 8)).getD j 0 : Nat) : Int) : Value) ∧ ρ 14 = (.int .i64 ((lcp (B.drop ((posOf B (B.length - 7) ((T.drop ia).take 8)).getD j 0)) (T.drop (ia)) : Nat) : Int) : Value) ∧ ρ 41 = (v85 : Value) ∧ ρ 42 = (.int .i64 (((posOf B (B.length - 7) ((T.drop ia).take 8)).length : Nat) : Int) : Value) ∧ ρ 43 = (.int .i64 (((j) + (1) : Nat) : Int) : Value) ∧ True) ⟨T0, T1, T3, T4, T5, T6, T7, T8, T9, T10, T11, T13, T14, T41, T42, rfl, trivial⟩ fun ρ106 ⟨T0, T1, T3, T4, T5, T6, T7, T8, T9, T10, T11, T13, T14, T41, T42, T43, _⟩ => ?_
          refine thenF_normal (And.intro ⟨j + 1, p, n, T0, T1, T3, T4, T5, T6, T7, T8, T9, T41, T42, T43, T10, T11, hE, hM, hb67, hb68, hb69, hr80, ho86, by omega, by rw [foldl_take_succ _ _ _ _ hj, hbp, bstep, if_neg hc3], by omega, hn, trivial⟩ ?_)
          show (posOf B (B.length - 7) ((T.drop ia).take 8)).length - (intOf (ρ106 43)).toNat < (posOf B (B.length - 7) ((T.drop ia).take 8)).length - (intOf (ρ88 43)).toNat
          rw [T43, q43]
          simp only [intOf, Int.toNat_natCast]; omega
      · rw [show (posOf B (B.length - 7) ((T.drop ia).take 8)).take j = posOf B (B.length - 7) ((T.drop ia).take 8) from List.take_of_length_le (by omega)] at hbp
        have hbe : best B T ia = (p, n) := by rw [best, if_pos hc1, hbp]
        refine wpF_exit (thenF_exit (thenF_exit (inBlockF_hit ?_)))
        refine thenF_normal (hK75 _ _ ?_)
        refine wpF_seq_k fun K107 hK107 => ?_
        refine wpF_seq_k fun K108 hK108 => ?_
        refine wpF_text ?_
        refine opsF_step rfl (YieldsK.move (show _ = (.int .i64 ((n : Nat) : Int) : Value) from T11) ?_)    -- delta.go:60 t60 := (Op.move (Operand.tmp 11))
        refine opsF_step rfl (YieldsK.eqI (a := ((n : Nat) : Int)) (b := ((0 : Nat) : Int)) (show _ = (.int .i64 ((n : Nat) : Int) : Value) from rfl) (show _ = (.int .i64 ((0 : Nat) : Int) : Value) from rfl) (k_eql _ .i64 (n) (0)) ?_)    -- delta.go:60 t61 := (Op.binOp BinOp.eql 3 (Operand.tmp 60) (Operand.const (Value.int IntKind.i64 0)) 3)
        refine opsF_end (fun ρ => ρ 0 = (vb : Value) ∧ ρ 1 = (v2 : Value) ∧ ρ 3 = (.pointer (some ⟨n2, 0, none⟩) : Value) ∧ ρ 4 = ((Value.slice none 0 0) : Value) ∧ ρ 5 = (.pointer (some ⟨g5, 0, none⟩) : Value) ∧ ρ 6 = (.map (some bM) : Value) ∧ ρ 7 = (.pointer (some ⟨n43, 0, none⟩) : Value) ∧ ρ 8 = (.func (.func 18) #[] #[.pointer (some ⟨n43, 0, none⟩), .pointer (some ⟨g5, 0, none⟩), .pointer (some ⟨n2, 0, none⟩)] : Value) ∧ ρ 9 = (.int .i64 ((ia : Nat) : Int) : Value) ∧ ρ 10 = (.int .i64 ((p : Nat) : Int) : Value) ∧ ρ 11 = (.int .i64 ((n : Nat) : Int) : Value) ∧ ρ 41 = (v85 : Value) ∧ ρ 42 = (.int .i64 (((posOf B (B.length - 7) ((T.drop ia).take 8)).length : Nat) : Int) : Value) ∧ ρ 43 = (.int .i64 ((j : Nat) : Int) : Value) ∧ ρ 61 = (.bool (decide ((n : Nat) = (0))) : Value) ∧ True) ⟨T0, T1, T3, T4, T5, T6, T7, T8, T9, T10, T11, T41, T42, T43, rfl, trivial⟩ fun ρ109 ⟨T0, T1, T3, T4, T5, T6, T7, T8, T9, T10, T11, T41, T42, T43, T61, _⟩ => ?_
        refine thenF_normal (hK108 _ _ ?_)
        refine wpF_cond ((n : Nat) = (0)) (show _ = (.bool (decide ((n : Nat) = (0))) : Value) from T61) (fun hn0 => ?_) (fun hn0 => ?_)
        · refine wpF_seq_k fun K110 hK110 => ?_
          refine wpF_text ?_
          refine opsF_step rfl (YieldsK.move (show _ = (.int .i64 ((ia : Nat) : Int) : Value) from T9) ?_)    -- delta.go:61 t62 := (Op.move (Operand.tmp 9))
          refine opsF_step rfl (YieldsK.bin (xv := .int .i64 ((ia : Nat) : Int)) (yv := .int .i64 ((1 : Nat) : Int)) (show _ = (.int .i64 ((ia : Nat) : Int) : Value) from rfl) (show _ = (.int .i64 ((1 : Nat) : Int) : Value) from rfl) rfl (i64_add _ (ia) (1) (by omega)) ?_)    -- delta.go:61 t63 := (Op.binOp BinOp.add 3 (Operand.tmp 62) (Operand.const (Value.int IntKind.i64 1)) 3)
          refine opsF_step rfl (YieldsK.assign (show _ = (.int .i64 (((ia) + (1) : Nat) : Int) : Value) from rfl) ?_)    -- delta.go:61 t9 := (Op.assign (Operand.tmp 63))
          refine opsF_end (fun ρ => ρ 0 = (vb : Value) ∧ ρ 1 = (v2 : Value) ∧ ρ 3 = (.pointer (some ⟨n2, 0, none⟩) : Value) ∧ ρ 4 = ((Value.slice none 0 0) : Value) ∧ ρ 5 = (.pointer (some ⟨g5, 0, none⟩) : Value) ∧ ρ 6 = (.map (some bM) : Value) ∧ ρ 7 = (.pointer (some ⟨n43, 0, none⟩) : Value) ∧ ρ 8 = (.func (.func 18) #[] #[.pointer (some ⟨n43, 0, none⟩), .pointer (some ⟨g5, 0, none⟩), .pointer (some ⟨n2, 0, none⟩)] : Value) ∧ ρ 9 = (.int .i64 (((ia) + (1) : Nat) : Int) : Value) ∧ ρ 10 = (.int .i64 ((p : Nat) : Int) : Value) ∧ ρ 11 = (.int .i64 ((n : Nat) : Int) : Value) ∧ ρ 41 = (v85 : Value) ∧ ρ 42 = (.int .i64 (((posOf B (B.length - 7) ((T.drop ia).take 8)).length : Nat) : Int) : Value) ∧ ρ 43 = (.int .i64 ((j : Nat) : Int) : Value) ∧ True) ⟨T0, T1, T3, T4, T5, T6, T7, T8, rfl, T10, T11, T41, T42, T43, trivial⟩ fun ρ111 ⟨T0, T1, T3, T4, T5, T6, T7, T8, T9, T10, T11, T41, T42, T43, _⟩ => ?_
          refine thenF_normal (hK110 _ _ ?_)
          refine wpF_exit (thenF_exit (inBlockF_hit ?_))
          refine thenF_normal (And.intro ⟨ia + 1, fr, f', o, v, T0, T1, T3, T4, T5, T6, T7, T8, T9, hE, hM, by rw [makeGo, if_pos hc0, if_pos (by rw [hbe]; exact hn0)] at hgo; exact hgo, by omega, by omega, by omega, hol, trivial⟩ ?_)
          show T.length - (intOf (ρ111 9)).toNat < T.length - (intOf (ρ65 9)).toNat
          rw [T9, q9]
          simp only [intOf, Int.toNat_natCast]; omega
        · refine wpF_skip ?_
          refine thenF_normal (hK107 _ _ ?_)
          refine wpF_seq_k fun K112 hK112 => ?_
          refine wpF_text ?_
          refine opsF_step rfl (YieldsK.move (show _ = (.func (.func 18) #[] #[.pointer (some ⟨n43, 0, none⟩), .pointer (some ⟨g5, 0, none⟩), .pointer (some ⟨n2, 0, none⟩)] : Value) from T8) ?_)    -- delta.go:64 t64 := (Op.move (Operand.tmp 8))
          refine opsF_step rfl (YieldsK.move (show _ = (.int .i64 ((ia : Nat) : Int) : Value) from T9) ?_)    -- delta.go:64 t65 := (Op.move (Operand.tmp 9))
          refine opsF_step rfl (YieldsK.clo del8_pl18 (caps := #[.pointer (some ⟨n43, 0, none⟩), .pointer (some ⟨g5, 0, none⟩), .pointer (some ⟨n2, 0, none⟩)]) (show _ = (.func (.func 18) #[] #[.pointer (some ⟨n43, 0, none⟩), .pointer (some ⟨g5, 0, none⟩), .pointer (some ⟨n2, 0, none⟩)] : Value) from rfl) #[.int .i64 ((ia : Nat) : Int), .pointer (some ⟨n43, 0, none⟩), .pointer (some ⟨g5, 0, none⟩), .pointer (some ⟨n2, 0, none⟩)] (by simp only [List.map_toArray, List.map_cons, List.map_nil, List.append_toArray, List.cons_append, List.nil_append]; exact congrArg List.toArray (list4 (show _ = (.int .i64 ((ia : Nat) : Int) : Value) from rfl) rfl rfl rfl)) ?_)    -- delta.go:64 t66 := (Op.call { callee := (Callee.value (Operand.tmp 64)), args := #[(Operand.tmp 65)], argTypes := #[3] })
          refine (flush_any w w33 _ (w22.heap.size) n2 g5 n43 v2 v (o) T (fr) (ia) hM hT (by omega) (by omega) (by omega) (by omega)).mono ?_
          rintro e w115 ⟨rfl, v113, hM114⟩
          refine ⟨_, rfl, ?_⟩
          have hE : Ext w w115 := hM114.ext
          clear hM
          clear hr80
          clear ho86
          have hb116 : w115.heap[n2]? = some (.cells ([v2] : List Value).toArray 22 (0, 0)) := hM114.b3
          have hb117 : w115.heap[g5]? = some (.cells ([v113] : List Value).toArray 22 (0, 0)) := hM114.b5
          have hb118 : w115.heap[n43]? = some (.cells ([NI (fr)] : List Value).toArray 3 (0, 0)) := hM114.b7
          refine opsF_end (fun ρ => ρ 0 = (vb : Value) ∧ ρ 1 = (v2 : Value) ∧ ρ 3 = (.pointer (some ⟨n2, 0, none⟩) : Value) ∧ ρ 4 = ((Value.slice none 0 0) : Value) ∧ ρ 5 = (.pointer (some ⟨g5, 0, none⟩) : Value) ∧ ρ 6 = (.map (some bM) : Value) ∧ ρ 7 = (.pointer (some ⟨n43, 0, none⟩) : Value) ∧ ρ 8 = (.func (.func 18) #[] #[.pointer (some ⟨n43, 0, none⟩), .pointer (some ⟨g5, 0, none⟩), .pointer (some ⟨n2, 0, none⟩)] : Value) ∧ ρ 9 = (.int .i64 ((ia : Nat) : Int) : Value) ∧ ρ 10 = (.int .i64 ((p : Nat) : Int) : Value) ∧ ρ 11 = (.int .i64 ((n : Nat) : Int) : Value) ∧ ρ 41 = (v85 : Value) ∧ ρ 42 = (.int .i64 (((posOf B (B.length - 7) ((T.drop ia).take 8)).length : Nat) : Int) : Value) ∧ ρ 43 = (.int .i64 ((j : Nat) : Int) : Value) ∧ True) ⟨T0, T1, T3, T4, T5, T6, T7, T8, T9, T10, T11, T41, T42, T43, trivial⟩ fun ρ119 ⟨T0, T1, T3, T4, T5, T6, T7, T8, T9, T10, T11, T41, T42, T43, _⟩ => ?_
          have hfl := flushP_length T fr ia o (by omega)
          have hu6 := uvarint_len63 (2 * n + 1) (by omega)
          have hu7 := uvarint_len63 p (by omega)
          refine thenF_normal (hK112 _ _ ?_)
          refine wpF_seq_k fun K120 hK120 => ?_
          refine wpF_text ?_
          refine opsF_step rfl (YieldsK.cell1 del8_ty22 rfl (show _ = (.pointer (some ⟨g5, 0, none⟩) : Value) from T5) (cellAt hb117 (show _ = some (v113 : Value) from rfl)) ?_)    -- delta.go:65 t67 := (Op.load 22 (Operand.tmp 5))
          refine opsF_step rfl (YieldsK.move (show _ = (.int .i64 ((n : Nat) : Int) : Value) from T11) ?_)    -- delta.go:65 t68 := (Op.move (Operand.tmp 11))
          refine opsF_step rfl (YieldsK.bin (xv := .int .i64 ((2 : Nat) : Int)) (yv := .int .i64 ((n : Nat) : Int)) (show _ = (.int .i64 ((2 : Nat) : Int) : Value) from rfl) (show _ = (.int .i64 ((n : Nat) : Int) : Value) from rfl) rfl (i64_mul _ (2) (n) (by omega)) ?_)    -- delta.go:65 t69 := (Op.binOp BinOp.mul 3 (Operand.const (Value.int IntKind.i64 2)) (Operand.tmp 68) 3)
          refine opsF_step rfl (YieldsK.bin (xv := .int .i64 (((2) * (n) : Nat) : Int)) (yv := .int .i64 ((1 : Nat) : Int)) (show _ = (.int .i64 (((2) * (n) : Nat) : Int) : Value) from rfl) (show _ = (.int .i64 ((1 : Nat) : Int) : Value) from rfl) rfl (i64_add _ ((2) * (n)) (1) (by omega)) ?_)    -- delta.go:65 t70 := (Op.binOp BinOp.add 3 (Operand.tmp 69) (Operand.const (Value.int IntKind.i64 1)) 3)
          refine opsF_step rfl (YieldsK.callA2 del8_pl16 (show _ = (v113 : Value) from rfl) (show _ = (.int .i64 ((((2) * (n)) + (1) : Nat) : Int) : Value) from rfl) ?_)    -- delta.go:65 t71 := (Op.call { callee := (Callee.value (Operand.func 16)), args := #[(Operand.tmp 67), (Operand.tmp 70)], argTypes
          refine (dnumber_any _ w.heap.size v113 (flushP T (fr) (ia) (o)) hM114.own hM114.ext.size (((2) * (n)) + (1)) (by omega) (by first | omega | (simp only [List.length_append]; omega))).mono ?_
          rintro e w125 ⟨v121, rfl, ho122, hg123⟩
          refine ⟨_, rfl, ?_⟩
          have hM124 := MK.grew hM114 hg123 ho122
          have hE : Ext w w125 := hM124.ext
          clear hM114
          have hb126 : w125.heap[n2]? = some (.cells ([v2] : List Value).toArray 22 (0, 0)) := hM124.b3
          have hb127 : w125.heap[g5]? = some (.cells ([v113] : List Value).toArray 22 (0, 0)) := hM124.b5
          have hb128 : w125.heap[n43]? = some (.cells ([NI (fr)] : List Value).toArray 3 (0, 0)) := hM124.b7
          refine opsF_step rfl (YieldsK.move (show _ = (.int .i64 ((p : Nat) : Int) : Value) from T10) ?_)    -- delta.go:65 t72 := (Op.move (Operand.tmp 10))
          refine opsF_step rfl (YieldsK.callA2 del8_pl16 (show _ = (v121 : Value) from rfl) (show _ = (.int .i64 ((p : Nat) : Int) : Value) from rfl) ?_)    -- delta.go:65 t73 := (Op.call { callee := (Callee.value (Operand.func 16)), args := #[(Operand.tmp 71), (Operand.tmp 72)], argTypes
          refine (dnumber_any _ w.heap.size v121 (flushP T (fr) (ia) (o) ++ Lib.uvarint (((2) * (n)) + (1))) hM124.own hM124.ext.size (p) (by omega) (by first | omega | (simp only [List.length_append]; omega))).mono ?_
          rintro e w133 ⟨v129, rfl, ho130, hg131⟩
          refine ⟨_, rfl, ?_⟩
          have hM132 := MK.grew hM124 hg131 ho130
          have hE : Ext w w133 := hM132.ext
          clear hM124
          have hb134 : w133.heap[n2]? = some (.cells ([v2] : List Value).toArray 22 (0, 0)) := hM132.b3
          have hb135 : w133.heap[g5]? = some (.cells ([v113] : List Value).toArray 22 (0, 0)) := hM132.b5
          have hb136 : w133.heap[n43]? = some (.cells ([NI (fr)] : List Value).toArray 3 (0, 0)) := hM132.b7
          refine opsF_step rfl (YieldsK.storeC (i := 0) (v := v129) (show _ = (.pointer (some ⟨g5, 0, none⟩) : Value) from T5) (show _ = (v129 : Value) from rfl) hM132.b5 (Nat.le_of_ble_eq_true rfl) del8_isz22 (own_one hM132.own).1 (own_one hM132.own).2 fun w137 hb138 hg139 hs140 => ?_)    -- delta.go:65 tNone := (Op.store 22 (Operand.tmp 5) (Operand.tmp 73))
          have hM141 := MK.set5 hM132 hb138 hg139
          have hE : Ext w w137 := hM141.ext
          clear hM132
          have hb142 : w137.heap[n2]? = some (.cells ([v2] : List Value).toArray 22 (0, 0)) := hM141.b3
          have hb143 : w137.heap[g5]? = some (.cells ([v129] : List Value).toArray 22 (0, 0)) := hM141.b5
          have hb144 : w137.heap[n43]? = some (.cells ([NI (fr)] : List Value).toArray 3 (0, 0)) := hM141.b7
          refine opsF_end (fun ρ => ρ 0 = (vb : Value) ∧ ρ 1 = (v2 : Value) ∧ ρ 3 = (.pointer (some ⟨n2, 0, none⟩) : Value) ∧ ρ 4 = ((Value.slice none 0 0) : Value) ∧ ρ 5 = (.pointer (some ⟨g5, 0, none⟩) : Value) ∧ ρ 6 = (.map (some bM) : Value) ∧ ρ 7 = (.pointer (some ⟨n43, 0, none⟩) : Value) ∧ ρ 8 = (.func (.func 18) #[] #[.pointer (some ⟨n43, 0, none⟩), .pointer (some ⟨g5, 0, none⟩), .pointer (some ⟨n2, 0, none⟩)] : Value) ∧ ρ 9 = (.int .i64 ((ia : Nat) : Int) : Value) ∧ ρ 10 = (.int .i64 ((p : Nat) : Int) : Value) ∧ ρ 11 = (.int .i64 ((n : Nat) : Int) : Value) ∧ ρ 41 = (v85 : Value) ∧ ρ 42 = (.int .i64 (((posOf B (B.length - 7) ((T.drop ia).take 8)).length : Nat) : Int) : Value) ∧ ρ 43 = (.int .i64 ((j : Nat) : Int) : Value) ∧ True) ⟨T0, T1, T3, T4, T5, T6, T7, T8, T9, T10, T11, T41, T42, T43, trivial⟩ fun ρ145 ⟨T0, T1, T3, T4, T5, T6, T7, T8, T9, T10, T11, T41, T42, T43, _⟩ => ?_
          refine thenF_normal (hK120 _ _ ?_)
          refine wpF_seq_k fun K146 hK146 => ?_
          refine wpF_text ?_
          refine opsF_step rfl (YieldsK.move (show _ = (.int .i64 ((ia : Nat) : Int) : Value) from T9) ?_)    -- delta.go:66 t74 := (Op.move (Operand.tmp 9))
          refine opsF_step rfl (YieldsK.move (show _ = (.int .i64 ((n : Nat) : Int) : Value) from T11) ?_)    -- delta.go:66 t75 := (Op.move (Operand.tmp 11))
          refine opsF_step rfl (YieldsK.bin (xv := .int .i64 ((ia : Nat) : Int)) (yv := .int .i64 ((n : Nat) : Int)) (show _ = (.int .i64 ((ia : Nat) : Int) : Value) from rfl) (show _ = (.int .i64 ((n : Nat) : Int) : Value) from rfl) rfl (i64_add _ (ia) (n) (by omega)) ?_)    -- delta.go:66 t76 := (Op.binOp BinOp.add 3 (Operand.tmp 74) (Operand.tmp 75) 3)
          refine opsF_step rfl (YieldsK.assign (show _ = (.int .i64 (((ia) + (n) : Nat) : Int) : Value) from rfl) ?_)    -- delta.go:66 t9 := (Op.assign (Operand.tmp 76))
          refine opsF_end (fun ρ => ρ 0 = (vb : Value) ∧ ρ 1 = (v2 : Value) ∧ ρ 3 = (.pointer (some ⟨n2, 0, none⟩) : Value) ∧ ρ 4 = ((Value.slice none 0 0) : Value) ∧ ρ 5 = (.pointer (some ⟨g5, 0, none⟩) : Value) ∧ ρ 6 = (.map (some bM) : Value) ∧ ρ 7 = (.pointer (some ⟨n43, 0, none⟩) : Value) ∧ ρ 8 = (.func (.func 18) #[] #[.pointer (some ⟨n43, 0, none⟩), .pointer (some ⟨g5, 0, none⟩), .pointer (some ⟨n2, 0, none⟩)] : Value) ∧ ρ 9 = (.int .i64 (((ia) + (n) : Nat) : Int) : Value) ∧ ρ 10 = (.int .i64 ((p : Nat) : Int) : Value) ∧ ρ 11 = (.int .i64 ((n : Nat) : Int) : Value) ∧ ρ 41 = (v85 : Value) ∧ ρ 42 = (.int .i64 (((posOf B (B.length - 7) ((T.drop ia).take 8)).length : Nat) : Int) : Value) ∧ ρ 43 = (.int .i64 ((j : Nat) : Int) : Value) ∧ True) ⟨T0, T1, T3, T4, T5, T6, T7, T8, rfl, T10, T11, T41, T42, T43, trivial⟩ fun ρ147 ⟨T0, T1, T3, T4, T5, T6, T7, T8, T9, T10, T11, T41, T42, T43, _⟩ => ?_
          refine thenF_normal (hK146 _ _ ?_)
          refine wpF_text ?_
          refine opsF_step rfl (YieldsK.move (show _ = (.int .i64 (((ia) + (n) : Nat) : Int) : Value) from T9) ?_)    -- delta.go:67 t77 := (Op.move (Operand.tmp 9))
          refine opsF_step rfl (YieldsK.storeC (i := 0) (v := NI ((ia) + (n))) (show _ = (.pointer (some ⟨n43, 0, none⟩) : Value) from T7) (show _ = (.int .i64 (((ia) + (n) : Nat) : Int) : Value) from rfl) hM141.b7 (Nat.le_of_ble_eq_true rfl) del8_isz3 rfl rfl fun w148 hb149 hg150 hs151 => ?_)    -- delta.go:67 tNone := (Op.store 3 (Operand.tmp 7) (Operand.tmp 77))
          have hM152 := MK.set7 (n := (ia) + (n)) hM141 hb149 hg150
          have hE : Ext w w148 := hM152.ext
          clear hM141
          have hb153 : w148.heap[n2]? = some (.cells ([v2] : List Value).toArray 22 (0, 0)) := hM152.b3
          have hb154 : w148.heap[g5]? = some (.cells ([v129] : List Value).toArray 22 (0, 0)) := hM152.b5
          have hb155 : w148.heap[n43]? = some (.cells ([NI ((ia) + (n))] : List Value).toArray 3 (0, 0)) := hM152.b7
          refine opsF_end (fun ρ => ρ 0 = (vb : Value) ∧ ρ 1 = (v2 : Value) ∧ ρ 3 = (.pointer (some ⟨n2, 0, none⟩) : Value) ∧ ρ 4 = ((Value.slice none 0 0) : Value) ∧ ρ 5 = (.pointer (some ⟨g5, 0, none⟩) : Value) ∧ ρ 6 = (.map (some bM) : Value) ∧ ρ 7 = (.pointer (some ⟨n43, 0, none⟩) : Value) ∧ ρ 8 = (.func (.func 18) #[] #[.pointer (some ⟨n43, 0, none⟩), .pointer (some ⟨g5, 0, none⟩), .pointer (some ⟨n2, 0, none⟩)] : Value) ∧ ρ 9 = (.int .i64 (((ia) + (n) : Nat) : Int) : Value) ∧ ρ 10 = (.int .i64 ((p : Nat) : Int) : Value) ∧ ρ 11 = (.int .i64 ((n : Nat) : Int) : Value) ∧ ρ 41 = (v85 : Value) ∧ ρ 42 = (.int .i64 (((posOf B (B.length - 7) ((T.drop ia).take 8)).length : Nat) : Int) : Value) ∧ ρ 43 = (.int .i64 ((j : Nat) : Int) : Value) ∧ True) ⟨T0, T1, T3, T4, T5, T6, T7, T8, T9, T10, T11, T41, T42, T43, trivial⟩ fun ρ156 ⟨T0, T1, T3, T4, T5, T6, T7, T8, T9, T10, T11, T41, T42, T43, _⟩ => ?_
          refine inBlockF_normal ?_
          refine thenF_normal (And.intro ⟨ia + n, ia + n, f', flushP T (fr) (ia) (o) ++ Lib.uvarint (((2) * (n)) + (1)) ++ Lib.uvarint (p), v129, T0, T1, T3, T4, T5, T6, T7, T8, T9, hE, hM152, by rw [makeGo, if_pos hc0, if_neg (by rw [hbe]; exact hn0), hbe] at hgo; exact hgo, by omega, by omega, by omega, by have h5 := flushP_length T fr ia o (by omega); have h6 := uvarint_len63 (2 * n + 1) (by omega); have h7 := uvarint_len63 p (by omega); simp only [List.length_append]; omega, trivial⟩ ?_)
          show T.length - (intOf (ρ156 9)).toNat < T.length - (intOf (ρ65 9)).toNat
          rw [T9, q9]
          simp only [intOf, Int.toNat_natCast]; omega
    · obtain ⟨p, hp0⟩ : ∃ p, p = 0 := ⟨_, rfl⟩
      obtain ⟨n, hnz⟩ : ∃ n, n = 0 := ⟨_, rfl⟩
      have T10 := T10.trans (show (Value.int .i64 ((0 : Nat) : Int)) = .int .i64 ((p : Nat) : Int) by rw [hp0])
      have T11 := T11.trans (show (Value.int .i64 ((0 : Nat) : Int)) = .int .i64 ((n : Nat) : Int) by rw [hnz])
      have hbe : best B T ia = (p, n) := by rw [best, if_neg hc1, hp0, hnz]
      have hp : p ≤ B.length := by omega
      have hn : n ≤ T.length - ia := by omega
      refine wpF_skip ?_
      refine thenF_normal (hK75 _ _ ?_)
      refine wpF_seq_k fun K157 hK157 => ?_
      refine wpF_seq_k fun K158 hK158 => ?_
      refine wpF_text ?_
      refine opsF_step rfl (YieldsK.move (show _ = (.int .i64 ((n : Nat) : Int) : Value) from T11) ?_)    -- delta.go:60 t60 := (Op.move (Operand.tmp 11))
      refine opsF_step rfl (YieldsK.eqI (a := ((n : Nat) : Int)) (b := ((0 : Nat) : Int)) (show _ = (.int .i64 ((n : Nat) : Int) : Value) from rfl) (show _ = (.int .i64 ((0 : Nat) : Int) : Value) from rfl) (k_eql _ .i64 (n) (0)) ?_)    -- delta.go:60 t61 := (Op.binOp BinOp.eql 3 (Operand.tmp 60) (Operand.const (Value.int IntKind.i64 0)) 3)
      refine opsF_end (fun ρ => ρ 0 = (vb : Value) ∧ ρ 1 = (v2 : Value) ∧ ρ 3 = (.pointer (some ⟨n2, 0, none⟩) : Value) ∧ ρ 4 = ((Value.slice none 0 0) : Value) ∧ ρ 5 = (.pointer (some ⟨g5, 0, none⟩) : Value) ∧ ρ 6 = (.map (some bM) : Value) ∧ ρ 7 = (.pointer (some ⟨n43, 0, none⟩) : Value) ∧ ρ 8 = (.func (.func 18) #[] #[.pointer (some ⟨n43, 0, none⟩), .pointer (some ⟨g5, 0, none⟩), .pointer (some ⟨n2, 0, none⟩)] : Value) ∧ ρ 9 = (.int .i64 ((ia : Nat) : Int) : Value) ∧ ρ 10 = (.int .i64 ((p : Nat) : Int) : Value) ∧ ρ 11 = (.int .i64 ((n : Nat) : Int) : Value) ∧ ρ 61 = (.bool (decide ((n : Nat) = (0))) : Value) ∧ True) ⟨T0, T1, T3, T4, T5, T6, T7, T8, T9, T10, T11, rfl, trivial⟩ fun ρ159 ⟨T0, T1, T3, T4, T5, T6, T7, T8, T9, T10, T11, T61, _⟩ => ?_
      refine thenF_normal (hK158 _ _ ?_)
      refine wpF_cond ((n : Nat) = (0)) (show _ = (.bool (decide ((n : Nat) = (0))) : Value) from T61) (fun hn0 => ?_) (fun hn0 => ?_)
      · refine wpF_seq_k fun K160 hK160 => ?_
        refine wpF_text ?_
        refine opsF_step rfl (YieldsK.move (show _ = (.int .i64 ((ia : Nat) : Int) : Value) from T9) ?_)    -- delta.go:61 t62 := (Op.move (Operand.tmp 9))
        refine opsF_step rfl (YieldsK.bin (xv := .int .i64 ((ia : Nat) : Int)) (yv := .int .i64 ((1 : Nat) : Int)) (show _ = (.int .i64 ((ia : Nat) : Int) : Value) from rfl) (show _ = (.int .i64 ((1 : Nat) : Int) : Value) from rfl) rfl (i64_add _ (ia) (1) (by omega)) ?_)    -- delta.go:61 t63 := (Op.binOp BinOp.add 3 (Operand.tmp 62) (Operand.const (Value.int IntKind.i64 1)) 3)
        refine opsF_step rfl (YieldsK.assign (show _ = (.int .i64 (((ia) + (1) : Nat) : Int) : Value) from rfl) ?_)    -- delta.go:61 t9 := (Op.assign (Operand.tmp 63))
        refine opsF_end (fun ρ => ρ 0 = (vb : Value) ∧ ρ 1 = (v2 : Value) ∧ ρ 3 = (.pointer (some ⟨n2, 0, none⟩) : Value) ∧ ρ 4 = ((Value.slice none 0 0) : Value) ∧ ρ 5 = (.pointer (some ⟨g5, 0, none⟩) : Value) ∧ ρ 6 = (.map (some bM) : Value) ∧ ρ 7 = (.pointer (some ⟨n43, 0, none⟩) : Value) ∧ ρ 8 = (.func (.func 18) #[] #[.pointer (some ⟨n43, 0, none⟩), .pointer (some ⟨g5, 0, none⟩), .pointer (some ⟨n2, 0, none⟩)] : Value) ∧ ρ 9 = (.int .i64 (((ia) + (1) : Nat) : Int) : Value) ∧ ρ 10 = (.int .i64 ((p : Nat) : Int) : Value) ∧ ρ 11 = (.int .i64 ((n : Nat) : Int) : Value) ∧ True) ⟨T0, T1, T3, T4, T5, T6, T7, T8, rfl, T10, T11, trivial⟩ fun ρ161 ⟨T0, T1, T3, T4, T5, T6, T7, T8, T9, T10, T11, _⟩ => ?_
        refine thenF_normal (hK160 _ _ ?_)
        refine wpF_exit (thenF_exit (inBlockF_hit ?_))
        refine thenF_normal (And.intro ⟨ia + 1, fr, f', o, v, T0, T1, T3, T4, T5, T6, T7, T8, T9, hE, hM, by rw [makeGo, if_pos hc0, if_pos (by rw [hbe]; exact hn0)] at hgo; exact hgo, by omega, by omega, by omega, hol, trivial⟩ ?_)
        show T.length - (intOf (ρ161 9)).toNat < T.length - (intOf (ρ65 9)).toNat
        rw [T9, q9]
        simp only [intOf, Int.toNat_natCast]; omega
      · refine wpF_skip ?_
        refine thenF_normal (hK157 _ _ ?_)
        refine wpF_seq_k fun K162 hK162 => ?_
        refine wpF_text ?_
        refine opsF_step rfl (YieldsK.move (show _ = (.func (.func 18) #[] #[.pointer (some ⟨n43, 0, none⟩), .pointer (some ⟨g5, 0, none⟩), .pointer (some ⟨n2, 0, none⟩)] : Value) from T8) ?_)    -- delta.go:64 t64 := (Op.move (Operand.tmp 8))
        refine opsF_step rfl (YieldsK.move (show _ = (.int .i64 ((ia : Nat) : Int) : Value) from T9) ?_)    -- delta.go:64 t65 := (Op.move (Operand.tmp 9))
        refine opsF_step rfl (YieldsK.clo del8_pl18 (caps := #[.pointer (some ⟨n43, 0, none⟩), .pointer (some ⟨g5, 0, none⟩), .pointer (some ⟨n2, 0, none⟩)]) (show _ = (.func (.func 18) #[] #[.pointer (some ⟨n43, 0, none⟩), .pointer (some ⟨g5, 0, none⟩), .pointer (some ⟨n2, 0, none⟩)] : Value) from rfl) #[.int .i64 ((ia : Nat) : Int), .pointer (some ⟨n43, 0, none⟩), .pointer (some ⟨g5, 0, none⟩), .pointer (some ⟨n2, 0, none⟩)] (by simp only [List.map_toArray, List.map_cons, List.map_nil, List.append_toArray, List.cons_append, List.nil_append]; exact congrArg List.toArray (list4 (show _ = (.int .i64 ((ia : Nat) : Int) : Value) from rfl) rfl rfl rfl)) ?_)    -- delta.go:64 t66 := (Op.call { callee := (Callee.value (Operand.tmp 64)), args := #[(Operand.tmp 65)], argTypes := #[3] })
        refine (flush_any w w33 _ (w22.heap.size) n2 g5 n43 v2 v (o) T (fr) (ia) hM hT (by omega) (by omega) (by omega) (by omega)).mono ?_
        rintro e w165 ⟨rfl, v163, hM164⟩
        refine ⟨_, rfl, ?_⟩
        have hE : Ext w w165 := hM164.ext
        clear hM
        have hb166 : w165.heap[n2]? = some (.cells ([v2] : List Value).toArray 22 (0, 0)) := hM164.b3
        have hb167 : w165.heap[g5]? = some (.cells ([v163] : List Value).toArray 22 (0, 0)) := hM164.b5
        have hb168 : w165.heap[n43]? = some (.cells ([NI (fr)] : List Value).toArray 3 (0, 0)) := hM164.b7
        refine opsF_end (fun ρ => ρ 0 = (vb : Value) ∧ ρ 1 = (v2 : Value) ∧ ρ 3 = (.pointer (some ⟨n2, 0, none⟩) : Value) ∧ ρ 4 = ((Value.slice none 0 0) : Value) ∧ ρ 5 = (.pointer (some ⟨g5, 0, none⟩) : Value) ∧ ρ 6 = (.map (some bM) : Value) ∧ ρ 7 = (.pointer (some ⟨n43, 0, none⟩) : Value) ∧ ρ 8 = (.func (.func 18) #[] #[.pointer (some ⟨n43, 0, none⟩), .pointer (some ⟨g5, 0, none⟩), .pointer (some ⟨n2, 0, none⟩)] : Value) ∧ ρ 9 = (.int .i64 ((ia : Nat) : Int) : Value) ∧ ρ 10 = (.int .i64 ((p : Nat) : Int) : Value) ∧ ρ 11 = (.int .i64 ((n : Nat) : Int) : Value) ∧ True) ⟨T0, T1, T3, T4, T5, T6, T7, T8, T9, T10, T11, trivial⟩ fun ρ169 ⟨T0, T1, T3, T4, T5, T6, T7, T8, T9, T10, T11, _⟩ => ?_
        have hfl := flushP_length T fr ia o (by omega)
        have hu6 := uvarint_len63 (2 * n + 1) (by omega)
        have hu7 := uvarint_len63 p (by omega)
        refine thenF_normal (hK162 _ _ ?_)
        refine wpF_seq_k fun K170 hK170 => ?_
        refine wpF_text ?_
        refine opsF_step rfl (YieldsK.cell1 del8_ty22 rfl (show _ = (.pointer (some ⟨g5, 0, none⟩) : Value) from T5) (cellAt hb167 (show _ = some (v163 : Value) from rfl)) ?_)    -- delta.go:65 t67 := (Op.load 22 (Operand.tmp 5))
        refine opsF_step rfl (YieldsK.move (show _ = (.int .i64 ((n : Nat) : Int) : Value) from T11) ?_)    -- delta.go:65 t68 := (Op.move (Operand.tmp 11))
        refine opsF_step rfl (YieldsK.bin (xv := .int .i64 ((2 : Nat) : Int)) (yv := .int .i64 ((n : Nat) : Int)) (show _ = (.int .i64 ((2 : Nat) : Int) : Value) from rfl) (show _ = (.int .i64 ((n : Nat) : Int) : Value) from rfl) rfl (i64_mul _ (2) (n) (by omega)) ?_)    -- delta.go:65 t69 := (Op.binOp BinOp.mul 3 (Operand.const (Value.int IntKind.i64 2)) (Operand.tmp 68) 3)
        refine opsF_step rfl (YieldsK.bin (xv := .int .i64 (((2) * (n) : Nat) : Int)) (yv := .int .i64 ((1 : Nat) : Int)) (show _ = (.int .i64 (((2) * (n) : Nat) : Int) : Value) from rfl) (show _ = (.int .i64 ((1 : Nat) : Int) : Value) from rfl) rfl (i64_add _ ((2) * (n)) (1) (by omega)) ?_)    -- delta.go:65 t70 := (Op.binOp BinOp.add 3 (Operand.tmp 69) (Operand.const (Value.int IntKind.i64 1)) 3)
        refine opsF_step rfl (YieldsK.callA2 del8_pl16 (show _ = (v163 : Value) from rfl) (show _ = (.int .i64 ((((2) * (n)) + (1) : Nat) : Int) : Value) from rfl) ?_)    -- delta.go:65 t71 := (Op.call { callee := (Callee.value (Operand.func 16)), args := #[(Operand.tmp 67), (Operand.tmp 70)], argTypes
        refine (dnumber_any _ w.heap.size v163 (flushP T (fr) (ia) (o)) hM164.own hM164.ext.size (((2) * (n)) + (1)) (by omega) (by first | omega | (simp only [List.length_append]; omega))).mono ?_
        rintro e w175 ⟨v171, rfl, ho172, hg173⟩
        refine ⟨_, rfl, ?_⟩
        have hM174 := MK.grew hM164 hg173 ho172
        have hE : Ext w w175 := hM174.ext
        clear hM164
        have hb176 : w175.heap[n2]? = some (.cells ([v2] : List Value).toArray 22 (0, 0)) := hM174.b3
        have hb177 : w175.heap[g5]? = some (.cells ([v163] : List Value).toArray 22 (0, 0)) := hM174.b5
        have hb178 : w175.heap[n43]? = some (.cells ([NI (fr)] : List Value).toArray 3 (0, 0)) := hM174.b7
        refine opsF_step rfl (YieldsK.move (show _ = (.int .i64 ((p : Nat) : Int) : Value) from T10) ?_)    -- delta.go:65 t72 := (Op.move (Operand.tmp 10))
        refine opsF_step rfl (YieldsK.callA2 del8_pl16 (show _ = (v171 : Value) from rfl) (show _ = (.int .i64 ((p : Nat) : Int) : Value) from rfl) ?_)    -- delta.go:65 t73 := (Op.call { callee := (Callee.value (Operand.func 16)), args := #[(Operand.tmp 71), (Operand.tmp 72)], argTypes
        refine (dnumber_any _ w.heap.size v171 (flushP T (fr) (ia) (o) ++ Lib.uvarint (((2) * (n)) + (1))) hM174.own hM174.ext.size (p) (by omega) (by first | omega | (simp only [List.length_append]; omega))).mono ?_
        rintro e w183 ⟨v179, rfl, ho180, hg181⟩
        refine ⟨_, rfl, ?_⟩
        have hM182 := MK.grew hM174 hg181 ho180
        have hE : Ext w w183 := hM182.ext
        clear hM174
        have hb184 : w183.heap[n2]? = some (.cells ([v2] : List Value).toArray 22 (0, 0)) := hM182.b3
        have hb185 : w183.heap[g5]? = some (.cells ([v163] : List Value).toArray 22 (0, 0)) := hM182.b5
        have hb186 : w183.heap[n43]? = some (.cells ([NI (fr)] : List Value).toArray 3 (0, 0)) := hM182.b7
        refine opsF_step rfl (YieldsK.storeC (i := 0) (v := v179) (show _ = (.pointer (some ⟨g5, 0, none⟩) : Value) from T5) (show _ = (v179 : Value) from rfl) hM182.b5 (Nat.le_of_ble_eq_true rfl) del8_isz22 (own_one hM182.own).1 (own_one hM182.own).2 fun w187 hb188 hg189 hs190 => ?_)    -- delta.go:65 tNone := (Op.store 22 (Operand.tmp 5) (Operand.tmp 73))
        have hM191 := MK.set5 hM182 hb188 hg189
        have hE : Ext w w187 := hM191.ext
        clear hM182
        have hb192 : w187.heap[n2]? = some (.cells ([v2] : List Value).toArray 22 (0, 0)) := hM191.b3
        have hb193 : w187.heap[g5]? = some (.cells ([v179] : List Value).toArray 22 (0, 0)) := hM191.b5
        have hb194 : w187.heap[n43]? = some (.cells ([NI (fr)] : List Value).toArray 3 (0, 0)) := hM191.b7
        refine opsF_end (fun ρ => ρ 0 = (vb : Value) ∧ ρ 1 = (v2 : Value) ∧ ρ 3 = (.pointer (some ⟨n2, 0, none⟩) : Value) ∧ ρ 4 = ((Value.slice none 0 0) : Value) ∧ ρ 5 = (.pointer (some ⟨g5, 0, none⟩) : Value) ∧ ρ 6 = (.map (some bM) : Value) ∧ ρ 7 = (.pointer (some ⟨n43, 0, none⟩) : Value) ∧ ρ 8 = (.func (.func 18) #[] #[.pointer (some ⟨n43, 0, none⟩), .pointer (some ⟨g5, 0, none⟩), .pointer (some ⟨n2, 0, none⟩)] : Value) ∧ ρ 9 = (.int .i64 ((ia : Nat) : Int) : Value) ∧ ρ 10 = (.int .i64 ((p : Nat) : Int) : Value) ∧ ρ 11 = (.int .i64 ((n : Nat) : Int) : Value) ∧ True) ⟨T0, T1, T3, T4, T5, T6, T7, T8, T9, T10, T11, trivial⟩ fun ρ195 ⟨T0, T1, T3, T4, T5, T6, T7, T8, T9, T10, T11, _⟩ => ?_
        refine thenF_normal (hK170 _ _ ?_)
        refine wpF_seq_k fun K196 hK196 => ?_
        refine wpF_text ?_
        refine opsF_step rfl (YieldsK.move (show _ = (.int .i64 ((ia : Nat) : Int) : Value) from T9) ?_)    -- delta.go:66 t74 := (Op.move (Operand.tmp 9))
        refine opsF_step rfl (YieldsK.move (show _ = (.int .i64 ((n : Nat) : Int) : Value) from T11) ?_)    -- delta.go:66 t75 := (Op.move (Operand.tmp 11))
        refine opsF_step rfl (YieldsK.bin (xv := .int .i64 ((ia : Nat) : Int)) (yv := .int .i64 ((n : Nat) : Int)) (show _ = (.int .i64 ((ia : Nat) : Int) : Value) from rfl) (show _ = (.int .i64 ((n : Nat) : Int) : Value) from rfl) rfl (i64_add _ (ia) (n) (by omega)) ?_)    -- delta.go:66 t76 := (Op.binOp BinOp.add 3 (Operand.tmp 74) (Operand.tmp 75) 3)
        refine opsF_step rfl (YieldsK.assign (show _ = (.int .i64 (((ia) + (n) : Nat) : Int) : Value) from rfl) ?_)    -- delta.go:66 t9 := (Op.assign (Operand.tmp 76))
        refine opsF_end (fun ρ => ρ 0 = (vb : Value) ∧ ρ 1 = (v2 : Value) ∧ ρ 3 = (.pointer (some ⟨n2, 0, none⟩) : Value) ∧ ρ 4 = ((Value.slice none 0 0) : Value) ∧ ρ 5 = (.pointer (some ⟨g5, 0, none⟩) : Value) ∧ ρ 6 = (.map (some bM) : Value) ∧ ρ 7 = (.pointer (some ⟨n43, 0, none⟩) : Value) ∧ ρ 8 = (.func (.func 18) #[] #[.pointer (some ⟨n43, 0, none⟩), .pointer (some ⟨g5, 0, none⟩), .pointer (some ⟨n2, 0, none⟩)] : Value) ∧ ρ 9 = (.int .i64 (((ia) + (n) : Nat) : Int) : Value) ∧ ρ 10 = (.int .i64 ((p : Nat) : Int) : Value) ∧ ρ 11 = (.int .i64 ((n : Nat) : Int) : Value) ∧ True) ⟨T0, T1, T3, T4, T5, T6, T7, T8, rfl, T10, T11, trivial⟩ fun ρ197 ⟨T0, T1, T3, T4, T5, T6, T7, T8, T9, T10, T11, _⟩ => ?_
        refine thenF_normal (hK196 _ _ ?_)
        refine wpF_text ?_
        refine opsF_step rfl (YieldsK.move (show _ = (.int .i64 (((ia) + (n) : Nat) : Int) : Value) from T9) ?_)    -- delta.go:67 t77 := (Op.move (Operand.tmp 9))
        refine opsF_step rfl (YieldsK.storeC (i := 0) (v := NI ((ia) + (n))) (show _ = (.pointer (some ⟨n43, 0, none⟩) : Value) from T7) (show _ = (.int .i64 (((ia) + (n) : Nat) : Int) : Value) from rfl) hM191.b7 (Nat.le_of_ble_eq_true rfl) del8_isz3 rfl rfl fun w198 hb199 hg200 hs201 => ?_)    -- delta.go:67 tNone := (Op.store 3 (Operand.tmp 7) (Operand.tmp 77))
        have hM202 := MK.set7 (n := (ia) + (n)) hM191 hb199 hg200
        have hE : Ext w w198 := hM202.ext
        clear hM191
        have hb203 : w198.heap[n2]? = some (.cells ([v2] : List Value).toArray 22 (0, 0)) := hM202.b3
        have hb204 : w198.heap[g5]? = some (.cells ([v179] : List Value).toArray 22 (0, 0)) := hM202.b5
        have hb205 : w198.heap[n43]? = some (.cells ([NI ((ia) + (n))] : List Value).toArray 3 (0, 0)) := hM202.b7
        refine opsF_end (fun ρ => ρ 0 = (vb : Value) ∧ ρ 1 = (v2 : Value) ∧ ρ 3 = (.pointer (some ⟨n2, 0, none⟩) : Value) ∧ ρ 4 = ((Value.slice none 0 0) : Value) ∧ ρ 5 = (.pointer (some ⟨g5, 0, none⟩) : Value) ∧ ρ 6 = (.map (some bM) : Value) ∧ ρ 7 = (.pointer (some ⟨n43, 0, none⟩) : Value) ∧ ρ 8 = (.func (.func 18) #[] #[.pointer (some ⟨n43, 0, none⟩), .pointer (some ⟨g5, 0, none⟩), .pointer (some ⟨n2, 0, none⟩)] : Value) ∧ ρ 9 = (.int .i64 (((ia) + (n) : Nat) : Int) : Value) ∧ ρ 10 = (.int .i64 ((p : Nat) : Int) : Value) ∧ ρ 11 = (.int .i64 ((n : Nat) : Int) : Value) ∧ True) ⟨T0, T1, T3, T4, T5, T6, T7, T8, T9, T10, T11, trivial⟩ fun ρ206 ⟨T0, T1, T3, T4, T5, T6, T7, T8, T9, T10, T11, _⟩ => ?_
        refine inBlockF_normal ?_
        refine thenF_normal (And.intro ⟨ia + n, ia + n, f', flushP T (fr) (ia) (o) ++ Lib.uvarint (((2) * (n)) + (1)) ++ Lib.uvarint (p), v179, T0, T1, T3, T4, T5, T6, T7, T8, T9, hE, hM202, by rw [makeGo, if_pos hc0, if_neg (by rw [hbe]; exact hn0), hbe] at hgo; exact hgo, by omega, by omega, by omega, by have h5 := flushP_length T fr ia o (by omega); have h6 := uvarint_len63 (2 * n + 1) (by omega); have h7 := uvarint_len63 p (by omega); simp only [List.length_append]; omega, trivial⟩ ?_)
        show T.length - (intOf (ρ206 9)).toNat < T.length - (intOf (ρ65 9)).toNat
        rw [T9, q9]
        simp only [intOf, Int.toNat_natCast]; omega
  · rw [makeGo_end hc0] at hgo
    refine wpF_exit (thenF_exit (thenF_exit (inBlockF_hit ?_)))
    refine thenF_normal (hK62 _ _ ?_)
    refine wpF_seq_k fun K207 hK207 => ?_
    refine wpF_text ?_
    refine opsF_step rfl (YieldsK.move (show _ = (.func (.func 18) #[] #[.pointer (some ⟨n43, 0, none⟩), .pointer (some ⟨g5, 0, none⟩), .pointer (some ⟨n2, 0, none⟩)] : Value) from T8) ?_)    -- delta.go:69 t78 := (Op.move (Operand.tmp 8))
    refine opsF_step rfl (YieldsK.cell1 del8_ty22 rfl (show _ = (.pointer (some ⟨n2, 0, none⟩) : Value) from T3) (cellAt hb67 (show _ = some (v2 : Value) from rfl)) ?_)    -- delta.go:69 t79 := (Op.load 22 (Operand.tmp 3))
    refine opsF_step rfl (YieldsK.lenRB del8_ty22 (RB.of (hrt.keep hE) (show _ = (v2 : Value) from rfl)) ?_)    -- delta.go:69 t80 := (Op.call { callee := (Callee.builtin Builtin.len), args := #[(Operand.tmp 79)], argTypes := #[22] })
    refine opsF_step rfl (YieldsK.clo del8_pl18 (caps := #[.pointer (some ⟨n43, 0, none⟩), .pointer (some ⟨g5, 0, none⟩), .pointer (some ⟨n2, 0, none⟩)]) (show _ = (.func (.func 18) #[] #[.pointer (some ⟨n43, 0, none⟩), .pointer (some ⟨g5, 0, none⟩), .pointer (some ⟨n2, 0, none⟩)] : Value) from rfl) #[.int .i64 ((T.length : Nat) : Int), .pointer (some ⟨n43, 0, none⟩), .pointer (some ⟨g5, 0, none⟩), .pointer (some ⟨n2, 0, none⟩)] (by simp only [List.map_toArray, List.map_cons, List.map_nil, List.append_toArray, List.cons_append, List.nil_append]; exact congrArg List.toArray (list4 (show _ = (.int .i64 ((T.length : Nat) : Int) : Value) from rfl) rfl rfl rfl)) ?_)    -- delta.go:69 t81 := (Op.call { callee := (Callee.value (Operand.tmp 78)), args := #[(Operand.tmp 80)], argTypes := #[3] })
    refine (flush_any w w33 _ (w22.heap.size) n2 g5 n43 v2 v (o) T (fr) (T.length) hM hT (by omega) (by omega) (by omega) (by omega)).mono ?_
    rintro e w210 ⟨rfl, v208, hM209⟩
    refine ⟨_, rfl, ?_⟩
    have hE : Ext w w210 := hM209.ext
    clear hM
    have hb211 : w210.heap[n2]? = some (.cells ([v2] : List Value).toArray 22 (0, 0)) := hM209.b3
    have hb212 : w210.heap[g5]? = some (.cells ([v208] : List Value).toArray 22 (0, 0)) := hM209.b5
    have hb213 : w210.heap[n43]? = some (.cells ([NI (fr)] : List Value).toArray 3 (0, 0)) := hM209.b7
    refine opsF_end (fun ρ => ρ 0 = (vb : Value) ∧ ρ 1 = (v2 : Value) ∧ ρ 3 = (.pointer (some ⟨n2, 0, none⟩) : Value) ∧ ρ 4 = ((Value.slice none 0 0) : Value) ∧ ρ 5 = (.pointer (some ⟨g5, 0, none⟩) : Value) ∧ ρ 6 = (.map (some bM) : Value) ∧ ρ 7 = (.pointer (some ⟨n43, 0, none⟩) : Value) ∧ ρ 8 = (.func (.func 18) #[] #[.pointer (some ⟨n43, 0, none⟩), .pointer (some ⟨g5, 0, none⟩), .pointer (some ⟨n2, 0, none⟩)] : Value) ∧ ρ 9 = (.int .i64 ((ia : Nat) : Int) : Value) ∧ True) ⟨T0, T1, T3, T4, T5, T6, T7, T8, T9, trivial⟩ fun ρ214 ⟨T0, T1, T3, T4, T5, T6, T7, T8, T9, _⟩ => ?_
    refine thenF_normal (hK207 _ _ ?_)
    refine wpF_seq_k fun K215 hK215 => ?_
    refine wpF_text ?_
    refine opsF_step rfl (YieldsK.cell1 del8_ty22 rfl (show _ = (.pointer (some ⟨g5, 0, none⟩) : Value) from T5) (cellAt hb212 (show _ = some (v208 : Value) from rfl)) ?_)    -- delta.go:70 t82 := (Op.load 22 (Operand.tmp 5))
    refine opsF_step rfl (YieldsK.assign (show _ = (v208 : Value) from rfl) ?_)    -- delta.go:70 t4 := (Op.assign (Operand.tmp 82))
    refine opsF_end (fun ρ => ρ 0 = (vb : Value) ∧ ρ 1 = (v2 : Value) ∧ ρ 3 = (.pointer (some ⟨n2, 0, none⟩) : Value) ∧ ρ 4 = (v208 : Value) ∧ ρ 5 = (.pointer (some ⟨g5, 0, none⟩) : Value) ∧ ρ 6 = (.map (some bM) : Value) ∧ ρ 7 = (.pointer (some ⟨n43, 0, none⟩) : Value) ∧ ρ 8 = (.func (.func 18) #[] #[.pointer (some ⟨n43, 0, none⟩), .pointer (some ⟨g5, 0, none⟩), .pointer (some ⟨n2, 0, none⟩)] : Value) ∧ ρ 9 = (.int .i64 ((ia : Nat) : Int) : Value) ∧ True) ⟨T0, T1, T3, rfl, T5, T6, T7, T8, T9, trivial⟩ fun ρ216 ⟨T0, T1, T3, T4, T5, T6, T7, T8, T9, _⟩ => ?_
    refine thenF_normal (hK215 _ _ ?_)
    refine wpF_ret ?_
    refine postF_ret (fn := Try.f8) _ rfl [v208] (v208) rfl ⟨T4, trivial⟩ ?_
    rw [hgo] at hM209
    exact ⟨_, rfl, hM209.ext, ownsRow_base hM209.own (Nat.le_refl _)⟩
end Go.Proofs.Ytfjmbcjcgdfkfaa
