/- The chapter's example; DeltaOther, walked. -/
import Derived.Test.YtfjmbcjcgdfkfaaDelLaw
namespace Go.Proofs.Ytfjmbcjcgdfkfaa
open Go.RowKit
theorem fold_le (B T : List UInt8) (i : Nat) (hi : i ≤ T.length) : ∀ (zs : List Nat) (pn : Nat × Nat), (∀ z ∈ zs, z ≤ B.length) → pn.1 ≤ B.length → pn.2 ≤ T.length - i → (zs.foldl (bstep B T i) pn).1 ≤ B.length ∧ (zs.foldl (bstep B T i) pn).2 ≤ T.length - i
  | [], _, _, h1, h2 => ⟨h1, h2⟩
  | z :: zs, pn, hz, h1, h2 => by
    rw [List.foldl_cons]
    refine fold_le B T i hi zs _ (fun x hx => hz x (by simp [hx])) ?_ ?_
    · unfold bstep
      split
      · exact hz z (by simp)
      · exact h1
    · unfold bstep
      split
      · have := (lcp_le (B.drop z) (T.drop i)).2
        rw [List.length_drop] at this
        exact this
      · exact h2
theorem best_le (B T : List UInt8) (i : Nat) (hi : i ≤ T.length) : (best B T i).1 ≤ B.length ∧ (best B T i).2 ≤ T.length - i := by
  unfold best
  split
  · refine fold_le B T i hi _ _ (fun z hz => ?_) (Nat.zero_le _) (Nat.zero_le _)
    unfold posOf at hz
    rw [List.mem_filter, List.mem_range] at hz
    omega
  · exact ⟨Nat.zero_le _, Nat.zero_le _⟩
theorem makeGo_bound (B T : List UInt8) (hB : B.length ≤ 1048576) (hT : T.length ≤ 1048576) : ∀ (f i fr : Nat) (o : List UInt8), fr ≤ i → (makeGo B T f i fr o).length ≤ o.length + 27 * f + (T.length - fr) + 9 + (27 * 1048576)
  | 0, i, fr, o, _ => by
    have := flushP_length T fr T.length o (by omega)
    unfold makeGo
    omega
  | f + 1, i, fr, o, hfi => by
    have h0 := flushP_length T fr T.length o (by omega)
    unfold makeGo
    split
    · split
      · have := makeGo_bound B T hB hT f (i + 1) fr o (by omega)
        omega
      · rename_i hi hn
        have h1 := flushP_length T fr i o (by omega)
        have hb := best_le B T i (by omega)
        have h2 := uvarint_len63 (2 * (best B T i).2 + 1) (by omega)
        have h3 := uvarint_len63 (best B T i).1 (by omega)
        have := makeGo_bound B T hB hT f (i + (best B T i).2) (i + (best B T i).2) (flushP T fr i o ++ Lib.uvarint (2 * (best B T i).2 + 1) ++ Lib.uvarint (best B T i).1) (Nat.le_refl _)
        simp only [List.length_append] at this
        omega
    · omega
theorem makeP_bound (B T : List UInt8) (hB : B.length ≤ 1048576) (hT : T.length ≤ 1048576) : (makeP B T).length ≤ 1073741824 := by
  have h1 := uvarint_len63 B.length (by omega)
  have h2 := uvarint_len63 T.length (by omega)
  have := makeGo_bound B T hB hT T.length 0 0 (Lib.uvarint B.length ++ Lib.uvarint T.length) (Nat.le_refl _)
  rw [List.length_append] at this
  unfold makeP
  omega
theorem del12_ty22 : Try.prog.underlying 22 = some (.slice 5) := by kernel_rfl
theorem del12_ty5 : Try.prog.underlying 5 = some (.int .u8) := by kernel_rfl
theorem del12_pl8 : Plain Try.prog 8 := fun _ _ => by kernel_rfl
theorem del12_pl12 : Plain Try.prog 12 := fun _ _ => by kernel_rfl
theorem del12_ty9 : Try.prog.underlying 9 = some (.string) := by kernel_rfl
theorem del12_pl11 : Plain Try.prog 11 := fun _ _ => by kernel_rfl
theorem awake10 (w : World) :
    Calls Try.prog 11 #[] w fun e w' => e = .returned (.bool true) ∧ Ext w w' := by
  refine calls_of_wpF (args := []) Try.func11 rfl 28 rfl (Nat.le_of_ble_eq_true rfl) ?_
  intro ρ0 hb
  clear hb
  have hE := Ext.refl w
  refine wpF_seq_k fun K1 hK1 => ?_
  refine wpF_text ?_
  refine opsF_step rfl (YieldsK.assign (show _ = (.bool (false) : Value) from rfl) ?_)    -- law.go:12 t0 := (Op.assign (Operand.const (Value.bool false)))
  refine opsF_end (fun ρ => ρ 0 = (.bool (false) : Value) ∧ True) ⟨rfl, trivial⟩ fun ρ2 ⟨T0, _⟩ => ?_
  refine thenF_normal (hK1 _ _ ?_)
  refine wpF_seq_k fun K3 hK3 => ?_
  refine wpF_text ?_
  refine opsF_step rfl (YieldsK.litN (e := 5) ([48, 49, 50, 51, 52, 53, 54, 55, 56, 57] : List UInt8) (by decide) (fun _ _ => by kernel_rfl) fun v4 w5 hN6 => ?_)    -- law.go:13 t4 := (Op.buildSlice 22 10 #[(0, (Operand.const (Value.int IntKind.u8 48))), (1, (Operand.const (Value.int IntKind.u
  have hE : Ext w w5 := (hE.trans hN6.ext)
  have ho7 := hN6.own; clear hN6
  refine opsF_step rfl (YieldsK.convMark del12_ty22 del12_ty5 (show _ = (v4 : Value) from rfl) ho7 (by decide) fun w8 hr9 hg10 => ?_)    -- law.go:13 t5 := (Op.convert 22 22 (Operand.tmp 4))
  have hE : Ext w w8 := ext_grew hE hg10 ho7 (Nat.le_refl _)
  clear ho7
  refine opsF_step rfl (YieldsK.litN (e := 5) ([48, 49, 50, 51, 52, 53, 54, 55, 56, 57, 120] : List UInt8) (by decide) (fun _ _ => by kernel_rfl) fun v11 w12 hN13 => ?_)    -- law.go:13 t6 := (Op.buildSlice 22 11 #[(0, (Operand.const (Value.int IntKind.u8 48))), (1, (Operand.const (Value.int IntKind.u
  have hA14 := Ext.refl w8
  have hea15 := hE
  have hz16 : w.heap.size ≤ w8.heap.size := hE.size
  have hE : Ext w w12 := (hE.trans hN13.ext)
  have hA14 : Ext w8 w12 := (hA14.trans hN13.ext)
  have ho17 := hN13.own; clear hN13
  refine opsF_step rfl (YieldsK.convMark del12_ty22 del12_ty5 (show _ = (v11 : Value) from rfl) ho17 (by decide) fun w18 hr19 hg20 => ?_)    -- law.go:13 t7 := (Op.convert 22 22 (Operand.tmp 6))
  have hE : Ext w w18 := ext_grew hE hg20 ho17 hz16
  have hA14 : Ext w8 w18 := ext_grew hA14 hg20 ho17 (Nat.le_refl _)
  clear ho17
  refine opsF_step rfl (YieldsK.callA2 del12_pl8 (show _ = (v4 : Value) from rfl) (show _ = (v11 : Value) from rfl) ?_)    -- law.go:13 t8 := (Op.call { callee := (Callee.value (Operand.func 8)), args := #[(Operand.tmp 5), (Operand.tmp 7)], argTypes :=
  refine (make_any _ v4 v11 (([48, 49, 50, 51, 52, 53, 54, 55, 56, 57] : List UInt8)) (([48, 49, 50, 51, 52, 53, 54, 55, 56, 57, 120] : List UInt8)) (hr9.keep hA14) hr19 (by decide) (by decide)).mono ?_
  rintro e w25 ⟨v21, rfl, hx22, ho23⟩
  refine ⟨_, rfl, ?_⟩
  have hE : Ext w w25 := (hE.trans hx22)
  have hA14 : Ext w8 w25 := (hA14.trans hx22)
  have hr19 : RB w25 v11 (([48, 49, 50, 51, 52, 53, 54, 55, 56, 57, 120] : List UInt8)) := (hr19.keep hx22)
  have hr24 := RB.ofOwn ho23
  rw [show makeP ([48, 49, 50, 51, 52, 53, 54, 55, 56, 57] : List UInt8) ([48, 49, 50, 51, 52, 53, 54, 55, 56, 57, 120] : List UInt8) = ([10, 11, 21, 0, 2, 120] : List UInt8) from make_ten] at hr24
  refine opsF_step rfl (YieldsK.assign (show _ = (v21 : Value) from rfl) ?_)    -- law.go:13 t1 := (Op.assign (Operand.tmp 8))
  refine opsF_end (fun ρ => ρ 0 = (.bool (false) : Value) ∧ ρ 1 = (v21 : Value) ∧ True) ⟨T0, rfl, trivial⟩ fun ρ26 ⟨T0, T1, _⟩ => ?_
  refine thenF_normal (hK3 _ _ ?_)
  refine wpF_seq_k fun K27 hK27 => ?_
  refine wpF_text ?_
  refine opsF_step rfl (YieldsK.litN (e := 5) ([48, 49, 50, 51, 52, 53, 54, 55, 56, 57] : List UInt8) (by decide) (fun _ _ => by kernel_rfl) fun v28 w29 hN30 => ?_)    -- law.go:14 t10 := (Op.buildSlice 22 10 #[(0, (Operand.const (Value.int IntKind.u8 48))), (1, (Operand.const (Value.int IntKind.u
  have hA31 := Ext.refl w25
  have hea32 := hE
  have hea33 := hA14
  have hz34 : w.heap.size ≤ w25.heap.size := hE.size
  have hz35 : w8.heap.size ≤ w25.heap.size := hA14.size
  have hE : Ext w w29 := (hE.trans hN30.ext)
  have hA14 : Ext w8 w29 := (hA14.trans hN30.ext)
  have hA31 : Ext w25 w29 := (hA31.trans hN30.ext)
  have ho36 := hN30.own; clear hN30
  refine opsF_step rfl (YieldsK.convMark del12_ty22 del12_ty5 (show _ = (v28 : Value) from rfl) ho36 (by decide) fun w37 hr38 hg39 => ?_)    -- law.go:14 t11 := (Op.convert 22 22 (Operand.tmp 10))
  have hE : Ext w w37 := ext_grew hE hg39 ho36 hz34
  have hA14 : Ext w8 w37 := ext_grew hA14 hg39 ho36 hz35
  have hA31 : Ext w25 w37 := ext_grew hA31 hg39 ho36 (Nat.le_refl _)
  clear ho36
  refine opsF_step rfl (YieldsK.move (show _ = (v21 : Value) from T1) ?_)    -- law.go:14 t12 := (Op.move (Operand.tmp 1))
  refine opsF_step rfl (YieldsK.callA2 del12_pl12 (show _ = (v28 : Value) from rfl) (show _ = (v21 : Value) from rfl) ?_)    -- law.go:14 t13 := (Op.call { callee := (Callee.value (Operand.func 12)), args := #[(Operand.tmp 11), (Operand.tmp 12)], argTypes
  refine ((show Calls _ _ _ _ (fun e w2 => ∃ v2, e = .returned (.tuple #[v2, NI (0)]) ∧ RB w2 v2 (([48, 49, 50, 51, 52, 53, 54, 55, 56, 57, 120] : List UInt8)) ∧ Ext _ w2) from by have h := apply_any _ v28 v21 (([48, 49, 50, 51, 52, 53, 54, 55, 56, 57] : List UInt8)) (([10, 11, 21, 0, 2, 120] : List UInt8)) hr38 (hr24.keep hA31) (by decide) (by decide); rw [show applyP ([48, 49, 50, 51, 52, 53, 54, 55, 56, 57] : List UInt8) ([10, 11, 21, 0, 2, 120] : List UInt8) = (([48, 49, 50, 51, 52, 53, 54, 55, 56, 57, 120] : List UInt8), 0) from apply_ten] at h; exact h)).mono ?_
  rintro e w43 ⟨v40, rfl, hr42, hx41⟩
  refine ⟨_, rfl, ?_⟩
  have hE : Ext w w43 := (hE.trans hx41)
  have hA14 : Ext w8 w43 := (hA14.trans hx41)
  have hA31 : Ext w25 w43 := (hA31.trans hx41)
  have hr38 : RB w43 v28 (([48, 49, 50, 51, 52, 53, 54, 55, 56, 57] : List UInt8)) := (hr38.keep hx41)
  refine opsF_step rfl (YieldsK.move (show _ = (.tuple #[v40, .int .i64 ((0 : Nat) : Int)] : Value) from rfl) ?_)    -- law.go:14 t9 := (Op.move (Operand.tmp 13))
  refine opsF_step rfl (YieldsK.extract (vs := [v40, .int .i64 ((0 : Nat) : Int)]) (show _ = (.tuple #[v40, .int .i64 ((0 : Nat) : Int)] : Value) from rfl) (show _ = some (v40 : Value) from rfl) ?_)    -- law.go:14 t14 := (Op.extract (Operand.tmp 9) 0)
  refine opsF_step rfl (YieldsK.extract (vs := [v40, .int .i64 ((0 : Nat) : Int)]) (show _ = (.tuple #[v40, .int .i64 ((0 : Nat) : Int)] : Value) from rfl) (show _ = some (.int .i64 ((0 : Nat) : Int) : Value) from rfl) ?_)    -- law.go:14 t15 := (Op.extract (Operand.tmp 9) 1)
  refine opsF_step rfl (YieldsK.assign (show _ = (v40 : Value) from rfl) ?_)    -- law.go:14 t2 := (Op.assign (Operand.tmp 14))
  refine opsF_step rfl (YieldsK.assign (show _ = (.int .i64 ((0 : Nat) : Int) : Value) from rfl) ?_)    -- law.go:14 t3 := (Op.assign (Operand.tmp 15))
  refine opsF_end (fun ρ => ρ 0 = (.bool (false) : Value) ∧ ρ 1 = (v21 : Value) ∧ ρ 2 = (v40 : Value) ∧ ρ 3 = (.int .i64 ((0 : Nat) : Int) : Value) ∧ True) ⟨T0, T1, rfl, rfl, trivial⟩ fun ρ44 ⟨T0, T1, T2, T3, _⟩ => ?_
  refine thenF_normal (hK27 _ _ ?_)
  refine wpF_seq_k fun K45 hK45 => ?_
  refine wpF_text ?_
  refine opsF_step rfl (YieldsK.move (show _ = (v21 : Value) from T1) ?_)    -- law.go:15 t16 := (Op.move (Operand.tmp 1))
  refine opsF_step rfl (YieldsK.convRB del12_ty22 del12_ty5 del12_ty9 (RB.of (hr24.keep hA31) (show _ = (v21 : Value) from rfl)) ?_)    -- law.go:15 t17 := (Op.convert 22 9 (Operand.tmp 16))
  refine opsF_step rfl (YieldsK.eqSt (l := ([10, 11, 21, 0, 2, 120] : List UInt8)) (m := ([10, 11, 21, 0, 2, 120] : List UInt8)) (.inl rfl) (show _ = (.string ⟨(([10, 11, 21, 0, 2, 120] : List UInt8)).toArray⟩ : Value) from rfl) (show _ = (.string ⟨(([10, 11, 21, 0, 2, 120] : List UInt8)).toArray⟩ : Value) from rfl) (decide (([10, 11, 21, 0, 2, 120] : List UInt8) = (([10, 11, 21, 0, 2, 120] : List UInt8) : List UInt8))) rfl ?_)    -- law.go:15 t18 := (Op.binOp BinOp.eql 9 (Operand.tmp 17) (Operand.const (Value.string { data := #[10, 11, 21, 0, 2, 120] })) 9)
  refine opsF_step rfl (YieldsK.move (show _ = (.bool (true) : Value) from (congrArg Value.bool (decide_eq_true (rfl)))) ?_)    -- law.go:15 t19 := (Op.move (Operand.tmp 18))
  refine opsF_on (d := 19) rfl rfl (show _ = (.bool (true) : Value) from rfl) (YieldsK.move (show _ = (.int .i64 ((0 : Nat) : Int) : Value) from T3) ?_)    -- law.go:15 t20 := (Op.move (Operand.tmp 3))
  refine opsF_on (d := 19) rfl rfl (show _ = (.bool (true) : Value) from rfl) (YieldsK.eqI (a := ((0 : Nat) : Int)) (b := ((0 : Nat) : Int)) (show _ = (.int .i64 ((0 : Nat) : Int) : Value) from rfl) (show _ = (.int .i64 ((0 : Nat) : Int) : Value) from rfl) (k_eql _ .i64 (0) (0)) ?_)    -- law.go:15 t21 := (Op.binOp BinOp.eql 28 (Operand.tmp 20) (Operand.const (Value.int IntKind.i64 0)) 28)
  refine opsF_step rfl (YieldsK.pickT (show _ = (.bool (true) : Value) from rfl) (show _ = (.bool (true) : Value) from (congrArg Value.bool (decide_eq_true (rfl)))) ?_)    -- law.go:15 t22 := (Op.pick (Operand.tmp 19) (Operand.tmp 21) (Operand.const (Value.bool false)))
  refine opsF_step rfl (YieldsK.move (show _ = (.bool (true) : Value) from rfl) ?_)    -- law.go:15 t23 := (Op.move (Operand.tmp 22))
  refine opsF_on (d := 23) rfl rfl (show _ = (.bool (true) : Value) from rfl) (YieldsK.move (show _ = (v40 : Value) from T2) ?_)    -- law.go:15 t24 := (Op.move (Operand.tmp 2))
  refine opsF_on (d := 23) rfl rfl (show _ = (.bool (true) : Value) from rfl) (YieldsK.convRB del12_ty22 del12_ty5 del12_ty9 (RB.of hr42 (show _ = (v40 : Value) from rfl)) ?_)    -- law.go:15 t25 := (Op.convert 22 9 (Operand.tmp 24))
  refine opsF_on (d := 23) rfl rfl (show _ = (.bool (true) : Value) from rfl) (YieldsK.eqSt (l := ([48, 49, 50, 51, 52, 53, 54, 55, 56, 57, 120] : List UInt8)) (m := ([48, 49, 50, 51, 52, 53, 54, 55, 56, 57, 120] : List UInt8)) (.inl rfl) (show _ = (.string ⟨(([48, 49, 50, 51, 52, 53, 54, 55, 56, 57, 120] : List UInt8)).toArray⟩ : Value) from rfl) (show _ = (.string ⟨(([48, 49, 50, 51, 52, 53, 54, 55, 56, 57, 120] : List UInt8)).toArray⟩ : Value) from rfl) (decide (([48, 49, 50, 51, 52, 53, 54, 55, 56, 57, 120] : List UInt8) = (([48, 49, 50, 51, 52, 53, 54, 55, 56, 57, 120] : List UInt8) : List UInt8))) rfl ?_)    -- law.go:15 t26 := (Op.binOp BinOp.eql 9 (Operand.tmp 25) (Operand.const (Value.string { data := #[48, 49, 50, 51, 52, 53, 54, 55
  refine opsF_step rfl (YieldsK.pickT (show _ = (.bool (true) : Value) from rfl) (show _ = (.bool (true) : Value) from (congrArg Value.bool (decide_eq_true (rfl)))) ?_)    -- law.go:15 t27 := (Op.pick (Operand.tmp 23) (Operand.tmp 26) (Operand.const (Value.bool false)))
  refine opsF_step rfl (YieldsK.assign (show _ = (.bool (true) : Value) from rfl) ?_)    -- law.go:15 t0 := (Op.assign (Operand.tmp 27))
  refine opsF_end (fun ρ => ρ 0 = (.bool (true) : Value) ∧ ρ 1 = (v21 : Value) ∧ ρ 2 = (v40 : Value) ∧ ρ 3 = (.int .i64 ((0 : Nat) : Int) : Value) ∧ True) ⟨rfl, T1, T2, T3, trivial⟩ fun ρ46 ⟨T0, T1, T2, T3, _⟩ => ?_
  refine thenF_normal (hK45 _ _ ?_)
  refine wpF_ret ?_
  refine postF_ret (fn := Try.f11) _ rfl [.bool (true)] (.bool (true)) rfl ⟨T0, trivial⟩ ?_
  exact ⟨rfl, hE⟩

theorem deltaOther_walk (w : World) (vb vo vt : Value) (B O T : List UInt8) (hrb : RB w vb B) (hro : RB w vo O) (hrt : RB w vt T) :
    Calls Try.prog 5 #[vb, vo, vt] w fun e w' => e = .returned (.bool true) ∧ Ext w w' := by
  refine calls_of_wpF (args := [vb, vo, vt]) Try.func5 rfl 47 rfl (Nat.le_of_ble_eq_true rfl) ?_
  intro ρ0 hb
  have T0 : ρ0 0 = (vb : Value) := hb.get 0
  have T1 : ρ0 1 = (vo : Value) := hb.get 1
  have T2 : ρ0 2 = (vt : Value) := hb.get 2
  clear hb
  have hE := Ext.refl w
  refine wpF_seq_k fun K1 hK1 => ?_
  refine wpF_text ?_
  refine opsF_step rfl (YieldsK.assign (show _ = (.bool (false) : Value) from rfl) ?_)    -- outright.go:32 t6 := (Op.assign (Operand.const (Value.bool false)))
  refine opsF_end (fun ρ => ρ 0 = (vb : Value) ∧ ρ 1 = (vo : Value) ∧ ρ 2 = (vt : Value) ∧ ρ 6 = (.bool (false) : Value) ∧ True) ⟨T0, T1, T2, rfl, trivial⟩ fun ρ2 ⟨T0, T1, T2, T6, _⟩ => ?_
  by_cases h1 : 2000 < B.length
  · refine thenF_normal (hK1 _ _ ?_)
    refine wpF_seq_k fun K3 hK3 => ?_
    refine wpF_seq_k fun K4 hK4 => ?_
    refine wpF_text ?_
    refine opsF_step rfl (YieldsK.move (show _ = (vb : Value) from T0) ?_)    -- outright.go:33 t9 := (Op.move (Operand.tmp 0))
    refine opsF_step rfl (YieldsK.lenRB del12_ty22 (RB.of (hrb.keep hE) (show _ = (vb : Value) from rfl)) ?_)    -- outright.go:33 t10 := (Op.call { callee := (Callee.builtin Builtin.len), args := #[(Operand.tmp 9)], argTypes := #[22] })
    refine opsF_step rfl (YieldsK.eqI (a := ((B.length : Nat) : Int)) (b := ((2000 : Nat) : Int)) (show _ = (.int .i64 ((B.length : Nat) : Int) : Value) from rfl) (show _ = (.int .i64 ((2000 : Nat) : Int) : Value) from rfl) (k_gtr _ .i64 (B.length) (2000)) ?_)    -- outright.go:33 t11 := (Op.binOp BinOp.gtr 3 (Operand.tmp 10) (Operand.const (Value.int IntKind.i64 2000)) 3)
    refine opsF_step rfl (YieldsK.move (show _ = (.bool (true) : Value) from (congrArg Value.bool (decide_eq_true (h1)))) ?_)    -- outright.go:33 t12 := (Op.move (Operand.tmp 11))
    refine opsF_off (d := 12) rfl rfl rfl (show _ = (.bool (true) : Value) from rfl) rfl ?_    -- outright.go:33 t13 := (Op.move (Operand.tmp 1))
    refine opsF_off (d := 12) rfl rfl rfl (show _ = (.bool (true) : Value) from rfl) rfl ?_    -- outright.go:33 t14 := (Op.call { callee := (Callee.builtin Builtin.len), args := #[(Operand.tmp 13)], argTypes := #[22] })
    refine opsF_off (d := 12) rfl rfl rfl (show _ = (.bool (true) : Value) from rfl) rfl ?_    -- outright.go:33 t15 := (Op.binOp BinOp.gtr 3 (Operand.tmp 14) (Operand.const (Value.int IntKind.i64 2000)) 3)
    refine opsF_step rfl (YieldsK.pickT (show _ = (.bool (true) : Value) from rfl) (show _ = (.bool (true) : Value) from rfl) ?_)    -- outright.go:33 t16 := (Op.pick (Operand.tmp 12) (Operand.const (Value.bool true)) (Operand.tmp 15))
    refine opsF_step rfl (YieldsK.move (show _ = (.bool (true) : Value) from rfl) ?_)    -- outright.go:33 t17 := (Op.move (Operand.tmp 16))
    refine opsF_off (d := 17) rfl rfl rfl (show _ = (.bool (true) : Value) from rfl) rfl ?_    -- outright.go:33 t18 := (Op.move (Operand.tmp 2))
    refine opsF_off (d := 17) rfl rfl rfl (show _ = (.bool (true) : Value) from rfl) rfl ?_    -- outright.go:33 t19 := (Op.call { callee := (Callee.builtin Builtin.len), args := #[(Operand.tmp 18)], argTypes := #[22] })
    refine opsF_off (d := 17) rfl rfl rfl (show _ = (.bool (true) : Value) from rfl) rfl ?_    -- outright.go:33 t20 := (Op.binOp BinOp.gtr 3 (Operand.tmp 19) (Operand.const (Value.int IntKind.i64 2000)) 3)
    refine opsF_step rfl (YieldsK.pickT (show _ = (.bool (true) : Value) from rfl) (show _ = (.bool (true) : Value) from rfl) ?_)    -- outright.go:33 t21 := (Op.pick (Operand.tmp 17) (Operand.const (Value.bool true)) (Operand.tmp 20))
    refine opsF_step rfl (YieldsK.move (show _ = (.bool (true) : Value) from rfl) ?_)    -- outright.go:33 t22 := (Op.move (Operand.tmp 21))
    refine opsF_off (d := 22) rfl rfl rfl (show _ = (.bool (true) : Value) from rfl) rfl ?_    -- outright.go:33 t23 := (Op.move (Operand.tmp 0))
    refine opsF_off (d := 22) rfl rfl rfl (show _ = (.bool (true) : Value) from rfl) rfl ?_    -- outright.go:33 t24 := (Op.call { callee := (Callee.builtin Builtin.len), args := #[(Operand.tmp 23)], argTypes := #[22] })
    refine opsF_off (d := 22) rfl rfl rfl (show _ = (.bool (true) : Value) from rfl) rfl ?_    -- outright.go:33 t25 := (Op.move (Operand.tmp 1))
    refine opsF_off (d := 22) rfl rfl rfl (show _ = (.bool (true) : Value) from rfl) rfl ?_    -- outright.go:33 t26 := (Op.call { callee := (Callee.builtin Builtin.len), args := #[(Operand.tmp 25)], argTypes := #[22] })
    refine opsF_off (d := 22) rfl rfl rfl (show _ = (.bool (true) : Value) from rfl) rfl ?_    -- outright.go:33 t27 := (Op.binOp BinOp.eql 3 (Operand.tmp 24) (Operand.tmp 26) 3)
    refine opsF_step rfl (YieldsK.pickT (show _ = (.bool (true) : Value) from rfl) (show _ = (.bool (true) : Value) from rfl) ?_)    -- outright.go:33 t28 := (Op.pick (Operand.tmp 22) (Operand.const (Value.bool true)) (Operand.tmp 27))
    refine opsF_end (fun ρ => ρ 0 = (vb : Value) ∧ ρ 1 = (vo : Value) ∧ ρ 2 = (vt : Value) ∧ ρ 6 = (.bool (false) : Value) ∧ ρ 28 = (.bool (true) : Value) ∧ True) ⟨T0, T1, T2, T6, rfl, trivial⟩ fun ρ5 ⟨T0, T1, T2, T6, T28, _⟩ => ?_
    refine thenF_normal (hK4 _ _ ?_)
    refine wpF_true (show _ = (.bool (true) : Value) from T28) ?_
    refine wpF_seq_k fun K6 hK6 => ?_
    refine wpF_text ?_
    refine opsF_step rfl (YieldsK.assign (show _ = (.bool (true) : Value) from rfl) ?_)    -- outright.go:34 t6 := (Op.assign (Operand.const (Value.bool true)))
    refine opsF_end (fun ρ => ρ 0 = (vb : Value) ∧ ρ 1 = (vo : Value) ∧ ρ 2 = (vt : Value) ∧ ρ 6 = (.bool (true) : Value) ∧ ρ 28 = (.bool (true) : Value) ∧ True) ⟨T0, T1, T2, rfl, T28, trivial⟩ fun ρ7 ⟨T0, T1, T2, T6, T28, _⟩ => ?_
    refine thenF_normal (hK6 _ _ ?_)
    refine wpF_ret (thenF_ret ?_)
    refine postF_ret (fn := Try.f5) _ rfl [.bool (true)] (.bool (true)) rfl ⟨T6, trivial⟩ ?_
    exact ⟨rfl, hE⟩
  · by_cases h2 : 2000 < O.length
    · refine thenF_normal (hK1 _ _ ?_)
      refine wpF_seq_k fun K8 hK8 => ?_
      refine wpF_seq_k fun K9 hK9 => ?_
      refine wpF_text ?_
      refine opsF_step rfl (YieldsK.move (show _ = (vb : Value) from T0) ?_)    -- outright.go:33 t9 := (Op.move (Operand.tmp 0))
      refine opsF_step rfl (YieldsK.lenRB del12_ty22 (RB.of (hrb.keep hE) (show _ = (vb : Value) from rfl)) ?_)    -- outright.go:33 t10 := (Op.call { callee := (Callee.builtin Builtin.len), args := #[(Operand.tmp 9)], argTypes := #[22] })
      refine opsF_step rfl (YieldsK.eqI (a := ((B.length : Nat) : Int)) (b := ((2000 : Nat) : Int)) (show _ = (.int .i64 ((B.length : Nat) : Int) : Value) from rfl) (show _ = (.int .i64 ((2000 : Nat) : Int) : Value) from rfl) (k_gtr _ .i64 (B.length) (2000)) ?_)    -- outright.go:33 t11 := (Op.binOp BinOp.gtr 3 (Operand.tmp 10) (Operand.const (Value.int IntKind.i64 2000)) 3)
      refine opsF_step rfl (YieldsK.move (show _ = (.bool (false) : Value) from (congrArg Value.bool (decide_eq_false (h1)))) ?_)    -- outright.go:33 t12 := (Op.move (Operand.tmp 11))
      refine opsF_on (d := 12) rfl rfl (show _ = (.bool (false) : Value) from rfl) (YieldsK.move (show _ = (vo : Value) from T1) ?_)    -- outright.go:33 t13 := (Op.move (Operand.tmp 1))
      refine opsF_on (d := 12) rfl rfl (show _ = (.bool (false) : Value) from rfl) (YieldsK.lenRB del12_ty22 (RB.of (hro.keep hE) (show _ = (vo : Value) from rfl)) ?_)    -- outright.go:33 t14 := (Op.call { callee := (Callee.builtin Builtin.len), args := #[(Operand.tmp 13)], argTypes := #[22] })
      refine opsF_on (d := 12) rfl rfl (show _ = (.bool (false) : Value) from rfl) (YieldsK.eqI (a := ((O.length : Nat) : Int)) (b := ((2000 : Nat) : Int)) (show _ = (.int .i64 ((O.length : Nat) : Int) : Value) from rfl) (show _ = (.int .i64 ((2000 : Nat) : Int) : Value) from rfl) (k_gtr _ .i64 (O.length) (2000)) ?_)    -- outright.go:33 t15 := (Op.binOp BinOp.gtr 3 (Operand.tmp 14) (Operand.const (Value.int IntKind.i64 2000)) 3)
      refine opsF_step rfl (YieldsK.pickF (show _ = (.bool (false) : Value) from rfl) (show _ = (.bool (true) : Value) from (congrArg Value.bool (decide_eq_true (h2)))) ?_)    -- outright.go:33 t16 := (Op.pick (Operand.tmp 12) (Operand.const (Value.bool true)) (Operand.tmp 15))
      refine opsF_step rfl (YieldsK.move (show _ = (.bool (true) : Value) from rfl) ?_)    -- outright.go:33 t17 := (Op.move (Operand.tmp 16))
      refine opsF_off (d := 17) rfl rfl rfl (show _ = (.bool (true) : Value) from rfl) rfl ?_    -- outright.go:33 t18 := (Op.move (Operand.tmp 2))
      refine opsF_off (d := 17) rfl rfl rfl (show _ = (.bool (true) : Value) from rfl) rfl ?_    -- outright.go:33 t19 := (Op.call { callee := (Callee.builtin Builtin.len), args := #[(Operand.tmp 18)], argTypes := #[22] })
      refine opsF_off (d := 17) rfl rfl rfl (show _ = (.bool (true) : Value) from rfl) rfl ?_    -- outright.go:33 t20 := (Op.binOp BinOp.gtr 3 (Operand.tmp 19) (Operand.const (Value.int IntKind.i64 2000)) 3)
      refine opsF_step rfl (YieldsK.pickT (show _ = (.bool (true) : Value) from rfl) (show _ = (.bool (true) : Value) from rfl) ?_)    -- outright.go:33 t21 := (Op.pick (Operand.tmp 17) (Operand.const (Value.bool true)) (Operand.tmp 20))
      refine opsF_step rfl (YieldsK.move (show _ = (.bool (true) : Value) from rfl) ?_)    -- outright.go:33 t22 := (Op.move (Operand.tmp 21))
      refine opsF_off (d := 22) rfl rfl rfl (show _ = (.bool (true) : Value) from rfl) rfl ?_    -- outright.go:33 t23 := (Op.move (Operand.tmp 0))
      refine opsF_off (d := 22) rfl rfl rfl (show _ = (.bool (true) : Value) from rfl) rfl ?_    -- outright.go:33 t24 := (Op.call { callee := (Callee.builtin Builtin.len), args := #[(Operand.tmp 23)], argTypes := #[22] })
      refine opsF_off (d := 22) rfl rfl rfl (show _ = (.bool (true) : Value) from rfl) rfl ?_    -- outright.go:33 t25 := (Op.move (Operand.tmp 1))
      refine opsF_off (d := 22) rfl rfl rfl (show _ = (.bool (true) : Value) from rfl) rfl ?_    -- outright.go:33 t26 := (Op.call { callee := (Callee.builtin Builtin.len), args := #[(Operand.tmp 25)], argTypes := #[22] })
      refine opsF_off (d := 22) rfl rfl rfl (show _ = (.bool (true) : Value) from rfl) rfl ?_    -- outright.go:33 t27 := (Op.binOp BinOp.eql 3 (Operand.tmp 24) (Operand.tmp 26) 3)
      refine opsF_step rfl (YieldsK.pickT (show _ = (.bool (true) : Value) from rfl) (show _ = (.bool (true) : Value) from rfl) ?_)    -- outright.go:33 t28 := (Op.pick (Operand.tmp 22) (Operand.const (Value.bool true)) (Operand.tmp 27))
      refine opsF_end (fun ρ => ρ 0 = (vb : Value) ∧ ρ 1 = (vo : Value) ∧ ρ 2 = (vt : Value) ∧ ρ 6 = (.bool (false) : Value) ∧ ρ 28 = (.bool (true) : Value) ∧ True) ⟨T0, T1, T2, T6, rfl, trivial⟩ fun ρ10 ⟨T0, T1, T2, T6, T28, _⟩ => ?_
      refine thenF_normal (hK9 _ _ ?_)
      refine wpF_true (show _ = (.bool (true) : Value) from T28) ?_
      refine wpF_seq_k fun K11 hK11 => ?_
      refine wpF_text ?_
      refine opsF_step rfl (YieldsK.assign (show _ = (.bool (true) : Value) from rfl) ?_)    -- outright.go:34 t6 := (Op.assign (Operand.const (Value.bool true)))
      refine opsF_end (fun ρ => ρ 0 = (vb : Value) ∧ ρ 1 = (vo : Value) ∧ ρ 2 = (vt : Value) ∧ ρ 6 = (.bool (true) : Value) ∧ ρ 28 = (.bool (true) : Value) ∧ True) ⟨T0, T1, T2, rfl, T28, trivial⟩ fun ρ12 ⟨T0, T1, T2, T6, T28, _⟩ => ?_
      refine thenF_normal (hK11 _ _ ?_)
      refine wpF_ret (thenF_ret ?_)
      refine postF_ret (fn := Try.f5) _ rfl [.bool (true)] (.bool (true)) rfl ⟨T6, trivial⟩ ?_
      exact ⟨rfl, hE⟩
    · by_cases h3 : 2000 < T.length
      · refine thenF_normal (hK1 _ _ ?_)
        refine wpF_seq_k fun K13 hK13 => ?_
        refine wpF_seq_k fun K14 hK14 => ?_
        refine wpF_text ?_
        refine opsF_step rfl (YieldsK.move (show _ = (vb : Value) from T0) ?_)    -- outright.go:33 t9 := (Op.move (Operand.tmp 0))
        refine opsF_step rfl (YieldsK.lenRB del12_ty22 (RB.of (hrb.keep hE) (show _ = (vb : Value) from rfl)) ?_)    -- outright.go:33 t10 := (Op.call { callee := (Callee.builtin Builtin.len), args := #[(Operand.tmp 9)], argTypes := #[22] })
        refine opsF_step rfl (YieldsK.eqI (a := ((B.length : Nat) : Int)) (b := ((2000 : Nat) : Int)) (show _ = (.int .i64 ((B.length : Nat) : Int) : Value) from rfl) (show _ = (.int .i64 ((2000 : Nat) : Int) : Value) from rfl) (k_gtr _ .i64 (B.length) (2000)) ?_)    -- outright.go:33 t11 := (Op.binOp BinOp.gtr 3 (Operand.tmp 10) (Operand.const (Value.int IntKind.i64 2000)) 3)
        refine opsF_step rfl (YieldsK.move (show _ = (.bool (false) : Value) from (congrArg Value.bool (decide_eq_false (h1)))) ?_)    -- outright.go:33 t12 := (Op.move (Operand.tmp 11))
        refine opsF_on (d := 12) rfl rfl (show _ = (.bool (false) : Value) from rfl) (YieldsK.move (show _ = (vo : Value) from T1) ?_)    -- outright.go:33 t13 := (Op.move (Operand.tmp 1))
        refine opsF_on (d := 12) rfl rfl (show _ = (.bool (false) : Value) from rfl) (YieldsK.lenRB del12_ty22 (RB.of (hro.keep hE) (show _ = (vo : Value) from rfl)) ?_)    -- outright.go:33 t14 := (Op.call { callee := (Callee.builtin Builtin.len), args := #[(Operand.tmp 13)], argTypes := #[22] })
        refine opsF_on (d := 12) rfl rfl (show _ = (.bool (false) : Value) from rfl) (YieldsK.eqI (a := ((O.length : Nat) : Int)) (b := ((2000 : Nat) : Int)) (show _ = (.int .i64 ((O.length : Nat) : Int) : Value) from rfl) (show _ = (.int .i64 ((2000 : Nat) : Int) : Value) from rfl) (k_gtr _ .i64 (O.length) (2000)) ?_)    -- outright.go:33 t15 := (Op.binOp BinOp.gtr 3 (Operand.tmp 14) (Operand.const (Value.int IntKind.i64 2000)) 3)
        refine opsF_step rfl (YieldsK.pickF (show _ = (.bool (false) : Value) from rfl) (show _ = (.bool (false) : Value) from (congrArg Value.bool (decide_eq_false (h2)))) ?_)    -- outright.go:33 t16 := (Op.pick (Operand.tmp 12) (Operand.const (Value.bool true)) (Operand.tmp 15))
        refine opsF_step rfl (YieldsK.move (show _ = (.bool (false) : Value) from rfl) ?_)    -- outright.go:33 t17 := (Op.move (Operand.tmp 16))
        refine opsF_on (d := 17) rfl rfl (show _ = (.bool (false) : Value) from rfl) (YieldsK.move (show _ = (vt : Value) from T2) ?_)    -- outright.go:33 t18 := (Op.move (Operand.tmp 2))
        refine opsF_on (d := 17) rfl rfl (show _ = (.bool (false) : Value) from rfl) (YieldsK.lenRB del12_ty22 (RB.of (hrt.keep hE) (show _ = (vt : Value) from rfl)) ?_)    -- outright.go:33 t19 := (Op.call { callee := (Callee.builtin Builtin.len), args := #[(Operand.tmp 18)], argTypes := #[22] })
        refine opsF_on (d := 17) rfl rfl (show _ = (.bool (false) : Value) from rfl) (YieldsK.eqI (a := ((T.length : Nat) : Int)) (b := ((2000 : Nat) : Int)) (show _ = (.int .i64 ((T.length : Nat) : Int) : Value) from rfl) (show _ = (.int .i64 ((2000 : Nat) : Int) : Value) from rfl) (k_gtr _ .i64 (T.length) (2000)) ?_)    -- outright.go:33 t20 := (Op.binOp BinOp.gtr 3 (Operand.tmp 19) (Operand.const (Value.int IntKind.i64 2000)) 3)
        refine opsF_step rfl (YieldsK.pickF (show _ = (.bool (false) : Value) from rfl) (show _ = (.bool (true) : Value) from (congrArg Value.bool (decide_eq_true (h3)))) ?_)    -- outright.go:33 t21 := (Op.pick (Operand.tmp 17) (Operand.const (Value.bool true)) (Operand.tmp 20))
        refine opsF_step rfl (YieldsK.move (show _ = (.bool (true) : Value) from rfl) ?_)    -- outright.go:33 t22 := (Op.move (Operand.tmp 21))
        refine opsF_off (d := 22) rfl rfl rfl (show _ = (.bool (true) : Value) from rfl) rfl ?_    -- outright.go:33 t23 := (Op.move (Operand.tmp 0))
        refine opsF_off (d := 22) rfl rfl rfl (show _ = (.bool (true) : Value) from rfl) rfl ?_    -- outright.go:33 t24 := (Op.call { callee := (Callee.builtin Builtin.len), args := #[(Operand.tmp 23)], argTypes := #[22] })
        refine opsF_off (d := 22) rfl rfl rfl (show _ = (.bool (true) : Value) from rfl) rfl ?_    -- outright.go:33 t25 := (Op.move (Operand.tmp 1))
        refine opsF_off (d := 22) rfl rfl rfl (show _ = (.bool (true) : Value) from rfl) rfl ?_    -- outright.go:33 t26 := (Op.call { callee := (Callee.builtin Builtin.len), args := #[(Operand.tmp 25)], argTypes := #[22] })
        refine opsF_off (d := 22) rfl rfl rfl (show _ = (.bool (true) : Value) from rfl) rfl ?_    -- outright.go:33 t27 := (Op.binOp BinOp.eql 3 (Operand.tmp 24) (Operand.tmp 26) 3)
        refine opsF_step rfl (YieldsK.pickT (show _ = (.bool (true) : Value) from rfl) (show _ = (.bool (true) : Value) from rfl) ?_)    -- outright.go:33 t28 := (Op.pick (Operand.tmp 22) (Operand.const (Value.bool true)) (Operand.tmp 27))
        refine opsF_end (fun ρ => ρ 0 = (vb : Value) ∧ ρ 1 = (vo : Value) ∧ ρ 2 = (vt : Value) ∧ ρ 6 = (.bool (false) : Value) ∧ ρ 28 = (.bool (true) : Value) ∧ True) ⟨T0, T1, T2, T6, rfl, trivial⟩ fun ρ15 ⟨T0, T1, T2, T6, T28, _⟩ => ?_
        refine thenF_normal (hK14 _ _ ?_)
        refine wpF_true (show _ = (.bool (true) : Value) from T28) ?_
        refine wpF_seq_k fun K16 hK16 => ?_
        refine wpF_text ?_
        refine opsF_step rfl (YieldsK.assign (show _ = (.bool (true) : Value) from rfl) ?_)    -- outright.go:34 t6 := (Op.assign (Operand.const (Value.bool true)))
        refine opsF_end (fun ρ => ρ 0 = (vb : Value) ∧ ρ 1 = (vo : Value) ∧ ρ 2 = (vt : Value) ∧ ρ 6 = (.bool (true) : Value) ∧ ρ 28 = (.bool (true) : Value) ∧ True) ⟨T0, T1, T2, rfl, T28, trivial⟩ fun ρ17 ⟨T0, T1, T2, T6, T28, _⟩ => ?_
        refine thenF_normal (hK16 _ _ ?_)
        refine wpF_ret (thenF_ret ?_)
        refine postF_ret (fn := Try.f5) _ rfl [.bool (true)] (.bool (true)) rfl ⟨T6, trivial⟩ ?_
        exact ⟨rfl, hE⟩
      · by_cases h4 : B.length = O.length
        · refine thenF_normal (hK1 _ _ ?_)
          refine wpF_seq_k fun K18 hK18 => ?_
          refine wpF_seq_k fun K19 hK19 => ?_
          refine wpF_text ?_
          refine opsF_step rfl (YieldsK.move (show _ = (vb : Value) from T0) ?_)    -- outright.go:33 t9 := (Op.move (Operand.tmp 0))
          refine opsF_step rfl (YieldsK.lenRB del12_ty22 (RB.of (hrb.keep hE) (show _ = (vb : Value) from rfl)) ?_)    -- outright.go:33 t10 := (Op.call { callee := (Callee.builtin Builtin.len), args := #[(Operand.tmp 9)], argTypes := #[22] })
          refine opsF_step rfl (YieldsK.eqI (a := ((B.length : Nat) : Int)) (b := ((2000 : Nat) : Int)) (show _ = (.int .i64 ((B.length : Nat) : Int) : Value) from rfl) (show _ = (.int .i64 ((2000 : Nat) : Int) : Value) from rfl) (k_gtr _ .i64 (B.length) (2000)) ?_)    -- outright.go:33 t11 := (Op.binOp BinOp.gtr 3 (Operand.tmp 10) (Operand.const (Value.int IntKind.i64 2000)) 3)
          refine opsF_step rfl (YieldsK.move (show _ = (.bool (false) : Value) from (congrArg Value.bool (decide_eq_false (h1)))) ?_)    -- outright.go:33 t12 := (Op.move (Operand.tmp 11))
          refine opsF_on (d := 12) rfl rfl (show _ = (.bool (false) : Value) from rfl) (YieldsK.move (show _ = (vo : Value) from T1) ?_)    -- outright.go:33 t13 := (Op.move (Operand.tmp 1))
          refine opsF_on (d := 12) rfl rfl (show _ = (.bool (false) : Value) from rfl) (YieldsK.lenRB del12_ty22 (RB.of (hro.keep hE) (show _ = (vo : Value) from rfl)) ?_)    -- outright.go:33 t14 := (Op.call { callee := (Callee.builtin Builtin.len), args := #[(Operand.tmp 13)], argTypes := #[22] })
          refine opsF_on (d := 12) rfl rfl (show _ = (.bool (false) : Value) from rfl) (YieldsK.eqI (a := ((O.length : Nat) : Int)) (b := ((2000 : Nat) : Int)) (show _ = (.int .i64 ((O.length : Nat) : Int) : Value) from rfl) (show _ = (.int .i64 ((2000 : Nat) : Int) : Value) from rfl) (k_gtr _ .i64 (O.length) (2000)) ?_)    -- outright.go:33 t15 := (Op.binOp BinOp.gtr 3 (Operand.tmp 14) (Operand.const (Value.int IntKind.i64 2000)) 3)
          refine opsF_step rfl (YieldsK.pickF (show _ = (.bool (false) : Value) from rfl) (show _ = (.bool (false) : Value) from (congrArg Value.bool (decide_eq_false (h2)))) ?_)    -- outright.go:33 t16 := (Op.pick (Operand.tmp 12) (Operand.const (Value.bool true)) (Operand.tmp 15))
          refine opsF_step rfl (YieldsK.move (show _ = (.bool (false) : Value) from rfl) ?_)    -- outright.go:33 t17 := (Op.move (Operand.tmp 16))
          refine opsF_on (d := 17) rfl rfl (show _ = (.bool (false) : Value) from rfl) (YieldsK.move (show _ = (vt : Value) from T2) ?_)    -- outright.go:33 t18 := (Op.move (Operand.tmp 2))
          refine opsF_on (d := 17) rfl rfl (show _ = (.bool (false) : Value) from rfl) (YieldsK.lenRB del12_ty22 (RB.of (hrt.keep hE) (show _ = (vt : Value) from rfl)) ?_)    -- outright.go:33 t19 := (Op.call { callee := (Callee.builtin Builtin.len), args := #[(Operand.tmp 18)], argTypes := #[22] })
          refine opsF_on (d := 17) rfl rfl (show _ = (.bool (false) : Value) from rfl) (YieldsK.eqI (a := ((T.length : Nat) : Int)) (b := ((2000 : Nat) : Int)) (show _ = (.int .i64 ((T.length : Nat) : Int) : Value) from rfl) (show _ = (.int .i64 ((2000 : Nat) : Int) : Value) from rfl) (k_gtr _ .i64 (T.length) (2000)) ?_)    -- outright.go:33 t20 := (Op.binOp BinOp.gtr 3 (Operand.tmp 19) (Operand.const (Value.int IntKind.i64 2000)) 3)
          refine opsF_step rfl (YieldsK.pickF (show _ = (.bool (false) : Value) from rfl) (show _ = (.bool (false) : Value) from (congrArg Value.bool (decide_eq_false (h3)))) ?_)    -- outright.go:33 t21 := (Op.pick (Operand.tmp 17) (Operand.const (Value.bool true)) (Operand.tmp 20))
          refine opsF_step rfl (YieldsK.move (show _ = (.bool (false) : Value) from rfl) ?_)    -- outright.go:33 t22 := (Op.move (Operand.tmp 21))
          refine opsF_on (d := 22) rfl rfl (show _ = (.bool (false) : Value) from rfl) (YieldsK.move (show _ = (vb : Value) from T0) ?_)    -- outright.go:33 t23 := (Op.move (Operand.tmp 0))
          refine opsF_on (d := 22) rfl rfl (show _ = (.bool (false) : Value) from rfl) (YieldsK.lenRB del12_ty22 (RB.of (hrb.keep hE) (show _ = (vb : Value) from rfl)) ?_)    -- outright.go:33 t24 := (Op.call { callee := (Callee.builtin Builtin.len), args := #[(Operand.tmp 23)], argTypes := #[22] })
          refine opsF_on (d := 22) rfl rfl (show _ = (.bool (false) : Value) from rfl) (YieldsK.move (show _ = (vo : Value) from T1) ?_)    -- outright.go:33 t25 := (Op.move (Operand.tmp 1))
          refine opsF_on (d := 22) rfl rfl (show _ = (.bool (false) : Value) from rfl) (YieldsK.lenRB del12_ty22 (RB.of (hro.keep hE) (show _ = (vo : Value) from rfl)) ?_)    -- outright.go:33 t26 := (Op.call { callee := (Callee.builtin Builtin.len), args := #[(Operand.tmp 25)], argTypes := #[22] })
          refine opsF_on (d := 22) rfl rfl (show _ = (.bool (false) : Value) from rfl) (YieldsK.eqI (a := ((B.length : Nat) : Int)) (b := ((O.length : Nat) : Int)) (show _ = (.int .i64 ((B.length : Nat) : Int) : Value) from rfl) (show _ = (.int .i64 ((O.length : Nat) : Int) : Value) from rfl) (k_eql _ .i64 (B.length) (O.length)) ?_)    -- outright.go:33 t27 := (Op.binOp BinOp.eql 3 (Operand.tmp 24) (Operand.tmp 26) 3)
          refine opsF_step rfl (YieldsK.pickF (show _ = (.bool (false) : Value) from rfl) (show _ = (.bool (true) : Value) from (congrArg Value.bool (decide_eq_true (h4)))) ?_)    -- outright.go:33 t28 := (Op.pick (Operand.tmp 22) (Operand.const (Value.bool true)) (Operand.tmp 27))
          refine opsF_end (fun ρ => ρ 0 = (vb : Value) ∧ ρ 1 = (vo : Value) ∧ ρ 2 = (vt : Value) ∧ ρ 6 = (.bool (false) : Value) ∧ ρ 28 = (.bool (true) : Value) ∧ True) ⟨T0, T1, T2, T6, rfl, trivial⟩ fun ρ20 ⟨T0, T1, T2, T6, T28, _⟩ => ?_
          refine thenF_normal (hK19 _ _ ?_)
          refine wpF_true (show _ = (.bool (true) : Value) from T28) ?_
          refine wpF_seq_k fun K21 hK21 => ?_
          refine wpF_text ?_
          refine opsF_step rfl (YieldsK.assign (show _ = (.bool (true) : Value) from rfl) ?_)    -- outright.go:34 t6 := (Op.assign (Operand.const (Value.bool true)))
          refine opsF_end (fun ρ => ρ 0 = (vb : Value) ∧ ρ 1 = (vo : Value) ∧ ρ 2 = (vt : Value) ∧ ρ 6 = (.bool (true) : Value) ∧ ρ 28 = (.bool (true) : Value) ∧ True) ⟨T0, T1, T2, rfl, T28, trivial⟩ fun ρ22 ⟨T0, T1, T2, T6, T28, _⟩ => ?_
          refine thenF_normal (hK21 _ _ ?_)
          refine wpF_ret (thenF_ret ?_)
          refine postF_ret (fn := Try.f5) _ rfl [.bool (true)] (.bool (true)) rfl ⟨T6, trivial⟩ ?_
          exact ⟨rfl, hE⟩
        · refine thenF_normal (hK1 _ _ ?_)
          refine wpF_seq_k fun K23 hK23 => ?_
          refine wpF_seq_k fun K24 hK24 => ?_
          refine wpF_text ?_
          refine opsF_step rfl (YieldsK.move (show _ = (vb : Value) from T0) ?_)    -- outright.go:33 t9 := (Op.move (Operand.tmp 0))
          refine opsF_step rfl (YieldsK.lenRB del12_ty22 (RB.of (hrb.keep hE) (show _ = (vb : Value) from rfl)) ?_)    -- outright.go:33 t10 := (Op.call { callee := (Callee.builtin Builtin.len), args := #[(Operand.tmp 9)], argTypes := #[22] })
          refine opsF_step rfl (YieldsK.eqI (a := ((B.length : Nat) : Int)) (b := ((2000 : Nat) : Int)) (show _ = (.int .i64 ((B.length : Nat) : Int) : Value) from rfl) (show _ = (.int .i64 ((2000 : Nat) : Int) : Value) from rfl) (k_gtr _ .i64 (B.length) (2000)) ?_)    -- outright.go:33 t11 := (Op.binOp BinOp.gtr 3 (Operand.tmp 10) (Operand.const (Value.int IntKind.i64 2000)) 3)
          refine opsF_step rfl (YieldsK.move (show _ = (.bool (false) : Value) from (congrArg Value.bool (decide_eq_false (h1)))) ?_)    -- outright.go:33 t12 := (Op.move (Operand.tmp 11))
          refine opsF_on (d := 12) rfl rfl (show _ = (.bool (false) : Value) from rfl) (YieldsK.move (show _ = (vo : Value) from T1) ?_)    -- outright.go:33 t13 := (Op.move (Operand.tmp 1))
          refine opsF_on (d := 12) rfl rfl (show _ = (.bool (false) : Value) from rfl) (YieldsK.lenRB del12_ty22 (RB.of (hro.keep hE) (show _ = (vo : Value) from rfl)) ?_)    -- outright.go:33 t14 := (Op.call { callee := (Callee.builtin Builtin.len), args := #[(Operand.tmp 13)], argTypes := #[22] })
          refine opsF_on (d := 12) rfl rfl (show _ = (.bool (false) : Value) from rfl) (YieldsK.eqI (a := ((O.length : Nat) : Int)) (b := ((2000 : Nat) : Int)) (show _ = (.int .i64 ((O.length : Nat) : Int) : Value) from rfl) (show _ = (.int .i64 ((2000 : Nat) : Int) : Value) from rfl) (k_gtr _ .i64 (O.length) (2000)) ?_)    -- outright.go:33 t15 := (Op.binOp BinOp.gtr 3 (Operand.tmp 14) (Operand.const (Value.int IntKind.i64 2000)) 3)
          refine opsF_step rfl (YieldsK.pickF (show _ = (.bool (false) : Value) from rfl) (show _ = (.bool (false) : Value) from (congrArg Value.bool (decide_eq_false (h2)))) ?_)    -- outright.go:33 t16 := (Op.pick (Operand.tmp 12) (Operand.const (Value.bool true)) (Operand.tmp 15))
          refine opsF_step rfl (YieldsK.move (show _ = (.bool (false) : Value) from rfl) ?_)    -- outright.go:33 t17 := (Op.move (Operand.tmp 16))
          refine opsF_on (d := 17) rfl rfl (show _ = (.bool (false) : Value) from rfl) (YieldsK.move (show _ = (vt : Value) from T2) ?_)    -- outright.go:33 t18 := (Op.move (Operand.tmp 2))
          refine opsF_on (d := 17) rfl rfl (show _ = (.bool (false) : Value) from rfl) (YieldsK.lenRB del12_ty22 (RB.of (hrt.keep hE) (show _ = (vt : Value) from rfl)) ?_)    -- outright.go:33 t19 := (Op.call { callee := (Callee.builtin Builtin.len), args := #[(Operand.tmp 18)], argTypes := #[22] })
          refine opsF_on (d := 17) rfl rfl (show _ = (.bool (false) : Value) from rfl) (YieldsK.eqI (a := ((T.length : Nat) : Int)) (b := ((2000 : Nat) : Int)) (show _ = (.int .i64 ((T.length : Nat) : Int) : Value) from rfl) (show _ = (.int .i64 ((2000 : Nat) : Int) : Value) from rfl) (k_gtr _ .i64 (T.length) (2000)) ?_)    -- outright.go:33 t20 := (Op.binOp BinOp.gtr 3 (Operand.tmp 19) (Operand.const (Value.int IntKind.i64 2000)) 3)
          refine opsF_step rfl (YieldsK.pickF (show _ = (.bool (false) : Value) from rfl) (show _ = (.bool (false) : Value) from (congrArg Value.bool (decide_eq_false (h3)))) ?_)    -- outright.go:33 t21 := (Op.pick (Operand.tmp 17) (Operand.const (Value.bool true)) (Operand.tmp 20))
          refine opsF_step rfl (YieldsK.move (show _ = (.bool (false) : Value) from rfl) ?_)    -- outright.go:33 t22 := (Op.move (Operand.tmp 21))
          refine opsF_on (d := 22) rfl rfl (show _ = (.bool (false) : Value) from rfl) (YieldsK.move (show _ = (vb : Value) from T0) ?_)    -- outright.go:33 t23 := (Op.move (Operand.tmp 0))
          refine opsF_on (d := 22) rfl rfl (show _ = (.bool (false) : Value) from rfl) (YieldsK.lenRB del12_ty22 (RB.of (hrb.keep hE) (show _ = (vb : Value) from rfl)) ?_)    -- outright.go:33 t24 := (Op.call { callee := (Callee.builtin Builtin.len), args := #[(Operand.tmp 23)], argTypes := #[22] })
          refine opsF_on (d := 22) rfl rfl (show _ = (.bool (false) : Value) from rfl) (YieldsK.move (show _ = (vo : Value) from T1) ?_)    -- outright.go:33 t25 := (Op.move (Operand.tmp 1))
          refine opsF_on (d := 22) rfl rfl (show _ = (.bool (false) : Value) from rfl) (YieldsK.lenRB del12_ty22 (RB.of (hro.keep hE) (show _ = (vo : Value) from rfl)) ?_)    -- outright.go:33 t26 := (Op.call { callee := (Callee.builtin Builtin.len), args := #[(Operand.tmp 25)], argTypes := #[22] })
          refine opsF_on (d := 22) rfl rfl (show _ = (.bool (false) : Value) from rfl) (YieldsK.eqI (a := ((B.length : Nat) : Int)) (b := ((O.length : Nat) : Int)) (show _ = (.int .i64 ((B.length : Nat) : Int) : Value) from rfl) (show _ = (.int .i64 ((O.length : Nat) : Int) : Value) from rfl) (k_eql _ .i64 (B.length) (O.length)) ?_)    -- outright.go:33 t27 := (Op.binOp BinOp.eql 3 (Operand.tmp 24) (Operand.tmp 26) 3)
          refine opsF_step rfl (YieldsK.pickF (show _ = (.bool (false) : Value) from rfl) (show _ = (.bool (false) : Value) from (congrArg Value.bool (decide_eq_false (h4)))) ?_)    -- outright.go:33 t28 := (Op.pick (Operand.tmp 22) (Operand.const (Value.bool true)) (Operand.tmp 27))
          refine opsF_end (fun ρ => ρ 0 = (vb : Value) ∧ ρ 1 = (vo : Value) ∧ ρ 2 = (vt : Value) ∧ ρ 6 = (.bool (false) : Value) ∧ ρ 28 = (.bool (false) : Value) ∧ True) ⟨T0, T1, T2, T6, rfl, trivial⟩ fun ρ25 ⟨T0, T1, T2, T6, T28, _⟩ => ?_
          have hap := apply_other O B T (by omega) (by omega) h4
          refine thenF_normal (hK24 _ _ ?_)
          refine wpF_false (show _ = (.bool (false) : Value) from T28) ?_
          refine wpF_skip ?_
          refine thenF_normal (hK23 _ _ ?_)
          refine wpF_seq_k fun K26 hK26 => ?_
          refine wpF_text ?_
          refine opsF_step rfl (YieldsK.move (show _ = (vo : Value) from T1) ?_)    -- outright.go:36 t30 := (Op.move (Operand.tmp 1))
          refine opsF_step rfl (YieldsK.move (show _ = (vb : Value) from T0) ?_)    -- outright.go:36 t31 := (Op.move (Operand.tmp 0))
          refine opsF_step rfl (YieldsK.move (show _ = (vt : Value) from T2) ?_)    -- outright.go:36 t32 := (Op.move (Operand.tmp 2))
          refine opsF_step rfl (YieldsK.callA2 del12_pl8 (show _ = (vb : Value) from rfl) (show _ = (vt : Value) from rfl) ?_)    -- outright.go:36 t33 := (Op.call { callee := (Callee.value (Operand.func 8)), args := #[(Operand.tmp 31), (Operand.tmp 32)], argTypes 
          refine (make_any _ vb vt (B) (T) (hrb.keep hE) (hrt.keep hE) (by omega) (by omega)).mono ?_
          rintro e w31 ⟨v27, rfl, hx28, ho29⟩
          refine ⟨_, rfl, ?_⟩
          have hE : Ext w w31 := (hE.trans hx28)
          have hr30 := RB.ofOwn ho29
          refine opsF_step rfl (YieldsK.callA2 del12_pl12 (show _ = (vo : Value) from rfl) (show _ = (v27 : Value) from rfl) ?_)    -- outright.go:36 t34 := (Op.call { callee := (Callee.value (Operand.func 12)), args := #[(Operand.tmp 30), (Operand.tmp 33)], argTypes
          refine (apply_any _ vo v27 (O) (makeP (B) (T)) (hro.keep hE) hr30 (by omega) (by have := makeP_bound B T (by omega) (by omega); omega)).mono ?_
          rintro e w35 ⟨v32, rfl, hr34, hx33⟩
          refine ⟨_, rfl, ?_⟩
          have hE : Ext w w35 := (hE.trans hx33)
          have hr30 : RB w35 v27 (makeP (B) (T)) := (hr30.keep hx33)
          refine opsF_step rfl (YieldsK.move (show _ = (.tuple #[v32, .int .i64 (((applyP (O) (makeP (B) (T))).2 : Nat) : Int)] : Value) from rfl) ?_)    -- outright.go:36 t29 := (Op.move (Operand.tmp 34))
          refine opsF_step rfl (YieldsK.extract (vs := [v32, .int .i64 (((applyP (O) (makeP (B) (T))).2 : Nat) : Int)]) (show _ = (.tuple #[v32, .int .i64 (((applyP (O) (makeP (B) (T))).2 : Nat) : Int)] : Value) from rfl) (show _ = some (v32 : Value) from rfl) ?_)    -- outright.go:36 t35 := (Op.extract (Operand.tmp 29) 0)
          refine opsF_step rfl (YieldsK.extract (vs := [v32, .int .i64 (((applyP (O) (makeP (B) (T))).2 : Nat) : Int)]) (show _ = (.tuple #[v32, .int .i64 (((applyP (O) (makeP (B) (T))).2 : Nat) : Int)] : Value) from rfl) (show _ = some (.int .i64 (((applyP (O) (makeP (B) (T))).2 : Nat) : Int) : Value) from rfl) ?_)    -- outright.go:36 t36 := (Op.extract (Operand.tmp 29) 1)
          refine opsF_step rfl (YieldsK.assign (show _ = (v32 : Value) from rfl) ?_)    -- outright.go:36 t7 := (Op.assign (Operand.tmp 35))
          refine opsF_step rfl (YieldsK.assign (show _ = (.int .i64 (((applyP (O) (makeP (B) (T))).2 : Nat) : Int) : Value) from rfl) ?_)    -- outright.go:36 t8 := (Op.assign (Operand.tmp 36))
          refine opsF_end (fun ρ => ρ 0 = (vb : Value) ∧ ρ 1 = (vo : Value) ∧ ρ 2 = (vt : Value) ∧ ρ 6 = (.bool (false) : Value) ∧ ρ 7 = (v32 : Value) ∧ ρ 8 = (.int .i64 (((applyP (O) (makeP (B) (T))).2 : Nat) : Int) : Value) ∧ ρ 28 = (.bool (false) : Value) ∧ True) ⟨T0, T1, T2, T6, rfl, rfl, T28, trivial⟩ fun ρ36 ⟨T0, T1, T2, T6, T7, T8, T28, _⟩ => ?_
          refine thenF_normal (hK26 _ _ ?_)
          refine wpF_seq_k fun K37 hK37 => ?_
          refine wpF_text ?_
          refine opsF_step rfl (YieldsK.move (show _ = (.int .i64 (((applyP (O) (makeP (B) (T))).2 : Nat) : Int) : Value) from T8) ?_)    -- outright.go:37 t37 := (Op.move (Operand.tmp 8))
          refine opsF_step rfl (YieldsK.eqI (a := (((applyP (O) (makeP (B) (T))).2 : Nat) : Int)) (b := ((6 : Nat) : Int)) (show _ = (.int .i64 (((applyP (O) (makeP (B) (T))).2 : Nat) : Int) : Value) from rfl) (show _ = (.int .i64 ((6 : Nat) : Int) : Value) from rfl) (k_eql _ .i64 ((applyP (O) (makeP (B) (T))).2) (6)) ?_)    -- outright.go:37 t38 := (Op.binOp BinOp.eql 28 (Operand.tmp 37) (Operand.const (Value.int IntKind.i64 6)) 28)
          refine opsF_step rfl (YieldsK.move (show _ = (.bool (true) : Value) from (congrArg Value.bool (decide_eq_true (by rw [hap])))) ?_)    -- outright.go:37 t39 := (Op.move (Operand.tmp 38))
          refine opsF_on (d := 39) rfl rfl (show _ = (.bool (true) : Value) from rfl) (YieldsK.move (show _ = (v32 : Value) from T7) ?_)    -- outright.go:37 t40 := (Op.move (Operand.tmp 7))
          refine opsF_on (d := 39) rfl rfl (show _ = (.bool (true) : Value) from rfl) (YieldsK.lenRB del12_ty22 (RB.of hr34 (show _ = (v32 : Value) from rfl)) ?_)    -- outright.go:37 t41 := (Op.call { callee := (Callee.builtin Builtin.len), args := #[(Operand.tmp 40)], argTypes := #[22] })
          refine opsF_on (d := 39) rfl rfl (show _ = (.bool (true) : Value) from rfl) (YieldsK.eqI (a := ((((applyP (O) (makeP (B) (T))).1 : List UInt8).length : Nat) : Int)) (b := ((0 : Nat) : Int)) (show _ = (.int .i64 ((((applyP (O) (makeP (B) (T))).1 : List UInt8).length : Nat) : Int) : Value) from rfl) (show _ = (.int .i64 ((0 : Nat) : Int) : Value) from rfl) (k_eql _ .i64 (((applyP (O) (makeP (B) (T))).1 : List UInt8).length) (0)) ?_)    -- outright.go:37 t42 := (Op.binOp BinOp.eql 3 (Operand.tmp 41) (Operand.const (Value.int IntKind.i64 0)) 3)
          refine opsF_step rfl (YieldsK.pickT (show _ = (.bool (true) : Value) from rfl) (show _ = (.bool (true) : Value) from (congrArg Value.bool (decide_eq_true (by rw [hap]; rfl)))) ?_)    -- outright.go:37 t43 := (Op.pick (Operand.tmp 39) (Operand.tmp 42) (Operand.const (Value.bool false)))
          refine opsF_step rfl (YieldsK.move (show _ = (.bool (true) : Value) from rfl) ?_)    -- outright.go:37 t44 := (Op.move (Operand.tmp 43))
          refine opsF_on (d := 44) rfl rfl (show _ = (.bool (true) : Value) from rfl) (YieldsK.callA0 del12_pl11  ?_)    -- outright.go:37 t45 := (Op.call { callee := (Callee.value (Operand.func 11)), args := #[], argTypes := #[] })
          refine (awake10 _).mono ?_
          rintro e w39 ⟨rfl, hx38⟩
          refine ⟨_, rfl, ?_⟩
          have hE : Ext w w39 := (hE.trans hx38)
          have hr30 : RB w39 v27 (makeP (B) (T)) := (hr30.keep hx38)
          have hr34 : RB w39 v32 ((applyP (O) (makeP (B) (T))).1) := (hr34.keep hx38)
          refine opsF_step rfl (YieldsK.pickT (show _ = (.bool (true) : Value) from rfl) (show _ = (.bool (true) : Value) from rfl) ?_)    -- outright.go:37 t46 := (Op.pick (Operand.tmp 44) (Operand.tmp 45) (Operand.const (Value.bool false)))
          refine opsF_step rfl (YieldsK.assign (show _ = (.bool (true) : Value) from rfl) ?_)    -- outright.go:37 t6 := (Op.assign (Operand.tmp 46))
          refine opsF_end (fun ρ => ρ 0 = (vb : Value) ∧ ρ 1 = (vo : Value) ∧ ρ 2 = (vt : Value) ∧ ρ 6 = (.bool (true) : Value) ∧ ρ 7 = (v32 : Value) ∧ ρ 8 = (.int .i64 (((applyP (O) (makeP (B) (T))).2 : Nat) : Int) : Value) ∧ ρ 28 = (.bool (false) : Value) ∧ True) ⟨T0, T1, T2, rfl, T7, T8, T28, trivial⟩ fun ρ40 ⟨T0, T1, T2, T6, T7, T8, T28, _⟩ => ?_
          refine thenF_normal (hK37 _ _ ?_)
          refine wpF_ret ?_
          refine postF_ret (fn := Try.f5) _ rfl [.bool (true)] (.bool (true)) rfl ⟨T6, trivial⟩ ?_
          exact ⟨rfl, hE⟩
end Go.Proofs.Ytfjmbcjcgdfkfaa
