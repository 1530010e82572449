/- The walk of the law LebPuts. -/
import Derived.Test.YtcindgknimallaaLebAwake
namespace Go.Proofs.Ytcindgknimallaa
open Go.RowKit
theorem plainRefNumber : Plain Try.prog 11 := fun _ _ => by kernel_rfl
theorem plainRefText : Plain Try.prog 12 := fun _ _ => by kernel_rfl
theorem plainAwake02 : Plain Try.prog 9 := fun _ _ => by kernel_rfl

set_option maxRecDepth 100000 in
set_option maxHeartbeats 2000000 in
theorem lebPuts_walk (w : World) (v : Value) (b : List UInt8) (hb : RB w v b) (n : Int) (hn : n ≤ 9223372036854775807) (s : ByteArray) (hl : b.length + s.size + 64 ≤ 140737488355328) :
    Calls Try.prog 3 #[v, .int .i64 n, .string s] w fun e w' => e = .returned (.bool true) ∧ Below w.heap.size w w' := by
  have HB0 := Lib.hid hb
  obtain ⟨ao, cap, rfl, h2, h3⟩ := hb.len
  clear hb
  by_cases h0 : n < 0
  · have hd : decide (n < 0) = true := by simp [h0]
    go_enter Try.func3, Try.ntmps3
    go_wp2_with fail
    refine (copy_any w _ b HB0.out (by omega)).mono ?_
    rintro e w1 ⟨v1, rfl, h1⟩
    go_wp2_with fail
    refine (put_neg w1 v1 n h0).mono ?_
    rintro e w2 ⟨rfl, rfl⟩
    go_wp2_with (go_at_call 9; refine (awake02 _).mono ?_; rintro e w2 ⟨rfl, h2⟩)
    go_ret
    exact ⟨rfl, h1.ext.trans (by assumption)⟩
  obtain ⟨n, rfl⟩ := Int.eq_ofNat_of_zero_le (by omega : 0 ≤ n)
  have hd : decide ((n : Int) < 0) = false := by simp
  clear h0
  go_enter Try.func3, Try.ntmps3
  go_wp2_with fail
  refine (copy_any w _ b HB0.out (by omega)).mono ?_
  rintro e w1 ⟨v1, rfl, h1⟩
  go_wp2_with fail
  refine (put_any w1 v1 b h1.rb (by omega) n (by omega)).mono ?_
  rintro e w2 ⟨v7, rfl, h2⟩
  go_wp2_with fail
  refine (copy_any w2 _ b (HB0.out.keep (h1.ext.trans h2.ext)) (by omega)).mono ?_
  rintro e w3 ⟨v3, rfl, h3⟩
  go_wp2_with fail
  refine (putText_any w3 v3 b h3.rb s (by omega)).mono ?_
  rintro e w4 ⟨v9, rfl, h4⟩
  have H7 := Lib.hid (h2.rb.keep (h3.ext.trans h4.ext))
  have H9 := Lib.hid h4.rb
  have HX := Lib.hid (((h1.ext.trans h2.ext).trans h3.ext).trans h4.ext)
  have HB := Lib.hid (HB0.out.keep HX.out)
  have hu := uvarint_len63 n (by omega)
  have hu2 := uvarint_len63 s.size (by omega)
  clear h1 h2 h3 h4 hd HB0
  go_wp2_with fail
  refine wp_region_ext [Is (.int .i64 0), Is (.bool true), Is (.bool true), Is (v7), Is (.string ⟨(b ++ Lib.uvarint n).toArray⟩), Is (.slice ao b.length cap), Is (.string ⟨b.toArray⟩), Is (.int .i64 (n : Int)), (fun x w' => RB w' x (Lib.uvarint n)), Is (.string ⟨(Lib.uvarint n).toArray⟩), Is (.string ⟨(b ++ Lib.uvarint n).toArray⟩), Is (.bool true), Is (.bool true), Is (.bool true), Is (v9), Is (.string ⟨(b ++ Lib.uvarint s.size ++ s.data.toList).toArray⟩), Is (.slice ao b.length cap), Is (.string ⟨b.toArray⟩), Is (.string s), (fun x w' => RB w' x (Lib.uvarint s.size ++ s.data.toList)), Is (.string ⟨(Lib.uvarint s.size ++ s.data.toList).toArray⟩), Is (.string ⟨(b ++ Lib.uvarint s.size ++ s.data.toList).toArray⟩), Is (.bool true), Is (.bool true), Is (.bool true), Is (.bool true), Is (.bool true), Is (.bool true)]
    (by kernel_rfl) _ _ (by kernel_rfl) [33, 34, 35, 36, 37, 38, 39, 40, 41, 42, 43, 44, 45, 46, 47, 48, 49, 50, 51, 52, 53, 54, 55, 56, 57, 58, 59, 6] (by kernel_rfl) ⟨Stab.is _, Stab.is _, Stab.is _, Stab.is _, Stab.is _, Stab.is _, Stab.is _, Stab.is _, Stab.rb _, Stab.is _, Stab.is _, Stab.is _, Stab.is _, Stab.is _, Stab.is _, Stab.is _, Stab.is _, Stab.is _, Stab.is _, Stab.rb _, Stab.is _, Stab.is _, Stab.is _, Stab.is _, Stab.is _, Stab.is _, Stab.is _, Stab.is _, trivial⟩ ?hs ?hQ
  case hs =>
    refine ⟨?_, ?_, ?_, ?_, ?_, ?_, ?_, ?_, ?_, ?_, ?_, ?_, ?_, ?_, ?_, ?_, ?_, ?_, ?_, ?_, ?_, ?_, ?_, ?_, ?_, ?_, ?_, ?_, trivial⟩
    · refine stepNone rfl fun ρ w1 hC h => ?_    -- 33 := Op.move t8
      have h8 : ρ 8 = .int .i64 0 := h 8 (by decide)
      exact ⟨Ext.refl _, h8⟩
    · refine stepNone rfl fun ρ w1 hC h => ?_    -- 34 := Op.binOp BinOp.eql 23 t33 (const (0:i64)) 23
      have h33 : ρ 33 = .int .i64 0 := h 33 (by decide)
      refine YieldsK.value (v := .bool true) (w' := w1) ?_ ⟨Ext.refl _, rfl⟩
      clear h
      simp [execOp, evalR, h33, go_sem]
    · refine stepNone rfl fun ρ w1 hC h => ?_    -- 35 := Op.move t34
      have h34 : ρ 34 = .bool true := h 34 (by decide)
      exact ⟨Ext.refl _, h34⟩
    · refine stepOn 2 true 35 rfl rfl (fun _ _ h => h) fun ρ w1 hC h => ?_    -- 36 := Op.move t7
      have h7 : ρ 7 = v7 := h 7 (by decide)
      exact ⟨Ext.refl _, h7⟩
    · refine stepOn 2 true 35 rfl rfl (fun _ _ h => h) fun ρ w1 hC h => ?_    -- 37 := Op.convert 22 9 t36
      have h36 : ρ 36 = v7 := h 36 (by decide)
      refine YieldsK.conv u22 u5 uStr (l := b ++ Lib.uvarint n) ?_ ⟨Ext.refl _, rfl⟩
      rw [h36]
      exact H7.out.keep hC
    · refine stepOn 2 true 35 rfl rfl (fun _ _ h => h) fun ρ w1 hC h => ?_    -- 38 := Op.move t0
      have h0 : ρ 0 = .slice ao b.length cap := h 0 (by decide)
      exact ⟨Ext.refl _, h0⟩
    · refine stepOn 2 true 35 rfl rfl (fun _ _ h => h) fun ρ w1 hC h => ?_    -- 39 := Op.convert 22 9 t38
      have h38 : ρ 38 = .slice ao b.length cap := h 38 (by decide)
      refine YieldsK.conv u22 u5 uStr (l := b) ?_ ⟨Ext.refl _, rfl⟩
      rw [h38]
      exact HB.out.keep hC
    · refine stepOn 2 true 35 rfl rfl (fun _ _ h => h) fun ρ w1 hC h => ?_    -- 40 := Op.move t1
      have h1 : ρ 1 = .int .i64 (n : Int) := h 1 (by decide)
      exact ⟨Ext.refl _, h1⟩
    · refine stepOn 2 true 35 rfl rfl (fun _ _ h => h) fun ρ w1 hC h => ?_    -- 41 := Op.call { value (Operand.func 11), args := #[t40], argTypes := #[3] }
      have h40 : ρ 40 = .int .i64 (n : Int) := h 40 (by decide)
      refine YieldsK.call plainRefNumber ?_
      show Calls _ _ #[ρ 40] _ _
      rw [h40]
      refine (refNumber_any w1 n (by omega)).mono ?_
      rintro e w2 ⟨v2, rfl, h2⟩
      exact ⟨v2, rfl, h2.ext, h2.rb⟩
    · refine stepOn 2 true 35 rfl rfl (fun _ _ h => h) fun ρ w1 hC h => ?_    -- 42 := Op.convert 22 9 t41
      have h41 : RB w1 (ρ 41) (Lib.uvarint n) := h 41 (by decide)
      exact YieldsK.conv u22 u5 uStr h41 ⟨Ext.refl _, rfl⟩
    · refine stepOn 2 true 35 rfl rfl (fun _ _ h => h) fun ρ w1 hC h => ?_    -- 43 := Op.binOp BinOp.add 9 t39 t42 9
      have h39 : ρ 39 = .string ⟨b.toArray⟩ := h 39 (by decide)
      have h42 : ρ 42 = .string ⟨(Lib.uvarint n).toArray⟩ := h 42 (by decide)
      refine YieldsK.concat h39 h42 (by omega) ⟨Ext.refl _, rfl⟩
    · refine stepOn 2 true 35 rfl rfl (fun _ _ h => h) fun ρ w1 hC h => ?_    -- 44 := Op.binOp BinOp.eql 9 t37 t43 9
      have h37 : ρ 37 = .string ⟨(b ++ Lib.uvarint n).toArray⟩ := h 37 (by decide)
      have h43 : ρ 43 = .string ⟨(b ++ Lib.uvarint n).toArray⟩ := h 43 (by decide)
      refine YieldsK.value (v := .bool true) (w' := w1) ?_ ⟨Ext.refl _, rfl⟩
      clear h
      simp [execOp, evalR, h37, h43, go_sem]
    · refine stepNone rfl fun ρ w1 hC h => ?_    -- 45 := Op.pick t35 t44 (const (Value.bool false))
      have h35 : ρ 35 = .bool true := h 35 (by decide)
      have h44 : ρ 44 = .bool true := h 44 (by decide)
      refine YieldsK.value (v := .bool true) (w' := w1) ?_ ⟨Ext.refl _, rfl⟩
      clear h
      simp [execOp, evalR, h35, h44, go_sem]
    · refine stepNone rfl fun ρ w1 hC h => ?_    -- 46 := Op.move t45
      have h45 : ρ 45 = .bool true := h 45 (by decide)
      exact ⟨Ext.refl _, h45⟩
    · refine stepOn 13 true 46 rfl rfl (fun _ _ h => h) fun ρ w1 hC h => ?_    -- 47 := Op.move t9
      have h9 : ρ 9 = v9 := h 9 (by decide)
      exact ⟨Ext.refl _, h9⟩
    · refine stepOn 13 true 46 rfl rfl (fun _ _ h => h) fun ρ w1 hC h => ?_    -- 48 := Op.convert 22 9 t47
      have h47 : ρ 47 = v9 := h 47 (by decide)
      refine YieldsK.conv u22 u5 uStr (l := b ++ Lib.uvarint s.size ++ s.data.toList) ?_ ⟨Ext.refl _, rfl⟩
      rw [h47]
      exact H9.out.keep hC
    · refine stepOn 13 true 46 rfl rfl (fun _ _ h => h) fun ρ w1 hC h => ?_    -- 49 := Op.move t0
      have h0 : ρ 0 = .slice ao b.length cap := h 0 (by decide)
      exact ⟨Ext.refl _, h0⟩
    · refine stepOn 13 true 46 rfl rfl (fun _ _ h => h) fun ρ w1 hC h => ?_    -- 50 := Op.convert 22 9 t49
      have h49 : ρ 49 = .slice ao b.length cap := h 49 (by decide)
      refine YieldsK.conv u22 u5 uStr (l := b) ?_ ⟨Ext.refl _, rfl⟩
      rw [h49]
      exact HB.out.keep hC
    · refine stepOn 13 true 46 rfl rfl (fun _ _ h => h) fun ρ w1 hC h => ?_    -- 51 := Op.move t2
      have h2 : ρ 2 = .string s := h 2 (by decide)
      exact ⟨Ext.refl _, h2⟩
    · refine stepOn 13 true 46 rfl rfl (fun _ _ h => h) fun ρ w1 hC h => ?_    -- 52 := Op.call { value (Operand.func 12), args := #[t51], argTypes := #[9] }
      have h51 : ρ 51 = .string s := h 51 (by decide)
      refine YieldsK.call plainRefText ?_
      show Calls _ _ #[ρ 51] _ _
      rw [h51]
      refine (refText_any w1 s (by omega)).mono ?_
      rintro e w2 ⟨v2, rfl, h2⟩
      exact ⟨v2, rfl, h2.ext, h2.rb⟩
    · refine stepOn 13 true 46 rfl rfl (fun _ _ h => h) fun ρ w1 hC h => ?_    -- 53 := Op.convert 22 9 t52
      have h52 : RB w1 (ρ 52) (Lib.uvarint s.size ++ s.data.toList) := h 52 (by decide)
      exact YieldsK.conv u22 u5 uStr h52 ⟨Ext.refl _, rfl⟩
    · refine stepOn 13 true 46 rfl rfl (fun _ _ h => h) fun ρ w1 hC h => ?_    -- 54 := Op.binOp BinOp.add 9 t50 t53 9
      have h50 : ρ 50 = .string ⟨b.toArray⟩ := h 50 (by decide)
      have h53 : ρ 53 = .string ⟨(Lib.uvarint s.size ++ s.data.toList).toArray⟩ := h 53 (by decide)
      refine YieldsK.concat h50 h53 (by simp; omega) ⟨Ext.refl _, by rw [← List.append_assoc]; rfl⟩
    · refine stepOn 13 true 46 rfl rfl (fun _ _ h => h) fun ρ w1 hC h => ?_    -- 55 := Op.binOp BinOp.eql 9 t48 t54 9
      have h48 : ρ 48 = .string ⟨(b ++ Lib.uvarint s.size ++ s.data.toList).toArray⟩ := h 48 (by decide)
      have h54 : ρ 54 = .string ⟨(b ++ Lib.uvarint s.size ++ s.data.toList).toArray⟩ := h 54 (by decide)
      refine YieldsK.value (v := .bool true) (w' := w1) ?_ ⟨Ext.refl _, rfl⟩
      clear h
      simp [execOp, evalR, h48, h54, go_sem]
    · refine stepNone rfl fun ρ w1 hC h => ?_    -- 56 := Op.pick t46 t55 (const (Value.bool false))
      have h46 : ρ 46 = .bool true := h 46 (by decide)
      have h55 : ρ 55 = .bool true := h 55 (by decide)
      refine YieldsK.value (v := .bool true) (w' := w1) ?_ ⟨Ext.refl _, rfl⟩
      clear h
      simp [execOp, evalR, h46, h55, go_sem]
    · refine stepNone rfl fun ρ w1 hC h => ?_    -- 57 := Op.move t56
      have h56 : ρ 56 = .bool true := h 56 (by decide)
      exact ⟨Ext.refl _, h56⟩
    · refine stepOn 24 true 57 rfl rfl (fun _ _ h => h) fun ρ w1 hC h => ?_    -- 58 := Op.call { value (Operand.func 9), args := #[], argTypes := #[] }
      refine YieldsK.call plainAwake02 ?_
      show Calls _ _ #[] _ _
      refine (awake02 w1).mono ?_
      rintro e w2 ⟨rfl, h2⟩
      exact ⟨_, rfl, h2, rfl⟩
    · refine stepNone rfl fun ρ w1 hC h => ?_    -- 59 := Op.pick t57 t58 (const (Value.bool false))
      have h57 : ρ 57 = .bool true := h 57 (by decide)
      have h58 : ρ 58 = .bool true := h 58 (by decide)
      refine YieldsK.value (v := .bool true) (w' := w1) ?_ ⟨Ext.refl _, rfl⟩
      clear h
      simp [execOp, evalR, h57, h58, go_sem]
    · refine stepNone rfl fun ρ w1 hC h => ?_    -- 6 := Op.assign t59
      have h59 : ρ 59 = .bool true := h 59 (by decide)
      exact ⟨Ext.refl _, h59⟩
  case hQ =>
    intro u wz hC hE
    obtain ⟨-, -, -, -, -, -, -, -, -, -, -, -, -, -, -, -, -, -, -, -, -, -, -, -, -, -, -, k6, -⟩ := hE
    have u6 : u 6 = .bool true := k6
    clear k6
    simp only [wrote, List.foldl_cons, List.foldl_nil, List.setIfInBounds_toArray, List.set_cons_zero, List.set_cons_succ, u6]
    go_wp2_with fail
    go_ret
    exact ⟨rfl, HX.out.trans hC⟩
end Go.Proofs.Ytcindgknimallaa
