/- math/bits.RotateLeft32 and sha's turn. -/
import Derived.Test.YtcindgknimallaaDoorRows
import Derived.Lib.Walk
import Derived.Test.YtcindgknimallaaDoorU32
import Derived.Test.YtcindgknimallaaDoorShaPlain
namespace Go.Proofs.YtcindgknimallaaDoor
open Go.RowKit
theorem nu_sub (t : TypeId) (a b : Nat) (h : a < 9223372036854775808) (hb : b ≤ a) : Go.binOp .sub t (.int .u64 (a : Int)) (.int .u64 (b : Int)) = pure (.int .u64 ((a - b : Nat) : Int)) := by
  unfold Go.binOp
  simp only [ne_eq, not_true_eq_false, if_false, Op.intArith]
  rw [← Int.natCast_sub hb]
  have : IntKind.u64.wrap ((a - b : Nat) : Int) = ((a - b : Nat) : Int) := by
    simp only [IntKind.wrap, IntKind.bits, IntKind.signed]
    simp
    omega
  rw [this]
set_option maxRecDepth 100000 in
theorem rotl_any (w : World) (x : UInt32) (m : Int) (k : Nat) (h0 : 0 < k) (h1 : k < 32) (hm : ∀ t, Go.binOp .and t (.int .u64 (IntKind.u64.wrap m)) (.int .u64 31) = pure (.int .u64 (k : Int))) :
    Calls Tryd.prog 22 #[U x, .int .i64 m] w fun e w' => e = .returned (U (x <<< UInt32.ofNat k ||| x >>> UInt32.ofNat (32 - k))) ∧ Ext w w' := by
  go_enter Tryd.func22, Tryd.ntmps22
  apply wp_seq_k
  intro K0 hK0
  refine wp_region_ext_text [Is (U (0))]
     _ _ (by kernel_rfl) [4] (by kernel_rfl) ⟨Stab.is _, trivial⟩ ?hs0 ?hQ0
  case hs0 =>
    refine ⟨?_, trivial⟩
    · refine stepNone rfl fun ρ w1 hC h => ?_    -- 4 := Op.assign (const (0:u32))
      exact ⟨Ext.refl _, rfl⟩
  intro u_0 w2 hC0 hE
  obtain ⟨k4, -⟩ := hE
  have u4 : u_0 4 = U (0) := k4
  clear k4
  simp only [wrote, List.foldl_cons, List.foldl_nil, List.setIfInBounds_toArray, List.set_cons_zero, List.set_cons_succ, u4]
  refine hK0 _ _ ?_
  clear hK0 K0
  apply wp_seq_k
  intro K1 hK1
  refine wp_region_ext_text [Is (.int .i64 m), Is (.int .u64 (IntKind.u64.wrap m)), Is (.int .u64 (k : Int)), Is (.int .u64 (k : Int))]
     _ _ (by kernel_rfl) [6, 7, 8, 5] (by kernel_rfl) ⟨Stab.is _, Stab.is _, Stab.is _, Stab.is _, trivial⟩ ?hs1 ?hQ1
  case hs1 =>
    refine ⟨?_, ?_, ?_, ?_, trivial⟩
    · refine stepNone rfl fun ρ w1 hC h => ?_    -- 6 := Op.move t1
      have h1 : ρ 1 = .int .i64 m := h 1 (by decide)
      exact ⟨Ext.refl _, h1⟩
    · refine stepNone rfl fun ρ w1 hC h => ?_    -- 7 := Op.convert 3 43 t6
      have h6 : ρ 6 = .int .i64 m := h 6 (by decide)
      refine YieldsK.value (v := .int .u64 (IntKind.u64.wrap m)) (w' := w1) ?_ ⟨Ext.refl _, rfl⟩
      clear h
      simp [execOp, evalR, h6, go_sem]
    · refine stepNone rfl fun ρ w1 hC h => ?_    -- 8 := Op.binOp BinOp.and 43 t7 (const (31:u64)) 43
      have h7 : ρ 7 = .int .u64 (IntKind.u64.wrap m) := h 7 (by decide)
      exact YieldsK.bin h7 rfl rfl (hm _) ⟨Ext.refl _, rfl⟩
    · refine stepNone rfl fun ρ w1 hC h => ?_    -- 5 := Op.assign t8
      have h8 : ρ 8 = .int .u64 (k : Int) := h 8 (by decide)
      exact ⟨Ext.refl _, h8⟩
  intro u_1 w3 hC1 hE
  obtain ⟨-, -, -, k5, -⟩ := hE
  have u5 : u_1 5 = .int .u64 (k : Int) := k5
  clear k5
  simp only [wrote, List.foldl_cons, List.foldl_nil, List.setIfInBounds_toArray, List.set_cons_zero, List.set_cons_succ, u5]
  refine hK1 _ _ ?_
  clear hK1 K1
  apply wp_seq_k
  intro K2 hK2
  refine wp_region_ext_text [Is (U (x)), Is (.int .u64 (k : Int)), Is (U (x <<< UInt32.ofNat k)), Is (U (x)), Is (.int .u64 (k : Int)), Is (.int .u64 ((32 - k : Nat) : Int)), Is (U (x >>> UInt32.ofNat (32 - k))), Is (U ((x <<< UInt32.ofNat k) ||| (x >>> UInt32.ofNat (32 - k)))), Is (U ((x <<< UInt32.ofNat k) ||| (x >>> UInt32.ofNat (32 - k))))]
     _ _ (by kernel_rfl) [9, 10, 11, 12, 13, 14, 15, 16, 4] (by kernel_rfl) ⟨Stab.is _, Stab.is _, Stab.is _, Stab.is _, Stab.is _, Stab.is _, Stab.is _, Stab.is _, Stab.is _, trivial⟩ ?hs2 ?hQ2
  case hs2 =>
    refine ⟨?_, ?_, ?_, ?_, ?_, ?_, ?_, ?_, ?_, trivial⟩
    · refine stepNone rfl fun ρ w1 hC h => ?_    -- 9 := Op.move t0
      have h0 : ρ 0 = U (x) := h 0 (by decide)
      exact ⟨Ext.refl _, h0⟩
    · refine stepNone rfl fun ρ w1 hC h => ?_    -- 10 := Op.move t5
      have h5 : ρ 5 = .int .u64 (k : Int) := h 5 (by decide)
      exact ⟨Ext.refl _, h5⟩
    · refine stepNone rfl fun ρ w1 hC h => ?_    -- 11 := Op.binOp BinOp.shl 40 t9 t10 43
      have h9 : ρ 9 = U (x) := h 9 (by decide)
      have h10 : ρ 10 = .int .u64 (k : Int) := h 10 (by decide)
      exact YieldsK.bin h9 h10 rfl (u_shl _ _ _ k h1) ⟨Ext.refl _, rfl⟩
    · refine stepNone rfl fun ρ w1 hC h => ?_    -- 12 := Op.move t0
      have h0 : ρ 0 = U (x) := h 0 (by decide)
      exact ⟨Ext.refl _, h0⟩
    · refine stepNone rfl fun ρ w1 hC h => ?_    -- 13 := Op.move t5
      have h5 : ρ 5 = .int .u64 (k : Int) := h 5 (by decide)
      exact ⟨Ext.refl _, h5⟩
    · refine stepNone rfl fun ρ w1 hC h => ?_    -- 14 := Op.binOp BinOp.sub 43 (const (32:u64)) t13 43
      have h13 : ρ 13 = .int .u64 (k : Int) := h 13 (by decide)
      exact YieldsK.bin rfl h13 rfl (nu_sub _ 32 k (by omega) (by omega)) ⟨Ext.refl _, rfl⟩
    · refine stepNone rfl fun ρ w1 hC h => ?_    -- 15 := Op.binOp BinOp.shr 40 t12 t14 43
      have h12 : ρ 12 = U (x) := h 12 (by decide)
      have h14 : ρ 14 = .int .u64 ((32 - k : Nat) : Int) := h 14 (by decide)
      exact YieldsK.bin h12 h14 rfl (u_shr _ _ _ (32 - k) (by omega)) ⟨Ext.refl _, rfl⟩
    · refine stepNone rfl fun ρ w1 hC h => ?_    -- 16 := Op.binOp BinOp.or 40 t11 t15 40
      have h11 : ρ 11 = U (x <<< UInt32.ofNat k) := h 11 (by decide)
      have h15 : ρ 15 = U (x >>> UInt32.ofNat (32 - k)) := h 15 (by decide)
      exact YieldsK.bin h11 h15 rfl (u_or _ _ _) ⟨Ext.refl _, rfl⟩
    · refine stepNone rfl fun ρ w1 hC h => ?_    -- 4 := Op.assign t16
      have h16 : ρ 16 = U ((x <<< UInt32.ofNat k) ||| (x >>> UInt32.ofNat (32 - k))) := h 16 (by decide)
      exact ⟨Ext.refl _, h16⟩
  intro u_2 w4 hC2 hE
  obtain ⟨-, -, -, -, -, -, -, -, k4, -⟩ := hE
  have u4 : u_2 4 = U ((x <<< UInt32.ofNat k) ||| (x >>> UInt32.ofNat (32 - k))) := k4
  clear k4
  simp only [wrote, List.foldl_cons, List.foldl_nil, List.setIfInBounds_toArray, List.set_cons_zero, List.set_cons_succ, u4]
  refine hK2 _ _ ?_
  clear hK2 K2
  go_wp2_with fail
  go_ret
  exact ⟨rfl, (hC0.trans hC1).trans hC2⟩
theorem plainRotl : Plain Tryd.prog 22 := fun _ _ => by kernel_rfl
def rotSet : List Nat := [2, 6, 7, 11, 13, 17, 18, 19, 22, 25]
theorem rot_and (n : Nat) (hn : n ∈ rotSet) (t : TypeId) : Go.binOp .and t (.int .u64 (IntKind.u64.wrap (-(n : Int)))) (.int .u64 31) = pure (.int .u64 ((32 - n : Nat) : Int)) := by
  unfold rotSet at hn
  simp only [List.mem_cons, List.not_mem_nil, or_false] at hn
  rcases hn with rfl | rfl | rfl | rfl | rfl | rfl | rfl | rfl | rfl | rfl <;> rfl
theorem rot_lt {n : Nat} (hn : n ∈ rotSet) : 0 < n ∧ n < 32 := by
  unfold rotSet at hn
  simp only [List.mem_cons, List.not_mem_nil, or_false] at hn
  omega
set_option maxRecDepth 100000 in
theorem turn_any (w : World) (x : UInt32) (n : Nat) (hn : n ∈ rotSet) : Calls Tryd.prog 21 #[U x, NI n] w fun e w' => e = .returned (U (Sha.rotr x n)) ∧ Ext w w' := by
  obtain ⟨hn0, hn1⟩ := rot_lt hn
  go_enter Tryd.func21, Tryd.ntmps21
  apply wp_seq_k
  intro K0 hK0
  refine wp_region_ext_text [Is (U (0))]
     _ _ (by kernel_rfl) [4] (by kernel_rfl) ⟨Stab.is _, trivial⟩ ?hs0 ?hQ0
  case hs0 =>
    refine ⟨?_, trivial⟩
    · refine stepNone rfl fun ρ w1 hC h => ?_    -- 4 := Op.assign (const (0:u32))
      exact ⟨Ext.refl _, rfl⟩
  intro u_0 w2 hC0 hE
  obtain ⟨k4, -⟩ := hE
  have u4 : u_0 4 = U (0) := k4
  clear k4
  simp only [wrote, List.foldl_cons, List.foldl_nil, List.setIfInBounds_toArray, List.set_cons_zero, List.set_cons_succ, u4]
  refine hK0 _ _ ?_
  clear hK0 K0
  apply wp_seq_k
  intro K1 hK1
  refine wp_region_ext_text [Is (U (x)), Is (NI (n)), Is (.int .i64 (-(n : Int))), Is (U (Sha.rotr x n)), Is (U (Sha.rotr x n))]
     _ _ (by kernel_rfl) [5, 6, 7, 8, 4] (by kernel_rfl) ⟨Stab.is _, Stab.is _, Stab.is _, Stab.is _, Stab.is _, trivial⟩ ?hs1 ?hQ1
  case hs1 =>
    refine ⟨?_, ?_, ?_, ?_, ?_, trivial⟩
    · refine stepNone rfl fun ρ w1 hC h => ?_    -- 5 := Op.move t0
      have h0 : ρ 0 = U (x) := h 0 (by decide)
      exact ⟨Ext.refl _, h0⟩
    · refine stepNone rfl fun ρ w1 hC h => ?_    -- 6 := Op.move t1
      have h1 : ρ 1 = NI (n) := h 1 (by decide)
      exact ⟨Ext.refl _, h1⟩
    · refine stepNone rfl fun ρ w1 hC h => ?_    -- 7 := Op.unOp UnOp.neg 3 t6
      have h6 : ρ 6 = NI (n) := h 6 (by decide)
      refine YieldsK.value (v := .int .i64 (-(n : Int))) (w' := w1) ?_ ⟨Ext.refl _, rfl⟩
      clear h
      unfold execOp
      simp only [evalR, h6]
      have hw : IntKind.i64.wrap (-(n : Int)) = -(n : Int) := by
        simp only [IntKind.wrap, IntKind.bits, IntKind.signed]
        simp
        split <;> omega
      simp [Op.unary, Op.intArith, hw]
    · refine stepNone rfl fun ρ w1 hC h => ?_    -- 8 := Op.call { value (Operand.func 22), args := #[t5, t7], argTypes := #[40, 3] }
      have h5 : ρ 5 = U (x) := h 5 (by decide)
      have h7 : ρ 7 = .int .i64 (-(n : Int)) := h 7 (by decide)
      refine YieldsK.call plainRotl ?_
      show Calls _ _ #[ρ 5, ρ 7] _ _
      rw [h5, h7]
      refine (rotl_any w1 x _ (32 - n) (by omega) (by omega) (rot_and n hn)).mono ?_
      rintro e w2 ⟨rfl, hx⟩
      refine ⟨_, rfl, hx, ?_⟩
      rw [show 32 - (32 - n) = n by omega]
      rfl
    · refine stepNone rfl fun ρ w1 hC h => ?_    -- 4 := Op.assign t8
      have h8 : ρ 8 = U (Sha.rotr x n) := h 8 (by decide)
      exact ⟨Ext.refl _, h8⟩
  intro u_1 w3 hC1 hE
  obtain ⟨-, -, -, -, k4, -⟩ := hE
  have u4 : u_1 4 = U (Sha.rotr x n) := k4
  clear k4
  simp only [wrote, List.foldl_cons, List.foldl_nil, List.setIfInBounds_toArray, List.set_cons_zero, List.set_cons_succ, u4]
  refine hK1 _ _ ?_
  clear hK1 K1
  go_wp2_with fail
  go_ret
  exact ⟨rfl, hC0.trans hC1⟩
theorem plainTurn : Plain Tryd.prog 21 := fun _ _ => by kernel_rfl
end Go.Proofs.YtcindgknimallaaDoor
