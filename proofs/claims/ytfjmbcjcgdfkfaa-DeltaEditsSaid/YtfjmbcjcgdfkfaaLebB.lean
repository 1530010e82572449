/- The walk of leb.Get. -/
import Derived.Test.YtfjmbcjcgdfkfaaLebA
import Derived.Test.YtfjmbcjcgdfkfaaSteps
import Derived.Test.YtfjmbcjcgdfkfaaLebPlain
import Derived.Lib.EndianBits
namespace Go.Proofs.Ytfjmbcjcgdfkfaa
open Go.RowKit

theorem sizeB : ∀ w' : World, (sizeOf 5).run Try.prog w' = .ok 1 w' := fun _ => by kernel_rfl
def getRes (a : Nat) : Option (Nat × Nat) → Value
  | some x => .tuple #[.int .i64 x.1, .int .i64 ↑(a + x.2), .int .i64 0]
  | none => .tuple #[.int .i64 0, .int .i64 0, .int .i64 6]

theorem u64_shl_in (y k : Nat) (hy : y < 128) (hk : k ≤ 8) : IntKind.u64.wrap ((y : Int) * 2 ^ (7 * k)) = ((y * 2 ^ (7 * k) : Nat) : Int) := by
  have h1 : y * 2 ^ (7 * k) ≤ 127 * 2 ^ 56 := Nat.mul_le_mul (by omega) (Nat.pow_le_pow_right (by decide) (by omega))
  have e : ((y : Int) * 2 ^ (7 * k)) = ((y * 2 ^ (7 * k) : Nat) : Int) := by push_cast; rfl
  rw [e]
  exact IntWalk.u64_in _ ⟨by omega, by omega⟩
theorem or_shl (out y k : Nat) (hout : out < 2 ^ (7 * k)) (hy : y < 128) (hk : k ≤ 8) : bits .or .u64 (out : Int) ((y * 2 ^ (7 * k) : Nat) : Int) = ((out + 2 ^ (7 * k) * y : Nat) : Int) := by
  have h1 : y * 2 ^ (7 * k) ≤ 127 * 2 ^ 56 := Nat.mul_le_mul (by omega) (Nat.pow_le_pow_right (by decide) (by omega))
  have h2 : 2 ^ (7 * k) ≤ 2 ^ 56 := Nat.pow_le_pow_right (by decide) (by omega)
  have h := (bits_nat .u64 64 (by decide) wraps_u64 out (y * 2 ^ (7 * k)) (by omega) (by omega)).2
  rw [h]
  congr 1
  have h3 := Nat.shiftLeft_add_eq_or_of_lt hout y
  rw [Nat.shiftLeft_eq] at h3
  rw [Nat.or_comm, ← h3, Nat.mul_comm]
  omega
set_option maxRecDepth 100000 in
theorem andNot_fin : ∀ n : Fin 128, bits .andNot .u8 ((n.val + 128 : Nat) : Int) 128 = (n.val : Int) := by decide +kernel
theorem u8_andNot128 (c : Nat) (h : 128 ≤ c) (h2 : c < 256) : IntKind.u64.wrap (bits .andNot .u8 (c : Int) 128) = ((c - 128 : Nat) : Int) := by
  have h1 := andNot_fin ⟨c - 128, by omega⟩
  have e : c - 128 + 128 = c := by omega
  simp only [e] at h1
  rw [h1]
  exact IntWalk.u64_in _ ⟨by omega, by omega⟩

theorem getBound (out y k : Nat) (hout : out < 2 ^ (7 * k)) (hy : y < 128) (hk : k ≤ 8) : out + 2 ^ (7 * k) * y ≤ 9223372036854775807 := by
  have h1 : 2 ^ (7 * k) * y ≤ 2 ^ 56 * 127 := Nat.mul_le_mul (Nat.pow_le_pow_right (by decide) (by omega)) (by omega)
  have h2 : 2 ^ (7 * k) ≤ 2 ^ 56 := Nat.pow_le_pow_right (by decide) (by omega)
  omega
theorem getFin (a k N c : Nat) (h : N + 2 ^ (7 * k) * c ≤ 9223372036854775807) :
    Ending.returned (.tuple #[.int .i64 (wrap64 ((N + 2 ^ (7 * k) * c : Nat) : Int)), .int .i64 ((a : Int) + (k : Int) + 1), .int .i64 0]) = .returned (getRes a ((some (c, 1)).map fun x => (N + 2 ^ (7 * k) * x.1, x.2 + k))) := by
  rw [IntWalk.wrap64_in _ ⟨by omega, by omega⟩]
  have e : (a : Int) + (k : Int) + 1 = ((a + (1 + k) : Nat) : Int) := by omega
  rw [e]
  rfl

set_option maxRecDepth 100000 in
set_option maxHeartbeats 1000000 in
/-- leb.Get at a place within. -/
theorem get_in (w : World) (v : Value) (l : List UInt8) (hr : RB w v l) (a : Nat) (ha : a ≤ l.length) :
    Calls Try.prog 27 #[v, .int .i64 a] w fun e w' => e = .returned (getRes a (lebDec 0 (l.drop a))) ∧ w = w' := by
  have HR := Lib.hid hr
  obtain ⟨ao, cap, rfl, h2, h3⟩ := hr.len
  clear hr
  have hd : decide ((a : Int) < 0) = false := by simp
  have hd2 : decide (l.length < a) = false := by simp; omega
  obtain ⟨L, hL⟩ : ∃ L, L = l.drop a := ⟨_, rfl⟩
  have hLn : l.length - a = L.length := by rw [hL, List.length_drop]
  rw [← hL]
  have HLn := Lib.hid hLn
  have HL := Lib.hid hL
  clear hLn hL
  go_enter Try.func27, Try.ntmps27
  go_wp2_with fail
  go_step3
  go_wp2_with fail
  go_step3
  go_wp2_with (refine wpList_reslice (o := ⟨some 21, _, _, _, _, _⟩) rfl _ _ (some _) none rfl u22 sizeB _ l rfl HR.out a l.length ha (Nat.le_refl _) (.inr ⟨.i64, rfl⟩) (.inl ⟨rfl, rfl⟩) ?_)
  intro ao' c' hr'
  rw [List.take_of_length_le (by rw [List.length_drop]; exact Nat.le_refl _)] at hr'
  have HR' := Lib.hid hr'
  clear hr' hd hd2
  rw [← HL.out, HLn.out] at HR'
  rw [HLn.out]
  by_cases hn0 : L.length = 0
  · have hL0 : L = [] := List.eq_nil_of_length_eq_zero hn0
    have HL0 := Lib.hid hL0
    clear hL0 HR' HR
    have h00 : decide (0 < L.length) = false := by simp [hn0]
    clear hn0
    go_wp2_with fail
    refine wp_loop_rounds 1 ?_
    rw [rounds_succ]
    go_wp2
    rw [Exit.noGoto_ret]
    all_goals (go_ret3; exact ⟨by rw [HL0.out]; simp [lebDec, getRes], rfl⟩)
  obtain ⟨b, off, cc, hv, hcap, hcap2, hbw, hcell⟩ := HR'.out.open_ (by omega)
  simp only [Value.slice.injEq, true_and] at hv
  obtain ⟨rfl, rfl⟩ := hv
  have haL : a + L.length ≤ 9223372036854775807 := by have := HLn.out; omega
  clear HR' HR
  go_wp2_with fail
  go_loop [7, 8, 23] (fun vx vs vi => ∃ k out : Nat, vi = .int .i64 k ∧ vs = .int .i64 ((7 * k : Nat) : Int) ∧ vx = .int .u64 out ∧ k ≤ L.length ∧ k ≤ 8 ∧ out < 2 ^ (7 * k) ∧ lebDec 0 L = (lebDec k (L.drop k)).map (fun x => (out + 2 ^ (7 * k) * x.1, x.2 + k)))
    (fun _ _ vi => L.length - (intOf vi).toNat)
  case atStart => exact ⟨0, 0, rfl, rfl, rfl, by omega, by omega, by decide, by simp⟩
  case round =>
    obtain ⟨k, out, rfl, rfl, rfl, hk, hk8, hout, hdec⟩ := hrel
    have HD := Lib.hid hdec
    clear hdec
    by_cases hkl : k < L.length
    · have hc := hcell k hkl
      have hdrop : L.drop k = L[k] :: L.drop (k + 1) := List.drop_eq_getElem_cons hkl
      have hg : L.getD k 0 = L[k] := by simp [hkl]
      rw [hg] at hc
      generalize L[k] = c at hc hdrop
      have HDr := Lib.hid hdrop
      have hc256 := c.toNat_lt
      clear hcell hdrop hg
      have HO := Lib.hid hout
      clear hout
      by_cases h128 : 128 ≤ c.toNat
      · by_cases hk8' : k = 8
        · subst hk8'
          go_wp2
          all_goals (go_ret3; exact ⟨by rw [HD.out, HDr.out]; simp [lebDec, h128, getRes], rfl⟩)
        · have hk9 : k < 8 := by omega
          clear hk8'
          go_wp2
          go_round
          case rel =>
            have hp : 2 ^ (7 * (k + 1)) = 2 ^ (7 * k) * 128 := by rw [show 7 * (k + 1) = 7 * k + 7 from by omega, Nat.pow_add]
            refine ⟨k + 1, out + 2 ^ (7 * k) * (c.toNat - 128), by go_num, by go_num, ?_, by omega, by omega, ?_, ?_⟩
            · rw [u8_andNot128 _ h128 hc256, u64_shl_in _ _ (by omega) (by omega), or_shl _ _ _ HO.out (by omega) (by omega)]
            · have h1 := HO.out
              have h2 : 2 ^ (7 * k) * (c.toNat - 128) ≤ 2 ^ (7 * k) * 127 := Nat.mul_le_mul_left _ (by omega)
              rw [hp]
              omega
            · rw [HD.out, HDr.out]
              have : lebDec k (c :: L.drop (k + 1)) = (lebDec (k + 1) (L.drop (k + 1))).map (fun x => (c.toNat - 128 + 128 * x.1, x.2 + 1)) := by
                simp only [lebDec]
                rw [if_pos h128, if_neg (by omega)]
              rw [this, Option.map_map]
              congr 1
              funext x
              simp only [Function.comp, Prod.mk.injEq]
              refine ⟨?_, by omega⟩
              rw [hp, Nat.mul_add, Nat.mul_assoc]
              omega
          case measure => simp [intOf]; omega
      · have hlt : c.toNat < 128 := by omega
        by_cases h0 : c.toNat = 0
        · have hz : ((c.toNat : Int) == 0) = true := by simp [h0]
          have HZ := Lib.hid h0
          clear h0
          by_cases hk0 : 0 < k
          · go_wp2
            all_goals (go_ret3; exact ⟨by rw [HD.out, HDr.out]; simp [lebDec, HZ.out, hk0, getRes], rfl⟩)
          · have hk1 : decide (0 < k) = false := by simp; omega
            clear hk0
            have hd : lebDec k (c :: L.drop (k + 1)) = some (c.toNat, 1) := by
              simp only [lebDec]
              rw [if_neg h128, if_neg (by simp at hk1; omega)]
            have HD2 := Lib.hid hd
            clear hd
            go_wp2
            all_goals go_ret3
            all_goals refine ⟨?_, rfl⟩
            all_goals rw [u64_shl_in _ _ hlt hk8, or_shl _ _ _ HO.out hlt hk8, HD.out, HDr.out, HD2.out]
            all_goals exact getFin a k _ _ (getBound _ _ _ HO.out hlt hk8)
        · have hz : ((c.toNat : Int) == 0) = false := by simp [h0]
          have HZ := Lib.hid h0
          clear h0
          have hd : lebDec k (c :: L.drop (k + 1)) = some (c.toNat, 1) := by
            simp only [lebDec]
            rw [if_neg h128, if_neg (by have := HZ.out; omega)]
          have HD2 := Lib.hid hd
          clear hd
          go_wp2
          all_goals go_ret3
          all_goals refine ⟨?_, rfl⟩
          all_goals rw [u64_shl_in _ _ hlt hk8, or_shl _ _ _ HO.out hlt hk8, HD.out, HDr.out, HD2.out]
          all_goals exact getFin a k _ _ (getBound _ _ _ HO.out hlt hk8)
    · have hkl' : k = L.length := by omega
      go_wp2
      all_goals (go_ret3; exact ⟨by rw [HD.out, hkl']; simp [lebDec, getRes], rfl⟩)
end Go.Proofs.Ytfjmbcjcgdfkfaa
