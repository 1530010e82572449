/- The walks of leb.Get out of place, GetText, GetId. -/
import Derived.Test.YtcindgknimallaaLeb3
namespace Go.Proofs.Ytcindgknimallaa
open Go.RowKit
theorem u5 : Try.prog.underlying 5 = some (.int .u8) := by kernel_rfl

/-- leb.Get at a place that is not within. -/
theorem get_bad (w : World) (ao : Option Addr) (n c : Nat) (a : Int) (ha : a < 0 ∨ (n : Int) < a) :
    Calls Try.prog 14 #[.slice ao n c, .int .i64 a] w fun e w' => e = .returned (.tuple #[.int .i64 0, .int .i64 0, .int .i64 1]) ∧ w = w' := by
  by_cases h0 : a < 0
  · have hd : decide (a < 0) = true := by simp [h0]
    clear ha
    go_enter Try.func14, Try.ntmps14
    go_wp2_with fail
    go_step3
    go_wp2_with fail
    rw [Exit.noGoto_ret]
    go_ret3
    exact ⟨rfl, rfl⟩
  · have hd : decide (a < 0) = false := by simp [h0]
    have h1 : (n : Int) < a := by omega
    have hd2 : decide ((n : Int) < a) = true := by simp [h1]
    clear ha
    go_enter Try.func14, Try.ntmps14
    go_wp2_with fail
    go_step3
    go_wp2_with fail
    rw [Exit.noGoto_ret]
    go_ret3
    exact ⟨rfl, rfl⟩

/-- What GetText answers, at a place within. -/
def getTextRes (l : List UInt8) (a : Nat) (most : Int) : Value :=
  match lebDec 0 (l.drop a) with
  | none => .tuple #[.string ⟨#[]⟩, .int .i64 0, .int .i64 6]
  | some x => if most < x.1 then .tuple #[.string ⟨#[]⟩, .int .i64 0, .int .i64 2]
      else if l.length < a + x.2 + x.1 then .tuple #[.string ⟨#[]⟩, .int .i64 0, .int .i64 6]
      else .tuple #[.string ⟨((l.drop (a + x.2)).take x.1).toArray⟩, .int .i64 ↑(a + x.2 + x.1), .int .i64 0]

set_option maxRecDepth 100000 in
set_option maxHeartbeats 1000000 in
/-- leb.GetText at a place within. -/
theorem getText_in (w : World) (v : Value) (l : List UInt8) (hr : RB w v l) (a : Nat) (ha : a ≤ l.length) (most : Int) :
    Calls Try.prog 15 #[v, .int .i64 a, .int .i64 most] w fun e w' => e = .returned (getTextRes l a most) ∧ w = w' := by
  have HR := Lib.hid hr
  obtain ⟨ao, cap, rfl, h2, h3⟩ := hr.len
  clear hr
  have HG := Lib.hid (get_in w _ l HR.out a ha)
  cases hL : lebDec 0 (l.drop a) with
  | none =>
    have hR : getTextRes l a most = .tuple #[.string ⟨#[]⟩, .int .i64 0, .int .i64 6] := by unfold getTextRes; rw [hL]
    rw [hR]
    have HL := Lib.hid hL
    clear hL hR
    go_enter Try.func15, Try.ntmps15
    go_wp2_with fail
    refine HG.out.mono ?_
    rintro e w1 ⟨rfl, rfl⟩
    rw [HL.out]
    unfold getRes
    go_wp2_with fail
    go_ret3
    exact ⟨rfl, rfl⟩
  | some x =>
    obtain ⟨n, m⟩ := x
    have hp := lebDec_pos _ _ _ hL
    have hlt := lebDec_lt _ _ _ hL
    rw [List.length_drop] at hp
    have hm9 : m ≤ 9 := by have := hp.2.2; simp at this; exact this
    have hn63 : n ≤ 9223372036854775807 := by
      have h1 : 128 ^ m ≤ 128 ^ 9 := Nat.pow_le_pow_right (by decide) hm9
      simp only at hlt
      omega
    have hm1 : 1 ≤ m := hp.1
    have hml : a + m ≤ l.length := by have := hp.2.1; simp at this; omega
    have HL := Lib.hid hL
    clear hL hlt hp
    by_cases hmost : most < n
    · have hR : getTextRes l a most = .tuple #[.string ⟨#[]⟩, .int .i64 0, .int .i64 2] := by unfold getTextRes; rw [HL.out]; simp only []; rw [if_pos hmost]
      rw [hR]
      clear hR
      go_enter Try.func15, Try.ntmps15
      go_wp2_with fail
      refine HG.out.mono ?_
      rintro e w1 ⟨rfl, rfl⟩
      rw [HL.out]
      unfold getRes
      go_wp2_with fail
      go_ret3
      exact ⟨rfl, rfl⟩
    · by_cases hlen : l.length < a + m + n
      · have hR : getTextRes l a most = .tuple #[.string ⟨#[]⟩, .int .i64 0, .int .i64 6] := by unfold getTextRes; rw [HL.out]; simp only []; rw [if_neg hmost, if_pos hlen]
        rw [hR]
        clear hR
        go_enter Try.func15, Try.ntmps15
        go_wp2_with fail
        refine HG.out.mono ?_
        rintro e w1 ⟨rfl, rfl⟩
        rw [HL.out]
        unfold getRes
        go_wp2_with fail
        go_ret3
        exact ⟨rfl, rfl⟩
      · have hR : getTextRes l a most = .tuple #[.string ⟨((l.drop (a + m)).take n).toArray⟩, .int .i64 ↑(a + m + n), .int .i64 0] := by unfold getTextRes; rw [HL.out]; simp only []; rw [if_neg hmost, if_neg hlen]
        rw [hR]
        clear hR
        go_enter Try.func15, Try.ntmps15
        go_wp2_with fail
        refine HG.out.mono ?_
        rintro e w1 ⟨rfl, rfl⟩
        rw [HL.out]
        unfold getRes
        have hlh : a + m ≤ a + m + n := Nat.le_add_right _ _
        have hhl : a + m + n ≤ l.length := by omega
        go_wp2_with (refine wpList_reslice (o := ⟨some 38, _, _, _, _, _⟩) rfl _ _ (some _) (some _) rfl u22 sizeB _ l rfl HR.out (a + m) (a + m + n) hlh hhl (.inr ⟨.i64, rfl⟩) (.inr ⟨.i64, rfl⟩) ?_)
        intro ao' c' hr'
        have HR' := Lib.hid hr'
        clear hr'
        go_wp2_with (refine wpList_conv (o := ⟨some 39, _, _, _, _, _⟩) rfl _ _ _ rfl u22 u5 uStr _ _ rfl HR'.out ?_)
        go_ret3
        exact ⟨rfl, rfl⟩
end Go.Proofs.Ytcindgknimallaa
