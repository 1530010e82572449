/- The walks of the package leb that write: own, number, Put, PutText, and of the reference's Number, Text, Copy. -/
import Derived.Test.YtfjmbcjcgdfkfaaBase
import Derived.Test.YtfjmbcjcgdfkfaaRows
import Derived.Lib.Walk
namespace Go.Proofs.Ytfjmbcjcgdfkfaa
open Go.RowKit

theorem u22 : Try.prog.underlying 22 = some (.slice 5) := by kernel_rfl
theorem uStr : Try.prog.underlying 9 = some .string := by kernel_rfl
theorem infoB : (Try.prog.info? 5).map (fun i => (i.zero, i.size, i.bytes)) = some (some (.int .u8 0), 1, 1) := by kernel_rfl

/-- leb.own: a row of the call's own with the same bytes. -/
theorem own_any (w : World) (v : Value) (l : List UInt8) (hr : RB w v l) (hl : l.length + 16 ≤ 140737488355328) :
    Calls Try.prog 29 #[v] w fun e w' => ∃ v', e = .returned v' ∧ NewB 5 w w' v' l := by
  obtain ⟨i0, hi, hz0, hz1, hz2⟩ := info_parts infoB
  have hsrc : ∀ w' : World, w.grownBy w' none → Src Try.prog 1 22 v l.length (Lib.byteCells l) w' := fun w' hg =>
    (hr.below (B := w.heap.size) ((Below.refl _ _).grown hg (Nat.le_refl _) (fun k hk => by cases hk)) rfl).src u22
  have HS := Lib.hid hsrc
  clear hsrc
  obtain ⟨h1, ao, cap, rfl, h2, h3, h4, h5⟩ := hr
  have hl0 : l.length ≤ 140737488355312 := by omega
  clear h1 h4 h5 hl
  unfold maxLen at h3
  go_enter Try.func29, Try.ntmps29
  go_wp2_with (at_make; refine wpList_make_own _ rfl _ _ 22 rfl w.heap.size 5 i0 (.int .u8 0) 1 u22 hi hz0 hz1 _ _ _ (l.length + 16) rfl rfl (by omega) ?b1 ?b2 ?b3 ?_)
  case b1 => rw [hz2]; omega
  case b2 => unfold maxLen; omega
  case b3 => exact Nat.le_refl _
  intro w1 hown hg
  have hs1 := HS.out w1 hg
  go_wp2_with (at_builtin; refine wpList_append_src _ rfl _ _ 22 22 rfl w.heap.size 5 i0 (.int .u8 0) 1 1 u22 hi hz0 hz1 hz2 rfl _ _ _ rfl hown _ _ _ rfl hs1 ?c1 ?c2 ?c3 ?_)
  case c1 => unfold maxLen; omega
  case c2 => omega
  case c3 => exact hg.size
  intro v' w2 hown2 hgrow
  go_wp2
  go_ret
  refine ⟨v', rfl, by simpa using hown2, grownBy_trans hg hgrow.by_ (fun b hb => ?_)⟩
  simp [Value.ownBlock] at hb
  omega

set_option maxRecDepth 100000 in
set_option maxHeartbeats 1000000 in
/-- leb.number onto a row of the call's own. -/
theorem number_any (B n x : Nat) (hx : x < 18446744073709551616) (sv : Value) (xs : List Value) (w : World) (hown : w.ownsRow B 5 1 sv n xs) (hBw : B ≤ w.heap.size) (hlim : n + 10 ≤ 140737488355328) :
    Calls Try.prog 28 #[sv, .int .u64 x] w fun e w' => ∃ v', e = .returned v' ∧ w'.ownsRow B 5 1 v' (n + (Lib.uvarint x).length) (xs ++ Lib.byteCells (Lib.uvarint x)) ∧ Grew w w' sv v' := by
  obtain ⟨i0, hi, hz0, hz1, hz2⟩ := info_parts infoB
  have hlen := Lib.uvarint_length64 hx
  go_enter Try.func28, Try.ntmps28
  go_wp2
  go_loopw [0, 1] (fun vb vx wr => ∃ (y : Nat) (pre : List UInt8), vx = .int .u64 y ∧ y ≤ x ∧ Lib.uvarint x = pre ++ Lib.uvarint y ∧ wr.ownsRow B 5 1 vb (n + pre.length) (xs ++ Lib.byteCells pre) ∧ Grew w wr sv vb)
    (fun _ vx _ => (intOf vx).toNat)
  case atStart => exact ⟨x, [], rfl, Nat.le_refl _, rfl, by simpa [Lib.byteCells] using hown, Grew.refl _ _⟩
  case round =>
    obtain ⟨y, pre, rfl, hy, hsplit, hown1, hnx⟩ := hrel
    have hpl : pre.length + (Lib.uvarint y).length ≤ 10 := by
      have h2 := congrArg List.length hsplit
      rw [List.length_append] at h2
      omega
    have hyp := Lib.uvarint_pos y
    have hbw := hnx.by_.size
    by_cases h128 : 128 ≤ y
    · have hor : bits .or .u8 ((y : Int) % 256) 128 = ((y % 128 + 128 : Nat) : Int) := by
        rw [Lib.u8_or128_any _ (by omega) (by omega)]
        omega
      go_wp2_with (at_builtin; refine wpList_append_src _ rfl _ _ 22 22 rfl B 5 i0 (.int .u8 0) 1 1 u22 hi hz0 hz1 hz2 rfl _ _ _ rfl (hown1.alloc _) (.slice (some ⟨wr.heap.size, 0, none⟩) 1 1) 1 [_] rfl (srcOne u22 wr _ _ rfl) ?c1 ?c2 ?c3 ?_)
      case c1 => unfold maxLen; omega
      case c2 => omega
      case c3 => simp; omega
      intro v' w1 hown' hgrow
      have hnx1 : Grew w w1 sv v' := (hnx.alloc _).trans hgrow
      go_wp2
      go_roundw
      case rel =>
        refine ⟨y / 128, pre ++ [(y % 128 + 128).toUInt8], by go_num, by omega, by rw [hsplit, Lib.uvarint_big h128]; simp, ?_, hnx1⟩
        have ec : ((y % 128 + 128 : Nat) : Int) = (y : Int) % 128 + 128 := by omega
        rw [Lib.byteCells_snoc pre (by omega), List.length_append, List.length_singleton, ← Nat.add_assoc, ec]
        exact hown'
      case measure => simp [intOf]; omega
    · have hsm : Lib.uvarint y = [y.toUInt8] := Lib.uvarint_small (by omega)
      go_wp2_with (at_builtin; refine wpList_append_src _ rfl _ _ 22 22 rfl B 5 i0 (.int .u8 0) 1 1 u22 hi hz0 hz1 hz2 rfl _ _ _ rfl (hown1.alloc _) (.slice (some ⟨wr.heap.size, 0, none⟩) 1 1) 1 [_] rfl (srcOne u22 wr _ _ rfl) ?d1 ?d2 ?d3 ?_)
      case d1 => unfold maxLen; omega
      case d2 => omega
      case d3 => simp; omega
      intro v' w1 hown' hgrow
      have hnx1 : Grew w w1 sv v' := (hnx.alloc _).trans hgrow
      go_wp2
      go_ret
      refine ⟨v', rfl, ?_, hnx1⟩
      rw [hsplit, hsm, Lib.byteCells_snoc pre (by omega), List.length_append, List.length_singleton, ← Nat.add_assoc]
      exact hown'

/-- leb.Put of a number below 0. -/
theorem put_neg (w : World) (v : Value) (n : Int) (hn : n < 0) :
    Calls Try.prog 26 #[v, .int .i64 n] w fun e w' => e = .returned (.tuple #[.slice none 0 0, .int .i64 1]) ∧ w' = w := by
  go_enter Try.func26, Try.ntmps26
  go_wp2_with fail
  go_ret2
  exact ⟨rfl, rfl⟩

theorem uvarint_len63 (n : Nat) (h : n < 9223372036854775808) : (Lib.uvarint n).length ≤ 9 := Lib.uvarint_length 8 n (Nat.lt_of_lt_of_le h (by decide))

/-- leb.Put. -/
theorem put_any (w : World) (v : Value) (l : List UInt8) (hr : RB w v l) (hl : l.length + 16 ≤ 140737488355328) (n : Nat) (hn : n ≤ 9223372036854775807) :
    Calls Try.prog 26 #[v, .int .i64 n] w fun e w' => ∃ v', e = .returned (.tuple #[v', .int .i64 0]) ∧ NewB 5 w w' v' (l ++ Lib.uvarint n) := by
  go_enter Try.func26, Try.ntmps26
  go_wp2_with fail
  refine (own_any _ _ l hr hl).mono ?_
  rintro e w1 ⟨v1, rfl, h1⟩
  go_wp2_with fail
  refine (number_any w.heap.size l.length n (by omega) v1 _ w1 h1.own h1.by_.size (by omega)).mono ?_
  rintro e w2 ⟨v2, rfl, ho, g⟩
  go_wp2_with fail
  go_ret2
  exact ⟨v2, rfl, h1.more g ho⟩

/-- The reference's Copy. -/
theorem copy_any (w : World) (v : Value) (l : List UInt8) (hr : RB w v l) (hl : l.length ≤ 140737488355328) :
    Calls Try.prog 9 #[v] w fun e w' => ∃ v', e = .returned v' ∧ NewB 5 w w' v' l := by
  obtain ⟨i0, hi, hz0, hz1, hz2⟩ := info_parts infoB
  go_enter Try.func9, Try.ntmps9
  have h0 : NewB 5 w (w.alloc (.cells #[] 5)) (.slice (some ⟨w.heap.size, 0, none⟩) 0 0) [] :=
    ⟨World.ownsRow_lit w #[] 0 (Nat.le_refl _) (by simp [maxLen]) rfl, World.grownBy_alloc w _ none⟩
  have hs1 := (hr.keep h0.below).src u22
  have HH := Lib.hid h0
  clear h0
  go_wp2_with (at_builtin; refine wpList_append_src _ rfl _ _ 22 22 rfl w.heap.size 5 i0 (.int .u8 0) 1 1 u22 hi hz0 hz1 hz2 rfl (.slice (some ⟨w.heap.size, 0, none⟩) 0 0) 0 [] rfl HH.out.own _ _ _ rfl hs1 ?c1 ?c2 ?c3 ?_)
  case c1 => unfold maxLen; omega
  case c2 => omega
  case c3 => exact HH.out.by_.size
  intro v' w3 hown' hgrow
  go_wp2
  go_ret
  exact ⟨v', rfl, HH.out.more hgrow (by rw [List.length_nil, Nat.zero_add]; exact hown')⟩

set_option maxRecDepth 100000 in
set_option maxHeartbeats 1000000 in
/-- The reference's Number. -/
theorem refNumber_any (w : World) (x : Nat) (hx : x ≤ 9223372036854775807) :
    Calls Try.prog 20 #[.int .i64 x] w fun e w' => ∃ v', e = .returned v' ∧ NewB 5 w w' v' (Lib.uvarint x) := by
  obtain ⟨i0, hi, hz0, hz1, hz2⟩ := info_parts infoB
  have hlen := uvarint_len63 x (by omega)
  go_enter Try.func20, Try.ntmps20
  go_wp2
  go_loopw [0, 3] (fun vx vb wr => ∃ (y : Nat) (pre : List UInt8), vx = .int .i64 y ∧ y ≤ x ∧ Lib.uvarint x = pre ++ Lib.uvarint y ∧ NewB 5 w wr vb pre)
    (fun vx _ _ => (intOf vx).toNat)
  case atStart => exact ⟨x, [], rfl, Nat.le_refl _, rfl, World.ownsRow_nil _ _ _ _, World.grownBy.refl _ _⟩
  case round =>
    obtain ⟨y, pre, rfl, hy, hsplit, hown1⟩ := hrel
    have hpl : pre.length + (Lib.uvarint y).length ≤ 9 := by
      have h2 := congrArg List.length hsplit
      rw [List.length_append] at h2
      omega
    have hyp := Lib.uvarint_pos y
    have hbw := hown1.by_.size
    by_cases h128 : 128 ≤ y
    · go_wp2_with (at_builtin; refine wpList_append_src _ rfl _ _ 22 22 rfl w.heap.size 5 i0 (.int .u8 0) 1 1 u22 hi hz0 hz1 hz2 rfl _ _ _ rfl (hown1.own.alloc _) (.slice (some ⟨wr.heap.size, 0, none⟩) 1 1) 1 [_] rfl (srcOne u22 wr _ _ rfl) ?c1 ?c2 ?c3 ?_)
      case c1 => unfold maxLen; omega
      case c2 => omega
      case c3 => simp; omega
      intro v' w1 hown' hgrow
      have hnx1 : NewB 5 w w1 v' (pre ++ [(y % 128 + 128).toUInt8]) := by
        refine NewB.more (l' := [(y % 128 + 128).toUInt8]) ⟨hown1.own.alloc _, grownBy_trans hown1.by_ (World.grownBy_alloc _ _ none) (fun b hb => by cases hb)⟩ hgrow ?_
        have ec : (128 + (y : Int) % 128) = ((y % 128 + 128 : Nat) : Int) := by omega
        rw [ec] at hown'
        rw [← Lib.byteCells_append, Lib.byteCells_snoc pre (by omega)]
        exact hown'
      go_wp2
      go_roundw
      case rel =>
        exact ⟨y / 128, pre ++ [(y % 128 + 128).toUInt8], by go_num, by omega, by rw [hsplit, Lib.uvarint_big h128]; simp, hnx1⟩
      case measure => simp [intOf]; omega
    · have hsm : Lib.uvarint y = [y.toUInt8] := Lib.uvarint_small (by omega)
      go_wp2_with (at_builtin; refine wpList_append_src _ rfl _ _ 22 22 rfl w.heap.size 5 i0 (.int .u8 0) 1 1 u22 hi hz0 hz1 hz2 rfl _ _ _ rfl (hown1.own.alloc _) (.slice (some ⟨wr.heap.size, 0, none⟩) 1 1) 1 [_] rfl (srcOne u22 wr _ _ rfl) ?d1 ?d2 ?d3 ?_)
      case d1 => unfold maxLen; omega
      case d2 => omega
      case d3 => simp; omega
      intro v' w1 hown' hgrow
      have hnx1 : NewB 5 w w1 v' (pre ++ [y.toUInt8]) := by
        refine NewB.more (l' := [y.toUInt8]) ⟨hown1.own.alloc _, grownBy_trans hown1.by_ (World.grownBy_alloc _ _ none) (fun b hb => by cases hb)⟩ hgrow ?_
        rw [← Lib.byteCells_append, Lib.byteCells_snoc pre (by omega)]
        exact hown'
      go_wp2
      go_ret
      exact ⟨v', rfl, by rw [hsplit, hsm]; exact hnx1⟩

end Go.Proofs.Ytfjmbcjcgdfkfaa
