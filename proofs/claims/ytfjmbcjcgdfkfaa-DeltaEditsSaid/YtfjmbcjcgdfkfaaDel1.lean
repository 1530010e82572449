/- delta.number; the plain words of layer 10; reading a number, by cases. -/
import Derived.Test.YtfjmbcjcgdfkfaaLebB
import Derived.Test.YtfjmbcjcgdfkfaaParts
namespace Go.Proofs.Ytfjmbcjcgdfkfaa
open Go.RowKit
/-- What is known of a row is known behind what only makes memory. -/
theorem Grew.after {w w1 w2 : World} {v v' : Value} (h : Ext w w1) (g : Grew w1 w2 v v') : Grew w w2 v v' :=
  ⟨grownBy_trans (r := v.ownBlock) ⟨h.grown.os, h.grown.tape, h.grown.output, h.grown.size, fun k hk _ => h.block k hk⟩ g.by_ (fun _ hb => .inl hb), fun k hk => (g.fresh k hk).imp id (fun h2 => Nat.le_trans h.size h2)⟩
set_option maxHeartbeats 400000 in
/-- delta.number onto a row of the call's own. -/
theorem dnumber_any (w : World) (B : Nat) (v : Value) (l : List UInt8) (hown : w.ownsRow B 5 1 v l.length (Lib.byteCells l)) (hB : B ≤ w.heap.size) (n : Nat) (hn : n ≤ 9223372036854775807) (hl : l.length + 16 ≤ 140737488355328) :
    Calls Try.prog 16 #[v, .int .i64 n] w fun e w' => ∃ v', e = .returned v' ∧ w'.ownsRow B 5 1 v' (l ++ Lib.uvarint n).length (Lib.byteCells (l ++ Lib.uvarint n)) ∧ Grew w w' v v' := by
  obtain ⟨i0, hi, hz0, hz1, hz2⟩ := info_parts infoB
  have h9 := uvarint_len63 n (by omega)
  go_enter Try.func16, Try.ntmps16
  go_wp2_with fail
  refine (put_any w (.slice none 0 0) [] (RB.nil w) (by simp) n hn).mono ?_
  rintro e w1 ⟨v1, rfl, h1⟩
  have ho1 : w1.ownsRow B 5 1 v l.length (Lib.byteCells l) := Stab.own _ _ _ _ _ _ _ _ hown h1.ext
  have hs := h1.rb.src u22
  have hE := h1.ext
  rw [List.nil_append] at hs
  have hz := h1.ext.size
  go_wp2_with (at_builtin; refine wpList_append_src _ rfl _ _ 22 22 rfl B 5 i0 (.int .u8 0) 1 1 u22 hi hz0 hz1 hz2 rfl _ _ _ rfl ho1 v1 _ _ rfl hs ?c1 ?c2 ?c3 ?_)
  case c1 => unfold maxLen; omega
  case c2 => omega
  case c3 => omega
  intro v' w3 hown' hgrow
  go_wp2
  go_ret
  exact ⟨v', rfl, by rw [List.length_append, Lib.byteCells_append]; exact hown', Grew.after hE hgrow⟩
/-- Two rows' common beginning. -/
def lcp : List UInt8 → List UInt8 → Nat
  | a :: u, b :: z => if a = b then lcp u z + 1 else 0
  | _, _ => 0
theorem lcp_step {a b : List UInt8} {i : Nat} (h1 : i < a.length) (h2 : i < b.length) (h : a.getD i 0 = b.getD i 0) : lcp (a.drop i) (b.drop i) = lcp (a.drop (i + 1)) (b.drop (i + 1)) + 1 := by
  rw [List.drop_eq_getElem_cons h1, List.drop_eq_getElem_cons h2]
  rw [lcp, if_pos (by simpa [List.getD, h1, h2] using h)]
theorem lcp_ne {a b : List UInt8} {i : Nat} (h1 : i < a.length) (h2 : i < b.length) (h : a.getD i 0 ≠ b.getD i 0) : lcp (a.drop i) (b.drop i) = 0 := by
  rw [List.drop_eq_getElem_cons h1, List.drop_eq_getElem_cons h2]
  unfold lcp
  rw [if_neg (by simpa [List.getD, h1, h2] using h)]
theorem lcp_endA {a b : List UInt8} {i : Nat} (h : a.length ≤ i) : lcp (a.drop i) (b.drop i) = 0 := by
  rw [List.drop_of_length_le h]
  unfold lcp
  rfl
theorem lcp_endB {a b : List UInt8} {i : Nat} (h : b.length ≤ i) : lcp (a.drop i) (b.drop i) = 0 := by
  rw [List.drop_of_length_le h]
  cases a.drop i <;> rfl
theorem lcp_le : ∀ a b : List UInt8, lcp a b ≤ a.length ∧ lcp a b ≤ b.length
  | [], b => by simp [lcp]
  | a :: u, [] => by simp [lcp]
  | a :: u, b :: z => by
    unfold lcp
    have := lcp_le u z
    split <;> simp <;> omega
/-- Reading a number, by cases. -/
theorem getNo (w : World) (v : Value) (l : List UInt8) (hr : RB w v l) (a : Nat) (ha : a ≤ l.length) (h : lebDec 0 (l.drop a) = none) :
    Calls Try.prog 27 #[v, .int .i64 a] w fun e w' => e = .returned (.tuple #[.int .i64 0, .int .i64 0, .int .i64 6]) ∧ Ext w w' :=
  (get_in w v l hr a ha).mono fun e w' ⟨h1, h2⟩ => by
    rw [h] at h1
    exact ⟨h1, h2 ▸ Ext.refl w⟩
theorem getYes (w : World) (v : Value) (l : List UInt8) (hr : RB w v l) (a : Nat) (ha : a ≤ l.length) (x k : Nat) (h : lebDec 0 (l.drop a) = some (x, k)) :
    Calls Try.prog 27 #[v, .int .i64 a] w fun e w' => e = .returned (.tuple #[.int .i64 (x : Nat), .int .i64 ((a + k : Nat) : Int), .int .i64 0]) ∧ Ext w w' :=
  (get_in w v l hr a ha).mono fun e w' ⟨h1, h2⟩ => by
    rw [h] at h1
    exact ⟨h1, h2 ▸ Ext.refl w⟩
theorem lebDec_bound {l : List UInt8} {a x k : Nat} (ha : a ≤ l.length) (h : lebDec 0 (l.drop a) = some (x, k)) : x < 9223372036854775808 ∧ a + k ≤ l.length ∧ 1 ≤ k := by
  have h1 := lebDec_pos _ _ _ h
  have h2 := lebDec_lt _ _ _ h
  have h3 : k ≤ 9 := by have := h1.2.2; simp at this; omega
  have h4 : 128 ^ k ≤ 128 ^ 9 := Nat.pow_le_pow_right (by decide) h3
  have h5 := h1.2.1
  rw [List.length_drop] at h5
  exact ⟨Nat.lt_of_lt_of_le h2 h4, by omega, h1.1⟩
end Go.Proofs.Ytfjmbcjcgdfkfaa
