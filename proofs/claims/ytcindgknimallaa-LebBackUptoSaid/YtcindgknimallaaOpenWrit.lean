/- The struct Written, opened. -/
import Derived.Test.YtcindgknimallaaOpen
import Derived.Test.YtcindgknimallaaLebBackW
namespace Go.Proofs.Ytcindgknimallaa
open Go.ChangeShapes Go.WideShapes Go.ChangeAt Go.RowKit
theorem five {α : Type} {xs : List α} (h : xs.length = 5) : ∃ a b c d e, xs = [a, b, c, d, e] := by
  match xs, h with
  | [a, b, c, d, e], _ => exact ⟨a, b, c, d, e, rfl⟩
theorem cells36 {cs : List Value} {a b c d : Value} {l : List Value} (h0 : (cs.drop 0).take 1 = [a]) (h1 : (cs.drop 1).take 1 = [b]) (h2 : (cs.drop 2).take 1 = [c]) (h3 : (cs.drop 3).take 1 = [d]) (h4 : (cs.drop 4).take 32 = l) (hl : cs.length = 36) : cs = [a, b, c, d] ++ l := by
  match cs, hl with
  | x0 :: x1 :: x2 :: x3 :: r, hl =>
    simp at h0 h1 h2 h3 h4 hl
    rw [List.take_of_length_le (by omega)] at h4
    rw [h0, h1, h2, h3, h4]
    rfl
theorem open_writ {H : Type} {enc : TypeId × Value → H} {W : World} {r : Reach} {b0 : Nat} {v : Value} {d : DataW H} {ps : List MemPlace}
    (hval : Value.okWide Try.prog W r b0 35 v) (hd : DataW.Trod enc Try.prog W 0 (fun _ => true) true 35 v d ps) :
    ∃ va vb A B n s id, v = .agg (writ va vb n s id).toArray ∧ RB W va A ∧ RB W vb B ∧ n ≤ 9223372036854775807 ∧ id.length = 32 ∧ A.length + B.length + s.size ≤ Rows.uptoBulk d ∧ ∀ x ∈ ps, x.block < W.heap.size := by
  obtain ⟨fuel, hf⟩ := hd
  have hlt := DataW.trod_lt fuel _ _ _ hf
  obtain ⟨cs, rfl, hcs⟩ := okWide_struct Try.underlying35 hval
  obtain ⟨xs, n, rfl, hx, hlen, hxs, hel⟩ := DataW.trod_struct Try.underlying35 hf
  obtain ⟨x0, x1, x2, x3, x4, rfl⟩ := five (show xs.length = 5 from hxs)
  have c33 : Try.prog.cellsOf 33 = 32 := by kernel_rfl
  have c35 : Try.prog.cellsOf 35 = 36 := by kernel_rfl
  have f0 := hel 0 _ rfl
  have f1 := hel 1 _ rfl
  have f2 := hel 2 _ rfl
  have f3 := hel 3 _ rfl
  have f4 := hel 4 _ rfl
  simp only [List.getElem?_cons_zero, List.getElem?_cons_succ] at f0 f1 f2 f3 f4
  obtain ⟨va, A, e0, rA, bA⟩ := open_bytesC Try.underlying22 Try.underlying5 (by kernel_rfl) f0
  obtain ⟨vb, B, e1, rB, bB⟩ := open_bytesC Try.underlying22 Try.underlying5 (by kernel_rfl) f1
  obtain ⟨n1, e2, y2, w2⟩ := DataW.trod_int Try.underlying3 f2
  obtain ⟨s, e3, y3, w3⟩ := DataW.trod_string Try.underlying9 f3
  obtain ⟨id, hid, e4⟩ := open_idC Try.underlying33 Try.underlying5 (by kernel_rfl) c33 f4
  have hc := cells36 e0 e1 e2 e3 e4 (by rw [hlen, c35])
  have hn : -9223372036854775808 ≤ n1 ∧ n1 ≤ 9223372036854775807 := by simpa [Lit.wf, IntKind.min, IntKind.max, IntKind.signed, IntKind.bits] using w2
  refine ⟨va, vb, A, B, n1, s, id, ?_, rA, rB, hn.2, hid, ?_, hlt⟩
  · simp only [Value.cells] at hc
    unfold writ
    rw [← hc]
  · have hd' : d = _ := congrArg Prod.fst hx
    rw [hd']
    have := bulk_string (H := H) s
    rw [y3]
    simp only [List.map_cons, List.map_nil, Rows.uptoBulk, Rows.uptoBulkAll] at this ⊢
    omega
end Go.Proofs.Ytcindgknimallaa
