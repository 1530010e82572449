/- The reference's Sum. -/
import Derived.Test.YtcindgknimallaaDoorSha8
namespace Go.Proofs.YtcindgknimallaaDoor
open Go.RowKit
namespace Sha
theorem tail_length (n : Nat) : (tail n).length = 9 + (119 - n % 64) % 64 := by
  simp [tail, be64]
  omega
theorem be4_of (P B : List UInt8) (a : Nat) (h : ∀ i, i < 64 → B.getD i 0 = P.getD (a + i) 0) (t : Nat) (ht : t < 16) :
    (P.getD (a + 4 * t) 0).toUInt32 <<< 24 ||| (P.getD (a + 4 * t + 1) 0).toUInt32 <<< 16 ||| (P.getD (a + 4 * t + 2) 0).toUInt32 <<< 8 ||| (P.getD (a + 4 * t + 3) 0).toUInt32 = be4 B t := by
  unfold be4
  rw [h _ (by omega), h _ (by omega), h _ (by omega), h _ (by omega)]
  simp only [Nat.add_assoc]
theorem add8 (S T : List UInt32) (hS : S.length = 8) (hT : T.length = 8) : ((((((((S).set (0) ((S.getD (0) 0) + (T.getD 0 0))).set (1) ((((S).set (0) ((S.getD (0) 0) + (T.getD 0 0))).getD (1) 0) + (T.getD 1 0))).set (2) (((((S).set (0) ((S.getD (0) 0) + (T.getD 0 0))).set (1) ((((S).set (0) ((S.getD (0) 0) + (T.getD 0 0))).getD (1) 0) + (T.getD 1 0))).getD (2) 0) + (T.getD 2 0))).set (3) ((((((S).set (0) ((S.getD (0) 0) + (T.getD 0 0))).set (1) ((((S).set (0) ((S.getD (0) 0) + (T.getD 0 0))).getD (1) 0) + (T.getD 1 0))).set (2) (((((S).set (0) ((S.getD (0) 0) + (T.getD 0 0))).set (1) ((((S).set (0) ((S.getD (0) 0) + (T.getD 0 0))).getD (1) 0) + (T.getD 1 0))).getD (2) 0) + (T.getD 2 0))).getD (3) 0) + (T.getD 3 0))).set (4) (((((((S).set (0) ((S.getD (0) 0) + (T.getD 0 0))).set (1) ((((S).set (0) ((S.getD (0) 0) + (T.getD 0 0))).getD (1) 0) + (T.getD 1 0))).set (2) (((((S).set (0) ((S.getD (0) 0) + (T.getD 0 0))).set (1) ((((S).set (0) ((S.getD (0) 0) + (T.getD 0 0))).getD (1) 0) + (T.getD 1 0))).getD (2) 0) + (T.getD 2 0))).set (3) ((((((S).set (0) ((S.getD (0) 0) + (T.getD 0 0))).set (1) ((((S).set (0) ((S.getD (0) 0) + (T.getD 0 0))).getD (1) 0) + (T.getD 1 0))).set (2) (((((S).set (0) ((S.getD (0) 0) + (T.getD 0 0))).set (1) ((((S).set (0) ((S.getD (0) 0) + (T.getD 0 0))).getD (1) 0) + (T.getD 1 0))).getD (2) 0) + (T.getD 2 0))).getD (3) 0) + (T.getD 3 0))).getD (4) 0) + (T.getD 4 0))).set (5) ((((((((S).set (0) ((S.getD (0) 0) + (T.getD 0 0))).set (1) ((((S).set (0) ((S.getD (0) 0) + (T.getD 0 0))).getD (1) 0) + (T.getD 1 0))).set (2) (((((S).set (0) ((S.getD (0) 0) + (T.getD 0 0))).set (1) ((((S).set (0) ((S.getD (0) 0) + (T.getD 0 0))).getD (1) 0) + (T.getD 1 0))).getD (2) 0) + (T.getD 2 0))).set (3) ((((((S).set (0) ((S.getD (0) 0) + (T.getD 0 0))).set (1) ((((S).set (0) ((S.getD (0) 0) + (T.getD 0 0))).getD (1) 0) + (T.getD 1 0))).set (2) (((((S).set (0) ((S.getD (0) 0) + (T.getD 0 0))).set (1) ((((S).set (0) ((S.getD (0) 0) + (T.getD 0 0))).getD (1) 0) + (T.getD 1 0))).getD (2) 0) + (T.getD 2 0))).getD (3) 0) + (T.getD 3 0))).set (4) (((((((S).set (0) ((S.getD (0) 0) + (T.getD 0 0))).set (1) ((((S).set (0) ((S.getD (0) 0) + (T.getD 0 0))).getD (1) 0) + (T.getD 1 0))).set (2) (((((S).set (0) ((S.getD (0) 0) + (T.getD 0 0))).set (1) ((((S).set (0) ((S.getD (0) 0) + (T.getD 0 0))).getD (1) 0) + (T.getD 1 0))).getD (2) 0) + (T.getD 2 0))).set (3) ((((((S).set (0) ((S.getD (0) 0) + (T.getD 0 0))).set (1) ((((S).set (0) ((S.getD (0) 0) + (T.getD 0 0))).getD (1) 0) + (T.getD 1 0))).set (2) (((((S).set (0) ((S.getD (0) 0) + (T.getD 0 0))).set (1) ((((S).set (0) ((S.getD (0) 0) + (T.getD 0 0))).getD (1) 0) + (T.getD 1 0))).getD (2) 0) + (T.getD 2 0))).getD (3) 0) + (T.getD 3 0))).getD (4) 0) + (T.getD 4 0))).getD (5) 0) + (T.getD 5 0))).set (6) (((((((((S).set (0) ((S.getD (0) 0) + (T.getD 0 0))).set (1) ((((S).set (0) ((S.getD (0) 0) + (T.getD 0 0))).getD (1) 0) + (T.getD 1 0))).set (2) (((((S).set (0) ((S.getD (0) 0) + (T.getD 0 0))).set (1) ((((S).set (0) ((S.getD (0) 0) + (T.getD 0 0))).getD (1) 0) + (T.getD 1 0))).getD (2) 0) + (T.getD 2 0))).set (3) ((((((S).set (0) ((S.getD (0) 0) + (T.getD 0 0))).set (1) ((((S).set (0) ((S.getD (0) 0) + (T.getD 0 0))).getD (1) 0) + (T.getD 1 0))).set (2) (((((S).set (0) ((S.getD (0) 0) + (T.getD 0 0))).set (1) ((((S).set (0) ((S.getD (0) 0) + (T.getD 0 0))).getD (1) 0) + (T.getD 1 0))).getD (2) 0) + (T.getD 2 0))).getD (3) 0) + (T.getD 3 0))).set (4) (((((((S).set (0) ((S.getD (0) 0) + (T.getD 0 0))).set (1) ((((S).set (0) ((S.getD (0) 0) + (T.getD 0 0))).getD (1) 0) + (T.getD 1 0))).set (2) (((((S).set (0) ((S.getD (0) 0) + (T.getD 0 0))).set (1) ((((S).set (0) ((S.getD (0) 0) + (T.getD 0 0))).getD (1) 0) + (T.getD 1 0))).getD (2) 0) + (T.getD 2 0))).set (3) ((((((S).set (0) ((S.getD (0) 0) + (T.getD 0 0))).set (1) ((((S).set (0) ((S.getD (0) 0) + (T.getD 0 0))).getD (1) 0) + (T.getD 1 0))).set (2) (((((S).set (0) ((S.getD (0) 0) + (T.getD 0 0))).set (1) ((((S).set (0) ((S.getD (0) 0) + (T.getD 0 0))).getD (1) 0) + (T.getD 1 0))).getD (2) 0) + (T.getD 2 0))).getD (3) 0) + (T.getD 3 0))).getD (4) 0) + (T.getD 4 0))).set (5) ((((((((S).set (0) ((S.getD (0) 0) + (T.getD 0 0))).set (1) ((((S).set (0) ((S.getD (0) 0) + (T.getD 0 0))).getD (1) 0) + (T.getD 1 0))).set (2) (((((S).set (0) ((S.getD (0) 0) + (T.getD 0 0))).set (1) ((((S).set (0) ((S.getD (0) 0) + (T.getD 0 0))).getD (1) 0) + (T.getD 1 0))).getD (2) 0) + (T.getD 2 0))).set (3) ((((((S).set (0) ((S.getD (0) 0) + (T.getD 0 0))).set (1) ((((S).set (0) ((S.getD (0) 0) + (T.getD 0 0))).getD (1) 0) + (T.getD 1 0))).set (2) (((((S).set (0) ((S.getD (0) 0) + (T.getD 0 0))).set (1) ((((S).set (0) ((S.getD (0) 0) + (T.getD 0 0))).getD (1) 0) + (T.getD 1 0))).getD (2) 0) + (T.getD 2 0))).getD (3) 0) + (T.getD 3 0))).set (4) (((((((S).set (0) ((S.getD (0) 0) + (T.getD 0 0))).set (1) ((((S).set (0) ((S.getD (0) 0) + (T.getD 0 0))).getD (1) 0) + (T.getD 1 0))).set (2) (((((S).set (0) ((S.getD (0) 0) + (T.getD 0 0))).set (1) ((((S).set (0) ((S.getD (0) 0) + (T.getD 0 0))).getD (1) 0) + (T.getD 1 0))).getD (2) 0) + (T.getD 2 0))).set (3) ((((((S).set (0) ((S.getD (0) 0) + (T.getD 0 0))).set (1) ((((S).set (0) ((S.getD (0) 0) + (T.getD 0 0))).getD (1) 0) + (T.getD 1 0))).set (2) (((((S).set (0) ((S.getD (0) 0) + (T.getD 0 0))).set (1) ((((S).set (0) ((S.getD (0) 0) + (T.getD 0 0))).getD (1) 0) + (T.getD 1 0))).getD (2) 0) + (T.getD 2 0))).getD (3) 0) + (T.getD 3 0))).getD (4) 0) + (T.getD 4 0))).getD (5) 0) + (T.getD 5 0))).getD (6) 0) + (T.getD 6 0))).set (7) ((((((((((S).set (0) ((S.getD (0) 0) + (T.getD 0 0))).set (1) ((((S).set (0) ((S.getD (0) 0) + (T.getD 0 0))).getD (1) 0) + (T.getD 1 0))).set (2) (((((S).set (0) ((S.getD (0) 0) + (T.getD 0 0))).set (1) ((((S).set (0) ((S.getD (0) 0) + (T.getD 0 0))).getD (1) 0) + (T.getD 1 0))).getD (2) 0) + (T.getD 2 0))).set (3) ((((((S).set (0) ((S.getD (0) 0) + (T.getD 0 0))).set (1) ((((S).set (0) ((S.getD (0) 0) + (T.getD 0 0))).getD (1) 0) + (T.getD 1 0))).set (2) (((((S).set (0) ((S.getD (0) 0) + (T.getD 0 0))).set (1) ((((S).set (0) ((S.getD (0) 0) + (T.getD 0 0))).getD (1) 0) + (T.getD 1 0))).getD (2) 0) + (T.getD 2 0))).getD (3) 0) + (T.getD 3 0))).set (4) (((((((S).set (0) ((S.getD (0) 0) + (T.getD 0 0))).set (1) ((((S).set (0) ((S.getD (0) 0) + (T.getD 0 0))).getD (1) 0) + (T.getD 1 0))).set (2) (((((S).set (0) ((S.getD (0) 0) + (T.getD 0 0))).set (1) ((((S).set (0) ((S.getD (0) 0) + (T.getD 0 0))).getD (1) 0) + (T.getD 1 0))).getD (2) 0) + (T.getD 2 0))).set (3) ((((((S).set (0) ((S.getD (0) 0) + (T.getD 0 0))).set (1) ((((S).set (0) ((S.getD (0) 0) + (T.getD 0 0))).getD (1) 0) + (T.getD 1 0))).set (2) (((((S).set (0) ((S.getD (0) 0) + (T.getD 0 0))).set (1) ((((S).set (0) ((S.getD (0) 0) + (T.getD 0 0))).getD (1) 0) + (T.getD 1 0))).getD (2) 0) + (T.getD 2 0))).getD (3) 0) + (T.getD 3 0))).getD (4) 0) + (T.getD 4 0))).set (5) ((((((((S).set (0) ((S.getD (0) 0) + (T.getD 0 0))).set (1) ((((S).set (0) ((S.getD (0) 0) + (T.getD 0 0))).getD (1) 0) + (T.getD 1 0))).set (2) (((((S).set (0) ((S.getD (0) 0) + (T.getD 0 0))).set (1) ((((S).set (0) ((S.getD (0) 0) + (T.getD 0 0))).getD (1) 0) + (T.getD 1 0))).getD (2) 0) + (T.getD 2 0))).set (3) ((((((S).set (0) ((S.getD (0) 0) + (T.getD 0 0))).set (1) ((((S).set (0) ((S.getD (0) 0) + (T.getD 0 0))).getD (1) 0) + (T.getD 1 0))).set (2) (((((S).set (0) ((S.getD (0) 0) + (T.getD 0 0))).set (1) ((((S).set (0) ((S.getD (0) 0) + (T.getD 0 0))).getD (1) 0) + (T.getD 1 0))).getD (2) 0) + (T.getD 2 0))).getD (3) 0) + (T.getD 3 0))).set (4) (((((((S).set (0) ((S.getD (0) 0) + (T.getD 0 0))).set (1) ((((S).set (0) ((S.getD (0) 0) + (T.getD 0 0))).getD (1) 0) + (T.getD 1 0))).set (2) (((((S).set (0) ((S.getD (0) 0) + (T.getD 0 0))).set (1) ((((S).set (0) ((S.getD (0) 0) + (T.getD 0 0))).getD (1) 0) + (T.getD 1 0))).getD (2) 0) + (T.getD 2 0))).set (3) ((((((S).set (0) ((S.getD (0) 0) + (T.getD 0 0))).set (1) ((((S).set (0) ((S.getD (0) 0) + (T.getD 0 0))).getD (1) 0) + (T.getD 1 0))).set (2) (((((S).set (0) ((S.getD (0) 0) + (T.getD 0 0))).set (1) ((((S).set (0) ((S.getD (0) 0) + (T.getD 0 0))).getD (1) 0) + (T.getD 1 0))).getD (2) 0) + (T.getD 2 0))).getD (3) 0) + (T.getD 3 0))).getD (4) 0) + (T.getD 4 0))).getD (5) 0) + (T.getD 5 0))).set (6) (((((((((S).set (0) ((S.getD (0) 0) + (T.getD 0 0))).set (1) ((((S).set (0) ((S.getD (0) 0) + (T.getD 0 0))).getD (1) 0) + (T.getD 1 0))).set (2) (((((S).set (0) ((S.getD (0) 0) + (T.getD 0 0))).set (1) ((((S).set (0) ((S.getD (0) 0) + (T.getD 0 0))).getD (1) 0) + (T.getD 1 0))).getD (2) 0) + (T.getD 2 0))).set (3) ((((((S).set (0) ((S.getD (0) 0) + (T.getD 0 0))).set (1) ((((S).set (0) ((S.getD (0) 0) + (T.getD 0 0))).getD (1) 0) + (T.getD 1 0))).set (2) (((((S).set (0) ((S.getD (0) 0) + (T.getD 0 0))).set (1) ((((S).set (0) ((S.getD (0) 0) + (T.getD 0 0))).getD (1) 0) + (T.getD 1 0))).getD (2) 0) + (T.getD 2 0))).getD (3) 0) + (T.getD 3 0))).set (4) (((((((S).set (0) ((S.getD (0) 0) + (T.getD 0 0))).set (1) ((((S).set (0) ((S.getD (0) 0) + (T.getD 0 0))).getD (1) 0) + (T.getD 1 0))).set (2) (((((S).set (0) ((S.getD (0) 0) + (T.getD 0 0))).set (1) ((((S).set (0) ((S.getD (0) 0) + (T.getD 0 0))).getD (1) 0) + (T.getD 1 0))).getD (2) 0) + (T.getD 2 0))).set (3) ((((((S).set (0) ((S.getD (0) 0) + (T.getD 0 0))).set (1) ((((S).set (0) ((S.getD (0) 0) + (T.getD 0 0))).getD (1) 0) + (T.getD 1 0))).set (2) (((((S).set (0) ((S.getD (0) 0) + (T.getD 0 0))).set (1) ((((S).set (0) ((S.getD (0) 0) + (T.getD 0 0))).getD (1) 0) + (T.getD 1 0))).getD (2) 0) + (T.getD 2 0))).getD (3) 0) + (T.getD 3 0))).getD (4) 0) + (T.getD 4 0))).set (5) ((((((((S).set (0) ((S.getD (0) 0) + (T.getD 0 0))).set (1) ((((S).set (0) ((S.getD (0) 0) + (T.getD 0 0))).getD (1) 0) + (T.getD 1 0))).set (2) (((((S).set (0) ((S.getD (0) 0) + (T.getD 0 0))).set (1) ((((S).set (0) ((S.getD (0) 0) + (T.getD 0 0))).getD (1) 0) + (T.getD 1 0))).getD (2) 0) + (T.getD 2 0))).set (3) ((((((S).set (0) ((S.getD (0) 0) + (T.getD 0 0))).set (1) ((((S).set (0) ((S.getD (0) 0) + (T.getD 0 0))).getD (1) 0) + (T.getD 1 0))).set (2) (((((S).set (0) ((S.getD (0) 0) + (T.getD 0 0))).set (1) ((((S).set (0) ((S.getD (0) 0) + (T.getD 0 0))).getD (1) 0) + (T.getD 1 0))).getD (2) 0) + (T.getD 2 0))).getD (3) 0) + (T.getD 3 0))).set (4) (((((((S).set (0) ((S.getD (0) 0) + (T.getD 0 0))).set (1) ((((S).set (0) ((S.getD (0) 0) + (T.getD 0 0))).getD (1) 0) + (T.getD 1 0))).set (2) (((((S).set (0) ((S.getD (0) 0) + (T.getD 0 0))).set (1) ((((S).set (0) ((S.getD (0) 0) + (T.getD 0 0))).getD (1) 0) + (T.getD 1 0))).getD (2) 0) + (T.getD 2 0))).set (3) ((((((S).set (0) ((S.getD (0) 0) + (T.getD 0 0))).set (1) ((((S).set (0) ((S.getD (0) 0) + (T.getD 0 0))).getD (1) 0) + (T.getD 1 0))).set (2) (((((S).set (0) ((S.getD (0) 0) + (T.getD 0 0))).set (1) ((((S).set (0) ((S.getD (0) 0) + (T.getD 0 0))).getD (1) 0) + (T.getD 1 0))).getD (2) 0) + (T.getD 2 0))).getD (3) 0) + (T.getD 3 0))).getD (4) 0) + (T.getD 4 0))).getD (5) 0) + (T.getD 5 0))).getD (6) 0) + (T.getD 6 0))).getD (7) 0) + (T.getD 7 0)) = added T S := by
  match S, hS, T, hT with
  | [a, b, c, d, e, f, g, h], _, [a', b', c', d', e', f', g', h'], _ => simp [added, UInt32.add_comm]
end Sha
theorem sha9_isz41 : (Tryd.prog.info? 41).map (·.size) = some 8 := by kernel_rfl
theorem sha9_isz24 : (Tryd.prog.info? 24).map (·.size) = some 32 := by kernel_rfl
theorem sha9_al24 {d : Option Tmp} {ty : TypeId} {pos : String} {af : Array Edge} {gd : Option (Nat × Bool)} (σ : Operand → Value) (w : World) : (execOp σ ⟨d, .alloc 24, ty, pos, af, gd⟩).run Tryd.prog w = .ok (.value (.pointer (some ⟨w.heap.size, 0, none⟩))) (w.alloc (.cells (Lib.byteCells (List.replicate 32 0)).toArray 24)) := by kernel_rfl
theorem sha9_al41 {d : Option Tmp} {ty : TypeId} {pos : String} {af : Array Edge} {gd : Option (Nat × Bool)} (σ : Operand → Value) (w : World) : (execOp σ ⟨d, .alloc 41, ty, pos, af, gd⟩).run Tryd.prog w = .ok (.value (.pointer (some ⟨w.heap.size, 0, none⟩))) (w.alloc (.cells ((List.replicate 8 0).map fun x => U x).toArray 41)) := by kernel_rfl
theorem sha9_pl16 : Plain Tryd.prog 16 := fun _ _ => by kernel_rfl
theorem sha9_ty22 : Tryd.prog.underlying 22 = some (.slice 5) := by kernel_rfl
theorem sha9_al42 {d : Option Tmp} {ty : TypeId} {pos : String} {af : Array Edge} {gd : Option (Nat × Bool)} (σ : Operand → Value) (w : World) : (execOp σ ⟨d, .alloc 42, ty, pos, af, gd⟩).run Tryd.prog w = .ok (.value (.pointer (some ⟨w.heap.size, 0, none⟩))) (w.alloc (.cells ((List.replicate 64 0).map fun x => U x).toArray 42)) := by kernel_rfl
theorem sha9_sz5 : ∀ w' : World, (sizeOf 5).run Tryd.prog w' = .ok 1 w' := fun _ => by kernel_rfl
theorem sha9_ty5 : Tryd.prog.underlying 5 = some (.int .u8) := by kernel_rfl
theorem sha9_ty40 : Tryd.prog.underlying 40 = some (.int .u32) := by kernel_rfl
theorem sha9_ty42 : Tryd.prog.underlying 42 = some (.array 64 40) := by kernel_rfl
theorem sha9_sz40 : ∀ w' : World, (sizeOf 40).run Tryd.prog w' = .ok 1 w' := fun _ => by kernel_rfl
theorem sha9_isz40 : (Tryd.prog.info? 40).map (·.size) = some 1 := by kernel_rfl
theorem sha9_pl17 : Plain Tryd.prog 17 := fun _ _ => by kernel_rfl
theorem sha9_ty41 : Tryd.prog.underlying 41 = some (.array 8 40) := by kernel_rfl
theorem sha9_pl18 : Plain Tryd.prog 18 := fun _ _ => by kernel_rfl
theorem sha9_ty24 : Tryd.prog.underlying 24 = some (.array 32 5) := by kernel_rfl
theorem sha9_isz5 : (Tryd.prog.info? 5).map (·.size) = some 1 := by kernel_rfl
set_option maxRecDepth 4000 in
set_option maxHeartbeats 1000000 in
theorem refSum_any (w : World) (v : Value) (l : List UInt8) (hr : RB w v l) (hl : l.length ≤ 70368744177664) :
    Calls Tryd.prog 10 #[v] w fun e w' => e = .returned (.agg (Lib.byteCells (Sha.sum l)).toArray) ∧ Ext w w' := by
  refine calls_of_wpF (args := [v]) Tryd.func10 rfl 275 rfl (Nat.le_of_ble_eq_true rfl) ?_
  intro ρ0 hb
  have T0 : ρ0 0 = (v : Value) := hb.get 0
  clear hb
  have hE := Ext.refl w
  refine wpF_seq_k fun K1 hK1 => ?_
  refine wpF_text ?_
  refine opsF_step rfl (YieldsK.alloc (cs := (Lib.byteCells (List.replicate 32 0)).toArray) sha9_al24 fun n2 w3 hn4 hb5 hx6 hs7 => ?_)    -- ref.go:30 t2 := (Op.alloc 24)
  have hE : Ext w w3 := (hE.trans hx6)
  have hb8 := hb5; clear hb5
  have hl9 : n2 < w3.heap.size := by omega
  refine opsF_end (fun ρ => ρ 0 = (v : Value) ∧ ρ 2 = (.pointer (some ⟨n2, 0, none⟩) : Value) ∧ True) ⟨T0, rfl, trivial⟩ fun ρ10 ⟨T0, T2, _⟩ => ?_
  refine thenF_normal (hK1 _ _ ?_)
  refine wpF_seq_k fun K11 hK11 => ?_
  refine wpF_text ?_
  refine opsF_step rfl (YieldsK.run (v := .agg (Sha.first.map fun x => U x).toArray) (by kernel_rfl) ?_)    -- ref.go:31 t23 := (Op.build 41 #[(0, (Operand.const (Value.int IntKind.u32 1779033703))), (1, (Operand.const (Value.int IntKind.
  refine opsF_step rfl (YieldsK.alloc (cs := ((List.replicate 8 0).map fun x => U x).toArray) sha9_al41 fun n12 w13 hn14 hb15 hx16 hs17 => ?_)    -- ref.go:31 t3 := (Op.alloc 41)
  have hA18 := Ext.refl w3
  have hea19 := hE
  have hz20 : w.heap.size ≤ w3.heap.size := hE.size
  have hlt21 : n2 < n12 := by have := (Array.getElem?_eq_some_iff.1 hb8).1; omega
  have hE : Ext w w13 := (hE.trans hx16)
  have hb8 : w13.heap[n2]? = some (.cells (Lib.byteCells (List.replicate 32 0)).toArray 24 (0, 0)) := (Ext.blk' hx16 hb8)
  have hA18 : Ext w3 w13 := (hA18.trans hx16)
  have hb22 := hb15; clear hb15
  have hl23 : n12 < w13.heap.size := by omega
  refine opsF_step rfl (YieldsK.storeAll (show _ = (.pointer (some ⟨n12, 0, none⟩) : Value) from rfl) (show _ = (.agg (Sha.first.map fun x => U x).toArray : Value) from rfl) hb22 (rfl) (sha9_isz41) (cellsU_one _) fun w24 hb25 hg26 hs27 => ?_)    -- ref.go:31 tNone := (Op.store 41 (Operand.tmp 3) (Operand.tmp 23))
  have hE : Ext w w24 := row_fresh hE hg26 (Nat.le_trans hz20 (by omega))
  have hb8 : w24.heap[n2]? = some (.cells (Lib.byteCells (List.replicate 32 0)).toArray 24 (0, 0)) := (hg26.block _ (Array.getElem?_eq_some_iff.1 hb8).1 (by simp; omega)).trans hb8
  have hA18 : Ext w3 w24 := row_fresh hA18 hg26 (Nat.le_trans (Nat.le_refl _) (by omega))
  clear hb22
  have hb22 := hb25; clear hb25
  have hl28 : n12 < w24.heap.size := (Array.getElem?_eq_some_iff.1 hb22).1
  refine opsF_end (fun ρ => ρ 0 = (v : Value) ∧ ρ 2 = (.pointer (some ⟨n2, 0, none⟩) : Value) ∧ ρ 3 = (.pointer (some ⟨n12, 0, none⟩) : Value) ∧ True) ⟨T0, T2, rfl, trivial⟩ fun ρ29 ⟨T0, T2, T3, _⟩ => ?_
  refine thenF_normal (hK11 _ _ ?_)
  refine wpF_seq_k fun K30 hK30 => ?_
  refine wpF_text ?_
  refine opsF_step rfl (YieldsK.move (show _ = (v : Value) from T0) ?_)    -- ref.go:32 t24 := (Op.move (Operand.tmp 0))
  refine opsF_step rfl (YieldsK.callA1 sha9_pl16 (show _ = (v : Value) from rfl) ?_)    -- ref.go:32 t25 := (Op.call { callee := (Callee.value (Operand.func 16)), args := #[(Operand.tmp 24)], argTypes := #[22] })
  refine (padded_any _ v l (hr.keep hE) (by omega)).mono ?_
  rintro e w33 ⟨v31, rfl, hN32⟩
  refine ⟨_, rfl, ?_⟩
  have hA34 := Ext.refl w24
  have hea35 := hE
  have hea36 := hA18
  have hz37 : w.heap.size ≤ w24.heap.size := hE.size
  have hz38 : w3.heap.size ≤ w24.heap.size := hA18.size
  have hap39 : Value.ownBlock v31 ≠ some n2 := own_older hN32.own (Array.getElem?_eq_some_iff.1 hb8).1
  have hap40 : Value.ownBlock v31 ≠ some n12 := own_older hN32.own (Array.getElem?_eq_some_iff.1 hb22).1
  have hE : Ext w w33 := (hE.trans hN32.ext)
  have hb8 : w33.heap[n2]? = some (.cells (Lib.byteCells (List.replicate 32 0)).toArray 24 (0, 0)) := (Ext.blk' hN32.ext hb8)
  have hA18 : Ext w3 w33 := (hA18.trans hN32.ext)
  have hb22 : w33.heap[n12]? = some (.cells (Sha.first.map fun x => U x).toArray 41 (0, 0)) := (Ext.blk' hN32.ext hb22)
  have hA34 : Ext w24 w33 := (hA34.trans hN32.ext)
  have ho41 := hN32.own; clear hN32
  refine opsF_step rfl (YieldsK.assign (show _ = (v31 : Value) from rfl) ?_)    -- ref.go:32 t4 := (Op.assign (Operand.tmp 25))
  refine opsF_end (fun ρ => ρ 0 = (v : Value) ∧ ρ 2 = (.pointer (some ⟨n2, 0, none⟩) : Value) ∧ ρ 3 = (.pointer (some ⟨n12, 0, none⟩) : Value) ∧ ρ 4 = (v31 : Value) ∧ True) ⟨T0, T2, T3, rfl, trivial⟩ fun ρ42 ⟨T0, T2, T3, T4, _⟩ => ?_
  obtain ⟨P, hP⟩ : ∃ P, P = l ++ Sha.tail l.length := ⟨_, rfl⟩
  have ho41 : w33.ownsRow w24.heap.size 5 1 v31 (P : List UInt8).length (Lib.byteCells (P)) := (hP.symm : l ++ Sha.tail l.length = P) ▸ ho41
  have hPl : P.length = l.length + (Sha.tail l.length).length := by rw [hP, List.length_append]
  obtain ⟨K, hK⟩ : ∃ K, P.length = 64 * K := ⟨P.length / 64, by rw [hPl, Sha.tail_length]; omega⟩
  have hPb : P.length < 72057594037927936 := by rw [hPl, Sha.tail_length]; omega
  refine thenF_normal (hK30 _ _ ?_)
  refine wpF_seq_k fun K43 hK43 => ?_
  refine wpF_seq_k fun K44 hK44 => ?_
  refine wpF_text ?_
  refine opsF_step rfl (YieldsK.assign (show _ = (.int .i64 ((0 : Nat) : Int) : Value) from rfl) ?_)    -- ref.go:33 t5 := (Op.assign (Operand.const (Value.int IntKind.i64 0)))
  refine opsF_end (fun ρ => ρ 0 = (v : Value) ∧ ρ 2 = (.pointer (some ⟨n2, 0, none⟩) : Value) ∧ ρ 3 = (.pointer (some ⟨n12, 0, none⟩) : Value) ∧ ρ 4 = (v31 : Value) ∧ ρ 5 = (.int .i64 ((0 : Nat) : Int) : Value) ∧ True) ⟨T0, T2, T3, T4, rfl, trivial⟩ fun ρ45 ⟨T0, T2, T3, T4, T5, _⟩ => ?_
  refine thenF_normal (hK44 _ _ ?_)
  refine wpF_block ?_
  refine wpF_loop (fun (ρ : Slots) (wz : World) => ∃ j : Nat, ρ 0 = (v : Value) ∧ ρ 2 = (.pointer (some ⟨n2, 0, none⟩) : Value) ∧ ρ 3 = (.pointer (some ⟨n12, 0, none⟩) : Value) ∧ ρ 4 = (v31 : Value) ∧ ρ 5 = (.int .i64 ((64 * j : Nat) : Int) : Value) ∧ Ext w wz ∧ wz.heap[n2]? = some (.cells (Lib.byteCells (List.replicate 32 0)).toArray 24 (0, 0)) ∧ Ext w3 wz ∧ wz.ownsRow w24.heap.size 5 1 v31 (P : List UInt8).length (Lib.byteCells (P)) ∧ wz.heap[n12]? = some (.cells ((Sha.blocks Sha.first P j).map fun x => U x).toArray 41 (0, 0)) ∧ (j ≤ K) ∧ True) (fun ρ _ => P.length - (intOf (ρ 5)).toNat) ⟨0, T0, T2, T3, T4, T5, hE, hb8, hA18, ho41, blk_eq hb22 (rfl), Nat.zero_le _, trivial⟩ ?_
  clear hb22
  clear hA34
  clear hE hb8 hA18 ho41
  rintro ρ46 w47 ⟨j, T0, T2, T3, T4, T5, hE, hb8, hA18, ho41, hb22l, hj, -⟩
  have q5 := T5
  refine wpF_seq_k fun K48 hK48 => ?_
  refine wpF_seq_k fun K49 hK49 => ?_
  refine wpF_text ?_
  refine opsF_step rfl (YieldsK.move (show _ = (.int .i64 ((64 * j : Nat) : Int) : Value) from T5) ?_)    -- ref.go:33 t26 := (Op.move (Operand.tmp 5))
  refine opsF_step rfl (YieldsK.move (show _ = (v31 : Value) from T4) ?_)    -- ref.go:33 t27 := (Op.move (Operand.tmp 4))
  refine opsF_step rfl (YieldsK.lenRB sha9_ty22 (RB.of (RB.ofOwn ho41) (show _ = (v31 : Value) from rfl)) ?_)    -- ref.go:33 t28 := (Op.call { callee := (Callee.builtin Builtin.len), args := #[(Operand.tmp 27)], argTypes := #[22] })
  refine opsF_step rfl (YieldsK.eqI (a := ((64 * j : Nat) : Int)) (b := ((P.length : Nat) : Int)) (show _ = (.int .i64 ((64 * j : Nat) : Int) : Value) from rfl) (show _ = (.int .i64 ((P.length : Nat) : Int) : Value) from rfl) (k_lss _ .i64 (64 * j) (P.length)) ?_)    -- ref.go:33 t29 := (Op.binOp BinOp.lss 3 (Operand.tmp 26) (Operand.tmp 28) 3)
  refine opsF_end (fun ρ => ρ 0 = (v : Value) ∧ ρ 2 = (.pointer (some ⟨n2, 0, none⟩) : Value) ∧ ρ 3 = (.pointer (some ⟨n12, 0, none⟩) : Value) ∧ ρ 4 = (v31 : Value) ∧ ρ 5 = (.int .i64 ((64 * j : Nat) : Int) : Value) ∧ ρ 29 = (.bool (decide ((64 * j) < (P.length))) : Value) ∧ True) ⟨T0, T2, T3, T4, T5, rfl, trivial⟩ fun ρ50 ⟨T0, T2, T3, T4, T5, T29, _⟩ => ?_
  refine thenF_normal (hK49 _ _ ?_)
  refine wpF_cond ((64 * j) < (P.length)) (show _ = (.bool (decide ((64 * j) < (P.length))) : Value) from T29) (fun hc0 => ?_) (fun hc0 => ?_)
  · obtain ⟨Sj, hSj⟩ : ∃ Sj, Sj = Sha.blocks Sha.first P j := ⟨_, rfl⟩
    have hb22l : w47.heap[n12]? = some (.cells (Sj.map fun x => U x).toArray 41 (0, 0)) := blk_eq hb22l (by rw [hSj])
    have hSl : Sj.length = 8 := by rw [hSj, Sha.blocks_length _ _ _ rfl]
    obtain ⟨B, hB⟩ : ∃ B, B = (P.drop (64 * j)).take 64 := ⟨_, rfl⟩
    have hBget : ∀ i, i < 64 → B.getD i 0 = P.getD (64 * j + i) 0 := fun i hi => by rw [hB]; simp [hi]
    refine wpF_skip ?_
    refine thenF_normal (hK48 _ _ ?_)
    refine wpF_seq_k fun K51 hK51 => ?_
    refine wpF_block ?_
    refine wpF_seq_k fun K52 hK52 => ?_
    refine wpF_text ?_
    refine opsF_step rfl (YieldsK.alloc (cs := ((List.replicate 64 0).map fun x => U x).toArray) sha9_al42 fun n53 w54 hn55 hb56 hx57 hs58 => ?_)    -- ref.go:34 t6 := (Op.alloc 42)
    have hA59 := Ext.refl w47
    have hea60 := hE
    have hea61 := hA18
    have hz62 : w.heap.size ≤ w47.heap.size := hE.size
    have hz63 : w3.heap.size ≤ w47.heap.size := hA18.size
    have hlt64 : n2 < n53 := by have := (Array.getElem?_eq_some_iff.1 hb8).1; omega
    have hlt65 : n12 < n53 := by have := (Array.getElem?_eq_some_iff.1 hb22l).1; omega
    have hap66 : Value.ownBlock v31 ≠ some n53 := own_newer ho41 (by omega)
    have hE : Ext w w54 := (hE.trans hx57)
    have hb8 : w54.heap[n2]? = some (.cells (Lib.byteCells (List.replicate 32 0)).toArray 24 (0, 0)) := (Ext.blk' hx57 hb8)
    have hA18 : Ext w3 w54 := (hA18.trans hx57)
    have ho41 : w54.ownsRow w24.heap.size 5 1 v31 (P : List UInt8).length (Lib.byteCells (P)) := (Stab.own _ _ _ _ _ _ _ _ ho41 hx57)
    have hb22l : w54.heap[n12]? = some (.cells (Sj.map fun x => U x).toArray 41 (0, 0)) := (Ext.blk' hx57 hb22l)
    have hA59 : Ext w47 w54 := (hA59.trans hx57)
    have hb67 := hb56; clear hb56
    have hl68 : n53 < w54.heap.size := by omega
    refine opsF_end (fun ρ => ρ 0 = (v : Value) ∧ ρ 2 = (.pointer (some ⟨n2, 0, none⟩) : Value) ∧ ρ 3 = (.pointer (some ⟨n12, 0, none⟩) : Value) ∧ ρ 4 = (v31 : Value) ∧ ρ 5 = (.int .i64 ((64 * j : Nat) : Int) : Value) ∧ ρ 6 = (.pointer (some ⟨n53, 0, none⟩) : Value) ∧ True) ⟨T0, T2, T3, T4, T5, rfl, trivial⟩ fun ρ69 ⟨T0, T2, T3, T4, T5, T6, _⟩ => ?_
    refine thenF_normal (hK52 _ _ ?_)
    refine wpF_seq_k fun K70 hK70 => ?_
    refine wpF_seq_k fun K71 hK71 => ?_
    refine wpF_text ?_
    refine opsF_step rfl (YieldsK.assign (show _ = (.int .i64 ((0 : Nat) : Int) : Value) from rfl) ?_)    -- ref.go:35 t7 := (Op.assign (Operand.const (Value.int IntKind.i64 0)))
    refine opsF_end (fun ρ => ρ 0 = (v : Value) ∧ ρ 2 = (.pointer (some ⟨n2, 0, none⟩) : Value) ∧ ρ 3 = (.pointer (some ⟨n12, 0, none⟩) : Value) ∧ ρ 4 = (v31 : Value) ∧ ρ 5 = (.int .i64 ((64 * j : Nat) : Int) : Value) ∧ ρ 6 = (.pointer (some ⟨n53, 0, none⟩) : Value) ∧ ρ 7 = (.int .i64 ((0 : Nat) : Int) : Value) ∧ True) ⟨T0, T2, T3, T4, T5, T6, rfl, trivial⟩ fun ρ72 ⟨T0, T2, T3, T4, T5, T6, T7, _⟩ => ?_
    refine thenF_normal (hK71 _ _ ?_)
    refine wpF_block ?_
    refine wpF_loop (fun (ρ : Slots) (wz : World) => ∃ t : Nat, ρ 0 = (v : Value) ∧ ρ 2 = (.pointer (some ⟨n2, 0, none⟩) : Value) ∧ ρ 3 = (.pointer (some ⟨n12, 0, none⟩) : Value) ∧ ρ 4 = (v31 : Value) ∧ ρ 5 = (.int .i64 ((64 * j : Nat) : Int) : Value) ∧ ρ 6 = (.pointer (some ⟨n53, 0, none⟩) : Value) ∧ ρ 7 = (.int .i64 ((t : Nat) : Int) : Value) ∧ Ext w wz ∧ wz.heap[n2]? = some (.cells (Lib.byteCells (List.replicate 32 0)).toArray 24 (0, 0)) ∧ Ext w3 wz ∧ wz.ownsRow w24.heap.size 5 1 v31 (P : List UInt8).length (Lib.byteCells (P)) ∧ wz.heap[n12]? = some (.cells (Sj.map fun x => U x).toArray 41 (0, 0)) ∧ Ext w47 wz ∧ wz.heap[n53]? = some (.cells ((Sha.pad64 (Sha.sched B t)).map fun x => U x).toArray 42 (0, 0)) ∧ (t ≤ 64) ∧ True) (fun ρ _ => 64 - (intOf (ρ 7)).toNat) ⟨0, T0, T2, T3, T4, T5, T6, T7, hE, hb8, hA18, ho41, hb22l, hA59, blk_eq hb67 (rfl), Nat.zero_le _, trivial⟩ ?_
    clear hb67
    clear hE hb8 hA18 ho41 hb22l hA59
    rintro ρ73 w74 ⟨t, T0, T2, T3, T4, T5, T6, T7, hE, hb8, hA18, ho41, hb22l, hA59, hb67l, ht, -⟩
    have q7 := T7
    have hpl : (Sha.pad64 (Sha.sched B t)).length = 64 := Sha.pad64_length _ (by rw [Sha.sched_length]; exact ht)
    refine wpF_seq_k fun K75 hK75 => ?_
    refine wpF_seq_k fun K76 hK76 => ?_
    refine wpF_text ?_
    refine opsF_step rfl (YieldsK.move (show _ = (.int .i64 ((t : Nat) : Int) : Value) from T7) ?_)    -- ref.go:35 t32 := (Op.move (Operand.tmp 7))
    refine opsF_step rfl (YieldsK.eqI (a := ((t : Nat) : Int)) (b := ((64 : Nat) : Int)) (show _ = (.int .i64 ((t : Nat) : Int) : Value) from rfl) (show _ = (.int .i64 ((64 : Nat) : Int) : Value) from rfl) (k_lss _ .i64 (t) (64)) ?_)    -- ref.go:35 t33 := (Op.binOp BinOp.lss 3 (Operand.tmp 32) (Operand.const (Value.int IntKind.i64 64)) 3)
    refine opsF_end (fun ρ => ρ 0 = (v : Value) ∧ ρ 2 = (.pointer (some ⟨n2, 0, none⟩) : Value) ∧ ρ 3 = (.pointer (some ⟨n12, 0, none⟩) : Value) ∧ ρ 4 = (v31 : Value) ∧ ρ 5 = (.int .i64 ((64 * j : Nat) : Int) : Value) ∧ ρ 6 = (.pointer (some ⟨n53, 0, none⟩) : Value) ∧ ρ 7 = (.int .i64 ((t : Nat) : Int) : Value) ∧ ρ 33 = (.bool (decide ((t) < (64))) : Value) ∧ True) ⟨T0, T2, T3, T4, T5, T6, T7, rfl, trivial⟩ fun ρ77 ⟨T0, T2, T3, T4, T5, T6, T7, T33, _⟩ => ?_
    refine thenF_normal (hK76 _ _ ?_)
    refine wpF_cond ((t) < (64)) (show _ = (.bool (decide ((t) < (64))) : Value) from T33) (fun hc1 => ?_) (fun hc1 => ?_)
    · refine wpF_skip ?_
      refine thenF_normal (hK75 _ _ ?_)
      refine wpF_seq_k fun K78 hK78 => ?_
      refine wpF_block ?_
      refine wpF_seq_k fun K79 hK79 => ?_
      refine wpF_text ?_
      refine opsF_step rfl (YieldsK.move (show _ = (.int .i64 ((t : Nat) : Int) : Value) from T7) ?_)    -- ref.go:36 t36 := (Op.move (Operand.tmp 7))
      refine opsF_step rfl (YieldsK.eqI (a := ((t : Nat) : Int)) (b := ((16 : Nat) : Int)) (show _ = (.int .i64 ((t : Nat) : Int) : Value) from rfl) (show _ = (.int .i64 ((16 : Nat) : Int) : Value) from rfl) (k_lss _ .i64 (t) (16)) ?_)    -- ref.go:36 t37 := (Op.binOp BinOp.lss 3 (Operand.tmp 36) (Operand.const (Value.int IntKind.i64 16)) 3)
      refine opsF_end (fun ρ => ρ 0 = (v : Value) ∧ ρ 2 = (.pointer (some ⟨n2, 0, none⟩) : Value) ∧ ρ 3 = (.pointer (some ⟨n12, 0, none⟩) : Value) ∧ ρ 4 = (v31 : Value) ∧ ρ 5 = (.int .i64 ((64 * j : Nat) : Int) : Value) ∧ ρ 6 = (.pointer (some ⟨n53, 0, none⟩) : Value) ∧ ρ 7 = (.int .i64 ((t : Nat) : Int) : Value) ∧ ρ 37 = (.bool (decide ((t) < (16))) : Value) ∧ True) ⟨T0, T2, T3, T4, T5, T6, T7, rfl, trivial⟩ fun ρ80 ⟨T0, T2, T3, T4, T5, T6, T7, T37, _⟩ => ?_
      refine thenF_normal (hK79 _ _ ?_)
      refine wpF_cond ((t) < (16)) (show _ = (.bool (decide ((t) < (16))) : Value) from T37) (fun hc2 => ?_) (fun hc2 => ?_)
      · refine wpF_draw_storeK 43 [6, 16, 27, 38] (fun (a b : World) => b.heap[n53]? = some (.cells (((Sha.pad64 (Sha.sched B t)).set (t) ((((((P.getD ((64 * j) + ((4) * (t))) 0).toUInt32) <<< 24) ||| (((P.getD (((64 * j) + ((4) * (t))) + (1)) 0).toUInt32) <<< 16)) ||| (((P.getD (((64 * j) + ((4) * (t))) + (2)) 0).toUInt32) <<< 8)) ||| ((P.getD (((64 * j) + ((4) * (t))) + (3)) 0).toUInt32))).map fun x => U x).toArray 42 (0, 0)) ∧ a.grownBy b (some n53) ∧ b.heap.size = a.heap.size) [Is (.int .i64 ((t : Nat) : Int)), Is (v31), Is (.int .i64 ((64 * j : Nat) : Int)), Is (.int .i64 ((t : Nat) : Int)), Is (.int .i64 (((4) * (t) : Nat) : Int)), Is (.int .i64 (((64 * j) + ((4) * (t)) : Nat) : Int)), PCell (B8 (P.getD ((64 * j) + ((4) * (t))) 0)), Is (B8 (P.getD ((64 * j) + ((4) * (t))) 0)), Is (U ((P.getD ((64 * j) + ((4) * (t))) 0).toUInt32)), Is (U (((P.getD ((64 * j) + ((4) * (t))) 0).toUInt32) <<< 24)), Is (v31), Is (.int .i64 ((64 * j : Nat) : Int)), Is (.int .i64 ((t : Nat) : Int)), Is (.int .i64 (((4) * (t) : Nat) : Int)), Is (.int .i64 (((64 * j) + ((4) * (t)) : Nat) : Int)), Is (.int .i64 ((((64 * j) + ((4) * (t))) + (1) : Nat) : Int)), PCell (B8 (P.getD (((64 * j) + ((4) * (t))) + (1)) 0)), Is (B8 (P.getD (((64 * j) + ((4) * (t))) + (1)) 0)), Is (U ((P.getD (((64 * j) + ((4) * (t))) + (1)) 0).toUInt32)), Is (U (((P.getD (((64 * j) + ((4) * (t))) + (1)) 0).toUInt32) <<< 16)), Is (U ((((P.getD ((64 * j) + ((4) * (t))) 0).toUInt32) <<< 24) ||| (((P.getD (((64 * j) + ((4) * (t))) + (1)) 0).toUInt32) <<< 16))), Is (v31), Is (.int .i64 ((64 * j : Nat) : Int)), Is (.int .i64 ((t : Nat) : Int)), Is (.int .i64 (((4) * (t) : Nat) : Int)), Is (.int .i64 (((64 * j) + ((4) * (t)) : Nat) : Int)), Is (.int .i64 ((((64 * j) + ((4) * (t))) + (2) : Nat) : Int)), PCell (B8 (P.getD (((64 * j) + ((4) * (t))) + (2)) 0)), Is (B8 (P.getD (((64 * j) + ((4) * (t))) + (2)) 0)), Is (U ((P.getD (((64 * j) + ((4) * (t))) + (2)) 0).toUInt32)), Is (U (((P.getD (((64 * j) + ((4) * (t))) + (2)) 0).toUInt32) <<< 8)), Is (U (((((P.getD ((64 * j) + ((4) * (t))) 0).toUInt32) <<< 24) ||| (((P.getD (((64 * j) + ((4) * (t))) + (1)) 0).toUInt32) <<< 16)) ||| (((P.getD (((64 * j) + ((4) * (t))) + (2)) 0).toUInt32) <<< 8))), Is (v31), Is (.int .i64 ((64 * j : Nat) : Int)), Is (.int .i64 ((t : Nat) : Int)), Is (.int .i64 (((4) * (t) : Nat) : Int)), Is (.int .i64 (((64 * j) + ((4) * (t)) : Nat) : Int)), Is (.int .i64 ((((64 * j) + ((4) * (t))) + (3) : Nat) : Int)), PCell (B8 (P.getD (((64 * j) + ((4) * (t))) + (3)) 0)), Is (B8 (P.getD (((64 * j) + ((4) * (t))) + (3)) 0)), Is (U ((P.getD (((64 * j) + ((4) * (t))) + (3)) 0).toUInt32)), Is (U ((((((P.getD ((64 * j) + ((4) * (t))) 0).toUInt32) <<< 24) ||| (((P.getD (((64 * j) + ((4) * (t))) + (1)) 0).toUInt32) <<< 16)) ||| (((P.getD (((64 * j) + ((4) * (t))) + (2)) 0).toUInt32) <<< 8)) ||| ((P.getD (((64 * j) + ((4) * (t))) + (3)) 0).toUInt32))), Is (.pointer (some ⟨n53, t, none⟩)), (fun _ _ => True)] (by kernel_rfl) [38, 39, 40, 41, 42, 43, 44, 45, 46, 47, 48, 49, 50, 51, 52, 53, 54, 55, 56, 57, 58, 59, 60, 61, 62, 63, 64, 65, 66, 67, 68, 69, 70, 71, 72, 73, 74, 75, 76, 77, 78, 79, 80] (by kernel_rfl) (by kernel_rfl) (by kernel_rfl) (by kernel_rfl) rfl ⟨Stab.is _, Stab.is _, Stab.is _, Stab.is _, Stab.is _, Stab.is _, Stab.pcell _, Stab.is _, Stab.is _, Stab.is _, Stab.is _, Stab.is _, Stab.is _, Stab.is _, Stab.is _, Stab.is _, Stab.pcell _, Stab.is _, Stab.is _, Stab.is _, Stab.is _, Stab.is _, Stab.is _, Stab.is _, Stab.is _, Stab.is _, Stab.is _, Stab.pcell _, Stab.is _, Stab.is _, Stab.is _, Stab.is _, Stab.is _, Stab.is _, Stab.is _, Stab.is _, Stab.is _, Stab.is _, Stab.pcell _, Stab.is _, Stab.is _, Stab.is _, Stab.is _, Stab.any, trivial⟩ ⟨.inr (Stab.is _), .inr (Stab.is _), .inr (Stab.is _), .inr (Stab.is _), .inr (Stab.is _), .inr (Stab.is _), .inl rfl, .inr (Stab.is _), .inr (Stab.is _), .inr (Stab.is _), .inr (Stab.is _), .inr (Stab.is _), .inr (Stab.is _), .inr (Stab.is _), .inr (Stab.is _), .inr (Stab.is _), .inl rfl, .inr (Stab.is _), .inr (Stab.is _), .inr (Stab.is _), .inr (Stab.is _), .inr (Stab.is _), .inr (Stab.is _), .inr (Stab.is _), .inr (Stab.is _), .inr (Stab.is _), .inr (Stab.is _), .inl rfl, .inr (Stab.is _), .inr (Stab.is _), .inr (Stab.is _), .inr (Stab.is _), .inr (Stab.is _), .inr (Stab.is _), .inr (Stab.is _), .inr (Stab.is _), .inr (Stab.is _), .inr (Stab.is _), .inl rfl, .inr (Stab.is _), .inr (Stab.is _), .inr (Stab.is _), .inr (Stab.is _), .inr (Stab.any), trivial⟩ ?hs11 ?hQ11
        case hs11 =>
          refine ⟨?_, ?_, ?_, ?_, ?_, ?_, ?_, ?_, ?_, ?_, ?_, ?_, ?_, ?_, ?_, ?_, ?_, ?_, ?_, ?_, ?_, ?_, ?_, ?_, ?_, ?_, ?_, ?_, ?_, ?_, ?_, ?_, ?_, ?_, ?_, ?_, ?_, ?_, ?_, ?_, ?_, ?_, ?_, ?_, trivial⟩
          · refine stepN rfl fun σ w1 hC h => ?_    -- t38 := (Op.move (Operand.tmp 7))
            have e7 : σ 7 = .int .i64 ((t : Nat) : Int) := (show _ = _ from h 7 (by decide)).trans T7
            have hC : Ext _ w1 := hC
            exact YieldsK.move e7 ⟨Ext.refl _, rfl⟩
          · refine stepN rfl fun σ w1 hC h => ?_    -- t39 := (Op.move (Operand.tmp 4))
            have e4 : σ 4 = v31 := (show _ = _ from h 4 (by decide)).trans T4
            have hC : Ext _ w1 := hC
            exact YieldsK.move e4 ⟨Ext.refl _, rfl⟩
          · refine stepN rfl fun σ w1 hC h => ?_    -- t40 := (Op.move (Operand.tmp 5))
            have e5 : σ 5 = .int .i64 ((64 * j : Nat) : Int) := (show _ = _ from h 5 (by decide)).trans T5
            have hC : Ext _ w1 := hC
            exact YieldsK.move e5 ⟨Ext.refl _, rfl⟩
          · refine stepN rfl fun σ w1 hC h => ?_    -- t41 := (Op.move (Operand.tmp 7))
            have e7 : σ 7 = .int .i64 ((t : Nat) : Int) := (show _ = _ from h 7 (by decide)).trans T7
            have hC : Ext _ w1 := hC
            exact YieldsK.move e7 ⟨Ext.refl _, rfl⟩
          · refine stepN rfl fun σ w1 hC h => ?_    -- t42 := (Op.binOp BinOp.mul 3 (Operand.const (Value.int IntKind.i64 4)) (Operand.tmp 41) 3)
            have e41 : σ 41 = .int .i64 ((t : Nat) : Int) := h 41 (by decide)
            have hC : Ext _ w1 := hC
            exact YieldsK.bin (xv := .int .i64 ((4 : Nat) : Int)) (yv := .int .i64 ((t : Nat) : Int)) (show _ = (.int .i64 ((4 : Nat) : Int) : Value) from rfl) e41 rfl (i64_mul _ (4) (t) (by omega)) ⟨Ext.refl _, rfl⟩
          · refine stepN rfl fun σ w1 hC h => ?_    -- t43 := (Op.binOp BinOp.add 3 (Operand.tmp 40) (Operand.tmp 42) 3)
            have e40 : σ 40 = .int .i64 ((64 * j : Nat) : Int) := h 40 (by decide)
            have e42 : σ 42 = .int .i64 (((4) * (t) : Nat) : Int) := h 42 (by decide)
            have hC : Ext _ w1 := hC
            exact YieldsK.bin (xv := .int .i64 ((64 * j : Nat) : Int)) (yv := .int .i64 (((4) * (t) : Nat) : Int)) e40 e42 rfl (i64_add _ (64 * j) ((4) * (t)) (by omega)) ⟨Ext.refl _, rfl⟩
          · refine stepN rfl fun σ w1 hC h => ?_    -- t44 := (Op.indexAddr 22 (Operand.tmp 39) (Operand.tmp 43))
            have e39 : σ 39 = v31 := h 39 (by decide)
            have e43 : σ 43 = .int .i64 (((64 * j) + ((4) * (t)) : Nat) : Int) := h 43 (by decide)
            have hC : Ext _ w1 := hC
            exact YieldsK.atRB (l := P) (i := (64 * j) + ((4) * (t))) sha9_ty22 sha9_sz5 (RB.of (RB.ofOwn (Stab.own _ _ _ _ _ _ _ _ ho41 hC)) e39) e43 (by omega) fun _ h => ⟨Ext.refl _, h⟩
          · refine stepN rfl fun σ w1 hC h => ?_    -- t45 := (Op.load 5 (Operand.tmp 44))
            have e44 : (PCell (B8 (P.getD ((64 * j) + ((4) * (t))) 0))) (σ 44) w1 := h 44 (by decide)
            have hC : Ext _ w1 := hC
            exact YieldsK.loadC sha9_ty5 rfl e44 ⟨Ext.refl _, rfl⟩
          · refine stepN rfl fun σ w1 hC h => ?_    -- t46 := (Op.convert 5 40 (Operand.tmp 45))
            have e45 : σ 45 = B8 (P.getD ((64 * j) + ((4) * (t))) 0) := h 45 (by decide)
            have hC : Ext _ w1 := hC
            exact YieldsK.wide sha9_ty5 sha9_ty40 e45 ⟨Ext.refl _, rfl⟩
          · refine stepN rfl fun σ w1 hC h => ?_    -- t47 := (Op.binOp BinOp.shl 40 (Operand.tmp 46) (Operand.const (Value.int IntKind.u64 24)) 43)
            have e46 : σ 46 = U ((P.getD ((64 * j) + ((4) * (t))) 0).toUInt32) := h 46 (by decide)
            have hC : Ext _ w1 := hC
            exact YieldsK.bin e46 (show _ = (.int .u64 ((24 : Nat) : Int) : Value) from rfl) rfl (u_shl _ _ _ 24 (by decide)) ⟨Ext.refl _, rfl⟩
          · refine stepN rfl fun σ w1 hC h => ?_    -- t48 := (Op.move (Operand.tmp 4))
            have e4 : σ 4 = v31 := (show _ = _ from h 4 (by decide)).trans T4
            have hC : Ext _ w1 := hC
            exact YieldsK.move e4 ⟨Ext.refl _, rfl⟩
          · refine stepN rfl fun σ w1 hC h => ?_    -- t49 := (Op.move (Operand.tmp 5))
            have e5 : σ 5 = .int .i64 ((64 * j : Nat) : Int) := (show _ = _ from h 5 (by decide)).trans T5
            have hC : Ext _ w1 := hC
            exact YieldsK.move e5 ⟨Ext.refl _, rfl⟩
          · refine stepN rfl fun σ w1 hC h => ?_    -- t50 := (Op.move (Operand.tmp 7))
            have e7 : σ 7 = .int .i64 ((t : Nat) : Int) := (show _ = _ from h 7 (by decide)).trans T7
            have hC : Ext _ w1 := hC
            exact YieldsK.move e7 ⟨Ext.refl _, rfl⟩
          · refine stepN rfl fun σ w1 hC h => ?_    -- t51 := (Op.binOp BinOp.mul 3 (Operand.const (Value.int IntKind.i64 4)) (Operand.tmp 50) 3)
            have e50 : σ 50 = .int .i64 ((t : Nat) : Int) := h 50 (by decide)
            have hC : Ext _ w1 := hC
            exact YieldsK.bin (xv := .int .i64 ((4 : Nat) : Int)) (yv := .int .i64 ((t : Nat) : Int)) (show _ = (.int .i64 ((4 : Nat) : Int) : Value) from rfl) e50 rfl (i64_mul _ (4) (t) (by omega)) ⟨Ext.refl _, rfl⟩
          · refine stepN rfl fun σ w1 hC h => ?_    -- t52 := (Op.binOp BinOp.add 3 (Operand.tmp 49) (Operand.tmp 51) 3)
            have e49 : σ 49 = .int .i64 ((64 * j : Nat) : Int) := h 49 (by decide)
            have e51 : σ 51 = .int .i64 (((4) * (t) : Nat) : Int) := h 51 (by decide)
            have hC : Ext _ w1 := hC
            exact YieldsK.bin (xv := .int .i64 ((64 * j : Nat) : Int)) (yv := .int .i64 (((4) * (t) : Nat) : Int)) e49 e51 rfl (i64_add _ (64 * j) ((4) * (t)) (by omega)) ⟨Ext.refl _, rfl⟩
          · refine stepN rfl fun σ w1 hC h => ?_    -- t53 := (Op.binOp BinOp.add 3 (Operand.tmp 52) (Operand.const (Value.int IntKind.i64 1)) 3)
            have e52 : σ 52 = .int .i64 (((64 * j) + ((4) * (t)) : Nat) : Int) := h 52 (by decide)
            have hC : Ext _ w1 := hC
            exact YieldsK.bin (xv := .int .i64 (((64 * j) + ((4) * (t)) : Nat) : Int)) (yv := .int .i64 ((1 : Nat) : Int)) e52 (show _ = (.int .i64 ((1 : Nat) : Int) : Value) from rfl) rfl (i64_add _ ((64 * j) + ((4) * (t))) (1) (by omega)) ⟨Ext.refl _, rfl⟩
          · refine stepN rfl fun σ w1 hC h => ?_    -- t54 := (Op.indexAddr 22 (Operand.tmp 48) (Operand.tmp 53))
            have e48 : σ 48 = v31 := h 48 (by decide)
            have e53 : σ 53 = .int .i64 ((((64 * j) + ((4) * (t))) + (1) : Nat) : Int) := h 53 (by decide)
            have hC : Ext _ w1 := hC
            exact YieldsK.atRB (l := P) (i := ((64 * j) + ((4) * (t))) + (1)) sha9_ty22 sha9_sz5 (RB.of (RB.ofOwn (Stab.own _ _ _ _ _ _ _ _ ho41 hC)) e48) e53 (by omega) fun _ h => ⟨Ext.refl _, h⟩
          · refine stepN rfl fun σ w1 hC h => ?_    -- t55 := (Op.load 5 (Operand.tmp 54))
            have e54 : (PCell (B8 (P.getD (((64 * j) + ((4) * (t))) + (1)) 0))) (σ 54) w1 := h 54 (by decide)
            have hC : Ext _ w1 := hC
            exact YieldsK.loadC sha9_ty5 rfl e54 ⟨Ext.refl _, rfl⟩
          · refine stepN rfl fun σ w1 hC h => ?_    -- t56 := (Op.convert 5 40 (Operand.tmp 55))
            have e55 : σ 55 = B8 (P.getD (((64 * j) + ((4) * (t))) + (1)) 0) := h 55 (by decide)
            have hC : Ext _ w1 := hC
            exact YieldsK.wide sha9_ty5 sha9_ty40 e55 ⟨Ext.refl _, rfl⟩
          · refine stepN rfl fun σ w1 hC h => ?_    -- t57 := (Op.binOp BinOp.shl 40 (Operand.tmp 56) (Operand.const (Value.int IntKind.u64 16)) 43)
            have e56 : σ 56 = U ((P.getD (((64 * j) + ((4) * (t))) + (1)) 0).toUInt32) := h 56 (by decide)
            have hC : Ext _ w1 := hC
            exact YieldsK.bin e56 (show _ = (.int .u64 ((16 : Nat) : Int) : Value) from rfl) rfl (u_shl _ _ _ 16 (by decide)) ⟨Ext.refl _, rfl⟩
          · refine stepN rfl fun σ w1 hC h => ?_    -- t58 := (Op.binOp BinOp.or 40 (Operand.tmp 47) (Operand.tmp 57) 40)
            have e47 : σ 47 = U (((P.getD ((64 * j) + ((4) * (t))) 0).toUInt32) <<< 24) := h 47 (by decide)
            have e57 : σ 57 = U (((P.getD (((64 * j) + ((4) * (t))) + (1)) 0).toUInt32) <<< 16) := h 57 (by decide)
            have hC : Ext _ w1 := hC
            exact YieldsK.bin e47 e57 rfl (u_or _ _ _) ⟨Ext.refl _, rfl⟩
          · refine stepN rfl fun σ w1 hC h => ?_    -- t59 := (Op.move (Operand.tmp 4))
            have e4 : σ 4 = v31 := (show _ = _ from h 4 (by decide)).trans T4
            have hC : Ext _ w1 := hC
            exact YieldsK.move e4 ⟨Ext.refl _, rfl⟩
          · refine stepN rfl fun σ w1 hC h => ?_    -- t60 := (Op.move (Operand.tmp 5))
            have e5 : σ 5 = .int .i64 ((64 * j : Nat) : Int) := (show _ = _ from h 5 (by decide)).trans T5
            have hC : Ext _ w1 := hC
            exact YieldsK.move e5 ⟨Ext.refl _, rfl⟩
          · refine stepN rfl fun σ w1 hC h => ?_    -- t61 := (Op.move (Operand.tmp 7))
            have e7 : σ 7 = .int .i64 ((t : Nat) : Int) := (show _ = _ from h 7 (by decide)).trans T7
            have hC : Ext _ w1 := hC
            exact YieldsK.move e7 ⟨Ext.refl _, rfl⟩
          · refine stepN rfl fun σ w1 hC h => ?_    -- t62 := (Op.binOp BinOp.mul 3 (Operand.const (Value.int IntKind.i64 4)) (Operand.tmp 61) 3)
            have e61 : σ 61 = .int .i64 ((t : Nat) : Int) := h 61 (by decide)
            have hC : Ext _ w1 := hC
            exact YieldsK.bin (xv := .int .i64 ((4 : Nat) : Int)) (yv := .int .i64 ((t : Nat) : Int)) (show _ = (.int .i64 ((4 : Nat) : Int) : Value) from rfl) e61 rfl (i64_mul _ (4) (t) (by omega)) ⟨Ext.refl _, rfl⟩
          · refine stepN rfl fun σ w1 hC h => ?_    -- t63 := (Op.binOp BinOp.add 3 (Operand.tmp 60) (Operand.tmp 62) 3)
            have e60 : σ 60 = .int .i64 ((64 * j : Nat) : Int) := h 60 (by decide)
            have e62 : σ 62 = .int .i64 (((4) * (t) : Nat) : Int) := h 62 (by decide)
            have hC : Ext _ w1 := hC
            exact YieldsK.bin (xv := .int .i64 ((64 * j : Nat) : Int)) (yv := .int .i64 (((4) * (t) : Nat) : Int)) e60 e62 rfl (i64_add _ (64 * j) ((4) * (t)) (by omega)) ⟨Ext.refl _, rfl⟩
          · refine stepN rfl fun σ w1 hC h => ?_    -- t64 := (Op.binOp BinOp.add 3 (Operand.tmp 63) (Operand.const (Value.int IntKind.i64 2)) 3)
            have e63 : σ 63 = .int .i64 (((64 * j) + ((4) * (t)) : Nat) : Int) := h 63 (by decide)
            have hC : Ext _ w1 := hC
            exact YieldsK.bin (xv := .int .i64 (((64 * j) + ((4) * (t)) : Nat) : Int)) (yv := .int .i64 ((2 : Nat) : Int)) e63 (show _ = (.int .i64 ((2 : Nat) : Int) : Value) from rfl) rfl (i64_add _ ((64 * j) + ((4) * (t))) (2) (by omega)) ⟨Ext.refl _, rfl⟩
          · refine stepN rfl fun σ w1 hC h => ?_    -- t65 := (Op.indexAddr 22 (Operand.tmp 59) (Operand.tmp 64))
            have e59 : σ 59 = v31 := h 59 (by decide)
            have e64 : σ 64 = .int .i64 ((((64 * j) + ((4) * (t))) + (2) : Nat) : Int) := h 64 (by decide)
            have hC : Ext _ w1 := hC
            exact YieldsK.atRB (l := P) (i := ((64 * j) + ((4) * (t))) + (2)) sha9_ty22 sha9_sz5 (RB.of (RB.ofOwn (Stab.own _ _ _ _ _ _ _ _ ho41 hC)) e59) e64 (by omega) fun _ h => ⟨Ext.refl _, h⟩
          · refine stepN rfl fun σ w1 hC h => ?_    -- t66 := (Op.load 5 (Operand.tmp 65))
            have e65 : (PCell (B8 (P.getD (((64 * j) + ((4) * (t))) + (2)) 0))) (σ 65) w1 := h 65 (by decide)
            have hC : Ext _ w1 := hC
            exact YieldsK.loadC sha9_ty5 rfl e65 ⟨Ext.refl _, rfl⟩
          · refine stepN rfl fun σ w1 hC h => ?_    -- t67 := (Op.convert 5 40 (Operand.tmp 66))
            have e66 : σ 66 = B8 (P.getD (((64 * j) + ((4) * (t))) + (2)) 0) := h 66 (by decide)
            have hC : Ext _ w1 := hC
            exact YieldsK.wide sha9_ty5 sha9_ty40 e66 ⟨Ext.refl _, rfl⟩
          · refine stepN rfl fun σ w1 hC h => ?_    -- t68 := (Op.binOp BinOp.shl 40 (Operand.tmp 67) (Operand.const (Value.int IntKind.u64 8)) 43)
            have e67 : σ 67 = U ((P.getD (((64 * j) + ((4) * (t))) + (2)) 0).toUInt32) := h 67 (by decide)
            have hC : Ext _ w1 := hC
            exact YieldsK.bin e67 (show _ = (.int .u64 ((8 : Nat) : Int) : Value) from rfl) rfl (u_shl _ _ _ 8 (by decide)) ⟨Ext.refl _, rfl⟩
          · refine stepN rfl fun σ w1 hC h => ?_    -- t69 := (Op.binOp BinOp.or 40 (Operand.tmp 58) (Operand.tmp 68) 40)
            have e58 : σ 58 = U ((((P.getD ((64 * j) + ((4) * (t))) 0).toUInt32) <<< 24) ||| (((P.getD (((64 * j) + ((4) * (t))) + (1)) 0).toUInt32) <<< 16)) := h 58 (by decide)
            have e68 : σ 68 = U (((P.getD (((64 * j) + ((4) * (t))) + (2)) 0).toUInt32) <<< 8) := h 68 (by decide)
            have hC : Ext _ w1 := hC
            exact YieldsK.bin e58 e68 rfl (u_or _ _ _) ⟨Ext.refl _, rfl⟩
          · refine stepN rfl fun σ w1 hC h => ?_    -- t70 := (Op.move (Operand.tmp 4))
            have e4 : σ 4 = v31 := (show _ = _ from h 4 (by decide)).trans T4
            have hC : Ext _ w1 := hC
            exact YieldsK.move e4 ⟨Ext.refl _, rfl⟩
          · refine stepN rfl fun σ w1 hC h => ?_    -- t71 := (Op.move (Operand.tmp 5))
            have e5 : σ 5 = .int .i64 ((64 * j : Nat) : Int) := (show _ = _ from h 5 (by decide)).trans T5
            have hC : Ext _ w1 := hC
            exact YieldsK.move e5 ⟨Ext.refl _, rfl⟩
          · refine stepN rfl fun σ w1 hC h => ?_    -- t72 := (Op.move (Operand.tmp 7))
            have e7 : σ 7 = .int .i64 ((t : Nat) : Int) := (show _ = _ from h 7 (by decide)).trans T7
            have hC : Ext _ w1 := hC
            exact YieldsK.move e7 ⟨Ext.refl _, rfl⟩
          · refine stepN rfl fun σ w1 hC h => ?_    -- t73 := (Op.binOp BinOp.mul 3 (Operand.const (Value.int IntKind.i64 4)) (Operand.tmp 72) 3)
            have e72 : σ 72 = .int .i64 ((t : Nat) : Int) := h 72 (by decide)
            have hC : Ext _ w1 := hC
            exact YieldsK.bin (xv := .int .i64 ((4 : Nat) : Int)) (yv := .int .i64 ((t : Nat) : Int)) (show _ = (.int .i64 ((4 : Nat) : Int) : Value) from rfl) e72 rfl (i64_mul _ (4) (t) (by omega)) ⟨Ext.refl _, rfl⟩
          · refine stepN rfl fun σ w1 hC h => ?_    -- t74 := (Op.binOp BinOp.add 3 (Operand.tmp 71) (Operand.tmp 73) 3)
            have e71 : σ 71 = .int .i64 ((64 * j : Nat) : Int) := h 71 (by decide)
            have e73 : σ 73 = .int .i64 (((4) * (t) : Nat) : Int) := h 73 (by decide)
            have hC : Ext _ w1 := hC
            exact YieldsK.bin (xv := .int .i64 ((64 * j : Nat) : Int)) (yv := .int .i64 (((4) * (t) : Nat) : Int)) e71 e73 rfl (i64_add _ (64 * j) ((4) * (t)) (by omega)) ⟨Ext.refl _, rfl⟩
          · refine stepN rfl fun σ w1 hC h => ?_    -- t75 := (Op.binOp BinOp.add 3 (Operand.tmp 74) (Operand.const (Value.int IntKind.i64 3)) 3)
            have e74 : σ 74 = .int .i64 (((64 * j) + ((4) * (t)) : Nat) : Int) := h 74 (by decide)
            have hC : Ext _ w1 := hC
            exact YieldsK.bin (xv := .int .i64 (((64 * j) + ((4) * (t)) : Nat) : Int)) (yv := .int .i64 ((3 : Nat) : Int)) e74 (show _ = (.int .i64 ((3 : Nat) : Int) : Value) from rfl) rfl (i64_add _ ((64 * j) + ((4) * (t))) (3) (by omega)) ⟨Ext.refl _, rfl⟩
          · refine stepN rfl fun σ w1 hC h => ?_    -- t76 := (Op.indexAddr 22 (Operand.tmp 70) (Operand.tmp 75))
            have e70 : σ 70 = v31 := h 70 (by decide)
            have e75 : σ 75 = .int .i64 ((((64 * j) + ((4) * (t))) + (3) : Nat) : Int) := h 75 (by decide)
            have hC : Ext _ w1 := hC
            exact YieldsK.atRB (l := P) (i := ((64 * j) + ((4) * (t))) + (3)) sha9_ty22 sha9_sz5 (RB.of (RB.ofOwn (Stab.own _ _ _ _ _ _ _ _ ho41 hC)) e70) e75 (by omega) fun _ h => ⟨Ext.refl _, h⟩
          · refine stepN rfl fun σ w1 hC h => ?_    -- t77 := (Op.load 5 (Operand.tmp 76))
            have e76 : (PCell (B8 (P.getD (((64 * j) + ((4) * (t))) + (3)) 0))) (σ 76) w1 := h 76 (by decide)
            have hC : Ext _ w1 := hC
            exact YieldsK.loadC sha9_ty5 rfl e76 ⟨Ext.refl _, rfl⟩
          · refine stepN rfl fun σ w1 hC h => ?_    -- t78 := (Op.convert 5 40 (Operand.tmp 77))
            have e77 : σ 77 = B8 (P.getD (((64 * j) + ((4) * (t))) + (3)) 0) := h 77 (by decide)
            have hC : Ext _ w1 := hC
            exact YieldsK.wide sha9_ty5 sha9_ty40 e77 ⟨Ext.refl _, rfl⟩
          · refine stepN rfl fun σ w1 hC h => ?_    -- t79 := (Op.binOp BinOp.or 40 (Operand.tmp 69) (Operand.tmp 78) 40)
            have e69 : σ 69 = U (((((P.getD ((64 * j) + ((4) * (t))) 0).toUInt32) <<< 24) ||| (((P.getD (((64 * j) + ((4) * (t))) + (1)) 0).toUInt32) <<< 16)) ||| (((P.getD (((64 * j) + ((4) * (t))) + (2)) 0).toUInt32) <<< 8)) := h 69 (by decide)
            have e78 : σ 78 = U ((P.getD (((64 * j) + ((4) * (t))) + (3)) 0).toUInt32) := h 78 (by decide)
            have hC : Ext _ w1 := hC
            exact YieldsK.bin e69 e78 rfl (u_or _ _ _) ⟨Ext.refl _, rfl⟩
          · refine stepN rfl fun σ w1 hC h => ?_    -- t80 := (Op.indexAddr 42 (Operand.tmp 6) (Operand.tmp 38))
            have e6 : σ 6 = .pointer (some ⟨n53, 0, none⟩) := (show _ = _ from h 6 (by decide)).trans T6
            have e38 : σ 38 = .int .i64 ((t : Nat) : Int) := h 38 (by decide)
            have hC : Ext _ w1 := hC
            exact YieldsK.atArr0 (i := t) sha9_ty42 sha9_sz40 e6 e38 (by omega) ⟨Ext.refl _, rfl⟩
          · refine stepN rfl fun σ w1 hC h => ?_    -- tNone := (Op.store 40 (Operand.tmp 80) (Operand.tmp 79))
            have e80 : σ 80 = .pointer (some ⟨n53, t, none⟩) := h 80 (by decide)
            have e79 : σ 79 = U ((((((P.getD ((64 * j) + ((4) * (t))) 0).toUInt32) <<< 24) ||| (((P.getD (((64 * j) + ((4) * (t))) + (1)) 0).toUInt32) <<< 16)) ||| (((P.getD (((64 * j) + ((4) * (t))) + (2)) 0).toUInt32) <<< 8)) ||| ((P.getD (((64 * j) + ((4) * (t))) + (3)) 0).toUInt32)) := h 79 (by decide)
            have hC : Ext _ w1 := hC
            exact YieldsK.storeU32 (i := t) (v := (((((P.getD ((64 * j) + ((4) * (t))) 0).toUInt32) <<< 24) ||| (((P.getD (((64 * j) + ((4) * (t))) + (1)) 0).toUInt32) <<< 16)) ||| (((P.getD (((64 * j) + ((4) * (t))) + (2)) 0).toUInt32) <<< 8)) ||| ((P.getD (((64 * j) + ((4) * (t))) + (3)) 0).toUInt32)) e80 e79 (Ext.blk' hC hb67l) (by rw [hpl]; omega) sha9_isz40 fun w2 h1 h2 h3 => ⟨⟨h1, h2, h3⟩, trivial⟩
        intro ρ85 w88 w86 hx87 hS89 he hf
        obtain ⟨-, -, -, -, -, -, -, -, -, -, -, -, -, -, -, -, -, -, -, -, -, -, -, -, -, -, -, -, -, -, -, -, -, -, -, -, -, -, -, -, -, -, -, -⟩ := hf
        have T0 : ρ85 0 = v := he.at_ T0 rfl
        have T2 : ρ85 2 = .pointer (some ⟨n2, 0, none⟩) := he.at_ T2 rfl
        have T3 : ρ85 3 = .pointer (some ⟨n12, 0, none⟩) := he.at_ T3 rfl
        have T4 : ρ85 4 = v31 := he.at_ T4 rfl
        have T5 : ρ85 5 = .int .i64 ((64 * j : Nat) : Int) := he.at_ T5 rfl
        have T6 : ρ85 6 = .pointer (some ⟨n53, 0, none⟩) := he.at_ T6 rfl
        have T7 : ρ85 7 = .int .i64 ((t : Nat) : Int) := he.at_ T7 rfl
        clear he
        have hE : Ext w w88 := (hE.trans hx87)
        have hb8 : w88.heap[n2]? = some (.cells (Lib.byteCells (List.replicate 32 0)).toArray 24 (0, 0)) := (Ext.blk' hx87 hb8)
        have hA18 : Ext w3 w88 := (hA18.trans hx87)
        have ho41 : w88.ownsRow w24.heap.size 5 1 v31 (P : List UInt8).length (Lib.byteCells (P)) := (Stab.own _ _ _ _ _ _ _ _ ho41 hx87)
        have hb22l : w88.heap[n12]? = some (.cells (Sj.map fun x => U x).toArray 41 (0, 0)) := (Ext.blk' hx87 hb22l)
        have hA59 : Ext w47 w88 := (hA59.trans hx87)
        have hb67l : w88.heap[n53]? = some (.cells ((Sha.pad64 (Sha.sched B t)).map fun x => U x).toArray 42 (0, 0)) := (Ext.blk' hx87 hb67l)
        obtain ⟨hb90, hg91, hs92⟩ := hS89
        have hE : Ext w w86 := row_fresh hE hg91 (Nat.le_trans hz62 (by omega))
        have hb8 : w86.heap[n2]? = some (.cells (Lib.byteCells (List.replicate 32 0)).toArray 24 (0, 0)) := (hg91.block _ (Array.getElem?_eq_some_iff.1 hb8).1 (by simp; omega)).trans hb8
        have hA18 : Ext w3 w86 := row_fresh hA18 hg91 (Nat.le_trans hz63 (by omega))
        have ho41 : w86.ownsRow w24.heap.size 5 1 v31 (P : List UInt8).length (Lib.byteCells (P)) := own_kept ho41 hg91 hap66
        have hb22l : w86.heap[n12]? = some (.cells (Sj.map fun x => U x).toArray 41 (0, 0)) := (hg91.block _ (Array.getElem?_eq_some_iff.1 hb22l).1 (by simp; omega)).trans hb22l
        have hA59 : Ext w47 w86 := row_fresh hA59 hg91 (Nat.le_trans (Nat.le_refl _) (by omega))
        clear hb67l
        have hb67l := hb90; clear hb90
        have hl93 : n53 < w86.heap.size := (Array.getElem?_eq_some_iff.1 hb67l).1
        have hb67l : w86.heap[n53]? = some (.cells ((Sha.pad64 (Sha.sched B (t + 1))).map fun x => U x).toArray 42 (0, 0)) := blk_eq hb67l (congrArg (List.map fun x => U x) ((congrArg (fun z => (Sha.pad64 (Sha.sched B t)).set t z) (Sha.be4_of P B (64 * j) hBget t hc2)).trans (Sha.sched_step1 B t hc2)))
        refine inBlockF_normal ?_
        refine thenF_normal (hK78 _ _ ?_)
        refine wpF_text ?_
        refine opsF_step rfl (YieldsK.move (show _ = (.int .i64 ((t : Nat) : Int) : Value) from T7) ?_)    -- ref.go:35 t34 := (Op.move (Operand.tmp 7))
        refine opsF_step rfl (YieldsK.bin (xv := .int .i64 ((t : Nat) : Int)) (yv := .int .i64 ((1 : Nat) : Int)) (show _ = (.int .i64 ((t : Nat) : Int) : Value) from rfl) (show _ = (.int .i64 ((1 : Nat) : Int) : Value) from rfl) rfl (i64_add _ (t) (1) (by omega)) ?_)    -- ref.go:35 t35 := (Op.binOp BinOp.add 3 (Operand.tmp 34) (Operand.const (Value.int IntKind.i64 1)) 3)
        refine opsF_step rfl (YieldsK.assign (show _ = (.int .i64 (((t) + (1) : Nat) : Int) : Value) from rfl) ?_)    -- ref.go:35 t7 := (Op.assign (Operand.tmp 35))
        refine opsF_end (fun ρ => ρ 0 = (v : Value) ∧ ρ 2 = (.pointer (some ⟨n2, 0, none⟩) : Value) ∧ ρ 3 = (.pointer (some ⟨n12, 0, none⟩) : Value) ∧ ρ 4 = (v31 : Value) ∧ ρ 5 = (.int .i64 ((64 * j : Nat) : Int) : Value) ∧ ρ 6 = (.pointer (some ⟨n53, 0, none⟩) : Value) ∧ ρ 7 = (.int .i64 (((t) + (1) : Nat) : Int) : Value) ∧ True) ⟨T0, T2, T3, T4, T5, T6, rfl, trivial⟩ fun ρ94 ⟨T0, T2, T3, T4, T5, T6, T7, _⟩ => ?_
        refine thenF_normal (And.intro ⟨t + 1, T0, T2, T3, T4, T5, T6, T7, hE, hb8, hA18, ho41, hb22l, hA59, blk_eq hb67l (rfl), by omega, trivial⟩ ?_)
        show 64 - (intOf (ρ94 7)).toNat < 64 - (intOf (ρ73 7)).toNat
        rw [T7, q7]
        simp only [intOf, Int.toNat_natCast]; omega
      · refine wpF_seq_k fun K95 hK95 => ?_
        refine wpF_draw [Is (.int .i64 ((t : Nat) : Int)), Is (.int .i64 (((t) - (15) : Nat) : Int)), Is (.pointer (some ⟨n53, (t) - (15), none⟩)), Is (U ((Sha.pad64 (Sha.sched B t)).getD ((t) - (15)) 0)), Is (.int .i64 ((t : Nat) : Int)), Is (.int .i64 (((t) - (2) : Nat) : Int)), Is (.pointer (some ⟨n53, (t) - (2), none⟩)), Is (U ((Sha.pad64 (Sha.sched B t)).getD ((t) - (2)) 0)), Is (U ((Sha.pad64 (Sha.sched B t)).getD ((t) - (15)) 0)), Is (U ((Sha.pad64 (Sha.sched B t)).getD ((t) - (2)) 0))] (by kernel_rfl) [81, 82, 83, 84, 85, 86, 87, 88, 8, 9] (by kernel_rfl) (by kernel_rfl) ⟨Stab.is _, Stab.is _, Stab.is _, Stab.is _, Stab.is _, Stab.is _, Stab.is _, Stab.is _, Stab.is _, Stab.is _, trivial⟩ ?hs12 ?hQ12
        case hs12 =>
          refine ⟨?_, ?_, ?_, ?_, ?_, ?_, ?_, ?_, ?_, ?_, trivial⟩
          · refine stepN rfl fun σ w1 hC h => ?_    -- t81 := (Op.move (Operand.tmp 7))
            have e7 : σ 7 = .int .i64 ((t : Nat) : Int) := (show _ = _ from h 7 (by decide)).trans T7
            exact YieldsK.move e7 ⟨Ext.refl _, rfl⟩
          · refine stepN rfl fun σ w1 hC h => ?_    -- t82 := (Op.binOp BinOp.sub 3 (Operand.tmp 81) (Operand.const (Value.int IntKind.i64 15)) 3)
            have e81 : σ 81 = .int .i64 ((t : Nat) : Int) := h 81 (by decide)
            exact YieldsK.bin (xv := .int .i64 ((t : Nat) : Int)) (yv := .int .i64 ((15 : Nat) : Int)) e81 (show _ = (.int .i64 ((15 : Nat) : Int) : Value) from rfl) rfl (i64_sub _ (t) (15) (by omega) (by omega)) ⟨Ext.refl _, rfl⟩
          · refine stepN rfl fun σ w1 hC h => ?_    -- t83 := (Op.indexAddr 42 (Operand.tmp 6) (Operand.tmp 82))
            have e6 : σ 6 = .pointer (some ⟨n53, 0, none⟩) := (show _ = _ from h 6 (by decide)).trans T6
            have e82 : σ 82 = .int .i64 (((t) - (15) : Nat) : Int) := h 82 (by decide)
            exact YieldsK.atArr0 (i := (t) - (15)) sha9_ty42 sha9_sz40 e6 e82 (by omega) ⟨Ext.refl _, rfl⟩
          · refine stepN rfl fun σ w1 hC h => ?_    -- t84 := (Op.load 40 (Operand.tmp 83))
            have e83 : σ 83 = .pointer (some ⟨n53, (t) - (15), none⟩) := h 83 (by decide)
            exact YieldsK.cell1 sha9_ty40 rfl e83 (cellAt (Ext.blk' hC hb67l) (word_at (i := (t) - (15)) (by rw [hpl]; omega))) ⟨Ext.refl _, rfl⟩
          · refine stepN rfl fun σ w1 hC h => ?_    -- t85 := (Op.move (Operand.tmp 7))
            have e7 : σ 7 = .int .i64 ((t : Nat) : Int) := (show _ = _ from h 7 (by decide)).trans T7
            exact YieldsK.move e7 ⟨Ext.refl _, rfl⟩
          · refine stepN rfl fun σ w1 hC h => ?_    -- t86 := (Op.binOp BinOp.sub 3 (Operand.tmp 85) (Operand.const (Value.int IntKind.i64 2)) 3)
            have e85 : σ 85 = .int .i64 ((t : Nat) : Int) := h 85 (by decide)
            exact YieldsK.bin (xv := .int .i64 ((t : Nat) : Int)) (yv := .int .i64 ((2 : Nat) : Int)) e85 (show _ = (.int .i64 ((2 : Nat) : Int) : Value) from rfl) rfl (i64_sub _ (t) (2) (by omega) (by omega)) ⟨Ext.refl _, rfl⟩
          · refine stepN rfl fun σ w1 hC h => ?_    -- t87 := (Op.indexAddr 42 (Operand.tmp 6) (Operand.tmp 86))
            have e6 : σ 6 = .pointer (some ⟨n53, 0, none⟩) := (show _ = _ from h 6 (by decide)).trans T6
            have e86 : σ 86 = .int .i64 (((t) - (2) : Nat) : Int) := h 86 (by decide)
            exact YieldsK.atArr0 (i := (t) - (2)) sha9_ty42 sha9_sz40 e6 e86 (by omega) ⟨Ext.refl _, rfl⟩
          · refine stepN rfl fun σ w1 hC h => ?_    -- t88 := (Op.load 40 (Operand.tmp 87))
            have e87 : σ 87 = .pointer (some ⟨n53, (t) - (2), none⟩) := h 87 (by decide)
            exact YieldsK.cell1 sha9_ty40 rfl e87 (cellAt (Ext.blk' hC hb67l) (word_at (i := (t) - (2)) (by rw [hpl]; omega))) ⟨Ext.refl _, rfl⟩
          · refine stepN rfl fun σ w1 hC h => ?_    -- t8 := (Op.assign (Operand.tmp 84))
            have e84 : σ 84 = U ((Sha.pad64 (Sha.sched B t)).getD ((t) - (15)) 0) := h 84 (by decide)
            exact YieldsK.assign e84 ⟨Ext.refl _, rfl⟩
          · refine stepN rfl fun σ w1 hC h => ?_    -- t9 := (Op.assign (Operand.tmp 88))
            have e88 : σ 88 = U ((Sha.pad64 (Sha.sched B t)).getD ((t) - (2)) 0) := h 88 (by decide)
            exact YieldsK.assign e88 ⟨Ext.refl _, rfl⟩
        intro ρ96 w97 hx98 he hf
        obtain ⟨-, -, -, -, -, -, -, -, k8, k9, -⟩ := hf
        have T0 : ρ96 0 = v := he.at_ T0 rfl
        have T2 : ρ96 2 = .pointer (some ⟨n2, 0, none⟩) := he.at_ T2 rfl
        have T3 : ρ96 3 = .pointer (some ⟨n12, 0, none⟩) := he.at_ T3 rfl
        have T4 : ρ96 4 = v31 := he.at_ T4 rfl
        have T5 : ρ96 5 = .int .i64 ((64 * j : Nat) : Int) := he.at_ T5 rfl
        have T6 : ρ96 6 = .pointer (some ⟨n53, 0, none⟩) := he.at_ T6 rfl
        have T7 : ρ96 7 = .int .i64 ((t : Nat) : Int) := he.at_ T7 rfl
        clear he
        have hE : Ext w w97 := (hE.trans hx98)
        have hb8 : w97.heap[n2]? = some (.cells (Lib.byteCells (List.replicate 32 0)).toArray 24 (0, 0)) := (Ext.blk' hx98 hb8)
        have hA18 : Ext w3 w97 := (hA18.trans hx98)
        have ho41 : w97.ownsRow w24.heap.size 5 1 v31 (P : List UInt8).length (Lib.byteCells (P)) := (Stab.own _ _ _ _ _ _ _ _ ho41 hx98)
        have hb22l : w97.heap[n12]? = some (.cells (Sj.map fun x => U x).toArray 41 (0, 0)) := (Ext.blk' hx98 hb22l)
        have hA59 : Ext w47 w97 := (hA59.trans hx98)
        have hb67l : w97.heap[n53]? = some (.cells ((Sha.pad64 (Sha.sched B t)).map fun x => U x).toArray 42 (0, 0)) := (Ext.blk' hx98 hb67l)
        have T8 : ρ96 8 = U ((Sha.pad64 (Sha.sched B t)).getD ((t) - (15)) 0) := k8
        have T9 : ρ96 9 = U ((Sha.pad64 (Sha.sched B t)).getD ((t) - (2)) 0) := k9
        clear k8 k9
        refine thenF_normal (hK95 _ _ ?_)
        refine wpF_draw_store 29 (fun (a b : World) => b.heap[n53]? = some (.cells (((Sha.pad64 (Sha.sched B t)).set (t) ((((((Sha.rotr ((Sha.pad64 (Sha.sched B t)).getD ((t) - (2)) 0) 17) ^^^ (Sha.rotr ((Sha.pad64 (Sha.sched B t)).getD ((t) - (2)) 0) 19)) ^^^ (((Sha.pad64 (Sha.sched B t)).getD ((t) - (2)) 0) >>> 10)) + ((Sha.pad64 (Sha.sched B t)).getD ((t) - (7)) 0)) + (((Sha.rotr ((Sha.pad64 (Sha.sched B t)).getD ((t) - (15)) 0) 7) ^^^ (Sha.rotr ((Sha.pad64 (Sha.sched B t)).getD ((t) - (15)) 0) 18)) ^^^ (((Sha.pad64 (Sha.sched B t)).getD ((t) - (15)) 0) >>> 3))) + ((Sha.pad64 (Sha.sched B t)).getD ((t) - (16)) 0))).map fun x => U x).toArray 42 (0, 0)) ∧ a.grownBy b (some n53) ∧ b.heap.size = a.heap.size) [Is (.int .i64 ((t : Nat) : Int)), Is (U ((Sha.pad64 (Sha.sched B t)).getD ((t) - (2)) 0)), Is (U (Sha.rotr ((Sha.pad64 (Sha.sched B t)).getD ((t) - (2)) 0) 17)), Is (U ((Sha.pad64 (Sha.sched B t)).getD ((t) - (2)) 0)), Is (U (Sha.rotr ((Sha.pad64 (Sha.sched B t)).getD ((t) - (2)) 0) 19)), Is (U ((Sha.rotr ((Sha.pad64 (Sha.sched B t)).getD ((t) - (2)) 0) 17) ^^^ (Sha.rotr ((Sha.pad64 (Sha.sched B t)).getD ((t) - (2)) 0) 19))), Is (U ((Sha.pad64 (Sha.sched B t)).getD ((t) - (2)) 0)), Is (U (((Sha.pad64 (Sha.sched B t)).getD ((t) - (2)) 0) >>> 10)), Is (U (((Sha.rotr ((Sha.pad64 (Sha.sched B t)).getD ((t) - (2)) 0) 17) ^^^ (Sha.rotr ((Sha.pad64 (Sha.sched B t)).getD ((t) - (2)) 0) 19)) ^^^ (((Sha.pad64 (Sha.sched B t)).getD ((t) - (2)) 0) >>> 10))), Is (.int .i64 ((t : Nat) : Int)), Is (.int .i64 (((t) - (7) : Nat) : Int)), Is (.pointer (some ⟨n53, (t) - (7), none⟩)), Is (U ((Sha.pad64 (Sha.sched B t)).getD ((t) - (7)) 0)), Is (U ((((Sha.rotr ((Sha.pad64 (Sha.sched B t)).getD ((t) - (2)) 0) 17) ^^^ (Sha.rotr ((Sha.pad64 (Sha.sched B t)).getD ((t) - (2)) 0) 19)) ^^^ (((Sha.pad64 (Sha.sched B t)).getD ((t) - (2)) 0) >>> 10)) + ((Sha.pad64 (Sha.sched B t)).getD ((t) - (7)) 0))), Is (U ((Sha.pad64 (Sha.sched B t)).getD ((t) - (15)) 0)), Is (U (Sha.rotr ((Sha.pad64 (Sha.sched B t)).getD ((t) - (15)) 0) 7)), Is (U ((Sha.pad64 (Sha.sched B t)).getD ((t) - (15)) 0)), Is (U (Sha.rotr ((Sha.pad64 (Sha.sched B t)).getD ((t) - (15)) 0) 18)), Is (U ((Sha.rotr ((Sha.pad64 (Sha.sched B t)).getD ((t) - (15)) 0) 7) ^^^ (Sha.rotr ((Sha.pad64 (Sha.sched B t)).getD ((t) - (15)) 0) 18))), Is (U ((Sha.pad64 (Sha.sched B t)).getD ((t) - (15)) 0)), Is (U (((Sha.pad64 (Sha.sched B t)).getD ((t) - (15)) 0) >>> 3)), Is (U (((Sha.rotr ((Sha.pad64 (Sha.sched B t)).getD ((t) - (15)) 0) 7) ^^^ (Sha.rotr ((Sha.pad64 (Sha.sched B t)).getD ((t) - (15)) 0) 18)) ^^^ (((Sha.pad64 (Sha.sched B t)).getD ((t) - (15)) 0) >>> 3))), Is (U (((((Sha.rotr ((Sha.pad64 (Sha.sched B t)).getD ((t) - (2)) 0) 17) ^^^ (Sha.rotr ((Sha.pad64 (Sha.sched B t)).getD ((t) - (2)) 0) 19)) ^^^ (((Sha.pad64 (Sha.sched B t)).getD ((t) - (2)) 0) >>> 10)) + ((Sha.pad64 (Sha.sched B t)).getD ((t) - (7)) 0)) + (((Sha.rotr ((Sha.pad64 (Sha.sched B t)).getD ((t) - (15)) 0) 7) ^^^ (Sha.rotr ((Sha.pad64 (Sha.sched B t)).getD ((t) - (15)) 0) 18)) ^^^ (((Sha.pad64 (Sha.sched B t)).getD ((t) - (15)) 0) >>> 3)))), Is (.int .i64 ((t : Nat) : Int)), Is (.int .i64 (((t) - (16) : Nat) : Int)), Is (.pointer (some ⟨n53, (t) - (16), none⟩)), Is (U ((Sha.pad64 (Sha.sched B t)).getD ((t) - (16)) 0)), Is (U ((((((Sha.rotr ((Sha.pad64 (Sha.sched B t)).getD ((t) - (2)) 0) 17) ^^^ (Sha.rotr ((Sha.pad64 (Sha.sched B t)).getD ((t) - (2)) 0) 19)) ^^^ (((Sha.pad64 (Sha.sched B t)).getD ((t) - (2)) 0) >>> 10)) + ((Sha.pad64 (Sha.sched B t)).getD ((t) - (7)) 0)) + (((Sha.rotr ((Sha.pad64 (Sha.sched B t)).getD ((t) - (15)) 0) 7) ^^^ (Sha.rotr ((Sha.pad64 (Sha.sched B t)).getD ((t) - (15)) 0) 18)) ^^^ (((Sha.pad64 (Sha.sched B t)).getD ((t) - (15)) 0) >>> 3))) + ((Sha.pad64 (Sha.sched B t)).getD ((t) - (16)) 0))), Is (.pointer (some ⟨n53, t, none⟩)), (fun _ _ => True)] (by kernel_rfl) [89, 90, 91, 92, 93, 94, 95, 96, 97, 98, 99, 100, 101, 102, 103, 104, 105, 106, 107, 108, 109, 110, 111, 112, 113, 114, 115, 116, 117] (by kernel_rfl) (by kernel_rfl) (by kernel_rfl) rfl ⟨Stab.is _, Stab.is _, Stab.is _, Stab.is _, Stab.is _, Stab.is _, Stab.is _, Stab.is _, Stab.is _, Stab.is _, Stab.is _, Stab.is _, Stab.is _, Stab.is _, Stab.is _, Stab.is _, Stab.is _, Stab.is _, Stab.is _, Stab.is _, Stab.is _, Stab.is _, Stab.is _, Stab.is _, Stab.is _, Stab.is _, Stab.is _, Stab.is _, Stab.is _, Stab.any, trivial⟩ ⟨Stab.is _, Stab.is _, Stab.is _, Stab.is _, Stab.is _, Stab.is _, Stab.is _, Stab.is _, Stab.is _, Stab.is _, Stab.is _, Stab.is _, Stab.is _, Stab.is _, Stab.is _, Stab.is _, Stab.is _, Stab.is _, Stab.is _, Stab.is _, Stab.is _, Stab.is _, Stab.is _, Stab.is _, Stab.is _, Stab.is _, Stab.is _, Stab.is _, Stab.is _, Stab.any, trivial⟩ ?hs13 ?hQ13
        case hs13 =>
          refine ⟨?_, ?_, ?_, ?_, ?_, ?_, ?_, ?_, ?_, ?_, ?_, ?_, ?_, ?_, ?_, ?_, ?_, ?_, ?_, ?_, ?_, ?_, ?_, ?_, ?_, ?_, ?_, ?_, ?_, ?_, trivial⟩
          · refine stepN rfl fun σ w1 hC h => ?_    -- t89 := (Op.move (Operand.tmp 7))
            have e7 : σ 7 = .int .i64 ((t : Nat) : Int) := (show _ = _ from h 7 (by decide)).trans T7
            have hC : Ext _ w1 := hC
            exact YieldsK.move e7 ⟨Ext.refl _, rfl⟩
          · refine stepN rfl fun σ w1 hC h => ?_    -- t90 := (Op.move (Operand.tmp 9))
            have e9 : σ 9 = U ((Sha.pad64 (Sha.sched B t)).getD ((t) - (2)) 0) := (show _ = _ from h 9 (by decide)).trans T9
            have hC : Ext _ w1 := hC
            exact YieldsK.move e9 ⟨Ext.refl _, rfl⟩
          · refine stepN rfl fun σ w1 hC h => ?_    -- t91 := (Op.call { callee := (Callee.value (Operand.func 17)), args := #[(Operand.tmp 90), (Operand.const (Value.int I
            have e90 : σ 90 = U ((Sha.pad64 (Sha.sched B t)).getD ((t) - (2)) 0) := h 90 (by decide)
            have hC : Ext _ w1 := hC
            refine YieldsK.callA2 sha9_pl17 e90 (show _ = (.int .u64 ((17 : Nat) : Int) : Value) from rfl) ?_
            refine (rot_any _ ((Sha.pad64 (Sha.sched B t)).getD ((t) - (2)) 0) 17 (by decide) (by decide)).mono ?_
            rintro e w2 ⟨rfl, hx⟩
            exact ⟨_, rfl, hx, rfl⟩
          · refine stepN rfl fun σ w1 hC h => ?_    -- t92 := (Op.move (Operand.tmp 9))
            have e9 : σ 9 = U ((Sha.pad64 (Sha.sched B t)).getD ((t) - (2)) 0) := (show _ = _ from h 9 (by decide)).trans T9
            have hC : Ext _ w1 := hC
            exact YieldsK.move e9 ⟨Ext.refl _, rfl⟩
          · refine stepN rfl fun σ w1 hC h => ?_    -- t93 := (Op.call { callee := (Callee.value (Operand.func 17)), args := #[(Operand.tmp 92), (Operand.const (Value.int I
            have e92 : σ 92 = U ((Sha.pad64 (Sha.sched B t)).getD ((t) - (2)) 0) := h 92 (by decide)
            have hC : Ext _ w1 := hC
            refine YieldsK.callA2 sha9_pl17 e92 (show _ = (.int .u64 ((19 : Nat) : Int) : Value) from rfl) ?_
            refine (rot_any _ ((Sha.pad64 (Sha.sched B t)).getD ((t) - (2)) 0) 19 (by decide) (by decide)).mono ?_
            rintro e w2 ⟨rfl, hx⟩
            exact ⟨_, rfl, hx, rfl⟩
          · refine stepN rfl fun σ w1 hC h => ?_    -- t94 := (Op.binOp BinOp.xor 40 (Operand.tmp 91) (Operand.tmp 93) 40)
            have e91 : σ 91 = U (Sha.rotr ((Sha.pad64 (Sha.sched B t)).getD ((t) - (2)) 0) 17) := h 91 (by decide)
            have e93 : σ 93 = U (Sha.rotr ((Sha.pad64 (Sha.sched B t)).getD ((t) - (2)) 0) 19) := h 93 (by decide)
            have hC : Ext _ w1 := hC
            exact YieldsK.bin e91 e93 rfl (u_xor _ _ _) ⟨Ext.refl _, rfl⟩
          · refine stepN rfl fun σ w1 hC h => ?_    -- t95 := (Op.move (Operand.tmp 9))
            have e9 : σ 9 = U ((Sha.pad64 (Sha.sched B t)).getD ((t) - (2)) 0) := (show _ = _ from h 9 (by decide)).trans T9
            have hC : Ext _ w1 := hC
            exact YieldsK.move e9 ⟨Ext.refl _, rfl⟩
          · refine stepN rfl fun σ w1 hC h => ?_    -- t96 := (Op.binOp BinOp.shr 40 (Operand.tmp 95) (Operand.const (Value.int IntKind.u64 10)) 43)
            have e95 : σ 95 = U ((Sha.pad64 (Sha.sched B t)).getD ((t) - (2)) 0) := h 95 (by decide)
            have hC : Ext _ w1 := hC
            exact YieldsK.bin e95 (show _ = (.int .u64 ((10 : Nat) : Int) : Value) from rfl) rfl (u_shr _ _ _ 10 (by decide)) ⟨Ext.refl _, rfl⟩
          · refine stepN rfl fun σ w1 hC h => ?_    -- t97 := (Op.binOp BinOp.xor 40 (Operand.tmp 94) (Operand.tmp 96) 40)
            have e94 : σ 94 = U ((Sha.rotr ((Sha.pad64 (Sha.sched B t)).getD ((t) - (2)) 0) 17) ^^^ (Sha.rotr ((Sha.pad64 (Sha.sched B t)).getD ((t) - (2)) 0) 19)) := h 94 (by decide)
            have e96 : σ 96 = U (((Sha.pad64 (Sha.sched B t)).getD ((t) - (2)) 0) >>> 10) := h 96 (by decide)
            have hC : Ext _ w1 := hC
            exact YieldsK.bin e94 e96 rfl (u_xor _ _ _) ⟨Ext.refl _, rfl⟩
          · refine stepN rfl fun σ w1 hC h => ?_    -- t98 := (Op.move (Operand.tmp 7))
            have e7 : σ 7 = .int .i64 ((t : Nat) : Int) := (show _ = _ from h 7 (by decide)).trans T7
            have hC : Ext _ w1 := hC
            exact YieldsK.move e7 ⟨Ext.refl _, rfl⟩
          · refine stepN rfl fun σ w1 hC h => ?_    -- t99 := (Op.binOp BinOp.sub 3 (Operand.tmp 98) (Operand.const (Value.int IntKind.i64 7)) 3)
            have e98 : σ 98 = .int .i64 ((t : Nat) : Int) := h 98 (by decide)
            have hC : Ext _ w1 := hC
            exact YieldsK.bin (xv := .int .i64 ((t : Nat) : Int)) (yv := .int .i64 ((7 : Nat) : Int)) e98 (show _ = (.int .i64 ((7 : Nat) : Int) : Value) from rfl) rfl (i64_sub _ (t) (7) (by omega) (by omega)) ⟨Ext.refl _, rfl⟩
          · refine stepN rfl fun σ w1 hC h => ?_    -- t100 := (Op.indexAddr 42 (Operand.tmp 6) (Operand.tmp 99))
            have e6 : σ 6 = .pointer (some ⟨n53, 0, none⟩) := (show _ = _ from h 6 (by decide)).trans T6
            have e99 : σ 99 = .int .i64 (((t) - (7) : Nat) : Int) := h 99 (by decide)
            have hC : Ext _ w1 := hC
            exact YieldsK.atArr0 (i := (t) - (7)) sha9_ty42 sha9_sz40 e6 e99 (by omega) ⟨Ext.refl _, rfl⟩
          · refine stepN rfl fun σ w1 hC h => ?_    -- t101 := (Op.load 40 (Operand.tmp 100))
            have e100 : σ 100 = .pointer (some ⟨n53, (t) - (7), none⟩) := h 100 (by decide)
            have hC : Ext _ w1 := hC
            exact YieldsK.cell1 sha9_ty40 rfl e100 (cellAt (Ext.blk' hC hb67l) (word_at (i := (t) - (7)) (by rw [hpl]; omega))) ⟨Ext.refl _, rfl⟩
          · refine stepN rfl fun σ w1 hC h => ?_    -- t102 := (Op.binOp BinOp.add 40 (Operand.tmp 97) (Operand.tmp 101) 40)
            have e97 : σ 97 = U (((Sha.rotr ((Sha.pad64 (Sha.sched B t)).getD ((t) - (2)) 0) 17) ^^^ (Sha.rotr ((Sha.pad64 (Sha.sched B t)).getD ((t) - (2)) 0) 19)) ^^^ (((Sha.pad64 (Sha.sched B t)).getD ((t) - (2)) 0) >>> 10)) := h 97 (by decide)
            have e101 : σ 101 = U ((Sha.pad64 (Sha.sched B t)).getD ((t) - (7)) 0) := h 101 (by decide)
            have hC : Ext _ w1 := hC
            exact YieldsK.bin e97 e101 rfl (u_add _ _ _) ⟨Ext.refl _, rfl⟩
          · refine stepN rfl fun σ w1 hC h => ?_    -- t103 := (Op.move (Operand.tmp 8))
            have e8 : σ 8 = U ((Sha.pad64 (Sha.sched B t)).getD ((t) - (15)) 0) := (show _ = _ from h 8 (by decide)).trans T8
            have hC : Ext _ w1 := hC
            exact YieldsK.move e8 ⟨Ext.refl _, rfl⟩
          · refine stepN rfl fun σ w1 hC h => ?_    -- t104 := (Op.call { callee := (Callee.value (Operand.func 17)), args := #[(Operand.tmp 103), (Operand.const (Value.int 
            have e103 : σ 103 = U ((Sha.pad64 (Sha.sched B t)).getD ((t) - (15)) 0) := h 103 (by decide)
            have hC : Ext _ w1 := hC
            refine YieldsK.callA2 sha9_pl17 e103 (show _ = (.int .u64 ((7 : Nat) : Int) : Value) from rfl) ?_
            refine (rot_any _ ((Sha.pad64 (Sha.sched B t)).getD ((t) - (15)) 0) 7 (by decide) (by decide)).mono ?_
            rintro e w2 ⟨rfl, hx⟩
            exact ⟨_, rfl, hx, rfl⟩
          · refine stepN rfl fun σ w1 hC h => ?_    -- t105 := (Op.move (Operand.tmp 8))
            have e8 : σ 8 = U ((Sha.pad64 (Sha.sched B t)).getD ((t) - (15)) 0) := (show _ = _ from h 8 (by decide)).trans T8
            have hC : Ext _ w1 := hC
            exact YieldsK.move e8 ⟨Ext.refl _, rfl⟩
          · refine stepN rfl fun σ w1 hC h => ?_    -- t106 := (Op.call { callee := (Callee.value (Operand.func 17)), args := #[(Operand.tmp 105), (Operand.const (Value.int 
            have e105 : σ 105 = U ((Sha.pad64 (Sha.sched B t)).getD ((t) - (15)) 0) := h 105 (by decide)
            have hC : Ext _ w1 := hC
            refine YieldsK.callA2 sha9_pl17 e105 (show _ = (.int .u64 ((18 : Nat) : Int) : Value) from rfl) ?_
            refine (rot_any _ ((Sha.pad64 (Sha.sched B t)).getD ((t) - (15)) 0) 18 (by decide) (by decide)).mono ?_
            rintro e w2 ⟨rfl, hx⟩
            exact ⟨_, rfl, hx, rfl⟩
          · refine stepN rfl fun σ w1 hC h => ?_    -- t107 := (Op.binOp BinOp.xor 40 (Operand.tmp 104) (Operand.tmp 106) 40)
            have e104 : σ 104 = U (Sha.rotr ((Sha.pad64 (Sha.sched B t)).getD ((t) - (15)) 0) 7) := h 104 (by decide)
            have e106 : σ 106 = U (Sha.rotr ((Sha.pad64 (Sha.sched B t)).getD ((t) - (15)) 0) 18) := h 106 (by decide)
            have hC : Ext _ w1 := hC
            exact YieldsK.bin e104 e106 rfl (u_xor _ _ _) ⟨Ext.refl _, rfl⟩
          · refine stepN rfl fun σ w1 hC h => ?_    -- t108 := (Op.move (Operand.tmp 8))
            have e8 : σ 8 = U ((Sha.pad64 (Sha.sched B t)).getD ((t) - (15)) 0) := (show _ = _ from h 8 (by decide)).trans T8
            have hC : Ext _ w1 := hC
            exact YieldsK.move e8 ⟨Ext.refl _, rfl⟩
          · refine stepN rfl fun σ w1 hC h => ?_    -- t109 := (Op.binOp BinOp.shr 40 (Operand.tmp 108) (Operand.const (Value.int IntKind.u64 3)) 43)
            have e108 : σ 108 = U ((Sha.pad64 (Sha.sched B t)).getD ((t) - (15)) 0) := h 108 (by decide)
            have hC : Ext _ w1 := hC
            exact YieldsK.bin e108 (show _ = (.int .u64 ((3 : Nat) : Int) : Value) from rfl) rfl (u_shr _ _ _ 3 (by decide)) ⟨Ext.refl _, rfl⟩
          · refine stepN rfl fun σ w1 hC h => ?_    -- t110 := (Op.binOp BinOp.xor 40 (Operand.tmp 107) (Operand.tmp 109) 40)
            have e107 : σ 107 = U ((Sha.rotr ((Sha.pad64 (Sha.sched B t)).getD ((t) - (15)) 0) 7) ^^^ (Sha.rotr ((Sha.pad64 (Sha.sched B t)).getD ((t) - (15)) 0) 18)) := h 107 (by decide)
            have e109 : σ 109 = U (((Sha.pad64 (Sha.sched B t)).getD ((t) - (15)) 0) >>> 3) := h 109 (by decide)
            have hC : Ext _ w1 := hC
            exact YieldsK.bin e107 e109 rfl (u_xor _ _ _) ⟨Ext.refl _, rfl⟩
          · refine stepN rfl fun σ w1 hC h => ?_    -- t111 := (Op.binOp BinOp.add 40 (Operand.tmp 102) (Operand.tmp 110) 40)
            have e102 : σ 102 = U ((((Sha.rotr ((Sha.pad64 (Sha.sched B t)).getD ((t) - (2)) 0) 17) ^^^ (Sha.rotr ((Sha.pad64 (Sha.sched B t)).getD ((t) - (2)) 0) 19)) ^^^ (((Sha.pad64 (Sha.sched B t)).getD ((t) - (2)) 0) >>> 10)) + ((Sha.pad64 (Sha.sched B t)).getD ((t) - (7)) 0)) := h 102 (by decide)
            have e110 : σ 110 = U (((Sha.rotr ((Sha.pad64 (Sha.sched B t)).getD ((t) - (15)) 0) 7) ^^^ (Sha.rotr ((Sha.pad64 (Sha.sched B t)).getD ((t) - (15)) 0) 18)) ^^^ (((Sha.pad64 (Sha.sched B t)).getD ((t) - (15)) 0) >>> 3)) := h 110 (by decide)
            have hC : Ext _ w1 := hC
            exact YieldsK.bin e102 e110 rfl (u_add _ _ _) ⟨Ext.refl _, rfl⟩
          · refine stepN rfl fun σ w1 hC h => ?_    -- t112 := (Op.move (Operand.tmp 7))
            have e7 : σ 7 = .int .i64 ((t : Nat) : Int) := (show _ = _ from h 7 (by decide)).trans T7
            have hC : Ext _ w1 := hC
            exact YieldsK.move e7 ⟨Ext.refl _, rfl⟩
          · refine stepN rfl fun σ w1 hC h => ?_    -- t113 := (Op.binOp BinOp.sub 3 (Operand.tmp 112) (Operand.const (Value.int IntKind.i64 16)) 3)
            have e112 : σ 112 = .int .i64 ((t : Nat) : Int) := h 112 (by decide)
            have hC : Ext _ w1 := hC
            exact YieldsK.bin (xv := .int .i64 ((t : Nat) : Int)) (yv := .int .i64 ((16 : Nat) : Int)) e112 (show _ = (.int .i64 ((16 : Nat) : Int) : Value) from rfl) rfl (i64_sub _ (t) (16) (by omega) (by omega)) ⟨Ext.refl _, rfl⟩
          · refine stepN rfl fun σ w1 hC h => ?_    -- t114 := (Op.indexAddr 42 (Operand.tmp 6) (Operand.tmp 113))
            have e6 : σ 6 = .pointer (some ⟨n53, 0, none⟩) := (show _ = _ from h 6 (by decide)).trans T6
            have e113 : σ 113 = .int .i64 (((t) - (16) : Nat) : Int) := h 113 (by decide)
            have hC : Ext _ w1 := hC
            exact YieldsK.atArr0 (i := (t) - (16)) sha9_ty42 sha9_sz40 e6 e113 (by omega) ⟨Ext.refl _, rfl⟩
          · refine stepN rfl fun σ w1 hC h => ?_    -- t115 := (Op.load 40 (Operand.tmp 114))
            have e114 : σ 114 = .pointer (some ⟨n53, (t) - (16), none⟩) := h 114 (by decide)
            have hC : Ext _ w1 := hC
            exact YieldsK.cell1 sha9_ty40 rfl e114 (cellAt (Ext.blk' hC hb67l) (word_at (i := (t) - (16)) (by rw [hpl]; omega))) ⟨Ext.refl _, rfl⟩
          · refine stepN rfl fun σ w1 hC h => ?_    -- t116 := (Op.binOp BinOp.add 40 (Operand.tmp 111) (Operand.tmp 115) 40)
            have e111 : σ 111 = U (((((Sha.rotr ((Sha.pad64 (Sha.sched B t)).getD ((t) - (2)) 0) 17) ^^^ (Sha.rotr ((Sha.pad64 (Sha.sched B t)).getD ((t) - (2)) 0) 19)) ^^^ (((Sha.pad64 (Sha.sched B t)).getD ((t) - (2)) 0) >>> 10)) + ((Sha.pad64 (Sha.sched B t)).getD ((t) - (7)) 0)) + (((Sha.rotr ((Sha.pad64 (Sha.sched B t)).getD ((t) - (15)) 0) 7) ^^^ (Sha.rotr ((Sha.pad64 (Sha.sched B t)).getD ((t) - (15)) 0) 18)) ^^^ (((Sha.pad64 (Sha.sched B t)).getD ((t) - (15)) 0) >>> 3))) := h 111 (by decide)
            have e115 : σ 115 = U ((Sha.pad64 (Sha.sched B t)).getD ((t) - (16)) 0) := h 115 (by decide)
            have hC : Ext _ w1 := hC
            exact YieldsK.bin e111 e115 rfl (u_add _ _ _) ⟨Ext.refl _, rfl⟩
          · refine stepN rfl fun σ w1 hC h => ?_    -- t117 := (Op.indexAddr 42 (Operand.tmp 6) (Operand.tmp 89))
            have e6 : σ 6 = .pointer (some ⟨n53, 0, none⟩) := (show _ = _ from h 6 (by decide)).trans T6
            have e89 : σ 89 = .int .i64 ((t : Nat) : Int) := h 89 (by decide)
            have hC : Ext _ w1 := hC
            exact YieldsK.atArr0 (i := t) sha9_ty42 sha9_sz40 e6 e89 (by omega) ⟨Ext.refl _, rfl⟩
          · refine stepN rfl fun σ w1 hC h => ?_    -- tNone := (Op.store 40 (Operand.tmp 117) (Operand.tmp 116))
            have e117 : σ 117 = .pointer (some ⟨n53, t, none⟩) := h 117 (by decide)
            have e116 : σ 116 = U ((((((Sha.rotr ((Sha.pad64 (Sha.sched B t)).getD ((t) - (2)) 0) 17) ^^^ (Sha.rotr ((Sha.pad64 (Sha.sched B t)).getD ((t) - (2)) 0) 19)) ^^^ (((Sha.pad64 (Sha.sched B t)).getD ((t) - (2)) 0) >>> 10)) + ((Sha.pad64 (Sha.sched B t)).getD ((t) - (7)) 0)) + (((Sha.rotr ((Sha.pad64 (Sha.sched B t)).getD ((t) - (15)) 0) 7) ^^^ (Sha.rotr ((Sha.pad64 (Sha.sched B t)).getD ((t) - (15)) 0) 18)) ^^^ (((Sha.pad64 (Sha.sched B t)).getD ((t) - (15)) 0) >>> 3))) + ((Sha.pad64 (Sha.sched B t)).getD ((t) - (16)) 0)) := h 116 (by decide)
            have hC : Ext _ w1 := hC
            exact YieldsK.storeU32 (i := t) (v := (((((Sha.rotr ((Sha.pad64 (Sha.sched B t)).getD ((t) - (2)) 0) 17) ^^^ (Sha.rotr ((Sha.pad64 (Sha.sched B t)).getD ((t) - (2)) 0) 19)) ^^^ (((Sha.pad64 (Sha.sched B t)).getD ((t) - (2)) 0) >>> 10)) + ((Sha.pad64 (Sha.sched B t)).getD ((t) - (7)) 0)) + (((Sha.rotr ((Sha.pad64 (Sha.sched B t)).getD ((t) - (15)) 0) 7) ^^^ (Sha.rotr ((Sha.pad64 (Sha.sched B t)).getD ((t) - (15)) 0) 18)) ^^^ (((Sha.pad64 (Sha.sched B t)).getD ((t) - (15)) 0) >>> 3))) + ((Sha.pad64 (Sha.sched B t)).getD ((t) - (16)) 0)) e117 e116 (Ext.blk' hC hb67l) (by rw [hpl]; omega) sha9_isz40 fun w2 h1 h2 h3 => ⟨⟨h1, h2, h3⟩, trivial⟩
        intro ρ103 w106 w104 hx105 hS107 he hf
        obtain ⟨-, -, -, -, -, -, -, -, -, -, -, -, -, -, -, -, -, -, -, -, -, -, -, -, -, -, -, -, -, -⟩ := hf
        have T0 : ρ103 0 = v := he.at_ T0 rfl
        have T2 : ρ103 2 = .pointer (some ⟨n2, 0, none⟩) := he.at_ T2 rfl
        have T3 : ρ103 3 = .pointer (some ⟨n12, 0, none⟩) := he.at_ T3 rfl
        have T4 : ρ103 4 = v31 := he.at_ T4 rfl
        have T5 : ρ103 5 = .int .i64 ((64 * j : Nat) : Int) := he.at_ T5 rfl
        have T6 : ρ103 6 = .pointer (some ⟨n53, 0, none⟩) := he.at_ T6 rfl
        have T7 : ρ103 7 = .int .i64 ((t : Nat) : Int) := he.at_ T7 rfl
        have T8 : ρ103 8 = U ((Sha.pad64 (Sha.sched B t)).getD ((t) - (15)) 0) := he.at_ T8 rfl
        have T9 : ρ103 9 = U ((Sha.pad64 (Sha.sched B t)).getD ((t) - (2)) 0) := he.at_ T9 rfl
        clear he
        have hE : Ext w w106 := (hE.trans hx105)
        have hb8 : w106.heap[n2]? = some (.cells (Lib.byteCells (List.replicate 32 0)).toArray 24 (0, 0)) := (Ext.blk' hx105 hb8)
        have hA18 : Ext w3 w106 := (hA18.trans hx105)
        have ho41 : w106.ownsRow w24.heap.size 5 1 v31 (P : List UInt8).length (Lib.byteCells (P)) := (Stab.own _ _ _ _ _ _ _ _ ho41 hx105)
        have hb22l : w106.heap[n12]? = some (.cells (Sj.map fun x => U x).toArray 41 (0, 0)) := (Ext.blk' hx105 hb22l)
        have hA59 : Ext w47 w106 := (hA59.trans hx105)
        have hb67l : w106.heap[n53]? = some (.cells ((Sha.pad64 (Sha.sched B t)).map fun x => U x).toArray 42 (0, 0)) := (Ext.blk' hx105 hb67l)
        obtain ⟨hb108, hg109, hs110⟩ := hS107
        have hE : Ext w w104 := row_fresh hE hg109 (Nat.le_trans hz62 (by omega))
        have hb8 : w104.heap[n2]? = some (.cells (Lib.byteCells (List.replicate 32 0)).toArray 24 (0, 0)) := (hg109.block _ (Array.getElem?_eq_some_iff.1 hb8).1 (by simp; omega)).trans hb8
        have hA18 : Ext w3 w104 := row_fresh hA18 hg109 (Nat.le_trans hz63 (by omega))
        have ho41 : w104.ownsRow w24.heap.size 5 1 v31 (P : List UInt8).length (Lib.byteCells (P)) := own_kept ho41 hg109 hap66
        have hb22l : w104.heap[n12]? = some (.cells (Sj.map fun x => U x).toArray 41 (0, 0)) := (hg109.block _ (Array.getElem?_eq_some_iff.1 hb22l).1 (by simp; omega)).trans hb22l
        have hA59 : Ext w47 w104 := row_fresh hA59 hg109 (Nat.le_trans (Nat.le_refl _) (by omega))
        clear hb67l
        have hb67l := hb108; clear hb108
        have hl111 : n53 < w104.heap.size := (Array.getElem?_eq_some_iff.1 hb67l).1
        have hb67l : w104.heap[n53]? = some (.cells ((Sha.pad64 (Sha.sched B (t + 1))).map fun x => U x).toArray 42 (0, 0)) := blk_eq hb67l (congrArg (List.map fun x => U x) (Sha.sched_step2 B t (by omega) hc1))
        refine inBlockF_normal ?_
        refine thenF_normal (hK78 _ _ ?_)
        refine wpF_text ?_
        refine opsF_step rfl (YieldsK.move (show _ = (.int .i64 ((t : Nat) : Int) : Value) from T7) ?_)    -- ref.go:35 t34 := (Op.move (Operand.tmp 7))
        refine opsF_step rfl (YieldsK.bin (xv := .int .i64 ((t : Nat) : Int)) (yv := .int .i64 ((1 : Nat) : Int)) (show _ = (.int .i64 ((t : Nat) : Int) : Value) from rfl) (show _ = (.int .i64 ((1 : Nat) : Int) : Value) from rfl) rfl (i64_add _ (t) (1) (by omega)) ?_)    -- ref.go:35 t35 := (Op.binOp BinOp.add 3 (Operand.tmp 34) (Operand.const (Value.int IntKind.i64 1)) 3)
        refine opsF_step rfl (YieldsK.assign (show _ = (.int .i64 (((t) + (1) : Nat) : Int) : Value) from rfl) ?_)    -- ref.go:35 t7 := (Op.assign (Operand.tmp 35))
        refine opsF_end (fun ρ => ρ 0 = (v : Value) ∧ ρ 2 = (.pointer (some ⟨n2, 0, none⟩) : Value) ∧ ρ 3 = (.pointer (some ⟨n12, 0, none⟩) : Value) ∧ ρ 4 = (v31 : Value) ∧ ρ 5 = (.int .i64 ((64 * j : Nat) : Int) : Value) ∧ ρ 6 = (.pointer (some ⟨n53, 0, none⟩) : Value) ∧ ρ 7 = (.int .i64 (((t) + (1) : Nat) : Int) : Value) ∧ ρ 8 = (U ((Sha.pad64 (Sha.sched B t)).getD ((t) - (15)) 0) : Value) ∧ ρ 9 = (U ((Sha.pad64 (Sha.sched B t)).getD ((t) - (2)) 0) : Value) ∧ True) ⟨T0, T2, T3, T4, T5, T6, rfl, T8, T9, trivial⟩ fun ρ112 ⟨T0, T2, T3, T4, T5, T6, T7, T8, T9, _⟩ => ?_
        refine thenF_normal (And.intro ⟨t + 1, T0, T2, T3, T4, T5, T6, T7, hE, hb8, hA18, ho41, hb22l, hA59, blk_eq hb67l (rfl), by omega, trivial⟩ ?_)
        show 64 - (intOf (ρ112 7)).toNat < 64 - (intOf (ρ73 7)).toNat
        rw [T7, q7]
        simp only [intOf, Int.toNat_natCast]; omega
    · obtain ⟨F, hF⟩ : ∃ F, F = Sha.sched B 64 := ⟨_, rfl⟩
      have hb67l : w74.heap[n53]? = some (.cells (F.map fun x => U x).toArray 42 (0, 0)) := blk_eq hb67l (by rw [show t = 64 by omega, ← hF, Sha.pad64_full _ (by rw [hF, Sha.sched_length])])
      have hFl : F.length = 64 := by rw [hF, Sha.sched_length]
      refine wpF_exit (thenF_exit (thenF_exit (inBlockF_hit ?_)))
      refine thenF_normal (hK70 _ _ ?_)
      refine wpF_seq_k fun K113 hK113 => ?_
      refine wpF_draw [Is (.pointer (some ⟨n12, 0, none⟩)), Is (U ((Sj).getD (0) 0)), Is (.pointer (some ⟨n12, 1, none⟩)), Is (U ((Sj).getD (1) 0)), Is (.pointer (some ⟨n12, 2, none⟩)), Is (U ((Sj).getD (2) 0)), Is (.pointer (some ⟨n12, 3, none⟩)), Is (U ((Sj).getD (3) 0)), Is (.pointer (some ⟨n12, 4, none⟩)), Is (U ((Sj).getD (4) 0)), Is (.pointer (some ⟨n12, 5, none⟩)), Is (U ((Sj).getD (5) 0)), Is (.pointer (some ⟨n12, 6, none⟩)), Is (U ((Sj).getD (6) 0)), Is (.pointer (some ⟨n12, 7, none⟩)), Is (U ((Sj).getD (7) 0)), Is (U ((Sj).getD (0) 0)), Is (U ((Sj).getD (1) 0)), Is (U ((Sj).getD (2) 0)), Is (U ((Sj).getD (3) 0)), Is (U ((Sj).getD (4) 0)), Is (U ((Sj).getD (5) 0)), Is (U ((Sj).getD (6) 0)), Is (U ((Sj).getD (7) 0))] (by kernel_rfl) [118, 119, 120, 121, 122, 123, 124, 125, 126, 127, 128, 129, 130, 131, 132, 133, 10, 11, 12, 13, 14, 15, 16, 17] (by kernel_rfl) (by kernel_rfl) ⟨Stab.is _, Stab.is _, Stab.is _, Stab.is _, Stab.is _, Stab.is _, Stab.is _, Stab.is _, Stab.is _, Stab.is _, Stab.is _, Stab.is _, Stab.is _, Stab.is _, Stab.is _, Stab.is _, Stab.is _, Stab.is _, Stab.is _, Stab.is _, Stab.is _, Stab.is _, Stab.is _, Stab.is _, trivial⟩ ?hs14 ?hQ14
      case hs14 =>
        refine ⟨?_, ?_, ?_, ?_, ?_, ?_, ?_, ?_, ?_, ?_, ?_, ?_, ?_, ?_, ?_, ?_, ?_, ?_, ?_, ?_, ?_, ?_, ?_, ?_, trivial⟩
        · refine stepN rfl fun σ w1 hC h => ?_    -- t118 := (Op.indexAddr 41 (Operand.tmp 3) (Operand.const (Value.int IntKind.i64 0)))
          have e3 : σ 3 = .pointer (some ⟨n12, 0, none⟩) := (show _ = _ from h 3 (by decide)).trans T3
          exact YieldsK.atArr0 (i := 0) sha9_ty41 sha9_sz40 e3 (show _ = (.int .i64 ((0 : Nat) : Int) : Value) from rfl) (by omega) ⟨Ext.refl _, rfl⟩
        · refine stepN rfl fun σ w1 hC h => ?_    -- t119 := (Op.load 40 (Operand.tmp 118))
          have e118 : σ 118 = .pointer (some ⟨n12, 0, none⟩) := h 118 (by decide)
          exact YieldsK.cell1 sha9_ty40 rfl e118 (cellAt (Ext.blk' hC hb22l) (word_at (i := 0) (by rw [hSl]; omega))) ⟨Ext.refl _, rfl⟩
        · refine stepN rfl fun σ w1 hC h => ?_    -- t120 := (Op.indexAddr 41 (Operand.tmp 3) (Operand.const (Value.int IntKind.i64 1)))
          have e3 : σ 3 = .pointer (some ⟨n12, 0, none⟩) := (show _ = _ from h 3 (by decide)).trans T3
          exact YieldsK.atArr0 (i := 1) sha9_ty41 sha9_sz40 e3 (show _ = (.int .i64 ((1 : Nat) : Int) : Value) from rfl) (by omega) ⟨Ext.refl _, rfl⟩
        · refine stepN rfl fun σ w1 hC h => ?_    -- t121 := (Op.load 40 (Operand.tmp 120))
          have e120 : σ 120 = .pointer (some ⟨n12, 1, none⟩) := h 120 (by decide)
          exact YieldsK.cell1 sha9_ty40 rfl e120 (cellAt (Ext.blk' hC hb22l) (word_at (i := 1) (by rw [hSl]; omega))) ⟨Ext.refl _, rfl⟩
        · refine stepN rfl fun σ w1 hC h => ?_    -- t122 := (Op.indexAddr 41 (Operand.tmp 3) (Operand.const (Value.int IntKind.i64 2)))
          have e3 : σ 3 = .pointer (some ⟨n12, 0, none⟩) := (show _ = _ from h 3 (by decide)).trans T3
          exact YieldsK.atArr0 (i := 2) sha9_ty41 sha9_sz40 e3 (show _ = (.int .i64 ((2 : Nat) : Int) : Value) from rfl) (by omega) ⟨Ext.refl _, rfl⟩
        · refine stepN rfl fun σ w1 hC h => ?_    -- t123 := (Op.load 40 (Operand.tmp 122))
          have e122 : σ 122 = .pointer (some ⟨n12, 2, none⟩) := h 122 (by decide)
          exact YieldsK.cell1 sha9_ty40 rfl e122 (cellAt (Ext.blk' hC hb22l) (word_at (i := 2) (by rw [hSl]; omega))) ⟨Ext.refl _, rfl⟩
        · refine stepN rfl fun σ w1 hC h => ?_    -- t124 := (Op.indexAddr 41 (Operand.tmp 3) (Operand.const (Value.int IntKind.i64 3)))
          have e3 : σ 3 = .pointer (some ⟨n12, 0, none⟩) := (show _ = _ from h 3 (by decide)).trans T3
          exact YieldsK.atArr0 (i := 3) sha9_ty41 sha9_sz40 e3 (show _ = (.int .i64 ((3 : Nat) : Int) : Value) from rfl) (by omega) ⟨Ext.refl _, rfl⟩
        · refine stepN rfl fun σ w1 hC h => ?_    -- t125 := (Op.load 40 (Operand.tmp 124))
          have e124 : σ 124 = .pointer (some ⟨n12, 3, none⟩) := h 124 (by decide)
          exact YieldsK.cell1 sha9_ty40 rfl e124 (cellAt (Ext.blk' hC hb22l) (word_at (i := 3) (by rw [hSl]; omega))) ⟨Ext.refl _, rfl⟩
        · refine stepN rfl fun σ w1 hC h => ?_    -- t126 := (Op.indexAddr 41 (Operand.tmp 3) (Operand.const (Value.int IntKind.i64 4)))
          have e3 : σ 3 = .pointer (some ⟨n12, 0, none⟩) := (show _ = _ from h 3 (by decide)).trans T3
          exact YieldsK.atArr0 (i := 4) sha9_ty41 sha9_sz40 e3 (show _ = (.int .i64 ((4 : Nat) : Int) : Value) from rfl) (by omega) ⟨Ext.refl _, rfl⟩
        · refine stepN rfl fun σ w1 hC h => ?_    -- t127 := (Op.load 40 (Operand.tmp 126))
          have e126 : σ 126 = .pointer (some ⟨n12, 4, none⟩) := h 126 (by decide)
          exact YieldsK.cell1 sha9_ty40 rfl e126 (cellAt (Ext.blk' hC hb22l) (word_at (i := 4) (by rw [hSl]; omega))) ⟨Ext.refl _, rfl⟩
        · refine stepN rfl fun σ w1 hC h => ?_    -- t128 := (Op.indexAddr 41 (Operand.tmp 3) (Operand.const (Value.int IntKind.i64 5)))
          have e3 : σ 3 = .pointer (some ⟨n12, 0, none⟩) := (show _ = _ from h 3 (by decide)).trans T3
          exact YieldsK.atArr0 (i := 5) sha9_ty41 sha9_sz40 e3 (show _ = (.int .i64 ((5 : Nat) : Int) : Value) from rfl) (by omega) ⟨Ext.refl _, rfl⟩
        · refine stepN rfl fun σ w1 hC h => ?_    -- t129 := (Op.load 40 (Operand.tmp 128))
          have e128 : σ 128 = .pointer (some ⟨n12, 5, none⟩) := h 128 (by decide)
          exact YieldsK.cell1 sha9_ty40 rfl e128 (cellAt (Ext.blk' hC hb22l) (word_at (i := 5) (by rw [hSl]; omega))) ⟨Ext.refl _, rfl⟩
        · refine stepN rfl fun σ w1 hC h => ?_    -- t130 := (Op.indexAddr 41 (Operand.tmp 3) (Operand.const (Value.int IntKind.i64 6)))
          have e3 : σ 3 = .pointer (some ⟨n12, 0, none⟩) := (show _ = _ from h 3 (by decide)).trans T3
          exact YieldsK.atArr0 (i := 6) sha9_ty41 sha9_sz40 e3 (show _ = (.int .i64 ((6 : Nat) : Int) : Value) from rfl) (by omega) ⟨Ext.refl _, rfl⟩
        · refine stepN rfl fun σ w1 hC h => ?_    -- t131 := (Op.load 40 (Operand.tmp 130))
          have e130 : σ 130 = .pointer (some ⟨n12, 6, none⟩) := h 130 (by decide)
          exact YieldsK.cell1 sha9_ty40 rfl e130 (cellAt (Ext.blk' hC hb22l) (word_at (i := 6) (by rw [hSl]; omega))) ⟨Ext.refl _, rfl⟩
        · refine stepN rfl fun σ w1 hC h => ?_    -- t132 := (Op.indexAddr 41 (Operand.tmp 3) (Operand.const (Value.int IntKind.i64 7)))
          have e3 : σ 3 = .pointer (some ⟨n12, 0, none⟩) := (show _ = _ from h 3 (by decide)).trans T3
          exact YieldsK.atArr0 (i := 7) sha9_ty41 sha9_sz40 e3 (show _ = (.int .i64 ((7 : Nat) : Int) : Value) from rfl) (by omega) ⟨Ext.refl _, rfl⟩
        · refine stepN rfl fun σ w1 hC h => ?_    -- t133 := (Op.load 40 (Operand.tmp 132))
          have e132 : σ 132 = .pointer (some ⟨n12, 7, none⟩) := h 132 (by decide)
          exact YieldsK.cell1 sha9_ty40 rfl e132 (cellAt (Ext.blk' hC hb22l) (word_at (i := 7) (by rw [hSl]; omega))) ⟨Ext.refl _, rfl⟩
        · refine stepN rfl fun σ w1 hC h => ?_    -- t10 := (Op.assign (Operand.tmp 119))
          have e119 : σ 119 = U ((Sj).getD (0) 0) := h 119 (by decide)
          exact YieldsK.assign e119 ⟨Ext.refl _, rfl⟩
        · refine stepN rfl fun σ w1 hC h => ?_    -- t11 := (Op.assign (Operand.tmp 121))
          have e121 : σ 121 = U ((Sj).getD (1) 0) := h 121 (by decide)
          exact YieldsK.assign e121 ⟨Ext.refl _, rfl⟩
        · refine stepN rfl fun σ w1 hC h => ?_    -- t12 := (Op.assign (Operand.tmp 123))
          have e123 : σ 123 = U ((Sj).getD (2) 0) := h 123 (by decide)
          exact YieldsK.assign e123 ⟨Ext.refl _, rfl⟩
        · refine stepN rfl fun σ w1 hC h => ?_    -- t13 := (Op.assign (Operand.tmp 125))
          have e125 : σ 125 = U ((Sj).getD (3) 0) := h 125 (by decide)
          exact YieldsK.assign e125 ⟨Ext.refl _, rfl⟩
        · refine stepN rfl fun σ w1 hC h => ?_    -- t14 := (Op.assign (Operand.tmp 127))
          have e127 : σ 127 = U ((Sj).getD (4) 0) := h 127 (by decide)
          exact YieldsK.assign e127 ⟨Ext.refl _, rfl⟩
        · refine stepN rfl fun σ w1 hC h => ?_    -- t15 := (Op.assign (Operand.tmp 129))
          have e129 : σ 129 = U ((Sj).getD (5) 0) := h 129 (by decide)
          exact YieldsK.assign e129 ⟨Ext.refl _, rfl⟩
        · refine stepN rfl fun σ w1 hC h => ?_    -- t16 := (Op.assign (Operand.tmp 131))
          have e131 : σ 131 = U ((Sj).getD (6) 0) := h 131 (by decide)
          exact YieldsK.assign e131 ⟨Ext.refl _, rfl⟩
        · refine stepN rfl fun σ w1 hC h => ?_    -- t17 := (Op.assign (Operand.tmp 133))
          have e133 : σ 133 = U ((Sj).getD (7) 0) := h 133 (by decide)
          exact YieldsK.assign e133 ⟨Ext.refl _, rfl⟩
      intro ρ114 w115 hx116 he hf
      obtain ⟨-, -, -, -, -, -, -, -, -, -, -, -, -, -, -, -, k10, k11, k12, k13, k14, k15, k16, k17, -⟩ := hf
      have T0 : ρ114 0 = v := he.at_ T0 rfl
      have T2 : ρ114 2 = .pointer (some ⟨n2, 0, none⟩) := he.at_ T2 rfl
      have T3 : ρ114 3 = .pointer (some ⟨n12, 0, none⟩) := he.at_ T3 rfl
      have T4 : ρ114 4 = v31 := he.at_ T4 rfl
      have T5 : ρ114 5 = .int .i64 ((64 * j : Nat) : Int) := he.at_ T5 rfl
      have T6 : ρ114 6 = .pointer (some ⟨n53, 0, none⟩) := he.at_ T6 rfl
      have T7 : ρ114 7 = .int .i64 ((t : Nat) : Int) := he.at_ T7 rfl
      clear he
      have hE : Ext w w115 := (hE.trans hx116)
      have hb8 : w115.heap[n2]? = some (.cells (Lib.byteCells (List.replicate 32 0)).toArray 24 (0, 0)) := (Ext.blk' hx116 hb8)
      have hA18 : Ext w3 w115 := (hA18.trans hx116)
      have ho41 : w115.ownsRow w24.heap.size 5 1 v31 (P : List UInt8).length (Lib.byteCells (P)) := (Stab.own _ _ _ _ _ _ _ _ ho41 hx116)
      have hb22l : w115.heap[n12]? = some (.cells (Sj.map fun x => U x).toArray 41 (0, 0)) := (Ext.blk' hx116 hb22l)
      have hA59 : Ext w47 w115 := (hA59.trans hx116)
      have hb67l : w115.heap[n53]? = some (.cells (F.map fun x => U x).toArray 42 (0, 0)) := (Ext.blk' hx116 hb67l)
      have T10 : ρ114 10 = U ((Sj).getD (0) 0) := k10
      have T11 : ρ114 11 = U ((Sj).getD (1) 0) := k11
      have T12 : ρ114 12 = U ((Sj).getD (2) 0) := k12
      have T13 : ρ114 13 = U ((Sj).getD (3) 0) := k13
      have T14 : ρ114 14 = U ((Sj).getD (4) 0) := k14
      have T15 : ρ114 15 = U ((Sj).getD (5) 0) := k15
      have T16 : ρ114 16 = U ((Sj).getD (6) 0) := k16
      have T17 : ρ114 17 = U ((Sj).getD (7) 0) := k17
      clear k10 k11 k12 k13 k14 k15 k16 k17
      refine thenF_normal (hK113 _ _ ?_)
      refine wpF_seq_k fun K117 hK117 => ?_
      refine wpF_seq_k fun K118 hK118 => ?_
      refine wpF_text ?_
      refine opsF_step rfl (YieldsK.assign (show _ = (.int .i64 ((0 : Nat) : Int) : Value) from rfl) ?_)    -- ref.go:44 t18 := (Op.assign (Operand.const (Value.int IntKind.i64 0)))
      refine opsF_end (fun ρ => ρ 0 = (v : Value) ∧ ρ 2 = (.pointer (some ⟨n2, 0, none⟩) : Value) ∧ ρ 3 = (.pointer (some ⟨n12, 0, none⟩) : Value) ∧ ρ 4 = (v31 : Value) ∧ ρ 5 = (.int .i64 ((64 * j : Nat) : Int) : Value) ∧ ρ 6 = (.pointer (some ⟨n53, 0, none⟩) : Value) ∧ ρ 7 = (.int .i64 ((t : Nat) : Int) : Value) ∧ ρ 10 = (U ((Sj).getD (0) 0) : Value) ∧ ρ 11 = (U ((Sj).getD (1) 0) : Value) ∧ ρ 12 = (U ((Sj).getD (2) 0) : Value) ∧ ρ 13 = (U ((Sj).getD (3) 0) : Value) ∧ ρ 14 = (U ((Sj).getD (4) 0) : Value) ∧ ρ 15 = (U ((Sj).getD (5) 0) : Value) ∧ ρ 16 = (U ((Sj).getD (6) 0) : Value) ∧ ρ 17 = (U ((Sj).getD (7) 0) : Value) ∧ ρ 18 = (.int .i64 ((0 : Nat) : Int) : Value) ∧ True) ⟨T0, T2, T3, T4, T5, T6, T7, T10, T11, T12, T13, T14, T15, T16, T17, rfl, trivial⟩ fun ρ119 ⟨T0, T2, T3, T4, T5, T6, T7, T10, T11, T12, T13, T14, T15, T16, T17, T18, _⟩ => ?_
      refine thenF_normal (hK118 _ _ ?_)
      refine wpF_block ?_
      refine wpF_loop (fun (ρ : Slots) (wz : World) => ∃ r : Nat, ρ 0 = (v : Value) ∧ ρ 2 = (.pointer (some ⟨n2, 0, none⟩) : Value) ∧ ρ 3 = (.pointer (some ⟨n12, 0, none⟩) : Value) ∧ ρ 4 = (v31 : Value) ∧ ρ 5 = (.int .i64 ((64 * j : Nat) : Int) : Value) ∧ ρ 6 = (.pointer (some ⟨n53, 0, none⟩) : Value) ∧ ρ 7 = (.int .i64 ((t : Nat) : Int) : Value) ∧ ρ 18 = (.int .i64 ((r : Nat) : Int) : Value) ∧ ρ 10 = (U ((Sha.turned Sj F r).getD 0 0) : Value) ∧ ρ 11 = (U ((Sha.turned Sj F r).getD 1 0) : Value) ∧ ρ 12 = (U ((Sha.turned Sj F r).getD 2 0) : Value) ∧ ρ 13 = (U ((Sha.turned Sj F r).getD 3 0) : Value) ∧ ρ 14 = (U ((Sha.turned Sj F r).getD 4 0) : Value) ∧ ρ 15 = (U ((Sha.turned Sj F r).getD 5 0) : Value) ∧ ρ 16 = (U ((Sha.turned Sj F r).getD 6 0) : Value) ∧ ρ 17 = (U ((Sha.turned Sj F r).getD 7 0) : Value) ∧ Ext w wz ∧ wz.heap[n2]? = some (.cells (Lib.byteCells (List.replicate 32 0)).toArray 24 (0, 0)) ∧ Ext w3 wz ∧ wz.ownsRow w24.heap.size 5 1 v31 (P : List UInt8).length (Lib.byteCells (P)) ∧ wz.heap[n12]? = some (.cells (Sj.map fun x => U x).toArray 41 (0, 0)) ∧ Ext w47 wz ∧ wz.heap[n53]? = some (.cells (F.map fun x => U x).toArray 42 (0, 0)) ∧ (r ≤ 64) ∧ True) (fun ρ _ => 64 - (intOf (ρ 18)).toNat) ⟨0, T0, T2, T3, T4, T5, T6, T7, T18, T10, T11, T12, T13, T14, T15, T16, T17, hE, hb8, hA18, ho41, hb22l, hA59, hb67l, Nat.zero_le _, trivial⟩ ?_
      clear hE hb8 hA18 ho41 hb22l hA59 hb67l
      rintro ρ120 w121 ⟨r, T0, T2, T3, T4, T5, T6, T7, T18, T10, T11, T12, T13, T14, T15, T16, T17, hE, hb8, hA18, ho41, hb22l, hA59, hb67l, hr64, -⟩
      have q18 := T18
      refine wpF_seq_k fun K122 hK122 => ?_
      refine wpF_seq_k fun K123 hK123 => ?_
      refine wpF_text ?_
      refine opsF_step rfl (YieldsK.move (show _ = (.int .i64 ((r : Nat) : Int) : Value) from T18) ?_)    -- ref.go:44 t134 := (Op.move (Operand.tmp 18))
      refine opsF_step rfl (YieldsK.eqI (a := ((r : Nat) : Int)) (b := ((64 : Nat) : Int)) (show _ = (.int .i64 ((r : Nat) : Int) : Value) from rfl) (show _ = (.int .i64 ((64 : Nat) : Int) : Value) from rfl) (k_lss _ .i64 (r) (64)) ?_)    -- ref.go:44 t135 := (Op.binOp BinOp.lss 3 (Operand.tmp 134) (Operand.const (Value.int IntKind.i64 64)) 3)
      refine opsF_end (fun ρ => ρ 0 = (v : Value) ∧ ρ 2 = (.pointer (some ⟨n2, 0, none⟩) : Value) ∧ ρ 3 = (.pointer (some ⟨n12, 0, none⟩) : Value) ∧ ρ 4 = (v31 : Value) ∧ ρ 5 = (.int .i64 ((64 * j : Nat) : Int) : Value) ∧ ρ 6 = (.pointer (some ⟨n53, 0, none⟩) : Value) ∧ ρ 7 = (.int .i64 ((t : Nat) : Int) : Value) ∧ ρ 10 = (U ((Sha.turned Sj F r).getD 0 0) : Value) ∧ ρ 11 = (U ((Sha.turned Sj F r).getD 1 0) : Value) ∧ ρ 12 = (U ((Sha.turned Sj F r).getD 2 0) : Value) ∧ ρ 13 = (U ((Sha.turned Sj F r).getD 3 0) : Value) ∧ ρ 14 = (U ((Sha.turned Sj F r).getD 4 0) : Value) ∧ ρ 15 = (U ((Sha.turned Sj F r).getD 5 0) : Value) ∧ ρ 16 = (U ((Sha.turned Sj F r).getD 6 0) : Value) ∧ ρ 17 = (U ((Sha.turned Sj F r).getD 7 0) : Value) ∧ ρ 18 = (.int .i64 ((r : Nat) : Int) : Value) ∧ ρ 135 = (.bool (decide ((r) < (64))) : Value) ∧ True) ⟨T0, T2, T3, T4, T5, T6, T7, T10, T11, T12, T13, T14, T15, T16, T17, T18, rfl, trivial⟩ fun ρ124 ⟨T0, T2, T3, T4, T5, T6, T7, T10, T11, T12, T13, T14, T15, T16, T17, T18, T135, _⟩ => ?_
      refine thenF_normal (hK123 _ _ ?_)
      refine wpF_cond ((r) < (64)) (show _ = (.bool (decide ((r) < (64))) : Value) from T135) (fun hc3 => ?_) (fun hc3 => ?_)
      · refine wpF_skip ?_
        refine thenF_normal (hK122 _ _ ?_)
        refine wpF_seq_k fun K125 hK125 => ?_
        refine wpF_block ?_
        refine wpF_seq_k fun K126 hK126 => ?_
        refine wpF_draw [Is (U ((Sha.turned Sj F r).getD 7 0)), Is (U ((Sha.turned Sj F r).getD 4 0)), Is (U (Sha.rotr ((Sha.turned Sj F r).getD 4 0) 6)), Is (U ((Sha.turned Sj F r).getD 4 0)), Is (U (Sha.rotr ((Sha.turned Sj F r).getD 4 0) 11)), Is (U ((Sha.rotr ((Sha.turned Sj F r).getD 4 0) 6) ^^^ (Sha.rotr ((Sha.turned Sj F r).getD 4 0) 11))), Is (U ((Sha.turned Sj F r).getD 4 0)), Is (U (Sha.rotr ((Sha.turned Sj F r).getD 4 0) 25)), Is (U (((Sha.rotr ((Sha.turned Sj F r).getD 4 0) 6) ^^^ (Sha.rotr ((Sha.turned Sj F r).getD 4 0) 11)) ^^^ (Sha.rotr ((Sha.turned Sj F r).getD 4 0) 25))), Is (U (((Sha.turned Sj F r).getD 7 0) + (((Sha.rotr ((Sha.turned Sj F r).getD 4 0) 6) ^^^ (Sha.rotr ((Sha.turned Sj F r).getD 4 0) 11)) ^^^ (Sha.rotr ((Sha.turned Sj F r).getD 4 0) 25)))), Is (U ((Sha.turned Sj F r).getD 4 0)), Is (U ((Sha.turned Sj F r).getD 5 0)), Is (U (((Sha.turned Sj F r).getD 4 0) &&& ((Sha.turned Sj F r).getD 5 0))), Is (U ((Sha.turned Sj F r).getD 4 0)), Is (U (~~~((Sha.turned Sj F r).getD 4 0))), Is (U ((Sha.turned Sj F r).getD 6 0)), Is (U ((~~~((Sha.turned Sj F r).getD 4 0)) &&& ((Sha.turned Sj F r).getD 6 0))), Is (U ((((Sha.turned Sj F r).getD 4 0) &&& ((Sha.turned Sj F r).getD 5 0)) ^^^ ((~~~((Sha.turned Sj F r).getD 4 0)) &&& ((Sha.turned Sj F r).getD 6 0)))), Is (U ((((Sha.turned Sj F r).getD 7 0) + (((Sha.rotr ((Sha.turned Sj F r).getD 4 0) 6) ^^^ (Sha.rotr ((Sha.turned Sj F r).getD 4 0) 11)) ^^^ (Sha.rotr ((Sha.turned Sj F r).getD 4 0) 25))) + ((((Sha.turned Sj F r).getD 4 0) &&& ((Sha.turned Sj F r).getD 5 0)) ^^^ ((~~~((Sha.turned Sj F r).getD 4 0)) &&& ((Sha.turned Sj F r).getD 6 0))))), Is (.int .i64 ((r : Nat) : Int)), Is (U (Sha.words.getD (r) 0)), Is (U (((((Sha.turned Sj F r).getD 7 0) + (((Sha.rotr ((Sha.turned Sj F r).getD 4 0) 6) ^^^ (Sha.rotr ((Sha.turned Sj F r).getD 4 0) 11)) ^^^ (Sha.rotr ((Sha.turned Sj F r).getD 4 0) 25))) + ((((Sha.turned Sj F r).getD 4 0) &&& ((Sha.turned Sj F r).getD 5 0)) ^^^ ((~~~((Sha.turned Sj F r).getD 4 0)) &&& ((Sha.turned Sj F r).getD 6 0)))) + (Sha.words.getD (r) 0))), Is (.int .i64 ((r : Nat) : Int)), Is (.pointer (some ⟨n53, r, none⟩)), Is (U ((F).getD (r) 0)), Is (U ((((((Sha.turned Sj F r).getD 7 0) + (((Sha.rotr ((Sha.turned Sj F r).getD 4 0) 6) ^^^ (Sha.rotr ((Sha.turned Sj F r).getD 4 0) 11)) ^^^ (Sha.rotr ((Sha.turned Sj F r).getD 4 0) 25))) + ((((Sha.turned Sj F r).getD 4 0) &&& ((Sha.turned Sj F r).getD 5 0)) ^^^ ((~~~((Sha.turned Sj F r).getD 4 0)) &&& ((Sha.turned Sj F r).getD 6 0)))) + (Sha.words.getD (r) 0)) + ((F).getD (r) 0))), Is (U ((((((Sha.turned Sj F r).getD 7 0) + (((Sha.rotr ((Sha.turned Sj F r).getD 4 0) 6) ^^^ (Sha.rotr ((Sha.turned Sj F r).getD 4 0) 11)) ^^^ (Sha.rotr ((Sha.turned Sj F r).getD 4 0) 25))) + ((((Sha.turned Sj F r).getD 4 0) &&& ((Sha.turned Sj F r).getD 5 0)) ^^^ ((~~~((Sha.turned Sj F r).getD 4 0)) &&& ((Sha.turned Sj F r).getD 6 0)))) + (Sha.words.getD (r) 0)) + ((F).getD (r) 0)))] (by kernel_rfl) [138, 139, 140, 141, 142, 143, 144, 145, 146, 147, 148, 149, 150, 151, 152, 153, 154, 155, 156, 157, 158, 159, 160, 161, 162, 163, 19] (by kernel_rfl) (by kernel_rfl) ⟨Stab.is _, Stab.is _, Stab.is _, Stab.is _, Stab.is _, Stab.is _, Stab.is _, Stab.is _, Stab.is _, Stab.is _, Stab.is _, Stab.is _, Stab.is _, Stab.is _, Stab.is _, Stab.is _, Stab.is _, Stab.is _, Stab.is _, Stab.is _, Stab.is _, Stab.is _, Stab.is _, Stab.is _, Stab.is _, Stab.is _, Stab.is _, trivial⟩ ?hs18 ?hQ18
        case hs18 =>
          refine ⟨?_, ?_, ?_, ?_, ?_, ?_, ?_, ?_, ?_, ?_, ?_, ?_, ?_, ?_, ?_, ?_, ?_, ?_, ?_, ?_, ?_, ?_, ?_, ?_, ?_, ?_, ?_, trivial⟩
          · refine stepN rfl fun σ w1 hC h => ?_    -- t138 := (Op.move (Operand.tmp 17))
            have e17 : σ 17 = U ((Sha.turned Sj F r).getD 7 0) := (show _ = _ from h 17 (by decide)).trans T17
            exact YieldsK.move e17 ⟨Ext.refl _, rfl⟩
          · refine stepN rfl fun σ w1 hC h => ?_    -- t139 := (Op.move (Operand.tmp 14))
            have e14 : σ 14 = U ((Sha.turned Sj F r).getD 4 0) := (show _ = _ from h 14 (by decide)).trans T14
            exact YieldsK.move e14 ⟨Ext.refl _, rfl⟩
          · refine stepN rfl fun σ w1 hC h => ?_    -- t140 := (Op.call { callee := (Callee.value (Operand.func 17)), args := #[(Operand.tmp 139), (Operand.const (Value.int 
            have e139 : σ 139 = U ((Sha.turned Sj F r).getD 4 0) := h 139 (by decide)
            refine YieldsK.callA2 sha9_pl17 e139 (show _ = (.int .u64 ((6 : Nat) : Int) : Value) from rfl) ?_
            refine (rot_any _ ((Sha.turned Sj F r).getD 4 0) 6 (by decide) (by decide)).mono ?_
            rintro e w2 ⟨rfl, hx⟩
            exact ⟨_, rfl, hx, rfl⟩
          · refine stepN rfl fun σ w1 hC h => ?_    -- t141 := (Op.move (Operand.tmp 14))
            have e14 : σ 14 = U ((Sha.turned Sj F r).getD 4 0) := (show _ = _ from h 14 (by decide)).trans T14
            exact YieldsK.move e14 ⟨Ext.refl _, rfl⟩
          · refine stepN rfl fun σ w1 hC h => ?_    -- t142 := (Op.call { callee := (Callee.value (Operand.func 17)), args := #[(Operand.tmp 141), (Operand.const (Value.int 
            have e141 : σ 141 = U ((Sha.turned Sj F r).getD 4 0) := h 141 (by decide)
            refine YieldsK.callA2 sha9_pl17 e141 (show _ = (.int .u64 ((11 : Nat) : Int) : Value) from rfl) ?_
            refine (rot_any _ ((Sha.turned Sj F r).getD 4 0) 11 (by decide) (by decide)).mono ?_
            rintro e w2 ⟨rfl, hx⟩
            exact ⟨_, rfl, hx, rfl⟩
          · refine stepN rfl fun σ w1 hC h => ?_    -- t143 := (Op.binOp BinOp.xor 40 (Operand.tmp 140) (Operand.tmp 142) 40)
            have e140 : σ 140 = U (Sha.rotr ((Sha.turned Sj F r).getD 4 0) 6) := h 140 (by decide)
            have e142 : σ 142 = U (Sha.rotr ((Sha.turned Sj F r).getD 4 0) 11) := h 142 (by decide)
            exact YieldsK.bin e140 e142 rfl (u_xor _ _ _) ⟨Ext.refl _, rfl⟩
          · refine stepN rfl fun σ w1 hC h => ?_    -- t144 := (Op.move (Operand.tmp 14))
            have e14 : σ 14 = U ((Sha.turned Sj F r).getD 4 0) := (show _ = _ from h 14 (by decide)).trans T14
            exact YieldsK.move e14 ⟨Ext.refl _, rfl⟩
          · refine stepN rfl fun σ w1 hC h => ?_    -- t145 := (Op.call { callee := (Callee.value (Operand.func 17)), args := #[(Operand.tmp 144), (Operand.const (Value.int 
            have e144 : σ 144 = U ((Sha.turned Sj F r).getD 4 0) := h 144 (by decide)
            refine YieldsK.callA2 sha9_pl17 e144 (show _ = (.int .u64 ((25 : Nat) : Int) : Value) from rfl) ?_
            refine (rot_any _ ((Sha.turned Sj F r).getD 4 0) 25 (by decide) (by decide)).mono ?_
            rintro e w2 ⟨rfl, hx⟩
            exact ⟨_, rfl, hx, rfl⟩
          · refine stepN rfl fun σ w1 hC h => ?_    -- t146 := (Op.binOp BinOp.xor 40 (Operand.tmp 143) (Operand.tmp 145) 40)
            have e143 : σ 143 = U ((Sha.rotr ((Sha.turned Sj F r).getD 4 0) 6) ^^^ (Sha.rotr ((Sha.turned Sj F r).getD 4 0) 11)) := h 143 (by decide)
            have e145 : σ 145 = U (Sha.rotr ((Sha.turned Sj F r).getD 4 0) 25) := h 145 (by decide)
            exact YieldsK.bin e143 e145 rfl (u_xor _ _ _) ⟨Ext.refl _, rfl⟩
          · refine stepN rfl fun σ w1 hC h => ?_    -- t147 := (Op.binOp BinOp.add 40 (Operand.tmp 138) (Operand.tmp 146) 40)
            have e138 : σ 138 = U ((Sha.turned Sj F r).getD 7 0) := h 138 (by decide)
            have e146 : σ 146 = U (((Sha.rotr ((Sha.turned Sj F r).getD 4 0) 6) ^^^ (Sha.rotr ((Sha.turned Sj F r).getD 4 0) 11)) ^^^ (Sha.rotr ((Sha.turned Sj F r).getD 4 0) 25)) := h 146 (by decide)
            exact YieldsK.bin e138 e146 rfl (u_add _ _ _) ⟨Ext.refl _, rfl⟩
          · refine stepN rfl fun σ w1 hC h => ?_    -- t148 := (Op.move (Operand.tmp 14))
            have e14 : σ 14 = U ((Sha.turned Sj F r).getD 4 0) := (show _ = _ from h 14 (by decide)).trans T14
            exact YieldsK.move e14 ⟨Ext.refl _, rfl⟩
          · refine stepN rfl fun σ w1 hC h => ?_    -- t149 := (Op.move (Operand.tmp 15))
            have e15 : σ 15 = U ((Sha.turned Sj F r).getD 5 0) := (show _ = _ from h 15 (by decide)).trans T15
            exact YieldsK.move e15 ⟨Ext.refl _, rfl⟩
          · refine stepN rfl fun σ w1 hC h => ?_    -- t150 := (Op.binOp BinOp.and 40 (Operand.tmp 148) (Operand.tmp 149) 40)
            have e148 : σ 148 = U ((Sha.turned Sj F r).getD 4 0) := h 148 (by decide)
            have e149 : σ 149 = U ((Sha.turned Sj F r).getD 5 0) := h 149 (by decide)
            exact YieldsK.bin e148 e149 rfl (u_and _ _ _) ⟨Ext.refl _, rfl⟩
          · refine stepN rfl fun σ w1 hC h => ?_    -- t151 := (Op.move (Operand.tmp 14))
            have e14 : σ 14 = U ((Sha.turned Sj F r).getD 4 0) := (show _ = _ from h 14 (by decide)).trans T14
            exact YieldsK.move e14 ⟨Ext.refl _, rfl⟩
          · refine stepN rfl fun σ w1 hC h => ?_    -- t152 := (Op.unOp UnOp.xor 40 (Operand.tmp 151))
            have e151 : σ 151 = U ((Sha.turned Sj F r).getD 4 0) := h 151 (by decide)
            exact YieldsK.not32 e151 ⟨Ext.refl _, rfl⟩
          · refine stepN rfl fun σ w1 hC h => ?_    -- t153 := (Op.move (Operand.tmp 16))
            have e16 : σ 16 = U ((Sha.turned Sj F r).getD 6 0) := (show _ = _ from h 16 (by decide)).trans T16
            exact YieldsK.move e16 ⟨Ext.refl _, rfl⟩
          · refine stepN rfl fun σ w1 hC h => ?_    -- t154 := (Op.binOp BinOp.and 40 (Operand.tmp 152) (Operand.tmp 153) 40)
            have e152 : σ 152 = U (~~~((Sha.turned Sj F r).getD 4 0)) := h 152 (by decide)
            have e153 : σ 153 = U ((Sha.turned Sj F r).getD 6 0) := h 153 (by decide)
            exact YieldsK.bin e152 e153 rfl (u_and _ _ _) ⟨Ext.refl _, rfl⟩
          · refine stepN rfl fun σ w1 hC h => ?_    -- t155 := (Op.binOp BinOp.xor 40 (Operand.tmp 150) (Operand.tmp 154) 40)
            have e150 : σ 150 = U (((Sha.turned Sj F r).getD 4 0) &&& ((Sha.turned Sj F r).getD 5 0)) := h 150 (by decide)
            have e154 : σ 154 = U ((~~~((Sha.turned Sj F r).getD 4 0)) &&& ((Sha.turned Sj F r).getD 6 0)) := h 154 (by decide)
            exact YieldsK.bin e150 e154 rfl (u_xor _ _ _) ⟨Ext.refl _, rfl⟩
          · refine stepN rfl fun σ w1 hC h => ?_    -- t156 := (Op.binOp BinOp.add 40 (Operand.tmp 147) (Operand.tmp 155) 40)
            have e147 : σ 147 = U (((Sha.turned Sj F r).getD 7 0) + (((Sha.rotr ((Sha.turned Sj F r).getD 4 0) 6) ^^^ (Sha.rotr ((Sha.turned Sj F r).getD 4 0) 11)) ^^^ (Sha.rotr ((Sha.turned Sj F r).getD 4 0) 25))) := h 147 (by decide)
            have e155 : σ 155 = U ((((Sha.turned Sj F r).getD 4 0) &&& ((Sha.turned Sj F r).getD 5 0)) ^^^ ((~~~((Sha.turned Sj F r).getD 4 0)) &&& ((Sha.turned Sj F r).getD 6 0))) := h 155 (by decide)
            exact YieldsK.bin e147 e155 rfl (u_add _ _ _) ⟨Ext.refl _, rfl⟩
          · refine stepN rfl fun σ w1 hC h => ?_    -- t157 := (Op.move (Operand.tmp 18))
            have e18 : σ 18 = .int .i64 ((r : Nat) : Int) := (show _ = _ from h 18 (by decide)).trans T18
            exact YieldsK.move e18 ⟨Ext.refl _, rfl⟩
          · refine stepN rfl fun σ w1 hC h => ?_    -- t158 := (Op.call { callee := (Callee.value (Operand.func 18)), args := #[(Operand.tmp 157)], argTypes := #[3] })
            have e157 : σ 157 = .int .i64 ((r : Nat) : Int) := h 157 (by decide)
            refine YieldsK.callA1 sha9_pl18 e157 ?_
            refine (key_any _ (r) (by omega)).mono ?_
            rintro e w2 ⟨rfl, hx⟩
            exact ⟨_, rfl, hx, rfl⟩
          · refine stepN rfl fun σ w1 hC h => ?_    -- t159 := (Op.binOp BinOp.add 40 (Operand.tmp 156) (Operand.tmp 158) 40)
            have e156 : σ 156 = U ((((Sha.turned Sj F r).getD 7 0) + (((Sha.rotr ((Sha.turned Sj F r).getD 4 0) 6) ^^^ (Sha.rotr ((Sha.turned Sj F r).getD 4 0) 11)) ^^^ (Sha.rotr ((Sha.turned Sj F r).getD 4 0) 25))) + ((((Sha.turned Sj F r).getD 4 0) &&& ((Sha.turned Sj F r).getD 5 0)) ^^^ ((~~~((Sha.turned Sj F r).getD 4 0)) &&& ((Sha.turned Sj F r).getD 6 0)))) := h 156 (by decide)
            have e158 : σ 158 = U (Sha.words.getD (r) 0) := h 158 (by decide)
            exact YieldsK.bin e156 e158 rfl (u_add _ _ _) ⟨Ext.refl _, rfl⟩
          · refine stepN rfl fun σ w1 hC h => ?_    -- t160 := (Op.move (Operand.tmp 18))
            have e18 : σ 18 = .int .i64 ((r : Nat) : Int) := (show _ = _ from h 18 (by decide)).trans T18
            exact YieldsK.move e18 ⟨Ext.refl _, rfl⟩
          · refine stepN rfl fun σ w1 hC h => ?_    -- t161 := (Op.indexAddr 42 (Operand.tmp 6) (Operand.tmp 160))
            have e6 : σ 6 = .pointer (some ⟨n53, 0, none⟩) := (show _ = _ from h 6 (by decide)).trans T6
            have e160 : σ 160 = .int .i64 ((r : Nat) : Int) := h 160 (by decide)
            exact YieldsK.atArr0 (i := r) sha9_ty42 sha9_sz40 e6 e160 (by omega) ⟨Ext.refl _, rfl⟩
          · refine stepN rfl fun σ w1 hC h => ?_    -- t162 := (Op.load 40 (Operand.tmp 161))
            have e161 : σ 161 = .pointer (some ⟨n53, r, none⟩) := h 161 (by decide)
            exact YieldsK.cell1 sha9_ty40 rfl e161 (cellAt (Ext.blk' hC hb67l) (word_at (i := r) (by rw [hFl]; omega))) ⟨Ext.refl _, rfl⟩
          · refine stepN rfl fun σ w1 hC h => ?_    -- t163 := (Op.binOp BinOp.add 40 (Operand.tmp 159) (Operand.tmp 162) 40)
            have e159 : σ 159 = U (((((Sha.turned Sj F r).getD 7 0) + (((Sha.rotr ((Sha.turned Sj F r).getD 4 0) 6) ^^^ (Sha.rotr ((Sha.turned Sj F r).getD 4 0) 11)) ^^^ (Sha.rotr ((Sha.turned Sj F r).getD 4 0) 25))) + ((((Sha.turned Sj F r).getD 4 0) &&& ((Sha.turned Sj F r).getD 5 0)) ^^^ ((~~~((Sha.turned Sj F r).getD 4 0)) &&& ((Sha.turned Sj F r).getD 6 0)))) + (Sha.words.getD (r) 0)) := h 159 (by decide)
            have e162 : σ 162 = U ((F).getD (r) 0) := h 162 (by decide)
            exact YieldsK.bin e159 e162 rfl (u_add _ _ _) ⟨Ext.refl _, rfl⟩
          · refine stepN rfl fun σ w1 hC h => ?_    -- t19 := (Op.assign (Operand.tmp 163))
            have e163 : σ 163 = U ((((((Sha.turned Sj F r).getD 7 0) + (((Sha.rotr ((Sha.turned Sj F r).getD 4 0) 6) ^^^ (Sha.rotr ((Sha.turned Sj F r).getD 4 0) 11)) ^^^ (Sha.rotr ((Sha.turned Sj F r).getD 4 0) 25))) + ((((Sha.turned Sj F r).getD 4 0) &&& ((Sha.turned Sj F r).getD 5 0)) ^^^ ((~~~((Sha.turned Sj F r).getD 4 0)) &&& ((Sha.turned Sj F r).getD 6 0)))) + (Sha.words.getD (r) 0)) + ((F).getD (r) 0)) := h 163 (by decide)
            exact YieldsK.assign e163 ⟨Ext.refl _, rfl⟩
        intro ρ127 w128 hx129 he hf
        obtain ⟨-, -, -, -, -, -, -, -, -, -, -, -, -, -, -, -, -, -, -, -, -, -, -, -, -, -, k19, -⟩ := hf
        have T0 : ρ127 0 = v := he.at_ T0 rfl
        have T2 : ρ127 2 = .pointer (some ⟨n2, 0, none⟩) := he.at_ T2 rfl
        have T3 : ρ127 3 = .pointer (some ⟨n12, 0, none⟩) := he.at_ T3 rfl
        have T4 : ρ127 4 = v31 := he.at_ T4 rfl
        have T5 : ρ127 5 = .int .i64 ((64 * j : Nat) : Int) := he.at_ T5 rfl
        have T6 : ρ127 6 = .pointer (some ⟨n53, 0, none⟩) := he.at_ T6 rfl
        have T7 : ρ127 7 = .int .i64 ((t : Nat) : Int) := he.at_ T7 rfl
        have T10 : ρ127 10 = U ((Sha.turned Sj F r).getD 0 0) := he.at_ T10 rfl
        have T11 : ρ127 11 = U ((Sha.turned Sj F r).getD 1 0) := he.at_ T11 rfl
        have T12 : ρ127 12 = U ((Sha.turned Sj F r).getD 2 0) := he.at_ T12 rfl
        have T13 : ρ127 13 = U ((Sha.turned Sj F r).getD 3 0) := he.at_ T13 rfl
        have T14 : ρ127 14 = U ((Sha.turned Sj F r).getD 4 0) := he.at_ T14 rfl
        have T15 : ρ127 15 = U ((Sha.turned Sj F r).getD 5 0) := he.at_ T15 rfl
        have T16 : ρ127 16 = U ((Sha.turned Sj F r).getD 6 0) := he.at_ T16 rfl
        have T17 : ρ127 17 = U ((Sha.turned Sj F r).getD 7 0) := he.at_ T17 rfl
        have T18 : ρ127 18 = .int .i64 ((r : Nat) : Int) := he.at_ T18 rfl
        clear he
        have hE : Ext w w128 := (hE.trans hx129)
        have hb8 : w128.heap[n2]? = some (.cells (Lib.byteCells (List.replicate 32 0)).toArray 24 (0, 0)) := (Ext.blk' hx129 hb8)
        have hA18 : Ext w3 w128 := (hA18.trans hx129)
        have ho41 : w128.ownsRow w24.heap.size 5 1 v31 (P : List UInt8).length (Lib.byteCells (P)) := (Stab.own _ _ _ _ _ _ _ _ ho41 hx129)
        have hb22l : w128.heap[n12]? = some (.cells (Sj.map fun x => U x).toArray 41 (0, 0)) := (Ext.blk' hx129 hb22l)
        have hA59 : Ext w47 w128 := (hA59.trans hx129)
        have hb67l : w128.heap[n53]? = some (.cells (F.map fun x => U x).toArray 42 (0, 0)) := (Ext.blk' hx129 hb67l)
        have T19 : ρ127 19 = U ((((((Sha.turned Sj F r).getD 7 0) + (((Sha.rotr ((Sha.turned Sj F r).getD 4 0) 6) ^^^ (Sha.rotr ((Sha.turned Sj F r).getD 4 0) 11)) ^^^ (Sha.rotr ((Sha.turned Sj F r).getD 4 0) 25))) + ((((Sha.turned Sj F r).getD 4 0) &&& ((Sha.turned Sj F r).getD 5 0)) ^^^ ((~~~((Sha.turned Sj F r).getD 4 0)) &&& ((Sha.turned Sj F r).getD 6 0)))) + (Sha.words.getD (r) 0)) + ((F).getD (r) 0)) := k19
        clear k19
        refine thenF_normal (hK126 _ _ ?_)
        refine wpF_seq_k fun K130 hK130 => ?_
        refine wpF_text ?_
        refine opsF_step rfl (YieldsK.move (show _ = (U ((Sha.turned Sj F r).getD 0 0) : Value) from T10) ?_)    -- ref.go:46 t164 := (Op.move (Operand.tmp 10))
        refine opsF_step rfl (YieldsK.callA2 sha9_pl17 (show _ = (U ((Sha.turned Sj F r).getD 0 0) : Value) from rfl) (show _ = (.int .u64 ((2 : Nat) : Int) : Value) from rfl) ?_)    -- ref.go:46 t165 := (Op.call { callee := (Callee.value (Operand.func 17)), args := #[(Operand.tmp 164), (Operand.const (Value.int 
        refine (rot_any _ ((Sha.turned Sj F r).getD 0 0) 2 (by decide) (by decide)).mono ?_
        rintro e w132 ⟨rfl, hx131⟩
        refine ⟨_, rfl, ?_⟩
        have hE : Ext w w132 := (hE.trans hx131)
        have hb8 : w132.heap[n2]? = some (.cells (Lib.byteCells (List.replicate 32 0)).toArray 24 (0, 0)) := (Ext.blk' hx131 hb8)
        have hA18 : Ext w3 w132 := (hA18.trans hx131)
        have ho41 : w132.ownsRow w24.heap.size 5 1 v31 (P : List UInt8).length (Lib.byteCells (P)) := (Stab.own _ _ _ _ _ _ _ _ ho41 hx131)
        have hb22l : w132.heap[n12]? = some (.cells (Sj.map fun x => U x).toArray 41 (0, 0)) := (Ext.blk' hx131 hb22l)
        have hA59 : Ext w47 w132 := (hA59.trans hx131)
        have hb67l : w132.heap[n53]? = some (.cells (F.map fun x => U x).toArray 42 (0, 0)) := (Ext.blk' hx131 hb67l)
        refine opsF_step rfl (YieldsK.move (show _ = (U ((Sha.turned Sj F r).getD 0 0) : Value) from T10) ?_)    -- ref.go:46 t166 := (Op.move (Operand.tmp 10))
        refine opsF_step rfl (YieldsK.callA2 sha9_pl17 (show _ = (U ((Sha.turned Sj F r).getD 0 0) : Value) from rfl) (show _ = (.int .u64 ((13 : Nat) : Int) : Value) from rfl) ?_)    -- ref.go:46 t167 := (Op.call { callee := (Callee.value (Operand.func 17)), args := #[(Operand.tmp 166), (Operand.const (Value.int 
        refine (rot_any _ ((Sha.turned Sj F r).getD 0 0) 13 (by decide) (by decide)).mono ?_
        rintro e w134 ⟨rfl, hx133⟩
        refine ⟨_, rfl, ?_⟩
        have hE : Ext w w134 := (hE.trans hx133)
        have hb8 : w134.heap[n2]? = some (.cells (Lib.byteCells (List.replicate 32 0)).toArray 24 (0, 0)) := (Ext.blk' hx133 hb8)
        have hA18 : Ext w3 w134 := (hA18.trans hx133)
        have ho41 : w134.ownsRow w24.heap.size 5 1 v31 (P : List UInt8).length (Lib.byteCells (P)) := (Stab.own _ _ _ _ _ _ _ _ ho41 hx133)
        have hb22l : w134.heap[n12]? = some (.cells (Sj.map fun x => U x).toArray 41 (0, 0)) := (Ext.blk' hx133 hb22l)
        have hA59 : Ext w47 w134 := (hA59.trans hx133)
        have hb67l : w134.heap[n53]? = some (.cells (F.map fun x => U x).toArray 42 (0, 0)) := (Ext.blk' hx133 hb67l)
        refine opsF_step rfl (YieldsK.bin (show _ = (U (Sha.rotr ((Sha.turned Sj F r).getD 0 0) 2) : Value) from rfl) (show _ = (U (Sha.rotr ((Sha.turned Sj F r).getD 0 0) 13) : Value) from rfl) rfl (u_xor _ _ _) ?_)    -- ref.go:46 t168 := (Op.binOp BinOp.xor 40 (Operand.tmp 165) (Operand.tmp 167) 40)
        refine opsF_step rfl (YieldsK.move (show _ = (U ((Sha.turned Sj F r).getD 0 0) : Value) from T10) ?_)    -- ref.go:46 t169 := (Op.move (Operand.tmp 10))
        refine opsF_step rfl (YieldsK.callA2 sha9_pl17 (show _ = (U ((Sha.turned Sj F r).getD 0 0) : Value) from rfl) (show _ = (.int .u64 ((22 : Nat) : Int) : Value) from rfl) ?_)    -- ref.go:46 t170 := (Op.call { callee := (Callee.value (Operand.func 17)), args := #[(Operand.tmp 169), (Operand.const (Value.int 
        refine (rot_any _ ((Sha.turned Sj F r).getD 0 0) 22 (by decide) (by decide)).mono ?_
        rintro e w136 ⟨rfl, hx135⟩
        refine ⟨_, rfl, ?_⟩
        have hE : Ext w w136 := (hE.trans hx135)
        have hb8 : w136.heap[n2]? = some (.cells (Lib.byteCells (List.replicate 32 0)).toArray 24 (0, 0)) := (Ext.blk' hx135 hb8)
        have hA18 : Ext w3 w136 := (hA18.trans hx135)
        have ho41 : w136.ownsRow w24.heap.size 5 1 v31 (P : List UInt8).length (Lib.byteCells (P)) := (Stab.own _ _ _ _ _ _ _ _ ho41 hx135)
        have hb22l : w136.heap[n12]? = some (.cells (Sj.map fun x => U x).toArray 41 (0, 0)) := (Ext.blk' hx135 hb22l)
        have hA59 : Ext w47 w136 := (hA59.trans hx135)
        have hb67l : w136.heap[n53]? = some (.cells (F.map fun x => U x).toArray 42 (0, 0)) := (Ext.blk' hx135 hb67l)
        refine opsF_step rfl (YieldsK.bin (show _ = (U ((Sha.rotr ((Sha.turned Sj F r).getD 0 0) 2) ^^^ (Sha.rotr ((Sha.turned Sj F r).getD 0 0) 13)) : Value) from rfl) (show _ = (U (Sha.rotr ((Sha.turned Sj F r).getD 0 0) 22) : Value) from rfl) rfl (u_xor _ _ _) ?_)    -- ref.go:46 t171 := (Op.binOp BinOp.xor 40 (Operand.tmp 168) (Operand.tmp 170) 40)
        refine opsF_step rfl (YieldsK.move (show _ = (U ((Sha.turned Sj F r).getD 0 0) : Value) from T10) ?_)    -- ref.go:46 t172 := (Op.move (Operand.tmp 10))
        refine opsF_step rfl (YieldsK.move (show _ = (U ((Sha.turned Sj F r).getD 1 0) : Value) from T11) ?_)    -- ref.go:46 t173 := (Op.move (Operand.tmp 11))
        refine opsF_step rfl (YieldsK.bin (show _ = (U ((Sha.turned Sj F r).getD 0 0) : Value) from rfl) (show _ = (U ((Sha.turned Sj F r).getD 1 0) : Value) from rfl) rfl (u_and _ _ _) ?_)    -- ref.go:46 t174 := (Op.binOp BinOp.and 40 (Operand.tmp 172) (Operand.tmp 173) 40)
        refine opsF_step rfl (YieldsK.move (show _ = (U ((Sha.turned Sj F r).getD 0 0) : Value) from T10) ?_)    -- ref.go:46 t175 := (Op.move (Operand.tmp 10))
        refine opsF_step rfl (YieldsK.move (show _ = (U ((Sha.turned Sj F r).getD 2 0) : Value) from T12) ?_)    -- ref.go:46 t176 := (Op.move (Operand.tmp 12))
        refine opsF_step rfl (YieldsK.bin (show _ = (U ((Sha.turned Sj F r).getD 0 0) : Value) from rfl) (show _ = (U ((Sha.turned Sj F r).getD 2 0) : Value) from rfl) rfl (u_and _ _ _) ?_)    -- ref.go:46 t177 := (Op.binOp BinOp.and 40 (Operand.tmp 175) (Operand.tmp 176) 40)
        refine opsF_step rfl (YieldsK.bin (show _ = (U (((Sha.turned Sj F r).getD 0 0) &&& ((Sha.turned Sj F r).getD 1 0)) : Value) from rfl) (show _ = (U (((Sha.turned Sj F r).getD 0 0) &&& ((Sha.turned Sj F r).getD 2 0)) : Value) from rfl) rfl (u_xor _ _ _) ?_)    -- ref.go:46 t178 := (Op.binOp BinOp.xor 40 (Operand.tmp 174) (Operand.tmp 177) 40)
        refine opsF_step rfl (YieldsK.move (show _ = (U ((Sha.turned Sj F r).getD 1 0) : Value) from T11) ?_)    -- ref.go:46 t179 := (Op.move (Operand.tmp 11))
        refine opsF_step rfl (YieldsK.move (show _ = (U ((Sha.turned Sj F r).getD 2 0) : Value) from T12) ?_)    -- ref.go:46 t180 := (Op.move (Operand.tmp 12))
        refine opsF_step rfl (YieldsK.bin (show _ = (U ((Sha.turned Sj F r).getD 1 0) : Value) from rfl) (show _ = (U ((Sha.turned Sj F r).getD 2 0) : Value) from rfl) rfl (u_and _ _ _) ?_)    -- ref.go:46 t181 := (Op.binOp BinOp.and 40 (Operand.tmp 179) (Operand.tmp 180) 40)
        refine opsF_step rfl (YieldsK.bin (show _ = (U ((((Sha.turned Sj F r).getD 0 0) &&& ((Sha.turned Sj F r).getD 1 0)) ^^^ (((Sha.turned Sj F r).getD 0 0) &&& ((Sha.turned Sj F r).getD 2 0))) : Value) from rfl) (show _ = (U (((Sha.turned Sj F r).getD 1 0) &&& ((Sha.turned Sj F r).getD 2 0)) : Value) from rfl) rfl (u_xor _ _ _) ?_)    -- ref.go:46 t182 := (Op.binOp BinOp.xor 40 (Operand.tmp 178) (Operand.tmp 181) 40)
        refine opsF_step rfl (YieldsK.bin (show _ = (U (((Sha.rotr ((Sha.turned Sj F r).getD 0 0) 2) ^^^ (Sha.rotr ((Sha.turned Sj F r).getD 0 0) 13)) ^^^ (Sha.rotr ((Sha.turned Sj F r).getD 0 0) 22)) : Value) from rfl) (show _ = (U (((((Sha.turned Sj F r).getD 0 0) &&& ((Sha.turned Sj F r).getD 1 0)) ^^^ (((Sha.turned Sj F r).getD 0 0) &&& ((Sha.turned Sj F r).getD 2 0))) ^^^ (((Sha.turned Sj F r).getD 1 0) &&& ((Sha.turned Sj F r).getD 2 0))) : Value) from rfl) rfl (u_add _ _ _) ?_)    -- ref.go:46 t183 := (Op.binOp BinOp.add 40 (Operand.tmp 171) (Operand.tmp 182) 40)
        refine opsF_step rfl (YieldsK.assign (show _ = (U ((((Sha.rotr ((Sha.turned Sj F r).getD 0 0) 2) ^^^ (Sha.rotr ((Sha.turned Sj F r).getD 0 0) 13)) ^^^ (Sha.rotr ((Sha.turned Sj F r).getD 0 0) 22)) + (((((Sha.turned Sj F r).getD 0 0) &&& ((Sha.turned Sj F r).getD 1 0)) ^^^ (((Sha.turned Sj F r).getD 0 0) &&& ((Sha.turned Sj F r).getD 2 0))) ^^^ (((Sha.turned Sj F r).getD 1 0) &&& ((Sha.turned Sj F r).getD 2 0)))) : Value) from rfl) ?_)    -- ref.go:46 t20 := (Op.assign (Operand.tmp 183))
        refine opsF_end (fun ρ => ρ 0 = (v : Value) ∧ ρ 2 = (.pointer (some ⟨n2, 0, none⟩) : Value) ∧ ρ 3 = (.pointer (some ⟨n12, 0, none⟩) : Value) ∧ ρ 4 = (v31 : Value) ∧ ρ 5 = (.int .i64 ((64 * j : Nat) : Int) : Value) ∧ ρ 6 = (.pointer (some ⟨n53, 0, none⟩) : Value) ∧ ρ 7 = (.int .i64 ((t : Nat) : Int) : Value) ∧ ρ 10 = (U ((Sha.turned Sj F r).getD 0 0) : Value) ∧ ρ 11 = (U ((Sha.turned Sj F r).getD 1 0) : Value) ∧ ρ 12 = (U ((Sha.turned Sj F r).getD 2 0) : Value) ∧ ρ 13 = (U ((Sha.turned Sj F r).getD 3 0) : Value) ∧ ρ 14 = (U ((Sha.turned Sj F r).getD 4 0) : Value) ∧ ρ 15 = (U ((Sha.turned Sj F r).getD 5 0) : Value) ∧ ρ 16 = (U ((Sha.turned Sj F r).getD 6 0) : Value) ∧ ρ 17 = (U ((Sha.turned Sj F r).getD 7 0) : Value) ∧ ρ 18 = (.int .i64 ((r : Nat) : Int) : Value) ∧ ρ 19 = (U ((((((Sha.turned Sj F r).getD 7 0) + (((Sha.rotr ((Sha.turned Sj F r).getD 4 0) 6) ^^^ (Sha.rotr ((Sha.turned Sj F r).getD 4 0) 11)) ^^^ (Sha.rotr ((Sha.turned Sj F r).getD 4 0) 25))) + ((((Sha.turned Sj F r).getD 4 0) &&& ((Sha.turned Sj F r).getD 5 0)) ^^^ ((~~~((Sha.turned Sj F r).getD 4 0)) &&& ((Sha.turned Sj F r).getD 6 0)))) + (Sha.words.getD (r) 0)) + ((F).getD (r) 0)) : Value) ∧ ρ 20 = (U ((((Sha.rotr ((Sha.turned Sj F r).getD 0 0) 2) ^^^ (Sha.rotr ((Sha.turned Sj F r).getD 0 0) 13)) ^^^ (Sha.rotr ((Sha.turned Sj F r).getD 0 0) 22)) + (((((Sha.turned Sj F r).getD 0 0) &&& ((Sha.turned Sj F r).getD 1 0)) ^^^ (((Sha.turned Sj F r).getD 0 0) &&& ((Sha.turned Sj F r).getD 2 0))) ^^^ (((Sha.turned Sj F r).getD 1 0) &&& ((Sha.turned Sj F r).getD 2 0)))) : Value) ∧ True) ⟨T0, T2, T3, T4, T5, T6, T7, T10, T11, T12, T13, T14, T15, T16, T17, T18, T19, rfl, trivial⟩ fun ρ137 ⟨T0, T2, T3, T4, T5, T6, T7, T10, T11, T12, T13, T14, T15, T16, T17, T18, T19, T20, _⟩ => ?_
        refine thenF_normal (hK130 _ _ ?_)
        refine wpF_text ?_
        refine opsF_step rfl (YieldsK.move (show _ = (U ((Sha.turned Sj F r).getD 6 0) : Value) from T16) ?_)    -- ref.go:47 t184 := (Op.move (Operand.tmp 16))
        refine opsF_step rfl (YieldsK.move (show _ = (U ((Sha.turned Sj F r).getD 5 0) : Value) from T15) ?_)    -- ref.go:47 t185 := (Op.move (Operand.tmp 15))
        refine opsF_step rfl (YieldsK.move (show _ = (U ((Sha.turned Sj F r).getD 4 0) : Value) from T14) ?_)    -- ref.go:47 t186 := (Op.move (Operand.tmp 14))
        refine opsF_step rfl (YieldsK.move (show _ = (U ((Sha.turned Sj F r).getD 3 0) : Value) from T13) ?_)    -- ref.go:47 t187 := (Op.move (Operand.tmp 13))
        refine opsF_step rfl (YieldsK.move (show _ = (U ((((((Sha.turned Sj F r).getD 7 0) + (((Sha.rotr ((Sha.turned Sj F r).getD 4 0) 6) ^^^ (Sha.rotr ((Sha.turned Sj F r).getD 4 0) 11)) ^^^ (Sha.rotr ((Sha.turned Sj F r).getD 4 0) 25))) + ((((Sha.turned Sj F r).getD 4 0) &&& ((Sha.turned Sj F r).getD 5 0)) ^^^ ((~~~((Sha.turned Sj F r).getD 4 0)) &&& ((Sha.turned Sj F r).getD 6 0)))) + (Sha.words.getD (r) 0)) + ((F).getD (r) 0)) : Value) from T19) ?_)    -- ref.go:47 t188 := (Op.move (Operand.tmp 19))
        refine opsF_step rfl (YieldsK.bin (show _ = (U ((Sha.turned Sj F r).getD 3 0) : Value) from rfl) (show _ = (U ((((((Sha.turned Sj F r).getD 7 0) + (((Sha.rotr ((Sha.turned Sj F r).getD 4 0) 6) ^^^ (Sha.rotr ((Sha.turned Sj F r).getD 4 0) 11)) ^^^ (Sha.rotr ((Sha.turned Sj F r).getD 4 0) 25))) + ((((Sha.turned Sj F r).getD 4 0) &&& ((Sha.turned Sj F r).getD 5 0)) ^^^ ((~~~((Sha.turned Sj F r).getD 4 0)) &&& ((Sha.turned Sj F r).getD 6 0)))) + (Sha.words.getD (r) 0)) + ((F).getD (r) 0)) : Value) from rfl) rfl (u_add _ _ _) ?_)    -- ref.go:47 t189 := (Op.binOp BinOp.add 40 (Operand.tmp 187) (Operand.tmp 188) 40)
        refine opsF_step rfl (YieldsK.move (show _ = (U ((Sha.turned Sj F r).getD 2 0) : Value) from T12) ?_)    -- ref.go:47 t190 := (Op.move (Operand.tmp 12))
        refine opsF_step rfl (YieldsK.move (show _ = (U ((Sha.turned Sj F r).getD 1 0) : Value) from T11) ?_)    -- ref.go:47 t191 := (Op.move (Operand.tmp 11))
        refine opsF_step rfl (YieldsK.move (show _ = (U ((Sha.turned Sj F r).getD 0 0) : Value) from T10) ?_)    -- ref.go:47 t192 := (Op.move (Operand.tmp 10))
        refine opsF_step rfl (YieldsK.move (show _ = (U ((((((Sha.turned Sj F r).getD 7 0) + (((Sha.rotr ((Sha.turned Sj F r).getD 4 0) 6) ^^^ (Sha.rotr ((Sha.turned Sj F r).getD 4 0) 11)) ^^^ (Sha.rotr ((Sha.turned Sj F r).getD 4 0) 25))) + ((((Sha.turned Sj F r).getD 4 0) &&& ((Sha.turned Sj F r).getD 5 0)) ^^^ ((~~~((Sha.turned Sj F r).getD 4 0)) &&& ((Sha.turned Sj F r).getD 6 0)))) + (Sha.words.getD (r) 0)) + ((F).getD (r) 0)) : Value) from T19) ?_)    -- ref.go:47 t193 := (Op.move (Operand.tmp 19))
        refine opsF_step rfl (YieldsK.move (show _ = (U ((((Sha.rotr ((Sha.turned Sj F r).getD 0 0) 2) ^^^ (Sha.rotr ((Sha.turned Sj F r).getD 0 0) 13)) ^^^ (Sha.rotr ((Sha.turned Sj F r).getD 0 0) 22)) + (((((Sha.turned Sj F r).getD 0 0) &&& ((Sha.turned Sj F r).getD 1 0)) ^^^ (((Sha.turned Sj F r).getD 0 0) &&& ((Sha.turned Sj F r).getD 2 0))) ^^^ (((Sha.turned Sj F r).getD 1 0) &&& ((Sha.turned Sj F r).getD 2 0)))) : Value) from T20) ?_)    -- ref.go:47 t194 := (Op.move (Operand.tmp 20))
        refine opsF_step rfl (YieldsK.bin (show _ = (U ((((((Sha.turned Sj F r).getD 7 0) + (((Sha.rotr ((Sha.turned Sj F r).getD 4 0) 6) ^^^ (Sha.rotr ((Sha.turned Sj F r).getD 4 0) 11)) ^^^ (Sha.rotr ((Sha.turned Sj F r).getD 4 0) 25))) + ((((Sha.turned Sj F r).getD 4 0) &&& ((Sha.turned Sj F r).getD 5 0)) ^^^ ((~~~((Sha.turned Sj F r).getD 4 0)) &&& ((Sha.turned Sj F r).getD 6 0)))) + (Sha.words.getD (r) 0)) + ((F).getD (r) 0)) : Value) from rfl) (show _ = (U ((((Sha.rotr ((Sha.turned Sj F r).getD 0 0) 2) ^^^ (Sha.rotr ((Sha.turned Sj F r).getD 0 0) 13)) ^^^ (Sha.rotr ((Sha.turned Sj F r).getD 0 0) 22)) + (((((Sha.turned Sj F r).getD 0 0) &&& ((Sha.turned Sj F r).getD 1 0)) ^^^ (((Sha.turned Sj F r).getD 0 0) &&& ((Sha.turned Sj F r).getD 2 0))) ^^^ (((Sha.turned Sj F r).getD 1 0) &&& ((Sha.turned Sj F r).getD 2 0)))) : Value) from rfl) rfl (u_add _ _ _) ?_)    -- ref.go:47 t195 := (Op.binOp BinOp.add 40 (Operand.tmp 193) (Operand.tmp 194) 40)
        refine opsF_step rfl (YieldsK.assign (show _ = (U ((Sha.turned Sj F r).getD 6 0) : Value) from rfl) ?_)    -- ref.go:47 t17 := (Op.assign (Operand.tmp 184))
        refine opsF_step rfl (YieldsK.assign (show _ = (U ((Sha.turned Sj F r).getD 5 0) : Value) from rfl) ?_)    -- ref.go:47 t16 := (Op.assign (Operand.tmp 185))
        refine opsF_step rfl (YieldsK.assign (show _ = (U ((Sha.turned Sj F r).getD 4 0) : Value) from rfl) ?_)    -- ref.go:47 t15 := (Op.assign (Operand.tmp 186))
        refine opsF_step rfl (YieldsK.assign (show _ = (U (((Sha.turned Sj F r).getD 3 0) + ((((((Sha.turned Sj F r).getD 7 0) + (((Sha.rotr ((Sha.turned Sj F r).getD 4 0) 6) ^^^ (Sha.rotr ((Sha.turned Sj F r).getD 4 0) 11)) ^^^ (Sha.rotr ((Sha.turned Sj F r).getD 4 0) 25))) + ((((Sha.turned Sj F r).getD 4 0) &&& ((Sha.turned Sj F r).getD 5 0)) ^^^ ((~~~((Sha.turned Sj F r).getD 4 0)) &&& ((Sha.turned Sj F r).getD 6 0)))) + (Sha.words.getD (r) 0)) + ((F).getD (r) 0))) : Value) from rfl) ?_)    -- ref.go:47 t14 := (Op.assign (Operand.tmp 189))
        refine opsF_step rfl (YieldsK.assign (show _ = (U ((Sha.turned Sj F r).getD 2 0) : Value) from rfl) ?_)    -- ref.go:47 t13 := (Op.assign (Operand.tmp 190))
        refine opsF_step rfl (YieldsK.assign (show _ = (U ((Sha.turned Sj F r).getD 1 0) : Value) from rfl) ?_)    -- ref.go:47 t12 := (Op.assign (Operand.tmp 191))
        refine opsF_step rfl (YieldsK.assign (show _ = (U ((Sha.turned Sj F r).getD 0 0) : Value) from rfl) ?_)    -- ref.go:47 t11 := (Op.assign (Operand.tmp 192))
        refine opsF_step rfl (YieldsK.assign (show _ = (U (((((((Sha.turned Sj F r).getD 7 0) + (((Sha.rotr ((Sha.turned Sj F r).getD 4 0) 6) ^^^ (Sha.rotr ((Sha.turned Sj F r).getD 4 0) 11)) ^^^ (Sha.rotr ((Sha.turned Sj F r).getD 4 0) 25))) + ((((Sha.turned Sj F r).getD 4 0) &&& ((Sha.turned Sj F r).getD 5 0)) ^^^ ((~~~((Sha.turned Sj F r).getD 4 0)) &&& ((Sha.turned Sj F r).getD 6 0)))) + (Sha.words.getD (r) 0)) + ((F).getD (r) 0)) + ((((Sha.rotr ((Sha.turned Sj F r).getD 0 0) 2) ^^^ (Sha.rotr ((Sha.turned Sj F r).getD 0 0) 13)) ^^^ (Sha.rotr ((Sha.turned Sj F r).getD 0 0) 22)) + (((((Sha.turned Sj F r).getD 0 0) &&& ((Sha.turned Sj F r).getD 1 0)) ^^^ (((Sha.turned Sj F r).getD 0 0) &&& ((Sha.turned Sj F r).getD 2 0))) ^^^ (((Sha.turned Sj F r).getD 1 0) &&& ((Sha.turned Sj F r).getD 2 0))))) : Value) from rfl) ?_)    -- ref.go:47 t10 := (Op.assign (Operand.tmp 195))
        refine opsF_end (fun ρ => ρ 0 = (v : Value) ∧ ρ 2 = (.pointer (some ⟨n2, 0, none⟩) : Value) ∧ ρ 3 = (.pointer (some ⟨n12, 0, none⟩) : Value) ∧ ρ 4 = (v31 : Value) ∧ ρ 5 = (.int .i64 ((64 * j : Nat) : Int) : Value) ∧ ρ 6 = (.pointer (some ⟨n53, 0, none⟩) : Value) ∧ ρ 7 = (.int .i64 ((t : Nat) : Int) : Value) ∧ ρ 10 = (U (((((((Sha.turned Sj F r).getD 7 0) + (((Sha.rotr ((Sha.turned Sj F r).getD 4 0) 6) ^^^ (Sha.rotr ((Sha.turned Sj F r).getD 4 0) 11)) ^^^ (Sha.rotr ((Sha.turned Sj F r).getD 4 0) 25))) + ((((Sha.turned Sj F r).getD 4 0) &&& ((Sha.turned Sj F r).getD 5 0)) ^^^ ((~~~((Sha.turned Sj F r).getD 4 0)) &&& ((Sha.turned Sj F r).getD 6 0)))) + (Sha.words.getD (r) 0)) + ((F).getD (r) 0)) + ((((Sha.rotr ((Sha.turned Sj F r).getD 0 0) 2) ^^^ (Sha.rotr ((Sha.turned Sj F r).getD 0 0) 13)) ^^^ (Sha.rotr ((Sha.turned Sj F r).getD 0 0) 22)) + (((((Sha.turned Sj F r).getD 0 0) &&& ((Sha.turned Sj F r).getD 1 0)) ^^^ (((Sha.turned Sj F r).getD 0 0) &&& ((Sha.turned Sj F r).getD 2 0))) ^^^ (((Sha.turned Sj F r).getD 1 0) &&& ((Sha.turned Sj F r).getD 2 0))))) : Value) ∧ ρ 11 = (U ((Sha.turned Sj F r).getD 0 0) : Value) ∧ ρ 12 = (U ((Sha.turned Sj F r).getD 1 0) : Value) ∧ ρ 13 = (U ((Sha.turned Sj F r).getD 2 0) : Value) ∧ ρ 14 = (U (((Sha.turned Sj F r).getD 3 0) + ((((((Sha.turned Sj F r).getD 7 0) + (((Sha.rotr ((Sha.turned Sj F r).getD 4 0) 6) ^^^ (Sha.rotr ((Sha.turned Sj F r).getD 4 0) 11)) ^^^ (Sha.rotr ((Sha.turned Sj F r).getD 4 0) 25))) + ((((Sha.turned Sj F r).getD 4 0) &&& ((Sha.turned Sj F r).getD 5 0)) ^^^ ((~~~((Sha.turned Sj F r).getD 4 0)) &&& ((Sha.turned Sj F r).getD 6 0)))) + (Sha.words.getD (r) 0)) + ((F).getD (r) 0))) : Value) ∧ ρ 15 = (U ((Sha.turned Sj F r).getD 4 0) : Value) ∧ ρ 16 = (U ((Sha.turned Sj F r).getD 5 0) : Value) ∧ ρ 17 = (U ((Sha.turned Sj F r).getD 6 0) : Value) ∧ ρ 18 = (.int .i64 ((r : Nat) : Int) : Value) ∧ ρ 19 = (U ((((((Sha.turned Sj F r).getD 7 0) + (((Sha.rotr ((Sha.turned Sj F r).getD 4 0) 6) ^^^ (Sha.rotr ((Sha.turned Sj F r).getD 4 0) 11)) ^^^ (Sha.rotr ((Sha.turned Sj F r).getD 4 0) 25))) + ((((Sha.turned Sj F r).getD 4 0) &&& ((Sha.turned Sj F r).getD 5 0)) ^^^ ((~~~((Sha.turned Sj F r).getD 4 0)) &&& ((Sha.turned Sj F r).getD 6 0)))) + (Sha.words.getD (r) 0)) + ((F).getD (r) 0)) : Value) ∧ ρ 20 = (U ((((Sha.rotr ((Sha.turned Sj F r).getD 0 0) 2) ^^^ (Sha.rotr ((Sha.turned Sj F r).getD 0 0) 13)) ^^^ (Sha.rotr ((Sha.turned Sj F r).getD 0 0) 22)) + (((((Sha.turned Sj F r).getD 0 0) &&& ((Sha.turned Sj F r).getD 1 0)) ^^^ (((Sha.turned Sj F r).getD 0 0) &&& ((Sha.turned Sj F r).getD 2 0))) ^^^ (((Sha.turned Sj F r).getD 1 0) &&& ((Sha.turned Sj F r).getD 2 0)))) : Value) ∧ True) ⟨T0, T2, T3, T4, T5, T6, T7, rfl, rfl, rfl, rfl, rfl, rfl, rfl, rfl, T18, T19, T20, trivial⟩ fun ρ138 ⟨T0, T2, T3, T4, T5, T6, T7, T10, T11, T12, T13, T14, T15, T16, T17, T18, T19, T20, _⟩ => ?_
        refine inBlockF_normal ?_
        refine thenF_normal (hK125 _ _ ?_)
        refine wpF_text ?_
        refine opsF_step rfl (YieldsK.move (show _ = (.int .i64 ((r : Nat) : Int) : Value) from T18) ?_)    -- ref.go:44 t136 := (Op.move (Operand.tmp 18))
        refine opsF_step rfl (YieldsK.bin (xv := .int .i64 ((r : Nat) : Int)) (yv := .int .i64 ((1 : Nat) : Int)) (show _ = (.int .i64 ((r : Nat) : Int) : Value) from rfl) (show _ = (.int .i64 ((1 : Nat) : Int) : Value) from rfl) rfl (i64_add _ (r) (1) (by omega)) ?_)    -- ref.go:44 t137 := (Op.binOp BinOp.add 3 (Operand.tmp 136) (Operand.const (Value.int IntKind.i64 1)) 3)
        refine opsF_step rfl (YieldsK.assign (show _ = (.int .i64 (((r) + (1) : Nat) : Int) : Value) from rfl) ?_)    -- ref.go:44 t18 := (Op.assign (Operand.tmp 137))
        refine opsF_end (fun ρ => ρ 0 = (v : Value) ∧ ρ 2 = (.pointer (some ⟨n2, 0, none⟩) : Value) ∧ ρ 3 = (.pointer (some ⟨n12, 0, none⟩) : Value) ∧ ρ 4 = (v31 : Value) ∧ ρ 5 = (.int .i64 ((64 * j : Nat) : Int) : Value) ∧ ρ 6 = (.pointer (some ⟨n53, 0, none⟩) : Value) ∧ ρ 7 = (.int .i64 ((t : Nat) : Int) : Value) ∧ ρ 10 = (U (((((((Sha.turned Sj F r).getD 7 0) + (((Sha.rotr ((Sha.turned Sj F r).getD 4 0) 6) ^^^ (Sha.rotr ((Sha.turned Sj F r).getD 4 0) 11)) ^^^ (Sha.rotr ((Sha.turned Sj F r).getD 4 0) 25))) + ((((Sha.turned Sj F r).getD 4 0) &&& ((Sha.turned Sj F r).getD 5 0)) ^^^ ((~~~((Sha.turned Sj F r).getD 4 0)) &&& ((Sha.turned Sj F r).getD 6 0)))) + (Sha.words.getD (r) 0)) + ((F).getD (r) 0)) + ((((Sha.rotr ((Sha.turned Sj F r).getD 0 0) 2) ^^^ (Sha.rotr ((Sha.turned Sj F r).getD 0 0) 13)) ^^^ (Sha.rotr ((Sha.turned Sj F r).getD 0 0) 22)) + (((((Sha.turned Sj F r).getD 0 0) &&& ((Sha.turned Sj F r).getD 1 0)) ^^^ (((Sha.turned Sj F r).getD 0 0) &&& ((Sha.turned Sj F r).getD 2 0))) ^^^ (((Sha.turned Sj F r).getD 1 0) &&& ((Sha.turned Sj F r).getD 2 0))))) : Value) ∧ ρ 11 = (U ((Sha.turned Sj F r).getD 0 0) : Value) ∧ ρ 12 = (U ((Sha.turned Sj F r).getD 1 0) : Value) ∧ ρ 13 = (U ((Sha.turned Sj F r).getD 2 0) : Value) ∧ ρ 14 = (U (((Sha.turned Sj F r).getD 3 0) + ((((((Sha.turned Sj F r).getD 7 0) + (((Sha.rotr ((Sha.turned Sj F r).getD 4 0) 6) ^^^ (Sha.rotr ((Sha.turned Sj F r).getD 4 0) 11)) ^^^ (Sha.rotr ((Sha.turned Sj F r).getD 4 0) 25))) + ((((Sha.turned Sj F r).getD 4 0) &&& ((Sha.turned Sj F r).getD 5 0)) ^^^ ((~~~((Sha.turned Sj F r).getD 4 0)) &&& ((Sha.turned Sj F r).getD 6 0)))) + (Sha.words.getD (r) 0)) + ((F).getD (r) 0))) : Value) ∧ ρ 15 = (U ((Sha.turned Sj F r).getD 4 0) : Value) ∧ ρ 16 = (U ((Sha.turned Sj F r).getD 5 0) : Value) ∧ ρ 17 = (U ((Sha.turned Sj F r).getD 6 0) : Value) ∧ ρ 18 = (.int .i64 (((r) + (1) : Nat) : Int) : Value) ∧ ρ 19 = (U ((((((Sha.turned Sj F r).getD 7 0) + (((Sha.rotr ((Sha.turned Sj F r).getD 4 0) 6) ^^^ (Sha.rotr ((Sha.turned Sj F r).getD 4 0) 11)) ^^^ (Sha.rotr ((Sha.turned Sj F r).getD 4 0) 25))) + ((((Sha.turned Sj F r).getD 4 0) &&& ((Sha.turned Sj F r).getD 5 0)) ^^^ ((~~~((Sha.turned Sj F r).getD 4 0)) &&& ((Sha.turned Sj F r).getD 6 0)))) + (Sha.words.getD (r) 0)) + ((F).getD (r) 0)) : Value) ∧ ρ 20 = (U ((((Sha.rotr ((Sha.turned Sj F r).getD 0 0) 2) ^^^ (Sha.rotr ((Sha.turned Sj F r).getD 0 0) 13)) ^^^ (Sha.rotr ((Sha.turned Sj F r).getD 0 0) 22)) + (((((Sha.turned Sj F r).getD 0 0) &&& ((Sha.turned Sj F r).getD 1 0)) ^^^ (((Sha.turned Sj F r).getD 0 0) &&& ((Sha.turned Sj F r).getD 2 0))) ^^^ (((Sha.turned Sj F r).getD 1 0) &&& ((Sha.turned Sj F r).getD 2 0)))) : Value) ∧ True) ⟨T0, T2, T3, T4, T5, T6, T7, T10, T11, T12, T13, T14, T15, T16, T17, rfl, T19, T20, trivial⟩ fun ρ139 ⟨T0, T2, T3, T4, T5, T6, T7, T10, T11, T12, T13, T14, T15, T16, T17, T18, T19, T20, _⟩ => ?_
        refine thenF_normal (And.intro ⟨r + 1, T0, T2, T3, T4, T5, T6, T7, T18, T10.trans (congrArg (fun z => U z) (UInt32.add_assoc _ _ _).symm), T11, T12, T13, T14, T15, T16, T17, hE, hb8, hA18, ho41, hb22l, hA59, hb67l, by omega, trivial⟩ ?_)
        show 64 - (intOf (ρ139 18)).toNat < 64 - (intOf (ρ120 18)).toNat
        rw [T18, q18]
        simp only [intOf, Int.toNat_natCast]; omega
      · obtain ⟨T, hT⟩ : ∃ T, T = Sha.turned Sj F 64 := ⟨_, rfl⟩
        have hTl : T.length = 8 := by rw [hT, Sha.turned_length _ _ hSl]
        have hr64e : r = 64 := by omega
        rw [hr64e, ← hT] at T10 T11 T12 T13 T14 T15 T16 T17
        refine wpF_exit (thenF_exit (thenF_exit (inBlockF_hit ?_)))
        refine thenF_normal (hK117 _ _ ?_)
        refine wpF_seq_k fun K140 hK140 => ?_
        refine wpF_text ?_
        refine opsF_step rfl (YieldsK.atArr0 (i := 0) sha9_ty41 sha9_sz40 (show _ = (.pointer (some ⟨n12, 0, none⟩) : Value) from T3) (show _ = (.int .i64 ((0 : Nat) : Int) : Value) from rfl) (by omega) ?_)    -- ref.go:49 t196 := (Op.indexAddr 41 (Operand.tmp 3) (Operand.const (Value.int IntKind.i64 0)))
        refine opsF_step rfl (YieldsK.cell1 sha9_ty40 rfl (show _ = (.pointer (some ⟨n12, 0, none⟩) : Value) from rfl) (cellAt hb22l (word_at (i := 0) (by rw [hSl]; omega))) ?_)    -- ref.go:49 t197 := (Op.load 40 (Operand.tmp 196))
        refine opsF_step rfl (YieldsK.move (show _ = (U (T.getD 0 0) : Value) from T10) ?_)    -- ref.go:49 t198 := (Op.move (Operand.tmp 10))
        refine opsF_step rfl (YieldsK.bin (show _ = (U ((Sj).getD (0) 0) : Value) from rfl) (show _ = (U (T.getD 0 0) : Value) from rfl) rfl (u_add _ _ _) ?_)    -- ref.go:49 t199 := (Op.binOp BinOp.add 40 (Operand.tmp 197) (Operand.tmp 198) 40)
        refine opsF_step rfl (YieldsK.atArr0 (i := 0) sha9_ty41 sha9_sz40 (show _ = (.pointer (some ⟨n12, 0, none⟩) : Value) from T3) (show _ = (.int .i64 ((0 : Nat) : Int) : Value) from rfl) (by omega) ?_)    -- ref.go:49 t200 := (Op.indexAddr 41 (Operand.tmp 3) (Operand.const (Value.int IntKind.i64 0)))
        refine opsF_step rfl (YieldsK.storeU32 (i := 0) (v := ((Sj).getD (0) 0) + (T.getD 0 0)) (show _ = (.pointer (some ⟨n12, 0, none⟩) : Value) from rfl) (show _ = (U (((Sj).getD (0) 0) + (T.getD 0 0)) : Value) from rfl) hb22l (by rw [hSl]; omega) sha9_isz40 fun w141 hb142 hg143 hs144 => ?_)    -- ref.go:49 tNone := (Op.store 40 (Operand.tmp 200) (Operand.tmp 199))
        have hE : Ext w w141 := row_fresh hE hg143 (Nat.le_trans hz20 (by omega))
        have hb8 : w141.heap[n2]? = some (.cells (Lib.byteCells (List.replicate 32 0)).toArray 24 (0, 0)) := (hg143.block _ (Array.getElem?_eq_some_iff.1 hb8).1 (by simp; omega)).trans hb8
        have hA18 : Ext w3 w141 := row_fresh hA18 hg143 (Nat.le_trans (Nat.le_refl _) (by omega))
        have ho41 : w141.ownsRow w24.heap.size 5 1 v31 (P : List UInt8).length (Lib.byteCells (P)) := own_kept ho41 hg143 hap40
        clear hb22l
        clear hA59
        have hb67l : w141.heap[n53]? = some (.cells (F.map fun x => U x).toArray 42 (0, 0)) := (hg143.block _ (Array.getElem?_eq_some_iff.1 hb67l).1 (by simp; omega)).trans hb67l
        have hb22l := hb142; clear hb142
        have hl145 : n12 < w141.heap.size := (Array.getElem?_eq_some_iff.1 hb22l).1
        refine opsF_end (fun ρ => ρ 0 = (v : Value) ∧ ρ 2 = (.pointer (some ⟨n2, 0, none⟩) : Value) ∧ ρ 3 = (.pointer (some ⟨n12, 0, none⟩) : Value) ∧ ρ 4 = (v31 : Value) ∧ ρ 5 = (.int .i64 ((64 * j : Nat) : Int) : Value) ∧ ρ 6 = (.pointer (some ⟨n53, 0, none⟩) : Value) ∧ ρ 7 = (.int .i64 ((t : Nat) : Int) : Value) ∧ ρ 10 = (U (T.getD 0 0) : Value) ∧ ρ 11 = (U (T.getD 1 0) : Value) ∧ ρ 12 = (U (T.getD 2 0) : Value) ∧ ρ 13 = (U (T.getD 3 0) : Value) ∧ ρ 14 = (U (T.getD 4 0) : Value) ∧ ρ 15 = (U (T.getD 5 0) : Value) ∧ ρ 16 = (U (T.getD 6 0) : Value) ∧ ρ 17 = (U (T.getD 7 0) : Value) ∧ ρ 18 = (.int .i64 ((r : Nat) : Int) : Value) ∧ True) ⟨T0, T2, T3, T4, T5, T6, T7, T10, T11, T12, T13, T14, T15, T16, T17, T18, trivial⟩ fun ρ146 ⟨T0, T2, T3, T4, T5, T6, T7, T10, T11, T12, T13, T14, T15, T16, T17, T18, _⟩ => ?_
        refine thenF_normal (hK140 _ _ ?_)
        refine wpF_seq_k fun K147 hK147 => ?_
        refine wpF_text ?_
        refine opsF_step rfl (YieldsK.atArr0 (i := 1) sha9_ty41 sha9_sz40 (show _ = (.pointer (some ⟨n12, 0, none⟩) : Value) from T3) (show _ = (.int .i64 ((1 : Nat) : Int) : Value) from rfl) (by omega) ?_)    -- ref.go:50 t201 := (Op.indexAddr 41 (Operand.tmp 3) (Operand.const (Value.int IntKind.i64 1)))
        refine opsF_step rfl (YieldsK.cell1 sha9_ty40 rfl (show _ = (.pointer (some ⟨n12, 1, none⟩) : Value) from rfl) (cellAt hb22l (word_at (i := 1) (by rw [List.length_set, hSl]; omega))) ?_)    -- ref.go:50 t202 := (Op.load 40 (Operand.tmp 201))
        refine opsF_step rfl (YieldsK.move (show _ = (U (T.getD 1 0) : Value) from T11) ?_)    -- ref.go:50 t203 := (Op.move (Operand.tmp 11))
        refine opsF_step rfl (YieldsK.bin (show _ = (U (((Sj).set (0) (((Sj).getD (0) 0) + (T.getD 0 0))).getD (1) 0) : Value) from rfl) (show _ = (U (T.getD 1 0) : Value) from rfl) rfl (u_add _ _ _) ?_)    -- ref.go:50 t204 := (Op.binOp BinOp.add 40 (Operand.tmp 202) (Operand.tmp 203) 40)
        refine opsF_step rfl (YieldsK.atArr0 (i := 1) sha9_ty41 sha9_sz40 (show _ = (.pointer (some ⟨n12, 0, none⟩) : Value) from T3) (show _ = (.int .i64 ((1 : Nat) : Int) : Value) from rfl) (by omega) ?_)    -- ref.go:50 t205 := (Op.indexAddr 41 (Operand.tmp 3) (Operand.const (Value.int IntKind.i64 1)))
        refine opsF_step rfl (YieldsK.storeU32 (i := 1) (v := (((Sj).set (0) (((Sj).getD (0) 0) + (T.getD 0 0))).getD (1) 0) + (T.getD 1 0)) (show _ = (.pointer (some ⟨n12, 1, none⟩) : Value) from rfl) (show _ = (U ((((Sj).set (0) (((Sj).getD (0) 0) + (T.getD 0 0))).getD (1) 0) + (T.getD 1 0)) : Value) from rfl) hb22l (by rw [List.length_set, hSl]; omega) sha9_isz40 fun w148 hb149 hg150 hs151 => ?_)    -- ref.go:50 tNone := (Op.store 40 (Operand.tmp 205) (Operand.tmp 204))
        have hE : Ext w w148 := row_fresh hE hg150 (Nat.le_trans hz20 (by omega))
        have hb8 : w148.heap[n2]? = some (.cells (Lib.byteCells (List.replicate 32 0)).toArray 24 (0, 0)) := (hg150.block _ (Array.getElem?_eq_some_iff.1 hb8).1 (by simp; omega)).trans hb8
        have hA18 : Ext w3 w148 := row_fresh hA18 hg150 (Nat.le_trans (Nat.le_refl _) (by omega))
        have ho41 : w148.ownsRow w24.heap.size 5 1 v31 (P : List UInt8).length (Lib.byteCells (P)) := own_kept ho41 hg150 hap40
        have hb67l : w148.heap[n53]? = some (.cells (F.map fun x => U x).toArray 42 (0, 0)) := (hg150.block _ (Array.getElem?_eq_some_iff.1 hb67l).1 (by simp; omega)).trans hb67l
        clear hb22l
        have hb22l := hb149; clear hb149
        have hl152 : n12 < w148.heap.size := (Array.getElem?_eq_some_iff.1 hb22l).1
        refine opsF_end (fun ρ => ρ 0 = (v : Value) ∧ ρ 2 = (.pointer (some ⟨n2, 0, none⟩) : Value) ∧ ρ 3 = (.pointer (some ⟨n12, 0, none⟩) : Value) ∧ ρ 4 = (v31 : Value) ∧ ρ 5 = (.int .i64 ((64 * j : Nat) : Int) : Value) ∧ ρ 6 = (.pointer (some ⟨n53, 0, none⟩) : Value) ∧ ρ 7 = (.int .i64 ((t : Nat) : Int) : Value) ∧ ρ 10 = (U (T.getD 0 0) : Value) ∧ ρ 11 = (U (T.getD 1 0) : Value) ∧ ρ 12 = (U (T.getD 2 0) : Value) ∧ ρ 13 = (U (T.getD 3 0) : Value) ∧ ρ 14 = (U (T.getD 4 0) : Value) ∧ ρ 15 = (U (T.getD 5 0) : Value) ∧ ρ 16 = (U (T.getD 6 0) : Value) ∧ ρ 17 = (U (T.getD 7 0) : Value) ∧ ρ 18 = (.int .i64 ((r : Nat) : Int) : Value) ∧ True) ⟨T0, T2, T3, T4, T5, T6, T7, T10, T11, T12, T13, T14, T15, T16, T17, T18, trivial⟩ fun ρ153 ⟨T0, T2, T3, T4, T5, T6, T7, T10, T11, T12, T13, T14, T15, T16, T17, T18, _⟩ => ?_
        refine thenF_normal (hK147 _ _ ?_)
        refine wpF_seq_k fun K154 hK154 => ?_
        refine wpF_text ?_
        refine opsF_step rfl (YieldsK.atArr0 (i := 2) sha9_ty41 sha9_sz40 (show _ = (.pointer (some ⟨n12, 0, none⟩) : Value) from T3) (show _ = (.int .i64 ((2 : Nat) : Int) : Value) from rfl) (by omega) ?_)    -- ref.go:51 t206 := (Op.indexAddr 41 (Operand.tmp 3) (Operand.const (Value.int IntKind.i64 2)))
        refine opsF_step rfl (YieldsK.cell1 sha9_ty40 rfl (show _ = (.pointer (some ⟨n12, 2, none⟩) : Value) from rfl) (cellAt hb22l (word_at (i := 2) (by rw [List.length_set, List.length_set, hSl]; omega))) ?_)    -- ref.go:51 t207 := (Op.load 40 (Operand.tmp 206))
        refine opsF_step rfl (YieldsK.move (show _ = (U (T.getD 2 0) : Value) from T12) ?_)    -- ref.go:51 t208 := (Op.move (Operand.tmp 12))
        refine opsF_step rfl (YieldsK.bin (show _ = (U ((((Sj).set (0) (((Sj).getD (0) 0) + (T.getD 0 0))).set (1) ((((Sj).set (0) (((Sj).getD (0) 0) + (T.getD 0 0))).getD (1) 0) + (T.getD 1 0))).getD (2) 0) : Value) from rfl) (show _ = (U (T.getD 2 0) : Value) from rfl) rfl (u_add _ _ _) ?_)    -- ref.go:51 t209 := (Op.binOp BinOp.add 40 (Operand.tmp 207) (Operand.tmp 208) 40)
        refine opsF_step rfl (YieldsK.atArr0 (i := 2) sha9_ty41 sha9_sz40 (show _ = (.pointer (some ⟨n12, 0, none⟩) : Value) from T3) (show _ = (.int .i64 ((2 : Nat) : Int) : Value) from rfl) (by omega) ?_)    -- ref.go:51 t210 := (Op.indexAddr 41 (Operand.tmp 3) (Operand.const (Value.int IntKind.i64 2)))
        refine opsF_step rfl (YieldsK.storeU32 (i := 2) (v := ((((Sj).set (0) (((Sj).getD (0) 0) + (T.getD 0 0))).set (1) ((((Sj).set (0) (((Sj).getD (0) 0) + (T.getD 0 0))).getD (1) 0) + (T.getD 1 0))).getD (2) 0) + (T.getD 2 0)) (show _ = (.pointer (some ⟨n12, 2, none⟩) : Value) from rfl) (show _ = (U (((((Sj).set (0) (((Sj).getD (0) 0) + (T.getD 0 0))).set (1) ((((Sj).set (0) (((Sj).getD (0) 0) + (T.getD 0 0))).getD (1) 0) + (T.getD 1 0))).getD (2) 0) + (T.getD 2 0)) : Value) from rfl) hb22l (by rw [List.length_set, List.length_set, hSl]; omega) sha9_isz40 fun w155 hb156 hg157 hs158 => ?_)    -- ref.go:51 tNone := (Op.store 40 (Operand.tmp 210) (Operand.tmp 209))
        have hE : Ext w w155 := row_fresh hE hg157 (Nat.le_trans hz20 (by omega))
        have hb8 : w155.heap[n2]? = some (.cells (Lib.byteCells (List.replicate 32 0)).toArray 24 (0, 0)) := (hg157.block _ (Array.getElem?_eq_some_iff.1 hb8).1 (by simp; omega)).trans hb8
        have hA18 : Ext w3 w155 := row_fresh hA18 hg157 (Nat.le_trans (Nat.le_refl _) (by omega))
        have ho41 : w155.ownsRow w24.heap.size 5 1 v31 (P : List UInt8).length (Lib.byteCells (P)) := own_kept ho41 hg157 hap40
        have hb67l : w155.heap[n53]? = some (.cells (F.map fun x => U x).toArray 42 (0, 0)) := (hg157.block _ (Array.getElem?_eq_some_iff.1 hb67l).1 (by simp; omega)).trans hb67l
        clear hb22l
        have hb22l := hb156; clear hb156
        have hl159 : n12 < w155.heap.size := (Array.getElem?_eq_some_iff.1 hb22l).1
        refine opsF_end (fun ρ => ρ 0 = (v : Value) ∧ ρ 2 = (.pointer (some ⟨n2, 0, none⟩) : Value) ∧ ρ 3 = (.pointer (some ⟨n12, 0, none⟩) : Value) ∧ ρ 4 = (v31 : Value) ∧ ρ 5 = (.int .i64 ((64 * j : Nat) : Int) : Value) ∧ ρ 6 = (.pointer (some ⟨n53, 0, none⟩) : Value) ∧ ρ 7 = (.int .i64 ((t : Nat) : Int) : Value) ∧ ρ 10 = (U (T.getD 0 0) : Value) ∧ ρ 11 = (U (T.getD 1 0) : Value) ∧ ρ 12 = (U (T.getD 2 0) : Value) ∧ ρ 13 = (U (T.getD 3 0) : Value) ∧ ρ 14 = (U (T.getD 4 0) : Value) ∧ ρ 15 = (U (T.getD 5 0) : Value) ∧ ρ 16 = (U (T.getD 6 0) : Value) ∧ ρ 17 = (U (T.getD 7 0) : Value) ∧ ρ 18 = (.int .i64 ((r : Nat) : Int) : Value) ∧ True) ⟨T0, T2, T3, T4, T5, T6, T7, T10, T11, T12, T13, T14, T15, T16, T17, T18, trivial⟩ fun ρ160 ⟨T0, T2, T3, T4, T5, T6, T7, T10, T11, T12, T13, T14, T15, T16, T17, T18, _⟩ => ?_
        refine thenF_normal (hK154 _ _ ?_)
        refine wpF_seq_k fun K161 hK161 => ?_
        refine wpF_text ?_
        refine opsF_step rfl (YieldsK.atArr0 (i := 3) sha9_ty41 sha9_sz40 (show _ = (.pointer (some ⟨n12, 0, none⟩) : Value) from T3) (show _ = (.int .i64 ((3 : Nat) : Int) : Value) from rfl) (by omega) ?_)    -- ref.go:52 t211 := (Op.indexAddr 41 (Operand.tmp 3) (Operand.const (Value.int IntKind.i64 3)))
        refine opsF_step rfl (YieldsK.cell1 sha9_ty40 rfl (show _ = (.pointer (some ⟨n12, 3, none⟩) : Value) from rfl) (cellAt hb22l (word_at (i := 3) (by rw [List.length_set, List.length_set, List.length_set, hSl]; omega))) ?_)    -- ref.go:52 t212 := (Op.load 40 (Operand.tmp 211))
        refine opsF_step rfl (YieldsK.move (show _ = (U (T.getD 3 0) : Value) from T13) ?_)    -- ref.go:52 t213 := (Op.move (Operand.tmp 13))
        refine opsF_step rfl (YieldsK.bin (show _ = (U (((((Sj).set (0) (((Sj).getD (0) 0) + (T.getD 0 0))).set (1) ((((Sj).set (0) (((Sj).getD (0) 0) + (T.getD 0 0))).getD (1) 0) + (T.getD 1 0))).set (2) (((((Sj).set (0) (((Sj).getD (0) 0) + (T.getD 0 0))).set (1) ((((Sj).set (0) (((Sj).getD (0) 0) + (T.getD 0 0))).getD (1) 0) + (T.getD 1 0))).getD (2) 0) + (T.getD 2 0))).getD (3) 0) : Value) from rfl) (show _ = (U (T.getD 3 0) : Value) from rfl) rfl (u_add _ _ _) ?_)    -- ref.go:52 t214 := (Op.binOp BinOp.add 40 (Operand.tmp 212) (Operand.tmp 213) 40)
        refine opsF_step rfl (YieldsK.atArr0 (i := 3) sha9_ty41 sha9_sz40 (show _ = (.pointer (some ⟨n12, 0, none⟩) : Value) from T3) (show _ = (.int .i64 ((3 : Nat) : Int) : Value) from rfl) (by omega) ?_)    -- ref.go:52 t215 := (Op.indexAddr 41 (Operand.tmp 3) (Operand.const (Value.int IntKind.i64 3)))
        refine opsF_step rfl (YieldsK.storeU32 (i := 3) (v := (((((Sj).set (0) (((Sj).getD (0) 0) + (T.getD 0 0))).set (1) ((((Sj).set (0) (((Sj).getD (0) 0) + (T.getD 0 0))).getD (1) 0) + (T.getD 1 0))).set (2) (((((Sj).set (0) (((Sj).getD (0) 0) + (T.getD 0 0))).set (1) ((((Sj).set (0) (((Sj).getD (0) 0) + (T.getD 0 0))).getD (1) 0) + (T.getD 1 0))).getD (2) 0) + (T.getD 2 0))).getD (3) 0) + (T.getD 3 0)) (show _ = (.pointer (some ⟨n12, 3, none⟩) : Value) from rfl) (show _ = (U ((((((Sj).set (0) (((Sj).getD (0) 0) + (T.getD 0 0))).set (1) ((((Sj).set (0) (((Sj).getD (0) 0) + (T.getD 0 0))).getD (1) 0) + (T.getD 1 0))).set (2) (((((Sj).set (0) (((Sj).getD (0) 0) + (T.getD 0 0))).set (1) ((((Sj).set (0) (((Sj).getD (0) 0) + (T.getD 0 0))).getD (1) 0) + (T.getD 1 0))).getD (2) 0) + (T.getD 2 0))).getD (3) 0) + (T.getD 3 0)) : Value) from rfl) hb22l (by rw [List.length_set, List.length_set, List.length_set, hSl]; omega) sha9_isz40 fun w162 hb163 hg164 hs165 => ?_)    -- ref.go:52 tNone := (Op.store 40 (Operand.tmp 215) (Operand.tmp 214))
        have hE : Ext w w162 := row_fresh hE hg164 (Nat.le_trans hz20 (by omega))
        have hb8 : w162.heap[n2]? = some (.cells (Lib.byteCells (List.replicate 32 0)).toArray 24 (0, 0)) := (hg164.block _ (Array.getElem?_eq_some_iff.1 hb8).1 (by simp; omega)).trans hb8
        have hA18 : Ext w3 w162 := row_fresh hA18 hg164 (Nat.le_trans (Nat.le_refl _) (by omega))
        have ho41 : w162.ownsRow w24.heap.size 5 1 v31 (P : List UInt8).length (Lib.byteCells (P)) := own_kept ho41 hg164 hap40
        have hb67l : w162.heap[n53]? = some (.cells (F.map fun x => U x).toArray 42 (0, 0)) := (hg164.block _ (Array.getElem?_eq_some_iff.1 hb67l).1 (by simp; omega)).trans hb67l
        clear hb22l
        have hb22l := hb163; clear hb163
        have hl166 : n12 < w162.heap.size := (Array.getElem?_eq_some_iff.1 hb22l).1
        refine opsF_end (fun ρ => ρ 0 = (v : Value) ∧ ρ 2 = (.pointer (some ⟨n2, 0, none⟩) : Value) ∧ ρ 3 = (.pointer (some ⟨n12, 0, none⟩) : Value) ∧ ρ 4 = (v31 : Value) ∧ ρ 5 = (.int .i64 ((64 * j : Nat) : Int) : Value) ∧ ρ 6 = (.pointer (some ⟨n53, 0, none⟩) : Value) ∧ ρ 7 = (.int .i64 ((t : Nat) : Int) : Value) ∧ ρ 10 = (U (T.getD 0 0) : Value) ∧ ρ 11 = (U (T.getD 1 0) : Value) ∧ ρ 12 = (U (T.getD 2 0) : Value) ∧ ρ 13 = (U (T.getD 3 0) : Value) ∧ ρ 14 = (U (T.getD 4 0) : Value) ∧ ρ 15 = (U (T.getD 5 0) : Value) ∧ ρ 16 = (U (T.getD 6 0) : Value) ∧ ρ 17 = (U (T.getD 7 0) : Value) ∧ ρ 18 = (.int .i64 ((r : Nat) : Int) : Value) ∧ True) ⟨T0, T2, T3, T4, T5, T6, T7, T10, T11, T12, T13, T14, T15, T16, T17, T18, trivial⟩ fun ρ167 ⟨T0, T2, T3, T4, T5, T6, T7, T10, T11, T12, T13, T14, T15, T16, T17, T18, _⟩ => ?_
        refine thenF_normal (hK161 _ _ ?_)
        refine wpF_seq_k fun K168 hK168 => ?_
        refine wpF_text ?_
        refine opsF_step rfl (YieldsK.atArr0 (i := 4) sha9_ty41 sha9_sz40 (show _ = (.pointer (some ⟨n12, 0, none⟩) : Value) from T3) (show _ = (.int .i64 ((4 : Nat) : Int) : Value) from rfl) (by omega) ?_)    -- ref.go:53 t216 := (Op.indexAddr 41 (Operand.tmp 3) (Operand.const (Value.int IntKind.i64 4)))
        refine opsF_step rfl (YieldsK.cell1 sha9_ty40 rfl (show _ = (.pointer (some ⟨n12, 4, none⟩) : Value) from rfl) (cellAt hb22l (word_at (i := 4) (by rw [List.length_set, List.length_set, List.length_set, List.length_set, hSl]; omega))) ?_)    -- ref.go:53 t217 := (Op.load 40 (Operand.tmp 216))
        refine opsF_step rfl (YieldsK.move (show _ = (U (T.getD 4 0) : Value) from T14) ?_)    -- ref.go:53 t218 := (Op.move (Operand.tmp 14))
        refine opsF_step rfl (YieldsK.bin (show _ = (U ((((((Sj).set (0) (((Sj).getD (0) 0) + (T.getD 0 0))).set (1) ((((Sj).set (0) (((Sj).getD (0) 0) + (T.getD 0 0))).getD (1) 0) + (T.getD 1 0))).set (2) (((((Sj).set (0) (((Sj).getD (0) 0) + (T.getD 0 0))).set (1) ((((Sj).set (0) (((Sj).getD (0) 0) + (T.getD 0 0))).getD (1) 0) + (T.getD 1 0))).getD (2) 0) + (T.getD 2 0))).set (3) ((((((Sj).set (0) (((Sj).getD (0) 0) + (T.getD 0 0))).set (1) ((((Sj).set (0) (((Sj).getD (0) 0) + (T.getD 0 0))).getD (1) 0) + (T.getD 1 0))).set (2) (((((Sj).set (0) (((Sj).getD (0) 0) + (T.getD 0 0))).set (1) ((((Sj).set (0) (((Sj).getD (0) 0) + (T.getD 0 0))).getD (1) 0) + (T.getD 1 0))).getD (2) 0) + (T.getD 2 0))).getD (3) 0) + (T.getD 3 0))).getD (4) 0) : Value) from rfl) (show _ = (U (T.getD 4 0) : Value) from rfl) rfl (u_add _ _ _) ?_)    -- ref.go:53 t219 := (Op.binOp BinOp.add 40 (Operand.tmp 217) (Operand.tmp 218) 40)
        refine opsF_step rfl (YieldsK.atArr0 (i := 4) sha9_ty41 sha9_sz40 (show _ = (.pointer (some ⟨n12, 0, none⟩) : Value) from T3) (show _ = (.int .i64 ((4 : Nat) : Int) : Value) from rfl) (by omega) ?_)    -- ref.go:53 t220 := (Op.indexAddr 41 (Operand.tmp 3) (Operand.const (Value.int IntKind.i64 4)))
        refine opsF_step rfl (YieldsK.storeU32 (i := 4) (v := ((((((Sj).set (0) (((Sj).getD (0) 0) + (T.getD 0 0))).set (1) ((((Sj).set (0) (((Sj).getD (0) 0) + (T.getD 0 0))).getD (1) 0) + (T.getD 1 0))).set (2) (((((Sj).set (0) (((Sj).getD (0) 0) + (T.getD 0 0))).set (1) ((((Sj).set (0) (((Sj).getD (0) 0) + (T.getD 0 0))).getD (1) 0) + (T.getD 1 0))).getD (2) 0) + (T.getD 2 0))).set (3) ((((((Sj).set (0) (((Sj).getD (0) 0) + (T.getD 0 0))).set (1) ((((Sj).set (0) (((Sj).getD (0) 0) + (T.getD 0 0))).getD (1) 0) + (T.getD 1 0))).set (2) (((((Sj).set (0) (((Sj).getD (0) 0) + (T.getD 0 0))).set (1) ((((Sj).set (0) (((Sj).getD (0) 0) + (T.getD 0 0))).getD (1) 0) + (T.getD 1 0))).getD (2) 0) + (T.getD 2 0))).getD (3) 0) + (T.getD 3 0))).getD (4) 0) + (T.getD 4 0)) (show _ = (.pointer (some ⟨n12, 4, none⟩) : Value) from rfl) (show _ = (U (((((((Sj).set (0) (((Sj).getD (0) 0) + (T.getD 0 0))).set (1) ((((Sj).set (0) (((Sj).getD (0) 0) + (T.getD 0 0))).getD (1) 0) + (T.getD 1 0))).set (2) (((((Sj).set (0) (((Sj).getD (0) 0) + (T.getD 0 0))).set (1) ((((Sj).set (0) (((Sj).getD (0) 0) + (T.getD 0 0))).getD (1) 0) + (T.getD 1 0))).getD (2) 0) + (T.getD 2 0))).set (3) ((((((Sj).set (0) (((Sj).getD (0) 0) + (T.getD 0 0))).set (1) ((((Sj).set (0) (((Sj).getD (0) 0) + (T.getD 0 0))).getD (1) 0) + (T.getD 1 0))).set (2) (((((Sj).set (0) (((Sj).getD (0) 0) + (T.getD 0 0))).set (1) ((((Sj).set (0) (((Sj).getD (0) 0) + (T.getD 0 0))).getD (1) 0) + (T.getD 1 0))).getD (2) 0) + (T.getD 2 0))).getD (3) 0) + (T.getD 3 0))).getD (4) 0) + (T.getD 4 0)) : Value) from rfl) hb22l (by rw [List.length_set, List.length_set, List.length_set, List.length_set, hSl]; omega) sha9_isz40 fun w169 hb170 hg171 hs172 => ?_)    -- ref.go:53 tNone := (Op.store 40 (Operand.tmp 220) (Operand.tmp 219))
        have hE : Ext w w169 := row_fresh hE hg171 (Nat.le_trans hz20 (by omega))
        have hb8 : w169.heap[n2]? = some (.cells (Lib.byteCells (List.replicate 32 0)).toArray 24 (0, 0)) := (hg171.block _ (Array.getElem?_eq_some_iff.1 hb8).1 (by simp; omega)).trans hb8
        have hA18 : Ext w3 w169 := row_fresh hA18 hg171 (Nat.le_trans (Nat.le_refl _) (by omega))
        have ho41 : w169.ownsRow w24.heap.size 5 1 v31 (P : List UInt8).length (Lib.byteCells (P)) := own_kept ho41 hg171 hap40
        have hb67l : w169.heap[n53]? = some (.cells (F.map fun x => U x).toArray 42 (0, 0)) := (hg171.block _ (Array.getElem?_eq_some_iff.1 hb67l).1 (by simp; omega)).trans hb67l
        clear hb22l
        have hb22l := hb170; clear hb170
        have hl173 : n12 < w169.heap.size := (Array.getElem?_eq_some_iff.1 hb22l).1
        refine opsF_end (fun ρ => ρ 0 = (v : Value) ∧ ρ 2 = (.pointer (some ⟨n2, 0, none⟩) : Value) ∧ ρ 3 = (.pointer (some ⟨n12, 0, none⟩) : Value) ∧ ρ 4 = (v31 : Value) ∧ ρ 5 = (.int .i64 ((64 * j : Nat) : Int) : Value) ∧ ρ 6 = (.pointer (some ⟨n53, 0, none⟩) : Value) ∧ ρ 7 = (.int .i64 ((t : Nat) : Int) : Value) ∧ ρ 10 = (U (T.getD 0 0) : Value) ∧ ρ 11 = (U (T.getD 1 0) : Value) ∧ ρ 12 = (U (T.getD 2 0) : Value) ∧ ρ 13 = (U (T.getD 3 0) : Value) ∧ ρ 14 = (U (T.getD 4 0) : Value) ∧ ρ 15 = (U (T.getD 5 0) : Value) ∧ ρ 16 = (U (T.getD 6 0) : Value) ∧ ρ 17 = (U (T.getD 7 0) : Value) ∧ ρ 18 = (.int .i64 ((r : Nat) : Int) : Value) ∧ True) ⟨T0, T2, T3, T4, T5, T6, T7, T10, T11, T12, T13, T14, T15, T16, T17, T18, trivial⟩ fun ρ174 ⟨T0, T2, T3, T4, T5, T6, T7, T10, T11, T12, T13, T14, T15, T16, T17, T18, _⟩ => ?_
        refine thenF_normal (hK168 _ _ ?_)
        refine wpF_seq_k fun K175 hK175 => ?_
        refine wpF_text ?_
        refine opsF_step rfl (YieldsK.atArr0 (i := 5) sha9_ty41 sha9_sz40 (show _ = (.pointer (some ⟨n12, 0, none⟩) : Value) from T3) (show _ = (.int .i64 ((5 : Nat) : Int) : Value) from rfl) (by omega) ?_)    -- ref.go:54 t221 := (Op.indexAddr 41 (Operand.tmp 3) (Operand.const (Value.int IntKind.i64 5)))
        refine opsF_step rfl (YieldsK.cell1 sha9_ty40 rfl (show _ = (.pointer (some ⟨n12, 5, none⟩) : Value) from rfl) (cellAt hb22l (word_at (i := 5) (by rw [List.length_set, List.length_set, List.length_set, List.length_set, List.length_set, hSl]; omega))) ?_)    -- ref.go:54 t222 := (Op.load 40 (Operand.tmp 221))
        refine opsF_step rfl (YieldsK.move (show _ = (U (T.getD 5 0) : Value) from T15) ?_)    -- ref.go:54 t223 := (Op.move (Operand.tmp 15))
        refine opsF_step rfl (YieldsK.bin (show _ = (U (((((((Sj).set (0) (((Sj).getD (0) 0) + (T.getD 0 0))).set (1) ((((Sj).set (0) (((Sj).getD (0) 0) + (T.getD 0 0))).getD (1) 0) + (T.getD 1 0))).set (2) (((((Sj).set (0) (((Sj).getD (0) 0) + (T.getD 0 0))).set (1) ((((Sj).set (0) (((Sj).getD (0) 0) + (T.getD 0 0))).getD (1) 0) + (T.getD 1 0))).getD (2) 0) + (T.getD 2 0))).set (3) ((((((Sj).set (0) (((Sj).getD (0) 0) + (T.getD 0 0))).set (1) ((((Sj).set (0) (((Sj).getD (0) 0) + (T.getD 0 0))).getD (1) 0) + (T.getD 1 0))).set (2) (((((Sj).set (0) (((Sj).getD (0) 0) + (T.getD 0 0))).set (1) ((((Sj).set (0) (((Sj).getD (0) 0) + (T.getD 0 0))).getD (1) 0) + (T.getD 1 0))).getD (2) 0) + (T.getD 2 0))).getD (3) 0) + (T.getD 3 0))).set (4) (((((((Sj).set (0) (((Sj).getD (0) 0) + (T.getD 0 0))).set (1) ((((Sj).set (0) (((Sj).getD (0) 0) + (T.getD 0 0))).getD (1) 0) + (T.getD 1 0))).set (2) (((((Sj).set (0) (((Sj).getD (0) 0) + (T.getD 0 0))).set (1) ((((Sj).set (0) (((Sj).getD (0) 0) + (T.getD 0 0))).getD (1) 0) + (T.getD 1 0))).getD (2) 0) + (T.getD 2 0))).set (3) ((((((Sj).set (0) (((Sj).getD (0) 0) + (T.getD 0 0))).set (1) ((((Sj).set (0) (((Sj).getD (0) 0) + (T.getD 0 0))).getD (1) 0) + (T.getD 1 0))).set (2) (((((Sj).set (0) (((Sj).getD (0) 0) + (T.getD 0 0))).set (1) ((((Sj).set (0) (((Sj).getD (0) 0) + (T.getD 0 0))).getD (1) 0) + (T.getD 1 0))).getD (2) 0) + (T.getD 2 0))).getD (3) 0) + (T.getD 3 0))).getD (4) 0) + (T.getD 4 0))).getD (5) 0) : Value) from rfl) (show _ = (U (T.getD 5 0) : Value) from rfl) rfl (u_add _ _ _) ?_)    -- ref.go:54 t224 := (Op.binOp BinOp.add 40 (Operand.tmp 222) (Operand.tmp 223) 40)
        refine opsF_step rfl (YieldsK.atArr0 (i := 5) sha9_ty41 sha9_sz40 (show _ = (.pointer (some ⟨n12, 0, none⟩) : Value) from T3) (show _ = (.int .i64 ((5 : Nat) : Int) : Value) from rfl) (by omega) ?_)    -- ref.go:54 t225 := (Op.indexAddr 41 (Operand.tmp 3) (Operand.const (Value.int IntKind.i64 5)))
        refine opsF_step rfl (YieldsK.storeU32 (i := 5) (v := (((((((Sj).set (0) (((Sj).getD (0) 0) + (T.getD 0 0))).set (1) ((((Sj).set (0) (((Sj).getD (0) 0) + (T.getD 0 0))).getD (1) 0) + (T.getD 1 0))).set (2) (((((Sj).set (0) (((Sj).getD (0) 0) + (T.getD 0 0))).set (1) ((((Sj).set (0) (((Sj).getD (0) 0) + (T.getD 0 0))).getD (1) 0) + (T.getD 1 0))).getD (2) 0) + (T.getD 2 0))).set (3) ((((((Sj).set (0) (((Sj).getD (0) 0) + (T.getD 0 0))).set (1) ((((Sj).set (0) (((Sj).getD (0) 0) + (T.getD 0 0))).getD (1) 0) + (T.getD 1 0))).set (2) (((((Sj).set (0) (((Sj).getD (0) 0) + (T.getD 0 0))).set (1) ((((Sj).set (0) (((Sj).getD (0) 0) + (T.getD 0 0))).getD (1) 0) + (T.getD 1 0))).getD (2) 0) + (T.getD 2 0))).getD (3) 0) + (T.getD 3 0))).set (4) (((((((Sj).set (0) (((Sj).getD (0) 0) + (T.getD 0 0))).set (1) ((((Sj).set (0) (((Sj).getD (0) 0) + (T.getD 0 0))).getD (1) 0) + (T.getD 1 0))).set (2) (((((Sj).set (0) (((Sj).getD (0) 0) + (T.getD 0 0))).set (1) ((((Sj).set (0) (((Sj).getD (0) 0) + (T.getD 0 0))).getD (1) 0) + (T.getD 1 0))).getD (2) 0) + (T.getD 2 0))).set (3) ((((((Sj).set (0) (((Sj).getD (0) 0) + (T.getD 0 0))).set (1) ((((Sj).set (0) (((Sj).getD (0) 0) + (T.getD 0 0))).getD (1) 0) + (T.getD 1 0))).set (2) (((((Sj).set (0) (((Sj).getD (0) 0) + (T.getD 0 0))).set (1) ((((Sj).set (0) (((Sj).getD (0) 0) + (T.getD 0 0))).getD (1) 0) + (T.getD 1 0))).getD (2) 0) + (T.getD 2 0))).getD (3) 0) + (T.getD 3 0))).getD (4) 0) + (T.getD 4 0))).getD (5) 0) + (T.getD 5 0)) (show _ = (.pointer (some ⟨n12, 5, none⟩) : Value) from rfl) (show _ = (U ((((((((Sj).set (0) (((Sj).getD (0) 0) + (T.getD 0 0))).set (1) ((((Sj).set (0) (((Sj).getD (0) 0) + (T.getD 0 0))).getD (1) 0) + (T.getD 1 0))).set (2) (((((Sj).set (0) (((Sj).getD (0) 0) + (T.getD 0 0))).set (1) ((((Sj).set (0) (((Sj).getD (0) 0) + (T.getD 0 0))).getD (1) 0) + (T.getD 1 0))).getD (2) 0) + (T.getD 2 0))).set (3) ((((((Sj).set (0) (((Sj).getD (0) 0) + (T.getD 0 0))).set (1) ((((Sj).set (0) (((Sj).getD (0) 0) + (T.getD 0 0))).getD (1) 0) + (T.getD 1 0))).set (2) (((((Sj).set (0) (((Sj).getD (0) 0) + (T.getD 0 0))).set (1) ((((Sj).set (0) (((Sj).getD (0) 0) + (T.getD 0 0))).getD (1) 0) + (T.getD 1 0))).getD (2) 0) + (T.getD 2 0))).getD (3) 0) + (T.getD 3 0))).set (4) (((((((Sj).set (0) (((Sj).getD (0) 0) + (T.getD 0 0))).set (1) ((((Sj).set (0) (((Sj).getD (0) 0) + (T.getD 0 0))).getD (1) 0) + (T.getD 1 0))).set (2) (((((Sj).set (0) (((Sj).getD (0) 0) + (T.getD 0 0))).set (1) ((((Sj).set (0) (((Sj).getD (0) 0) + (T.getD 0 0))).getD (1) 0) + (T.getD 1 0))).getD (2) 0) + (T.getD 2 0))).set (3) ((((((Sj).set (0) (((Sj).getD (0) 0) + (T.getD 0 0))).set (1) ((((Sj).set (0) (((Sj).getD (0) 0) + (T.getD 0 0))).getD (1) 0) + (T.getD 1 0))).set (2) (((((Sj).set (0) (((Sj).getD (0) 0) + (T.getD 0 0))).set (1) ((((Sj).set (0) (((Sj).getD (0) 0) + (T.getD 0 0))).getD (1) 0) + (T.getD 1 0))).getD (2) 0) + (T.getD 2 0))).getD (3) 0) + (T.getD 3 0))).getD (4) 0) + (T.getD 4 0))).getD (5) 0) + (T.getD 5 0)) : Value) from rfl) hb22l (by rw [List.length_set, List.length_set, List.length_set, List.length_set, List.length_set, hSl]; omega) sha9_isz40 fun w176 hb177 hg178 hs179 => ?_)    -- ref.go:54 tNone := (Op.store 40 (Operand.tmp 225) (Operand.tmp 224))
        have hE : Ext w w176 := row_fresh hE hg178 (Nat.le_trans hz20 (by omega))
        have hb8 : w176.heap[n2]? = some (.cells (Lib.byteCells (List.replicate 32 0)).toArray 24 (0, 0)) := (hg178.block _ (Array.getElem?_eq_some_iff.1 hb8).1 (by simp; omega)).trans hb8
        have hA18 : Ext w3 w176 := row_fresh hA18 hg178 (Nat.le_trans (Nat.le_refl _) (by omega))
        have ho41 : w176.ownsRow w24.heap.size 5 1 v31 (P : List UInt8).length (Lib.byteCells (P)) := own_kept ho41 hg178 hap40
        have hb67l : w176.heap[n53]? = some (.cells (F.map fun x => U x).toArray 42 (0, 0)) := (hg178.block _ (Array.getElem?_eq_some_iff.1 hb67l).1 (by simp; omega)).trans hb67l
        clear hb22l
        have hb22l := hb177; clear hb177
        have hl180 : n12 < w176.heap.size := (Array.getElem?_eq_some_iff.1 hb22l).1
        refine opsF_end (fun ρ => ρ 0 = (v : Value) ∧ ρ 2 = (.pointer (some ⟨n2, 0, none⟩) : Value) ∧ ρ 3 = (.pointer (some ⟨n12, 0, none⟩) : Value) ∧ ρ 4 = (v31 : Value) ∧ ρ 5 = (.int .i64 ((64 * j : Nat) : Int) : Value) ∧ ρ 6 = (.pointer (some ⟨n53, 0, none⟩) : Value) ∧ ρ 7 = (.int .i64 ((t : Nat) : Int) : Value) ∧ ρ 10 = (U (T.getD 0 0) : Value) ∧ ρ 11 = (U (T.getD 1 0) : Value) ∧ ρ 12 = (U (T.getD 2 0) : Value) ∧ ρ 13 = (U (T.getD 3 0) : Value) ∧ ρ 14 = (U (T.getD 4 0) : Value) ∧ ρ 15 = (U (T.getD 5 0) : Value) ∧ ρ 16 = (U (T.getD 6 0) : Value) ∧ ρ 17 = (U (T.getD 7 0) : Value) ∧ ρ 18 = (.int .i64 ((r : Nat) : Int) : Value) ∧ True) ⟨T0, T2, T3, T4, T5, T6, T7, T10, T11, T12, T13, T14, T15, T16, T17, T18, trivial⟩ fun ρ181 ⟨T0, T2, T3, T4, T5, T6, T7, T10, T11, T12, T13, T14, T15, T16, T17, T18, _⟩ => ?_
        refine thenF_normal (hK175 _ _ ?_)
        refine wpF_seq_k fun K182 hK182 => ?_
        refine wpF_text ?_
        refine opsF_step rfl (YieldsK.atArr0 (i := 6) sha9_ty41 sha9_sz40 (show _ = (.pointer (some ⟨n12, 0, none⟩) : Value) from T3) (show _ = (.int .i64 ((6 : Nat) : Int) : Value) from rfl) (by omega) ?_)    -- ref.go:55 t226 := (Op.indexAddr 41 (Operand.tmp 3) (Operand.const (Value.int IntKind.i64 6)))
        refine opsF_step rfl (YieldsK.cell1 sha9_ty40 rfl (show _ = (.pointer (some ⟨n12, 6, none⟩) : Value) from rfl) (cellAt hb22l (word_at (i := 6) (by rw [List.length_set, List.length_set, List.length_set, List.length_set, List.length_set, List.length_set, hSl]; omega))) ?_)    -- ref.go:55 t227 := (Op.load 40 (Operand.tmp 226))
        refine opsF_step rfl (YieldsK.move (show _ = (U (T.getD 6 0) : Value) from T16) ?_)    -- ref.go:55 t228 := (Op.move (Operand.tmp 16))
        refine opsF_step rfl (YieldsK.bin (show _ = (U ((((((((Sj).set (0) (((Sj).getD (0) 0) + (T.getD 0 0))).set (1) ((((Sj).set (0) (((Sj).getD (0) 0) + (T.getD 0 0))).getD (1) 0) + (T.getD 1 0))).set (2) (((((Sj).set (0) (((Sj).getD (0) 0) + (T.getD 0 0))).set (1) ((((Sj).set (0) (((Sj).getD (0) 0) + (T.getD 0 0))).getD (1) 0) + (T.getD 1 0))).getD (2) 0) + (T.getD 2 0))).set (3) ((((((Sj).set (0) (((Sj).getD (0) 0) + (T.getD 0 0))).set (1) ((((Sj).set (0) (((Sj).getD (0) 0) + (T.getD 0 0))).getD (1) 0) + (T.getD 1 0))).set (2) (((((Sj).set (0) (((Sj).getD (0) 0) + (T.getD 0 0))).set (1) ((((Sj).set (0) (((Sj).getD (0) 0) + (T.getD 0 0))).getD (1) 0) + (T.getD 1 0))).getD (2) 0) + (T.getD 2 0))).getD (3) 0) + (T.getD 3 0))).set (4) (((((((Sj).set (0) (((Sj).getD (0) 0) + (T.getD 0 0))).set (1) ((((Sj).set (0) (((Sj).getD (0) 0) + (T.getD 0 0))).getD (1) 0) + (T.getD 1 0))).set (2) (((((Sj).set (0) (((Sj).getD (0) 0) + (T.getD 0 0))).set (1) ((((Sj).set (0) (((Sj).getD (0) 0) + (T.getD 0 0))).getD (1) 0) + (T.getD 1 0))).getD (2) 0) + (T.getD 2 0))).set (3) ((((((Sj).set (0) (((Sj).getD (0) 0) + (T.getD 0 0))).set (1) ((((Sj).set (0) (((Sj).getD (0) 0) + (T.getD 0 0))).getD (1) 0) + (T.getD 1 0))).set (2) (((((Sj).set (0) (((Sj).getD (0) 0) + (T.getD 0 0))).set (1) ((((Sj).set (0) (((Sj).getD (0) 0) + (T.getD 0 0))).getD (1) 0) + (T.getD 1 0))).getD (2) 0) + (T.getD 2 0))).getD (3) 0) + (T.getD 3 0))).getD (4) 0) + (T.getD 4 0))).set (5) ((((((((Sj).set (0) (((Sj).getD (0) 0) + (T.getD 0 0))).set (1) ((((Sj).set (0) (((Sj).getD (0) 0) + (T.getD 0 0))).getD (1) 0) + (T.getD 1 0))).set (2) (((((Sj).set (0) (((Sj).getD (0) 0) + (T.getD 0 0))).set (1) ((((Sj).set (0) (((Sj).getD (0) 0) + (T.getD 0 0))).getD (1) 0) + (T.getD 1 0))).getD (2) 0) + (T.getD 2 0))).set (3) ((((((Sj).set (0) (((Sj).getD (0) 0) + (T.getD 0 0))).set (1) ((((Sj).set (0) (((Sj).getD (0) 0) + (T.getD 0 0))).getD (1) 0) + (T.getD 1 0))).set (2) (((((Sj).set (0) (((Sj).getD (0) 0) + (T.getD 0 0))).set (1) ((((Sj).set (0) (((Sj).getD (0) 0) + (T.getD 0 0))).getD (1) 0) + (T.getD 1 0))).getD (2) 0) + (T.getD 2 0))).getD (3) 0) + (T.getD 3 0))).set (4) (((((((Sj).set (0) (((Sj).getD (0) 0) + (T.getD 0 0))).set (1) ((((Sj).set (0) (((Sj).getD (0) 0) + (T.getD 0 0))).getD (1) 0) + (T.getD 1 0))).set (2) (((((Sj).set (0) (((Sj).getD (0) 0) + (T.getD 0 0))).set (1) ((((Sj).set (0) (((Sj).getD (0) 0) + (T.getD 0 0))).getD (1) 0) + (T.getD 1 0))).getD (2) 0) + (T.getD 2 0))).set (3) ((((((Sj).set (0) (((Sj).getD (0) 0) + (T.getD 0 0))).set (1) ((((Sj).set (0) (((Sj).getD (0) 0) + (T.getD 0 0))).getD (1) 0) + (T.getD 1 0))).set (2) (((((Sj).set (0) (((Sj).getD (0) 0) + (T.getD 0 0))).set (1) ((((Sj).set (0) (((Sj).getD (0) 0) + (T.getD 0 0))).getD (1) 0) + (T.getD 1 0))).getD (2) 0) + (T.getD 2 0))).getD (3) 0) + (T.getD 3 0))).getD (4) 0) + (T.getD 4 0))).getD (5) 0) + (T.getD 5 0))).getD (6) 0) : Value) from rfl) (show _ = (U (T.getD 6 0) : Value) from rfl) rfl (u_add _ _ _) ?_)    -- ref.go:55 t229 := (Op.binOp BinOp.add 40 (Operand.tmp 227) (Operand.tmp 228) 40)
        refine opsF_step rfl (YieldsK.atArr0 (i := 6) sha9_ty41 sha9_sz40 (show _ = (.pointer (some ⟨n12, 0, none⟩) : Value) from T3) (show _ = (.int .i64 ((6 : Nat) : Int) : Value) from rfl) (by omega) ?_)    -- ref.go:55 t230 := (Op.indexAddr 41 (Operand.tmp 3) (Operand.const (Value.int IntKind.i64 6)))
        refine opsF_step rfl (YieldsK.storeU32 (i := 6) (v := ((((((((Sj).set (0) (((Sj).getD (0) 0) + (T.getD 0 0))).set (1) ((((Sj).set (0) (((Sj).getD (0) 0) + (T.getD 0 0))).getD (1) 0) + (T.getD 1 0))).set (2) (((((Sj).set (0) (((Sj).getD (0) 0) + (T.getD 0 0))).set (1) ((((Sj).set (0) (((Sj).getD (0) 0) + (T.getD 0 0))).getD (1) 0) + (T.getD 1 0))).getD (2) 0) + (T.getD 2 0))).set (3) ((((((Sj).set (0) (((Sj).getD (0) 0) + (T.getD 0 0))).set (1) ((((Sj).set (0) (((Sj).getD (0) 0) + (T.getD 0 0))).getD (1) 0) + (T.getD 1 0))).set (2) (((((Sj).set (0) (((Sj).getD (0) 0) + (T.getD 0 0))).set (1) ((((Sj).set (0) (((Sj).getD (0) 0) + (T.getD 0 0))).getD (1) 0) + (T.getD 1 0))).getD (2) 0) + (T.getD 2 0))).getD (3) 0) + (T.getD 3 0))).set (4) (((((((Sj).set (0) (((Sj).getD (0) 0) + (T.getD 0 0))).set (1) ((((Sj).set (0) (((Sj).getD (0) 0) + (T.getD 0 0))).getD (1) 0) + (T.getD 1 0))).set (2) (((((Sj).set (0) (((Sj).getD (0) 0) + (T.getD 0 0))).set (1) ((((Sj).set (0) (((Sj).getD (0) 0) + (T.getD 0 0))).getD (1) 0) + (T.getD 1 0))).getD (2) 0) + (T.getD 2 0))).set (3) ((((((Sj).set (0) (((Sj).getD (0) 0) + (T.getD 0 0))).set (1) ((((Sj).set (0) (((Sj).getD (0) 0) + (T.getD 0 0))).getD (1) 0) + (T.getD 1 0))).set (2) (((((Sj).set (0) (((Sj).getD (0) 0) + (T.getD 0 0))).set (1) ((((Sj).set (0) (((Sj).getD (0) 0) + (T.getD 0 0))).getD (1) 0) + (T.getD 1 0))).getD (2) 0) + (T.getD 2 0))).getD (3) 0) + (T.getD 3 0))).getD (4) 0) + (T.getD 4 0))).set (5) ((((((((Sj).set (0) (((Sj).getD (0) 0) + (T.getD 0 0))).set (1) ((((Sj).set (0) (((Sj).getD (0) 0) + (T.getD 0 0))).getD (1) 0) + (T.getD 1 0))).set (2) (((((Sj).set (0) (((Sj).getD (0) 0) + (T.getD 0 0))).set (1) ((((Sj).set (0) (((Sj).getD (0) 0) + (T.getD 0 0))).getD (1) 0) + (T.getD 1 0))).getD (2) 0) + (T.getD 2 0))).set (3) ((((((Sj).set (0) (((Sj).getD (0) 0) + (T.getD 0 0))).set (1) ((((Sj).set (0) (((Sj).getD (0) 0) + (T.getD 0 0))).getD (1) 0) + (T.getD 1 0))).set (2) (((((Sj).set (0) (((Sj).getD (0) 0) + (T.getD 0 0))).set (1) ((((Sj).set (0) (((Sj).getD (0) 0) + (T.getD 0 0))).getD (1) 0) + (T.getD 1 0))).getD (2) 0) + (T.getD 2 0))).getD (3) 0) + (T.getD 3 0))).set (4) (((((((Sj).set (0) (((Sj).getD (0) 0) + (T.getD 0 0))).set (1) ((((Sj).set (0) (((Sj).getD (0) 0) + (T.getD 0 0))).getD (1) 0) + (T.getD 1 0))).set (2) (((((Sj).set (0) (((Sj).getD (0) 0) + (T.getD 0 0))).set (1) ((((Sj).set (0) (((Sj).getD (0) 0) + (T.getD 0 0))).getD (1) 0) + (T.getD 1 0))).getD (2) 0) + (T.getD 2 0))).set (3) ((((((Sj).set (0) (((Sj).getD (0) 0) + (T.getD 0 0))).set (1) ((((Sj).set (0) (((Sj).getD (0) 0) + (T.getD 0 0))).getD (1) 0) + (T.getD 1 0))).set (2) (((((Sj).set (0) (((Sj).getD (0) 0) + (T.getD 0 0))).set (1) ((((Sj).set (0) (((Sj).getD (0) 0) + (T.getD 0 0))).getD (1) 0) + (T.getD 1 0))).getD (2) 0) + (T.getD 2 0))).getD (3) 0) + (T.getD 3 0))).getD (4) 0) + (T.getD 4 0))).getD (5) 0) + (T.getD 5 0))).getD (6) 0) + (T.getD 6 0)) (show _ = (.pointer (some ⟨n12, 6, none⟩) : Value) from rfl) (show _ = (U (((((((((Sj).set (0) (((Sj).getD (0) 0) + (T.getD 0 0))).set (1) ((((Sj).set (0) (((Sj).getD (0) 0) + (T.getD 0 0))).getD (1) 0) + (T.getD 1 0))).set (2) (((((Sj).set (0) (((Sj).getD (0) 0) + (T.getD 0 0))).set (1) ((((Sj).set (0) (((Sj).getD (0) 0) + (T.getD 0 0))).getD (1) 0) + (T.getD 1 0))).getD (2) 0) + (T.getD 2 0))).set (3) ((((((Sj).set (0) (((Sj).getD (0) 0) + (T.getD 0 0))).set (1) ((((Sj).set (0) (((Sj).getD (0) 0) + (T.getD 0 0))).getD (1) 0) + (T.getD 1 0))).set (2) (((((Sj).set (0) (((Sj).getD (0) 0) + (T.getD 0 0))).set (1) ((((Sj).set (0) (((Sj).getD (0) 0) + (T.getD 0 0))).getD (1) 0) + (T.getD 1 0))).getD (2) 0) + (T.getD 2 0))).getD (3) 0) + (T.getD 3 0))).set (4) (((((((Sj).set (0) (((Sj).getD (0) 0) + (T.getD 0 0))).set (1) ((((Sj).set (0) (((Sj).getD (0) 0) + (T.getD 0 0))).getD (1) 0) + (T.getD 1 0))).set (2) (((((Sj).set (0) (((Sj).getD (0) 0) + (T.getD 0 0))).set (1) ((((Sj).set (0) (((Sj).getD (0) 0) + (T.getD 0 0))).getD (1) 0) + (T.getD 1 0))).getD (2) 0) + (T.getD 2 0))).set (3) ((((((Sj).set (0) (((Sj).getD (0) 0) + (T.getD 0 0))).set (1) ((((Sj).set (0) (((Sj).getD (0) 0) + (T.getD 0 0))).getD (1) 0) + (T.getD 1 0))).set (2) (((((Sj).set (0) (((Sj).getD (0) 0) + (T.getD 0 0))).set (1) ((((Sj).set (0) (((Sj).getD (0) 0) + (T.getD 0 0))).getD (1) 0) + (T.getD 1 0))).getD (2) 0) + (T.getD 2 0))).getD (3) 0) + (T.getD 3 0))).getD (4) 0) + (T.getD 4 0))).set (5) ((((((((Sj).set (0) (((Sj).getD (0) 0) + (T.getD 0 0))).set (1) ((((Sj).set (0) (((Sj).getD (0) 0) + (T.getD 0 0))).getD (1) 0) + (T.getD 1 0))).set (2) (((((Sj).set (0) (((Sj).getD (0) 0) + (T.getD 0 0))).set (1) ((((Sj).set (0) (((Sj).getD (0) 0) + (T.getD 0 0))).getD (1) 0) + (T.getD 1 0))).getD (2) 0) + (T.getD 2 0))).set (3) ((((((Sj).set (0) (((Sj).getD (0) 0) + (T.getD 0 0))).set (1) ((((Sj).set (0) (((Sj).getD (0) 0) + (T.getD 0 0))).getD (1) 0) + (T.getD 1 0))).set (2) (((((Sj).set (0) (((Sj).getD (0) 0) + (T.getD 0 0))).set (1) ((((Sj).set (0) (((Sj).getD (0) 0) + (T.getD 0 0))).getD (1) 0) + (T.getD 1 0))).getD (2) 0) + (T.getD 2 0))).getD (3) 0) + (T.getD 3 0))).set (4) (((((((Sj).set (0) (((Sj).getD (0) 0) + (T.getD 0 0))).set (1) ((((Sj).set (0) (((Sj).getD (0) 0) + (T.getD 0 0))).getD (1) 0) + (T.getD 1 0))).set (2) (((((Sj).set (0) (((Sj).getD (0) 0) + (T.getD 0 0))).set (1) ((((Sj).set (0) (((Sj).getD (0) 0) + (T.getD 0 0))).getD (1) 0) + (T.getD 1 0))).getD (2) 0) + (T.getD 2 0))).set (3) ((((((Sj).set (0) (((Sj).getD (0) 0) + (T.getD 0 0))).set (1) ((((Sj).set (0) (((Sj).getD (0) 0) + (T.getD 0 0))).getD (1) 0) + (T.getD 1 0))).set (2) (((((Sj).set (0) (((Sj).getD (0) 0) + (T.getD 0 0))).set (1) ((((Sj).set (0) (((Sj).getD (0) 0) + (T.getD 0 0))).getD (1) 0) + (T.getD 1 0))).getD (2) 0) + (T.getD 2 0))).getD (3) 0) + (T.getD 3 0))).getD (4) 0) + (T.getD 4 0))).getD (5) 0) + (T.getD 5 0))).getD (6) 0) + (T.getD 6 0)) : Value) from rfl) hb22l (by rw [List.length_set, List.length_set, List.length_set, List.length_set, List.length_set, List.length_set, hSl]; omega) sha9_isz40 fun w183 hb184 hg185 hs186 => ?_)    -- ref.go:55 tNone := (Op.store 40 (Operand.tmp 230) (Operand.tmp 229))
        have hE : Ext w w183 := row_fresh hE hg185 (Nat.le_trans hz20 (by omega))
        have hb8 : w183.heap[n2]? = some (.cells (Lib.byteCells (List.replicate 32 0)).toArray 24 (0, 0)) := (hg185.block _ (Array.getElem?_eq_some_iff.1 hb8).1 (by simp; omega)).trans hb8
        have hA18 : Ext w3 w183 := row_fresh hA18 hg185 (Nat.le_trans (Nat.le_refl _) (by omega))
        have ho41 : w183.ownsRow w24.heap.size 5 1 v31 (P : List UInt8).length (Lib.byteCells (P)) := own_kept ho41 hg185 hap40
        have hb67l : w183.heap[n53]? = some (.cells (F.map fun x => U x).toArray 42 (0, 0)) := (hg185.block _ (Array.getElem?_eq_some_iff.1 hb67l).1 (by simp; omega)).trans hb67l
        clear hb22l
        have hb22l := hb184; clear hb184
        have hl187 : n12 < w183.heap.size := (Array.getElem?_eq_some_iff.1 hb22l).1
        refine opsF_end (fun ρ => ρ 0 = (v : Value) ∧ ρ 2 = (.pointer (some ⟨n2, 0, none⟩) : Value) ∧ ρ 3 = (.pointer (some ⟨n12, 0, none⟩) : Value) ∧ ρ 4 = (v31 : Value) ∧ ρ 5 = (.int .i64 ((64 * j : Nat) : Int) : Value) ∧ ρ 6 = (.pointer (some ⟨n53, 0, none⟩) : Value) ∧ ρ 7 = (.int .i64 ((t : Nat) : Int) : Value) ∧ ρ 10 = (U (T.getD 0 0) : Value) ∧ ρ 11 = (U (T.getD 1 0) : Value) ∧ ρ 12 = (U (T.getD 2 0) : Value) ∧ ρ 13 = (U (T.getD 3 0) : Value) ∧ ρ 14 = (U (T.getD 4 0) : Value) ∧ ρ 15 = (U (T.getD 5 0) : Value) ∧ ρ 16 = (U (T.getD 6 0) : Value) ∧ ρ 17 = (U (T.getD 7 0) : Value) ∧ ρ 18 = (.int .i64 ((r : Nat) : Int) : Value) ∧ True) ⟨T0, T2, T3, T4, T5, T6, T7, T10, T11, T12, T13, T14, T15, T16, T17, T18, trivial⟩ fun ρ188 ⟨T0, T2, T3, T4, T5, T6, T7, T10, T11, T12, T13, T14, T15, T16, T17, T18, _⟩ => ?_
        refine thenF_normal (hK182 _ _ ?_)
        refine wpF_text ?_
        refine opsF_step rfl (YieldsK.atArr0 (i := 7) sha9_ty41 sha9_sz40 (show _ = (.pointer (some ⟨n12, 0, none⟩) : Value) from T3) (show _ = (.int .i64 ((7 : Nat) : Int) : Value) from rfl) (by omega) ?_)    -- ref.go:56 t231 := (Op.indexAddr 41 (Operand.tmp 3) (Operand.const (Value.int IntKind.i64 7)))
        refine opsF_step rfl (YieldsK.cell1 sha9_ty40 rfl (show _ = (.pointer (some ⟨n12, 7, none⟩) : Value) from rfl) (cellAt hb22l (word_at (i := 7) (by rw [List.length_set, List.length_set, List.length_set, List.length_set, List.length_set, List.length_set, List.length_set, hSl]; omega))) ?_)    -- ref.go:56 t232 := (Op.load 40 (Operand.tmp 231))
        refine opsF_step rfl (YieldsK.move (show _ = (U (T.getD 7 0) : Value) from T17) ?_)    -- ref.go:56 t233 := (Op.move (Operand.tmp 17))
        refine opsF_step rfl (YieldsK.bin (show _ = (U (((((((((Sj).set (0) (((Sj).getD (0) 0) + (T.getD 0 0))).set (1) ((((Sj).set (0) (((Sj).getD (0) 0) + (T.getD 0 0))).getD (1) 0) + (T.getD 1 0))).set (2) (((((Sj).set (0) (((Sj).getD (0) 0) + (T.getD 0 0))).set (1) ((((Sj).set (0) (((Sj).getD (0) 0) + (T.getD 0 0))).getD (1) 0) + (T.getD 1 0))).getD (2) 0) + (T.getD 2 0))).set (3) ((((((Sj).set (0) (((Sj).getD (0) 0) + (T.getD 0 0))).set (1) ((((Sj).set (0) (((Sj).getD (0) 0) + (T.getD 0 0))).getD (1) 0) + (T.getD 1 0))).set (2) (((((Sj).set (0) (((Sj).getD (0) 0) + (T.getD 0 0))).set (1) ((((Sj).set (0) (((Sj).getD (0) 0) + (T.getD 0 0))).getD (1) 0) + (T.getD 1 0))).getD (2) 0) + (T.getD 2 0))).getD (3) 0) + (T.getD 3 0))).set (4) (((((((Sj).set (0) (((Sj).getD (0) 0) + (T.getD 0 0))).set (1) ((((Sj).set (0) (((Sj).getD (0) 0) + (T.getD 0 0))).getD (1) 0) + (T.getD 1 0))).set (2) (((((Sj).set (0) (((Sj).getD (0) 0) + (T.getD 0 0))).set (1) ((((Sj).set (0) (((Sj).getD (0) 0) + (T.getD 0 0))).getD (1) 0) + (T.getD 1 0))).getD (2) 0) + (T.getD 2 0))).set (3) ((((((Sj).set (0) (((Sj).getD (0) 0) + (T.getD 0 0))).set (1) ((((Sj).set (0) (((Sj).getD (0) 0) + (T.getD 0 0))).getD (1) 0) + (T.getD 1 0))).set (2) (((((Sj).set (0) (((Sj).getD (0) 0) + (T.getD 0 0))).set (1) ((((Sj).set (0) (((Sj).getD (0) 0) + (T.getD 0 0))).getD (1) 0) + (T.getD 1 0))).getD (2) 0) + (T.getD 2 0))).getD (3) 0) + (T.getD 3 0))).getD (4) 0) + (T.getD 4 0))).set (5) ((((((((Sj).set (0) (((Sj).getD (0) 0) + (T.getD 0 0))).set (1) ((((Sj).set (0) (((Sj).getD (0) 0) + (T.getD 0 0))).getD (1) 0) + (T.getD 1 0))).set (2) (((((Sj).set (0) (((Sj).getD (0) 0) + (T.getD 0 0))).set (1) ((((Sj).set (0) (((Sj).getD (0) 0) + (T.getD 0 0))).getD (1) 0) + (T.getD 1 0))).getD (2) 0) + (T.getD 2 0))).set (3) ((((((Sj).set (0) (((Sj).getD (0) 0) + (T.getD 0 0))).set (1) ((((Sj).set (0) (((Sj).getD (0) 0) + (T.getD 0 0))).getD (1) 0) + (T.getD 1 0))).set (2) (((((Sj).set (0) (((Sj).getD (0) 0) + (T.getD 0 0))).set (1) ((((Sj).set (0) (((Sj).getD (0) 0) + (T.getD 0 0))).getD (1) 0) + (T.getD 1 0))).getD (2) 0) + (T.getD 2 0))).getD (3) 0) + (T.getD 3 0))).set (4) (((((((Sj).set (0) (((Sj).getD (0) 0) + (T.getD 0 0))).set (1) ((((Sj).set (0) (((Sj).getD (0) 0) + (T.getD 0 0))).getD (1) 0) + (T.getD 1 0))).set (2) (((((Sj).set (0) (((Sj).getD (0) 0) + (T.getD 0 0))).set (1) ((((Sj).set (0) (((Sj).getD (0) 0) + (T.getD 0 0))).getD (1) 0) + (T.getD 1 0))).getD (2) 0) + (T.getD 2 0))).set (3) ((((((Sj).set (0) (((Sj).getD (0) 0) + (T.getD 0 0))).set (1) ((((Sj).set (0) (((Sj).getD (0) 0) + (T.getD 0 0))).getD (1) 0) + (T.getD 1 0))).set (2) (((((Sj).set (0) (((Sj).getD (0) 0) + (T.getD 0 0))).set (1) ((((Sj).set (0) (((Sj).getD (0) 0) + (T.getD 0 0))).getD (1) 0) + (T.getD 1 0))).getD (2) 0) + (T.getD 2 0))).getD (3) 0) + (T.getD 3 0))).getD (4) 0) + (T.getD 4 0))).getD (5) 0) + (T.getD 5 0))).set (6) (((((((((Sj).set (0) (((Sj).getD (0) 0) + (T.getD 0 0))).set (1) ((((Sj).set (0) (((Sj).getD (0) 0) + (T.getD 0 0))).getD (1) 0) + (T.getD 1 0))).set (2) (((((Sj).set (0) (((Sj).getD (0) 0) + (T.getD 0 0))).set (1) ((((Sj).set (0) (((Sj).getD (0) 0) + (T.getD 0 0))).getD (1) 0) + (T.getD 1 0))).getD (2) 0) + (T.getD 2 0))).set (3) ((((((Sj).set (0) (((Sj).getD (0) 0) + (T.getD 0 0))).set (1) ((((Sj).set (0) (((Sj).getD (0) 0) + (T.getD 0 0))).getD (1) 0) + (T.getD 1 0))).set (2) (((((Sj).set (0) (((Sj).getD (0) 0) + (T.getD 0 0))).set (1) ((((Sj).set (0) (((Sj).getD (0) 0) + (T.getD 0 0))).getD (1) 0) + (T.getD 1 0))).getD (2) 0) + (T.getD 2 0))).getD (3) 0) + (T.getD 3 0))).set (4) (((((((Sj).set (0) (((Sj).getD (0) 0) + (T.getD 0 0))).set (1) ((((Sj).set (0) (((Sj).getD (0) 0) + (T.getD 0 0))).getD (1) 0) + (T.getD 1 0))).set (2) (((((Sj).set (0) (((Sj).getD (0) 0) + (T.getD 0 0))).set (1) ((((Sj).set (0) (((Sj).getD (0) 0) + (T.getD 0 0))).getD (1) 0) + (T.getD 1 0))).getD (2) 0) + (T.getD 2 0))).set (3) ((((((Sj).set (0) (((Sj).getD (0) 0) + (T.getD 0 0))).set (1) ((((Sj).set (0) (((Sj).getD (0) 0) + (T.getD 0 0))).getD (1) 0) + (T.getD 1 0))).set (2) (((((Sj).set (0) (((Sj).getD (0) 0) + (T.getD 0 0))).set (1) ((((Sj).set (0) (((Sj).getD (0) 0) + (T.getD 0 0))).getD (1) 0) + (T.getD 1 0))).getD (2) 0) + (T.getD 2 0))).getD (3) 0) + (T.getD 3 0))).getD (4) 0) + (T.getD 4 0))).set (5) ((((((((Sj).set (0) (((Sj).getD (0) 0) + (T.getD 0 0))).set (1) ((((Sj).set (0) (((Sj).getD (0) 0) + (T.getD 0 0))).getD (1) 0) + (T.getD 1 0))).set (2) (((((Sj).set (0) (((Sj).getD (0) 0) + (T.getD 0 0))).set (1) ((((Sj).set (0) (((Sj).getD (0) 0) + (T.getD 0 0))).getD (1) 0) + (T.getD 1 0))).getD (2) 0) + (T.getD 2 0))).set (3) ((((((Sj).set (0) (((Sj).getD (0) 0) + (T.getD 0 0))).set (1) ((((Sj).set (0) (((Sj).getD (0) 0) + (T.getD 0 0))).getD (1) 0) + (T.getD 1 0))).set (2) (((((Sj).set (0) (((Sj).getD (0) 0) + (T.getD 0 0))).set (1) ((((Sj).set (0) (((Sj).getD (0) 0) + (T.getD 0 0))).getD (1) 0) + (T.getD 1 0))).getD (2) 0) + (T.getD 2 0))).getD (3) 0) + (T.getD 3 0))).set (4) (((((((Sj).set (0) (((Sj).getD (0) 0) + (T.getD 0 0))).set (1) ((((Sj).set (0) (((Sj).getD (0) 0) + (T.getD 0 0))).getD (1) 0) + (T.getD 1 0))).set (2) (((((Sj).set (0) (((Sj).getD (0) 0) + (T.getD 0 0))).set (1) ((((Sj).set (0) (((Sj).getD (0) 0) + (T.getD 0 0))).getD (1) 0) + (T.getD 1 0))).getD (2) 0) + (T.getD 2 0))).set (3) ((((((Sj).set (0) (((Sj).getD (0) 0) + (T.getD 0 0))).set (1) ((((Sj).set (0) (((Sj).getD (0) 0) + (T.getD 0 0))).getD (1) 0) + (T.getD 1 0))).set (2) (((((Sj).set (0) (((Sj).getD (0) 0) + (T.getD 0 0))).set (1) ((((Sj).set (0) (((Sj).getD (0) 0) + (T.getD 0 0))).getD (1) 0) + (T.getD 1 0))).getD (2) 0) + (T.getD 2 0))).getD (3) 0) + (T.getD 3 0))).getD (4) 0) + (T.getD 4 0))).getD (5) 0) + (T.getD 5 0))).getD (6) 0) + (T.getD 6 0))).getD (7) 0) : Value) from rfl) (show _ = (U (T.getD 7 0) : Value) from rfl) rfl (u_add _ _ _) ?_)    -- ref.go:56 t234 := (Op.binOp BinOp.add 40 (Operand.tmp 232) (Operand.tmp 233) 40)
        refine opsF_step rfl (YieldsK.atArr0 (i := 7) sha9_ty41 sha9_sz40 (show _ = (.pointer (some ⟨n12, 0, none⟩) : Value) from T3) (show _ = (.int .i64 ((7 : Nat) : Int) : Value) from rfl) (by omega) ?_)    -- ref.go:56 t235 := (Op.indexAddr 41 (Operand.tmp 3) (Operand.const (Value.int IntKind.i64 7)))
        refine opsF_step rfl (YieldsK.storeU32 (i := 7) (v := (((((((((Sj).set (0) (((Sj).getD (0) 0) + (T.getD 0 0))).set (1) ((((Sj).set (0) (((Sj).getD (0) 0) + (T.getD 0 0))).getD (1) 0) + (T.getD 1 0))).set (2) (((((Sj).set (0) (((Sj).getD (0) 0) + (T.getD 0 0))).set (1) ((((Sj).set (0) (((Sj).getD (0) 0) + (T.getD 0 0))).getD (1) 0) + (T.getD 1 0))).getD (2) 0) + (T.getD 2 0))).set (3) ((((((Sj).set (0) (((Sj).getD (0) 0) + (T.getD 0 0))).set (1) ((((Sj).set (0) (((Sj).getD (0) 0) + (T.getD 0 0))).getD (1) 0) + (T.getD 1 0))).set (2) (((((Sj).set (0) (((Sj).getD (0) 0) + (T.getD 0 0))).set (1) ((((Sj).set (0) (((Sj).getD (0) 0) + (T.getD 0 0))).getD (1) 0) + (T.getD 1 0))).getD (2) 0) + (T.getD 2 0))).getD (3) 0) + (T.getD 3 0))).set (4) (((((((Sj).set (0) (((Sj).getD (0) 0) + (T.getD 0 0))).set (1) ((((Sj).set (0) (((Sj).getD (0) 0) + (T.getD 0 0))).getD (1) 0) + (T.getD 1 0))).set (2) (((((Sj).set (0) (((Sj).getD (0) 0) + (T.getD 0 0))).set (1) ((((Sj).set (0) (((Sj).getD (0) 0) + (T.getD 0 0))).getD (1) 0) + (T.getD 1 0))).getD (2) 0) + (T.getD 2 0))).set (3) ((((((Sj).set (0) (((Sj).getD (0) 0) + (T.getD 0 0))).set (1) ((((Sj).set (0) (((Sj).getD (0) 0) + (T.getD 0 0))).getD (1) 0) + (T.getD 1 0))).set (2) (((((Sj).set (0) (((Sj).getD (0) 0) + (T.getD 0 0))).set (1) ((((Sj).set (0) (((Sj).getD (0) 0) + (T.getD 0 0))).getD (1) 0) + (T.getD 1 0))).getD (2) 0) + (T.getD 2 0))).getD (3) 0) + (T.getD 3 0))).getD (4) 0) + (T.getD 4 0))).set (5) ((((((((Sj).set (0) (((Sj).getD (0) 0) + (T.getD 0 0))).set (1) ((((Sj).set (0) (((Sj).getD (0) 0) + (T.getD 0 0))).getD (1) 0) + (T.getD 1 0))).set (2) (((((Sj).set (0) (((Sj).getD (0) 0) + (T.getD 0 0))).set (1) ((((Sj).set (0) (((Sj).getD (0) 0) + (T.getD 0 0))).getD (1) 0) + (T.getD 1 0))).getD (2) 0) + (T.getD 2 0))).set (3) ((((((Sj).set (0) (((Sj).getD (0) 0) + (T.getD 0 0))).set (1) ((((Sj).set (0) (((Sj).getD (0) 0) + (T.getD 0 0))).getD (1) 0) + (T.getD 1 0))).set (2) (((((Sj).set (0) (((Sj).getD (0) 0) + (T.getD 0 0))).set (1) ((((Sj).set (0) (((Sj).getD (0) 0) + (T.getD 0 0))).getD (1) 0) + (T.getD 1 0))).getD (2) 0) + (T.getD 2 0))).getD (3) 0) + (T.getD 3 0))).set (4) (((((((Sj).set (0) (((Sj).getD (0) 0) + (T.getD 0 0))).set (1) ((((Sj).set (0) (((Sj).getD (0) 0) + (T.getD 0 0))).getD (1) 0) + (T.getD 1 0))).set (2) (((((Sj).set (0) (((Sj).getD (0) 0) + (T.getD 0 0))).set (1) ((((Sj).set (0) (((Sj).getD (0) 0) + (T.getD 0 0))).getD (1) 0) + (T.getD 1 0))).getD (2) 0) + (T.getD 2 0))).set (3) ((((((Sj).set (0) (((Sj).getD (0) 0) + (T.getD 0 0))).set (1) ((((Sj).set (0) (((Sj).getD (0) 0) + (T.getD 0 0))).getD (1) 0) + (T.getD 1 0))).set (2) (((((Sj).set (0) (((Sj).getD (0) 0) + (T.getD 0 0))).set (1) ((((Sj).set (0) (((Sj).getD (0) 0) + (T.getD 0 0))).getD (1) 0) + (T.getD 1 0))).getD (2) 0) + (T.getD 2 0))).getD (3) 0) + (T.getD 3 0))).getD (4) 0) + (T.getD 4 0))).getD (5) 0) + (T.getD 5 0))).set (6) (((((((((Sj).set (0) (((Sj).getD (0) 0) + (T.getD 0 0))).set (1) ((((Sj).set (0) (((Sj).getD (0) 0) + (T.getD 0 0))).getD (1) 0) + (T.getD 1 0))).set (2) (((((Sj).set (0) (((Sj).getD (0) 0) + (T.getD 0 0))).set (1) ((((Sj).set (0) (((Sj).getD (0) 0) + (T.getD 0 0))).getD (1) 0) + (T.getD 1 0))).getD (2) 0) + (T.getD 2 0))).set (3) ((((((Sj).set (0) (((Sj).getD (0) 0) + (T.getD 0 0))).set (1) ((((Sj).set (0) (((Sj).getD (0) 0) + (T.getD 0 0))).getD (1) 0) + (T.getD 1 0))).set (2) (((((Sj).set (0) (((Sj).getD (0) 0) + (T.getD 0 0))).set (1) ((((Sj).set (0) (((Sj).getD (0) 0) + (T.getD 0 0))).getD (1) 0) + (T.getD 1 0))).getD (2) 0) + (T.getD 2 0))).getD (3) 0) + (T.getD 3 0))).set (4) (((((((Sj).set (0) (((Sj).getD (0) 0) + (T.getD 0 0))).set (1) ((((Sj).set (0) (((Sj).getD (0) 0) + (T.getD 0 0))).getD (1) 0) + (T.getD 1 0))).set (2) (((((Sj).set (0) (((Sj).getD (0) 0) + (T.getD 0 0))).set (1) ((((Sj).set (0) (((Sj).getD (0) 0) + (T.getD 0 0))).getD (1) 0) + (T.getD 1 0))).getD (2) 0) + (T.getD 2 0))).set (3) ((((((Sj).set (0) (((Sj).getD (0) 0) + (T.getD 0 0))).set (1) ((((Sj).set (0) (((Sj).getD (0) 0) + (T.getD 0 0))).getD (1) 0) + (T.getD 1 0))).set (2) (((((Sj).set (0) (((Sj).getD (0) 0) + (T.getD 0 0))).set (1) ((((Sj).set (0) (((Sj).getD (0) 0) + (T.getD 0 0))).getD (1) 0) + (T.getD 1 0))).getD (2) 0) + (T.getD 2 0))).getD (3) 0) + (T.getD 3 0))).getD (4) 0) + (T.getD 4 0))).set (5) ((((((((Sj).set (0) (((Sj).getD (0) 0) + (T.getD 0 0))).set (1) ((((Sj).set (0) (((Sj).getD (0) 0) + (T.getD 0 0))).getD (1) 0) + (T.getD 1 0))).set (2) (((((Sj).set (0) (((Sj).getD (0) 0) + (T.getD 0 0))).set (1) ((((Sj).set (0) (((Sj).getD (0) 0) + (T.getD 0 0))).getD (1) 0) + (T.getD 1 0))).getD (2) 0) + (T.getD 2 0))).set (3) ((((((Sj).set (0) (((Sj).getD (0) 0) + (T.getD 0 0))).set (1) ((((Sj).set (0) (((Sj).getD (0) 0) + (T.getD 0 0))).getD (1) 0) + (T.getD 1 0))).set (2) (((((Sj).set (0) (((Sj).getD (0) 0) + (T.getD 0 0))).set (1) ((((Sj).set (0) (((Sj).getD (0) 0) + (T.getD 0 0))).getD (1) 0) + (T.getD 1 0))).getD (2) 0) + (T.getD 2 0))).getD (3) 0) + (T.getD 3 0))).set (4) (((((((Sj).set (0) (((Sj).getD (0) 0) + (T.getD 0 0))).set (1) ((((Sj).set (0) (((Sj).getD (0) 0) + (T.getD 0 0))).getD (1) 0) + (T.getD 1 0))).set (2) (((((Sj).set (0) (((Sj).getD (0) 0) + (T.getD 0 0))).set (1) ((((Sj).set (0) (((Sj).getD (0) 0) + (T.getD 0 0))).getD (1) 0) + (T.getD 1 0))).getD (2) 0) + (T.getD 2 0))).set (3) ((((((Sj).set (0) (((Sj).getD (0) 0) + (T.getD 0 0))).set (1) ((((Sj).set (0) (((Sj).getD (0) 0) + (T.getD 0 0))).getD (1) 0) + (T.getD 1 0))).set (2) (((((Sj).set (0) (((Sj).getD (0) 0) + (T.getD 0 0))).set (1) ((((Sj).set (0) (((Sj).getD (0) 0) + (T.getD 0 0))).getD (1) 0) + (T.getD 1 0))).getD (2) 0) + (T.getD 2 0))).getD (3) 0) + (T.getD 3 0))).getD (4) 0) + (T.getD 4 0))).getD (5) 0) + (T.getD 5 0))).getD (6) 0) + (T.getD 6 0))).getD (7) 0) + (T.getD 7 0)) (show _ = (.pointer (some ⟨n12, 7, none⟩) : Value) from rfl) (show _ = (U ((((((((((Sj).set (0) (((Sj).getD (0) 0) + (T.getD 0 0))).set (1) ((((Sj).set (0) (((Sj).getD (0) 0) + (T.getD 0 0))).getD (1) 0) + (T.getD 1 0))).set (2) (((((Sj).set (0) (((Sj).getD (0) 0) + (T.getD 0 0))).set (1) ((((Sj).set (0) (((Sj).getD (0) 0) + (T.getD 0 0))).getD (1) 0) + (T.getD 1 0))).getD (2) 0) + (T.getD 2 0))).set (3) ((((((Sj).set (0) (((Sj).getD (0) 0) + (T.getD 0 0))).set (1) ((((Sj).set (0) (((Sj).getD (0) 0) + (T.getD 0 0))).getD (1) 0) + (T.getD 1 0))).set (2) (((((Sj).set (0) (((Sj).getD (0) 0) + (T.getD 0 0))).set (1) ((((Sj).set (0) (((Sj).getD (0) 0) + (T.getD 0 0))).getD (1) 0) + (T.getD 1 0))).getD (2) 0) + (T.getD 2 0))).getD (3) 0) + (T.getD 3 0))).set (4) (((((((Sj).set (0) (((Sj).getD (0) 0) + (T.getD 0 0))).set (1) ((((Sj).set (0) (((Sj).getD (0) 0) + (T.getD 0 0))).getD (1) 0) + (T.getD 1 0))).set (2) (((((Sj).set (0) (((Sj).getD (0) 0) + (T.getD 0 0))).set (1) ((((Sj).set (0) (((Sj).getD (0) 0) + (T.getD 0 0))).getD (1) 0) + (T.getD 1 0))).getD (2) 0) + (T.getD 2 0))).set (3) ((((((Sj).set (0) (((Sj).getD (0) 0) + (T.getD 0 0))).set (1) ((((Sj).set (0) (((Sj).getD (0) 0) + (T.getD 0 0))).getD (1) 0) + (T.getD 1 0))).set (2) (((((Sj).set (0) (((Sj).getD (0) 0) + (T.getD 0 0))).set (1) ((((Sj).set (0) (((Sj).getD (0) 0) + (T.getD 0 0))).getD (1) 0) + (T.getD 1 0))).getD (2) 0) + (T.getD 2 0))).getD (3) 0) + (T.getD 3 0))).getD (4) 0) + (T.getD 4 0))).set (5) ((((((((Sj).set (0) (((Sj).getD (0) 0) + (T.getD 0 0))).set (1) ((((Sj).set (0) (((Sj).getD (0) 0) + (T.getD 0 0))).getD (1) 0) + (T.getD 1 0))).set (2) (((((Sj).set (0) (((Sj).getD (0) 0) + (T.getD 0 0))).set (1) ((((Sj).set (0) (((Sj).getD (0) 0) + (T.getD 0 0))).getD (1) 0) + (T.getD 1 0))).getD (2) 0) + (T.getD 2 0))).set (3) ((((((Sj).set (0) (((Sj).getD (0) 0) + (T.getD 0 0))).set (1) ((((Sj).set (0) (((Sj).getD (0) 0) + (T.getD 0 0))).getD (1) 0) + (T.getD 1 0))).set (2) (((((Sj).set (0) (((Sj).getD (0) 0) + (T.getD 0 0))).set (1) ((((Sj).set (0) (((Sj).getD (0) 0) + (T.getD 0 0))).getD (1) 0) + (T.getD 1 0))).getD (2) 0) + (T.getD 2 0))).getD (3) 0) + (T.getD 3 0))).set (4) (((((((Sj).set (0) (((Sj).getD (0) 0) + (T.getD 0 0))).set (1) ((((Sj).set (0) (((Sj).getD (0) 0) + (T.getD 0 0))).getD (1) 0) + (T.getD 1 0))).set (2) (((((Sj).set (0) (((Sj).getD (0) 0) + (T.getD 0 0))).set (1) ((((Sj).set (0) (((Sj).getD (0) 0) + (T.getD 0 0))).getD (1) 0) + (T.getD 1 0))).getD (2) 0) + (T.getD 2 0))).set (3) ((((((Sj).set (0) (((Sj).getD (0) 0) + (T.getD 0 0))).set (1) ((((Sj).set (0) (((Sj).getD (0) 0) + (T.getD 0 0))).getD (1) 0) + (T.getD 1 0))).set (2) (((((Sj).set (0) (((Sj).getD (0) 0) + (T.getD 0 0))).set (1) ((((Sj).set (0) (((Sj).getD (0) 0) + (T.getD 0 0))).getD (1) 0) + (T.getD 1 0))).getD (2) 0) + (T.getD 2 0))).getD (3) 0) + (T.getD 3 0))).getD (4) 0) + (T.getD 4 0))).getD (5) 0) + (T.getD 5 0))).set (6) (((((((((Sj).set (0) (((Sj).getD (0) 0) + (T.getD 0 0))).set (1) ((((Sj).set (0) (((Sj).getD (0) 0) + (T.getD 0 0))).getD (1) 0) + (T.getD 1 0))).set (2) (((((Sj).set (0) (((Sj).getD (0) 0) + (T.getD 0 0))).set (1) ((((Sj).set (0) (((Sj).getD (0) 0) + (T.getD 0 0))).getD (1) 0) + (T.getD 1 0))).getD (2) 0) + (T.getD 2 0))).set (3) ((((((Sj).set (0) (((Sj).getD (0) 0) + (T.getD 0 0))).set (1) ((((Sj).set (0) (((Sj).getD (0) 0) + (T.getD 0 0))).getD (1) 0) + (T.getD 1 0))).set (2) (((((Sj).set (0) (((Sj).getD (0) 0) + (T.getD 0 0))).set (1) ((((Sj).set (0) (((Sj).getD (0) 0) + (T.getD 0 0))).getD (1) 0) + (T.getD 1 0))).getD (2) 0) + (T.getD 2 0))).getD (3) 0) + (T.getD 3 0))).set (4) (((((((Sj).set (0) (((Sj).getD (0) 0) + (T.getD 0 0))).set (1) ((((Sj).set (0) (((Sj).getD (0) 0) + (T.getD 0 0))).getD (1) 0) + (T.getD 1 0))).set (2) (((((Sj).set (0) (((Sj).getD (0) 0) + (T.getD 0 0))).set (1) ((((Sj).set (0) (((Sj).getD (0) 0) + (T.getD 0 0))).getD (1) 0) + (T.getD 1 0))).getD (2) 0) + (T.getD 2 0))).set (3) ((((((Sj).set (0) (((Sj).getD (0) 0) + (T.getD 0 0))).set (1) ((((Sj).set (0) (((Sj).getD (0) 0) + (T.getD 0 0))).getD (1) 0) + (T.getD 1 0))).set (2) (((((Sj).set (0) (((Sj).getD (0) 0) + (T.getD 0 0))).set (1) ((((Sj).set (0) (((Sj).getD (0) 0) + (T.getD 0 0))).getD (1) 0) + (T.getD 1 0))).getD (2) 0) + (T.getD 2 0))).getD (3) 0) + (T.getD 3 0))).getD (4) 0) + (T.getD 4 0))).set (5) ((((((((Sj).set (0) (((Sj).getD (0) 0) + (T.getD 0 0))).set (1) ((((Sj).set (0) (((Sj).getD (0) 0) + (T.getD 0 0))).getD (1) 0) + (T.getD 1 0))).set (2) (((((Sj).set (0) (((Sj).getD (0) 0) + (T.getD 0 0))).set (1) ((((Sj).set (0) (((Sj).getD (0) 0) + (T.getD 0 0))).getD (1) 0) + (T.getD 1 0))).getD (2) 0) + (T.getD 2 0))).set (3) ((((((Sj).set (0) (((Sj).getD (0) 0) + (T.getD 0 0))).set (1) ((((Sj).set (0) (((Sj).getD (0) 0) + (T.getD 0 0))).getD (1) 0) + (T.getD 1 0))).set (2) (((((Sj).set (0) (((Sj).getD (0) 0) + (T.getD 0 0))).set (1) ((((Sj).set (0) (((Sj).getD (0) 0) + (T.getD 0 0))).getD (1) 0) + (T.getD 1 0))).getD (2) 0) + (T.getD 2 0))).getD (3) 0) + (T.getD 3 0))).set (4) (((((((Sj).set (0) (((Sj).getD (0) 0) + (T.getD 0 0))).set (1) ((((Sj).set (0) (((Sj).getD (0) 0) + (T.getD 0 0))).getD (1) 0) + (T.getD 1 0))).set (2) (((((Sj).set (0) (((Sj).getD (0) 0) + (T.getD 0 0))).set (1) ((((Sj).set (0) (((Sj).getD (0) 0) + (T.getD 0 0))).getD (1) 0) + (T.getD 1 0))).getD (2) 0) + (T.getD 2 0))).set (3) ((((((Sj).set (0) (((Sj).getD (0) 0) + (T.getD 0 0))).set (1) ((((Sj).set (0) (((Sj).getD (0) 0) + (T.getD 0 0))).getD (1) 0) + (T.getD 1 0))).set (2) (((((Sj).set (0) (((Sj).getD (0) 0) + (T.getD 0 0))).set (1) ((((Sj).set (0) (((Sj).getD (0) 0) + (T.getD 0 0))).getD (1) 0) + (T.getD 1 0))).getD (2) 0) + (T.getD 2 0))).getD (3) 0) + (T.getD 3 0))).getD (4) 0) + (T.getD 4 0))).getD (5) 0) + (T.getD 5 0))).getD (6) 0) + (T.getD 6 0))).getD (7) 0) + (T.getD 7 0)) : Value) from rfl) hb22l (by rw [List.length_set, List.length_set, List.length_set, List.length_set, List.length_set, List.length_set, List.length_set, hSl]; omega) sha9_isz40 fun w189 hb190 hg191 hs192 => ?_)    -- ref.go:56 tNone := (Op.store 40 (Operand.tmp 235) (Operand.tmp 234))
        have hE : Ext w w189 := row_fresh hE hg191 (Nat.le_trans hz20 (by omega))
        have hb8 : w189.heap[n2]? = some (.cells (Lib.byteCells (List.replicate 32 0)).toArray 24 (0, 0)) := (hg191.block _ (Array.getElem?_eq_some_iff.1 hb8).1 (by simp; omega)).trans hb8
        have hA18 : Ext w3 w189 := row_fresh hA18 hg191 (Nat.le_trans (Nat.le_refl _) (by omega))
        have ho41 : w189.ownsRow w24.heap.size 5 1 v31 (P : List UInt8).length (Lib.byteCells (P)) := own_kept ho41 hg191 hap40
        have hb67l : w189.heap[n53]? = some (.cells (F.map fun x => U x).toArray 42 (0, 0)) := (hg191.block _ (Array.getElem?_eq_some_iff.1 hb67l).1 (by simp; omega)).trans hb67l
        clear hb22l
        have hb22l := hb190; clear hb190
        have hl193 : n12 < w189.heap.size := (Array.getElem?_eq_some_iff.1 hb22l).1
        refine opsF_end (fun ρ => ρ 0 = (v : Value) ∧ ρ 2 = (.pointer (some ⟨n2, 0, none⟩) : Value) ∧ ρ 3 = (.pointer (some ⟨n12, 0, none⟩) : Value) ∧ ρ 4 = (v31 : Value) ∧ ρ 5 = (.int .i64 ((64 * j : Nat) : Int) : Value) ∧ ρ 6 = (.pointer (some ⟨n53, 0, none⟩) : Value) ∧ ρ 7 = (.int .i64 ((t : Nat) : Int) : Value) ∧ ρ 10 = (U (T.getD 0 0) : Value) ∧ ρ 11 = (U (T.getD 1 0) : Value) ∧ ρ 12 = (U (T.getD 2 0) : Value) ∧ ρ 13 = (U (T.getD 3 0) : Value) ∧ ρ 14 = (U (T.getD 4 0) : Value) ∧ ρ 15 = (U (T.getD 5 0) : Value) ∧ ρ 16 = (U (T.getD 6 0) : Value) ∧ ρ 17 = (U (T.getD 7 0) : Value) ∧ ρ 18 = (.int .i64 ((r : Nat) : Int) : Value) ∧ True) ⟨T0, T2, T3, T4, T5, T6, T7, T10, T11, T12, T13, T14, T15, T16, T17, T18, trivial⟩ fun ρ194 ⟨T0, T2, T3, T4, T5, T6, T7, T10, T11, T12, T13, T14, T15, T16, T17, T18, _⟩ => ?_
        refine inBlockF_normal ?_
        refine thenF_normal (hK51 _ _ ?_)
        refine wpF_text ?_
        refine opsF_step rfl (YieldsK.move (show _ = (.int .i64 ((64 * j : Nat) : Int) : Value) from T5) ?_)    -- ref.go:33 t30 := (Op.move (Operand.tmp 5))
        refine opsF_step rfl (YieldsK.bin (xv := .int .i64 ((64 * j : Nat) : Int)) (yv := .int .i64 ((64 : Nat) : Int)) (show _ = (.int .i64 ((64 * j : Nat) : Int) : Value) from rfl) (show _ = (.int .i64 ((64 : Nat) : Int) : Value) from rfl) rfl (i64_add _ (64 * j) (64) (by omega)) ?_)    -- ref.go:33 t31 := (Op.binOp BinOp.add 3 (Operand.tmp 30) (Operand.const (Value.int IntKind.i64 64)) 3)
        refine opsF_step rfl (YieldsK.assign (show _ = (.int .i64 (((64 * j) + (64) : Nat) : Int) : Value) from rfl) ?_)    -- ref.go:33 t5 := (Op.assign (Operand.tmp 31))
        refine opsF_end (fun ρ => ρ 0 = (v : Value) ∧ ρ 2 = (.pointer (some ⟨n2, 0, none⟩) : Value) ∧ ρ 3 = (.pointer (some ⟨n12, 0, none⟩) : Value) ∧ ρ 4 = (v31 : Value) ∧ ρ 5 = (.int .i64 (((64 * j) + (64) : Nat) : Int) : Value) ∧ ρ 6 = (.pointer (some ⟨n53, 0, none⟩) : Value) ∧ ρ 7 = (.int .i64 ((t : Nat) : Int) : Value) ∧ ρ 10 = (U (T.getD 0 0) : Value) ∧ ρ 11 = (U (T.getD 1 0) : Value) ∧ ρ 12 = (U (T.getD 2 0) : Value) ∧ ρ 13 = (U (T.getD 3 0) : Value) ∧ ρ 14 = (U (T.getD 4 0) : Value) ∧ ρ 15 = (U (T.getD 5 0) : Value) ∧ ρ 16 = (U (T.getD 6 0) : Value) ∧ ρ 17 = (U (T.getD 7 0) : Value) ∧ ρ 18 = (.int .i64 ((r : Nat) : Int) : Value) ∧ True) ⟨T0, T2, T3, T4, rfl, T6, T7, T10, T11, T12, T13, T14, T15, T16, T17, T18, trivial⟩ fun ρ195 ⟨T0, T2, T3, T4, T5, T6, T7, T10, T11, T12, T13, T14, T15, T16, T17, T18, _⟩ => ?_
        refine thenF_normal (And.intro ⟨j + 1, T0, T2, T3, T4, T5, hE, hb8, hA18, ho41, blk_eq hb22l (congrArg (List.map fun x => U x) (by rw [Sha.add8 _ _ hSl hTl, hT, hF, Sha.blocks_snoc, ← hSj, ← hB]; rfl)), by omega, trivial⟩ ?_)
        show P.length - (intOf (ρ195 5)).toNat < P.length - (intOf (ρ46 5)).toNat
        rw [T5, q5]
        simp only [intOf, Int.toNat_natCast]; omega
  · obtain ⟨Sf, hSe⟩ : ∃ Sf, Sf = Sha.blocks Sha.first P j := ⟨_, rfl⟩
    have hb22l : w47.heap[n12]? = some (.cells (Sf.map fun x => U x).toArray 41 (0, 0)) := blk_eq hb22l (by rw [hSe])
    have hSf : Sf.length = 8 := by rw [hSe, Sha.blocks_length _ _ _ rfl]
    have hjK : j = P.length / 64 := by omega
    refine wpF_exit (thenF_exit (thenF_exit (inBlockF_hit ?_)))
    refine thenF_normal (hK43 _ _ ?_)
    refine wpF_seq_k fun K196 hK196 => ?_
    refine wpF_text ?_
    refine opsF_step rfl (YieldsK.alloc (cs := (Lib.byteCells (List.replicate 32 0)).toArray) sha9_al24 fun n197 w198 hn199 hb200 hx201 hs202 => ?_)    -- ref.go:58 t21 := (Op.alloc 24)
    have hA203 := Ext.refl w47
    have hea204 := hE
    have hea205 := hA18
    have hz206 : w.heap.size ≤ w47.heap.size := hE.size
    have hz207 : w3.heap.size ≤ w47.heap.size := hA18.size
    have hlt208 : n2 < n197 := by have := (Array.getElem?_eq_some_iff.1 hb8).1; omega
    have hlt209 : n12 < n197 := by have := (Array.getElem?_eq_some_iff.1 hb22l).1; omega
    have hap210 : Value.ownBlock v31 ≠ some n197 := own_newer ho41 (by omega)
    have hE : Ext w w198 := (hE.trans hx201)
    have hb8 : w198.heap[n2]? = some (.cells (Lib.byteCells (List.replicate 32 0)).toArray 24 (0, 0)) := (Ext.blk' hx201 hb8)
    have hA18 : Ext w3 w198 := (hA18.trans hx201)
    have ho41 : w198.ownsRow w24.heap.size 5 1 v31 (P : List UInt8).length (Lib.byteCells (P)) := (Stab.own _ _ _ _ _ _ _ _ ho41 hx201)
    have hb22l : w198.heap[n12]? = some (.cells (Sf.map fun x => U x).toArray 41 (0, 0)) := (Ext.blk' hx201 hb22l)
    have hA203 : Ext w47 w198 := (hA203.trans hx201)
    have hb211 := hb200; clear hb200
    have hl212 : n197 < w198.heap.size := by omega
    refine opsF_end (fun ρ => ρ 0 = (v : Value) ∧ ρ 2 = (.pointer (some ⟨n2, 0, none⟩) : Value) ∧ ρ 3 = (.pointer (some ⟨n12, 0, none⟩) : Value) ∧ ρ 4 = (v31 : Value) ∧ ρ 5 = (.int .i64 ((64 * j : Nat) : Int) : Value) ∧ ρ 21 = (.pointer (some ⟨n197, 0, none⟩) : Value) ∧ True) ⟨T0, T2, T3, T4, T5, rfl, trivial⟩ fun ρ213 ⟨T0, T2, T3, T4, T5, T21, _⟩ => ?_
    refine thenF_normal (hK196 _ _ ?_)
    refine wpF_seq_k fun K214 hK214 => ?_
    refine wpF_seq_k fun K215 hK215 => ?_
    refine wpF_text ?_
    refine opsF_step rfl (YieldsK.assign (show _ = (.int .i64 ((0 : Nat) : Int) : Value) from rfl) ?_)    -- ref.go:59 t22 := (Op.assign (Operand.const (Value.int IntKind.i64 0)))
    refine opsF_end (fun ρ => ρ 0 = (v : Value) ∧ ρ 2 = (.pointer (some ⟨n2, 0, none⟩) : Value) ∧ ρ 3 = (.pointer (some ⟨n12, 0, none⟩) : Value) ∧ ρ 4 = (v31 : Value) ∧ ρ 5 = (.int .i64 ((64 * j : Nat) : Int) : Value) ∧ ρ 21 = (.pointer (some ⟨n197, 0, none⟩) : Value) ∧ ρ 22 = (.int .i64 ((0 : Nat) : Int) : Value) ∧ True) ⟨T0, T2, T3, T4, T5, T21, rfl, trivial⟩ fun ρ216 ⟨T0, T2, T3, T4, T5, T21, T22, _⟩ => ?_
    refine thenF_normal (hK215 _ _ ?_)
    refine wpF_block ?_
    refine wpF_loop (fun (ρ : Slots) (wz : World) => ∃ q : Nat, ρ 0 = (v : Value) ∧ ρ 2 = (.pointer (some ⟨n2, 0, none⟩) : Value) ∧ ρ 3 = (.pointer (some ⟨n12, 0, none⟩) : Value) ∧ ρ 4 = (v31 : Value) ∧ ρ 5 = (.int .i64 ((64 * j : Nat) : Int) : Value) ∧ ρ 21 = (.pointer (some ⟨n197, 0, none⟩) : Value) ∧ ρ 22 = (.int .i64 ((q : Nat) : Int) : Value) ∧ Ext w wz ∧ wz.heap[n2]? = some (.cells (Lib.byteCells (List.replicate 32 0)).toArray 24 (0, 0)) ∧ Ext w3 wz ∧ wz.ownsRow w24.heap.size 5 1 v31 (P : List UInt8).length (Lib.byteCells (P)) ∧ wz.heap[n12]? = some (.cells (Sf.map fun x => U x).toArray 41 (0, 0)) ∧ Ext w47 wz ∧ wz.heap[n197]? = some (.cells (Lib.byteCells (Sha.outs Sf q)).toArray 24 (0, 0)) ∧ (q ≤ 8) ∧ True) (fun ρ _ => 8 - (intOf (ρ 22)).toNat) ⟨0, T0, T2, T3, T4, T5, T21, T22, hE, hb8, hA18, ho41, hb22l, hA203, blk_eq hb211 (rfl), Nat.zero_le _, trivial⟩ ?_
    clear hb211
    clear hE hb8 hA18 ho41 hb22l hA203
    rintro ρ217 w218 ⟨q, T0, T2, T3, T4, T5, T21, T22, hE, hb8, hA18, ho41, hb22l, hA203, hb211l, hq, -⟩
    have q22 := T22
    refine wpF_seq_k fun K219 hK219 => ?_
    refine wpF_seq_k fun K220 hK220 => ?_
    refine wpF_text ?_
    refine opsF_step rfl (YieldsK.move (show _ = (.int .i64 ((q : Nat) : Int) : Value) from T22) ?_)    -- ref.go:59 t236 := (Op.move (Operand.tmp 22))
    refine opsF_step rfl (YieldsK.eqI (a := ((q : Nat) : Int)) (b := ((8 : Nat) : Int)) (show _ = (.int .i64 ((q : Nat) : Int) : Value) from rfl) (show _ = (.int .i64 ((8 : Nat) : Int) : Value) from rfl) (k_lss _ .i64 (q) (8)) ?_)    -- ref.go:59 t237 := (Op.binOp BinOp.lss 3 (Operand.tmp 236) (Operand.const (Value.int IntKind.i64 8)) 3)
    refine opsF_end (fun ρ => ρ 0 = (v : Value) ∧ ρ 2 = (.pointer (some ⟨n2, 0, none⟩) : Value) ∧ ρ 3 = (.pointer (some ⟨n12, 0, none⟩) : Value) ∧ ρ 4 = (v31 : Value) ∧ ρ 5 = (.int .i64 ((64 * j : Nat) : Int) : Value) ∧ ρ 21 = (.pointer (some ⟨n197, 0, none⟩) : Value) ∧ ρ 22 = (.int .i64 ((q : Nat) : Int) : Value) ∧ ρ 237 = (.bool (decide ((q) < (8))) : Value) ∧ True) ⟨T0, T2, T3, T4, T5, T21, T22, rfl, trivial⟩ fun ρ221 ⟨T0, T2, T3, T4, T5, T21, T22, T237, _⟩ => ?_
    refine thenF_normal (hK220 _ _ ?_)
    refine wpF_cond ((q) < (8)) (show _ = (.bool (decide ((q) < (8))) : Value) from T237) (fun hc4 => ?_) (fun hc4 => ?_)
    · refine wpF_skip ?_
      refine thenF_normal (hK219 _ _ ?_)
      refine wpF_seq_k fun K222 hK222 => ?_
      refine wpF_block ?_
      refine wpF_seq_k fun K223 hK223 => ?_
      refine wpF_text ?_
      refine opsF_step rfl (YieldsK.move (show _ = (.int .i64 ((q : Nat) : Int) : Value) from T22) ?_)    -- ref.go:60 t240 := (Op.move (Operand.tmp 22))
      refine opsF_step rfl (YieldsK.bin (xv := .int .i64 ((4 : Nat) : Int)) (yv := .int .i64 ((q : Nat) : Int)) (show _ = (.int .i64 ((4 : Nat) : Int) : Value) from rfl) (show _ = (.int .i64 ((q : Nat) : Int) : Value) from rfl) rfl (i64_mul _ (4) (q) (by omega)) ?_)    -- ref.go:60 t241 := (Op.binOp BinOp.mul 3 (Operand.const (Value.int IntKind.i64 4)) (Operand.tmp 240) 3)
      refine opsF_step rfl (YieldsK.move (show _ = (.int .i64 ((q : Nat) : Int) : Value) from T22) ?_)    -- ref.go:60 t242 := (Op.move (Operand.tmp 22))
      refine opsF_step rfl (YieldsK.atArr0 (i := q) sha9_ty41 sha9_sz40 (show _ = (.pointer (some ⟨n12, 0, none⟩) : Value) from T3) (show _ = (.int .i64 ((q : Nat) : Int) : Value) from rfl) (by omega) ?_)    -- ref.go:60 t243 := (Op.indexAddr 41 (Operand.tmp 3) (Operand.tmp 242))
      refine opsF_step rfl (YieldsK.cell1 sha9_ty40 rfl (show _ = (.pointer (some ⟨n12, q, none⟩) : Value) from rfl) (cellAt hb22l (word_at (i := q) (by rw [hSf]; omega))) ?_)    -- ref.go:60 t244 := (Op.load 40 (Operand.tmp 243))
      refine opsF_step rfl (YieldsK.bin (show _ = (U ((Sf).getD (q) 0) : Value) from rfl) (show _ = (.int .u64 ((24 : Nat) : Int) : Value) from rfl) rfl (u_shr _ _ _ 24 (by decide)) ?_)    -- ref.go:60 t245 := (Op.binOp BinOp.shr 40 (Operand.tmp 244) (Operand.const (Value.int IntKind.u64 24)) 43)
      refine opsF_step rfl (YieldsK.narrow sha9_ty40 sha9_ty5 (show _ = (U (((Sf).getD (q) 0) >>> 24) : Value) from rfl) ?_)    -- ref.go:60 t246 := (Op.convert 40 5 (Operand.tmp 245))
      refine opsF_step rfl (YieldsK.atArr0 (i := (4) * (q)) sha9_ty24 sha9_sz5 (show _ = (.pointer (some ⟨n197, 0, none⟩) : Value) from T21) (show _ = (.int .i64 (((4) * (q) : Nat) : Int) : Value) from rfl) (by omega) ?_)    -- ref.go:60 t247 := (Op.indexAddr 24 (Operand.tmp 21) (Operand.tmp 241))
      refine opsF_step rfl (YieldsK.storeB8 (i := (4) * (q)) (v := (((Sf).getD (q) 0) >>> 24).toUInt8) (show _ = (.pointer (some ⟨n197, (4) * (q), none⟩) : Value) from rfl) (show _ = (B8 ((((Sf).getD (q) 0) >>> 24).toUInt8) : Value) from rfl) hb211l (by rw [Sha.outs_length _ hSf _ (by omega)]; omega) sha9_isz5 fun w224 hb225 hg226 hs227 => ?_)    -- ref.go:60 tNone := (Op.store 5 (Operand.tmp 247) (Operand.tmp 246))
      have hE : Ext w w224 := row_fresh hE hg226 (Nat.le_trans hz206 (by omega))
      have hb8 : w224.heap[n2]? = some (.cells (Lib.byteCells (List.replicate 32 0)).toArray 24 (0, 0)) := (hg226.block _ (Array.getElem?_eq_some_iff.1 hb8).1 (by simp; omega)).trans hb8
      have hA18 : Ext w3 w224 := row_fresh hA18 hg226 (Nat.le_trans hz207 (by omega))
      have ho41 : w224.ownsRow w24.heap.size 5 1 v31 (P : List UInt8).length (Lib.byteCells (P)) := own_kept ho41 hg226 hap210
      have hb22l : w224.heap[n12]? = some (.cells (Sf.map fun x => U x).toArray 41 (0, 0)) := (hg226.block _ (Array.getElem?_eq_some_iff.1 hb22l).1 (by simp; omega)).trans hb22l
      have hA203 : Ext w47 w224 := row_fresh hA203 hg226 (Nat.le_trans (Nat.le_refl _) (by omega))
      clear hb211l
      have hb211l := hb225; clear hb225
      have hl228 : n197 < w224.heap.size := (Array.getElem?_eq_some_iff.1 hb211l).1
      refine opsF_end (fun ρ => ρ 0 = (v : Value) ∧ ρ 2 = (.pointer (some ⟨n2, 0, none⟩) : Value) ∧ ρ 3 = (.pointer (some ⟨n12, 0, none⟩) : Value) ∧ ρ 4 = (v31 : Value) ∧ ρ 5 = (.int .i64 ((64 * j : Nat) : Int) : Value) ∧ ρ 21 = (.pointer (some ⟨n197, 0, none⟩) : Value) ∧ ρ 22 = (.int .i64 ((q : Nat) : Int) : Value) ∧ True) ⟨T0, T2, T3, T4, T5, T21, T22, trivial⟩ fun ρ229 ⟨T0, T2, T3, T4, T5, T21, T22, _⟩ => ?_
      refine thenF_normal (hK223 _ _ ?_)
      refine wpF_seq_k fun K230 hK230 => ?_
      refine wpF_text ?_
      refine opsF_step rfl (YieldsK.move (show _ = (.int .i64 ((q : Nat) : Int) : Value) from T22) ?_)    -- ref.go:61 t248 := (Op.move (Operand.tmp 22))
      refine opsF_step rfl (YieldsK.bin (xv := .int .i64 ((4 : Nat) : Int)) (yv := .int .i64 ((q : Nat) : Int)) (show _ = (.int .i64 ((4 : Nat) : Int) : Value) from rfl) (show _ = (.int .i64 ((q : Nat) : Int) : Value) from rfl) rfl (i64_mul _ (4) (q) (by omega)) ?_)    -- ref.go:61 t249 := (Op.binOp BinOp.mul 3 (Operand.const (Value.int IntKind.i64 4)) (Operand.tmp 248) 3)
      refine opsF_step rfl (YieldsK.bin (xv := .int .i64 (((4) * (q) : Nat) : Int)) (yv := .int .i64 ((1 : Nat) : Int)) (show _ = (.int .i64 (((4) * (q) : Nat) : Int) : Value) from rfl) (show _ = (.int .i64 ((1 : Nat) : Int) : Value) from rfl) rfl (i64_add _ ((4) * (q)) (1) (by omega)) ?_)    -- ref.go:61 t250 := (Op.binOp BinOp.add 3 (Operand.tmp 249) (Operand.const (Value.int IntKind.i64 1)) 3)
      refine opsF_step rfl (YieldsK.move (show _ = (.int .i64 ((q : Nat) : Int) : Value) from T22) ?_)    -- ref.go:61 t251 := (Op.move (Operand.tmp 22))
      refine opsF_step rfl (YieldsK.atArr0 (i := q) sha9_ty41 sha9_sz40 (show _ = (.pointer (some ⟨n12, 0, none⟩) : Value) from T3) (show _ = (.int .i64 ((q : Nat) : Int) : Value) from rfl) (by omega) ?_)    -- ref.go:61 t252 := (Op.indexAddr 41 (Operand.tmp 3) (Operand.tmp 251))
      refine opsF_step rfl (YieldsK.cell1 sha9_ty40 rfl (show _ = (.pointer (some ⟨n12, q, none⟩) : Value) from rfl) (cellAt hb22l (word_at (i := q) (by rw [hSf]; omega))) ?_)    -- ref.go:61 t253 := (Op.load 40 (Operand.tmp 252))
      refine opsF_step rfl (YieldsK.bin (show _ = (U ((Sf).getD (q) 0) : Value) from rfl) (show _ = (.int .u64 ((16 : Nat) : Int) : Value) from rfl) rfl (u_shr _ _ _ 16 (by decide)) ?_)    -- ref.go:61 t254 := (Op.binOp BinOp.shr 40 (Operand.tmp 253) (Operand.const (Value.int IntKind.u64 16)) 43)
      refine opsF_step rfl (YieldsK.narrow sha9_ty40 sha9_ty5 (show _ = (U (((Sf).getD (q) 0) >>> 16) : Value) from rfl) ?_)    -- ref.go:61 t255 := (Op.convert 40 5 (Operand.tmp 254))
      refine opsF_step rfl (YieldsK.atArr0 (i := ((4) * (q)) + (1)) sha9_ty24 sha9_sz5 (show _ = (.pointer (some ⟨n197, 0, none⟩) : Value) from T21) (show _ = (.int .i64 ((((4) * (q)) + (1) : Nat) : Int) : Value) from rfl) (by omega) ?_)    -- ref.go:61 t256 := (Op.indexAddr 24 (Operand.tmp 21) (Operand.tmp 250))
      refine opsF_step rfl (YieldsK.storeB8 (i := ((4) * (q)) + (1)) (v := (((Sf).getD (q) 0) >>> 16).toUInt8) (show _ = (.pointer (some ⟨n197, ((4) * (q)) + (1), none⟩) : Value) from rfl) (show _ = (B8 ((((Sf).getD (q) 0) >>> 16).toUInt8) : Value) from rfl) hb211l (by rw [List.length_set, Sha.outs_length _ hSf _ (by omega)]; omega) sha9_isz5 fun w231 hb232 hg233 hs234 => ?_)    -- ref.go:61 tNone := (Op.store 5 (Operand.tmp 256) (Operand.tmp 255))
      have hE : Ext w w231 := row_fresh hE hg233 (Nat.le_trans hz206 (by omega))
      have hb8 : w231.heap[n2]? = some (.cells (Lib.byteCells (List.replicate 32 0)).toArray 24 (0, 0)) := (hg233.block _ (Array.getElem?_eq_some_iff.1 hb8).1 (by simp; omega)).trans hb8
      have hA18 : Ext w3 w231 := row_fresh hA18 hg233 (Nat.le_trans hz207 (by omega))
      have ho41 : w231.ownsRow w24.heap.size 5 1 v31 (P : List UInt8).length (Lib.byteCells (P)) := own_kept ho41 hg233 hap210
      have hb22l : w231.heap[n12]? = some (.cells (Sf.map fun x => U x).toArray 41 (0, 0)) := (hg233.block _ (Array.getElem?_eq_some_iff.1 hb22l).1 (by simp; omega)).trans hb22l
      have hA203 : Ext w47 w231 := row_fresh hA203 hg233 (Nat.le_trans (Nat.le_refl _) (by omega))
      clear hb211l
      have hb211l := hb232; clear hb232
      have hl235 : n197 < w231.heap.size := (Array.getElem?_eq_some_iff.1 hb211l).1
      refine opsF_end (fun ρ => ρ 0 = (v : Value) ∧ ρ 2 = (.pointer (some ⟨n2, 0, none⟩) : Value) ∧ ρ 3 = (.pointer (some ⟨n12, 0, none⟩) : Value) ∧ ρ 4 = (v31 : Value) ∧ ρ 5 = (.int .i64 ((64 * j : Nat) : Int) : Value) ∧ ρ 21 = (.pointer (some ⟨n197, 0, none⟩) : Value) ∧ ρ 22 = (.int .i64 ((q : Nat) : Int) : Value) ∧ True) ⟨T0, T2, T3, T4, T5, T21, T22, trivial⟩ fun ρ236 ⟨T0, T2, T3, T4, T5, T21, T22, _⟩ => ?_
      refine thenF_normal (hK230 _ _ ?_)
      refine wpF_seq_k fun K237 hK237 => ?_
      refine wpF_text ?_
      refine opsF_step rfl (YieldsK.move (show _ = (.int .i64 ((q : Nat) : Int) : Value) from T22) ?_)    -- ref.go:62 t257 := (Op.move (Operand.tmp 22))
      refine opsF_step rfl (YieldsK.bin (xv := .int .i64 ((4 : Nat) : Int)) (yv := .int .i64 ((q : Nat) : Int)) (show _ = (.int .i64 ((4 : Nat) : Int) : Value) from rfl) (show _ = (.int .i64 ((q : Nat) : Int) : Value) from rfl) rfl (i64_mul _ (4) (q) (by omega)) ?_)    -- ref.go:62 t258 := (Op.binOp BinOp.mul 3 (Operand.const (Value.int IntKind.i64 4)) (Operand.tmp 257) 3)
      refine opsF_step rfl (YieldsK.bin (xv := .int .i64 (((4) * (q) : Nat) : Int)) (yv := .int .i64 ((2 : Nat) : Int)) (show _ = (.int .i64 (((4) * (q) : Nat) : Int) : Value) from rfl) (show _ = (.int .i64 ((2 : Nat) : Int) : Value) from rfl) rfl (i64_add _ ((4) * (q)) (2) (by omega)) ?_)    -- ref.go:62 t259 := (Op.binOp BinOp.add 3 (Operand.tmp 258) (Operand.const (Value.int IntKind.i64 2)) 3)
      refine opsF_step rfl (YieldsK.move (show _ = (.int .i64 ((q : Nat) : Int) : Value) from T22) ?_)    -- ref.go:62 t260 := (Op.move (Operand.tmp 22))
      refine opsF_step rfl (YieldsK.atArr0 (i := q) sha9_ty41 sha9_sz40 (show _ = (.pointer (some ⟨n12, 0, none⟩) : Value) from T3) (show _ = (.int .i64 ((q : Nat) : Int) : Value) from rfl) (by omega) ?_)    -- ref.go:62 t261 := (Op.indexAddr 41 (Operand.tmp 3) (Operand.tmp 260))
      refine opsF_step rfl (YieldsK.cell1 sha9_ty40 rfl (show _ = (.pointer (some ⟨n12, q, none⟩) : Value) from rfl) (cellAt hb22l (word_at (i := q) (by rw [hSf]; omega))) ?_)    -- ref.go:62 t262 := (Op.load 40 (Operand.tmp 261))
      refine opsF_step rfl (YieldsK.bin (show _ = (U ((Sf).getD (q) 0) : Value) from rfl) (show _ = (.int .u64 ((8 : Nat) : Int) : Value) from rfl) rfl (u_shr _ _ _ 8 (by decide)) ?_)    -- ref.go:62 t263 := (Op.binOp BinOp.shr 40 (Operand.tmp 262) (Operand.const (Value.int IntKind.u64 8)) 43)
      refine opsF_step rfl (YieldsK.narrow sha9_ty40 sha9_ty5 (show _ = (U (((Sf).getD (q) 0) >>> 8) : Value) from rfl) ?_)    -- ref.go:62 t264 := (Op.convert 40 5 (Operand.tmp 263))
      refine opsF_step rfl (YieldsK.atArr0 (i := ((4) * (q)) + (2)) sha9_ty24 sha9_sz5 (show _ = (.pointer (some ⟨n197, 0, none⟩) : Value) from T21) (show _ = (.int .i64 ((((4) * (q)) + (2) : Nat) : Int) : Value) from rfl) (by omega) ?_)    -- ref.go:62 t265 := (Op.indexAddr 24 (Operand.tmp 21) (Operand.tmp 259))
      refine opsF_step rfl (YieldsK.storeB8 (i := ((4) * (q)) + (2)) (v := (((Sf).getD (q) 0) >>> 8).toUInt8) (show _ = (.pointer (some ⟨n197, ((4) * (q)) + (2), none⟩) : Value) from rfl) (show _ = (B8 ((((Sf).getD (q) 0) >>> 8).toUInt8) : Value) from rfl) hb211l (by rw [List.length_set, List.length_set, Sha.outs_length _ hSf _ (by omega)]; omega) sha9_isz5 fun w238 hb239 hg240 hs241 => ?_)    -- ref.go:62 tNone := (Op.store 5 (Operand.tmp 265) (Operand.tmp 264))
      have hE : Ext w w238 := row_fresh hE hg240 (Nat.le_trans hz206 (by omega))
      have hb8 : w238.heap[n2]? = some (.cells (Lib.byteCells (List.replicate 32 0)).toArray 24 (0, 0)) := (hg240.block _ (Array.getElem?_eq_some_iff.1 hb8).1 (by simp; omega)).trans hb8
      have hA18 : Ext w3 w238 := row_fresh hA18 hg240 (Nat.le_trans hz207 (by omega))
      have ho41 : w238.ownsRow w24.heap.size 5 1 v31 (P : List UInt8).length (Lib.byteCells (P)) := own_kept ho41 hg240 hap210
      have hb22l : w238.heap[n12]? = some (.cells (Sf.map fun x => U x).toArray 41 (0, 0)) := (hg240.block _ (Array.getElem?_eq_some_iff.1 hb22l).1 (by simp; omega)).trans hb22l
      have hA203 : Ext w47 w238 := row_fresh hA203 hg240 (Nat.le_trans (Nat.le_refl _) (by omega))
      clear hb211l
      have hb211l := hb239; clear hb239
      have hl242 : n197 < w238.heap.size := (Array.getElem?_eq_some_iff.1 hb211l).1
      refine opsF_end (fun ρ => ρ 0 = (v : Value) ∧ ρ 2 = (.pointer (some ⟨n2, 0, none⟩) : Value) ∧ ρ 3 = (.pointer (some ⟨n12, 0, none⟩) : Value) ∧ ρ 4 = (v31 : Value) ∧ ρ 5 = (.int .i64 ((64 * j : Nat) : Int) : Value) ∧ ρ 21 = (.pointer (some ⟨n197, 0, none⟩) : Value) ∧ ρ 22 = (.int .i64 ((q : Nat) : Int) : Value) ∧ True) ⟨T0, T2, T3, T4, T5, T21, T22, trivial⟩ fun ρ243 ⟨T0, T2, T3, T4, T5, T21, T22, _⟩ => ?_
      refine thenF_normal (hK237 _ _ ?_)
      refine wpF_text ?_
      refine opsF_step rfl (YieldsK.move (show _ = (.int .i64 ((q : Nat) : Int) : Value) from T22) ?_)    -- ref.go:63 t266 := (Op.move (Operand.tmp 22))
      refine opsF_step rfl (YieldsK.bin (xv := .int .i64 ((4 : Nat) : Int)) (yv := .int .i64 ((q : Nat) : Int)) (show _ = (.int .i64 ((4 : Nat) : Int) : Value) from rfl) (show _ = (.int .i64 ((q : Nat) : Int) : Value) from rfl) rfl (i64_mul _ (4) (q) (by omega)) ?_)    -- ref.go:63 t267 := (Op.binOp BinOp.mul 3 (Operand.const (Value.int IntKind.i64 4)) (Operand.tmp 266) 3)
      refine opsF_step rfl (YieldsK.bin (xv := .int .i64 (((4) * (q) : Nat) : Int)) (yv := .int .i64 ((3 : Nat) : Int)) (show _ = (.int .i64 (((4) * (q) : Nat) : Int) : Value) from rfl) (show _ = (.int .i64 ((3 : Nat) : Int) : Value) from rfl) rfl (i64_add _ ((4) * (q)) (3) (by omega)) ?_)    -- ref.go:63 t268 := (Op.binOp BinOp.add 3 (Operand.tmp 267) (Operand.const (Value.int IntKind.i64 3)) 3)
      refine opsF_step rfl (YieldsK.move (show _ = (.int .i64 ((q : Nat) : Int) : Value) from T22) ?_)    -- ref.go:63 t269 := (Op.move (Operand.tmp 22))
      refine opsF_step rfl (YieldsK.atArr0 (i := q) sha9_ty41 sha9_sz40 (show _ = (.pointer (some ⟨n12, 0, none⟩) : Value) from T3) (show _ = (.int .i64 ((q : Nat) : Int) : Value) from rfl) (by omega) ?_)    -- ref.go:63 t270 := (Op.indexAddr 41 (Operand.tmp 3) (Operand.tmp 269))
      refine opsF_step rfl (YieldsK.cell1 sha9_ty40 rfl (show _ = (.pointer (some ⟨n12, q, none⟩) : Value) from rfl) (cellAt hb22l (word_at (i := q) (by rw [hSf]; omega))) ?_)    -- ref.go:63 t271 := (Op.load 40 (Operand.tmp 270))
      refine opsF_step rfl (YieldsK.narrow sha9_ty40 sha9_ty5 (show _ = (U ((Sf).getD (q) 0) : Value) from rfl) ?_)    -- ref.go:63 t272 := (Op.convert 40 5 (Operand.tmp 271))
      refine opsF_step rfl (YieldsK.atArr0 (i := ((4) * (q)) + (3)) sha9_ty24 sha9_sz5 (show _ = (.pointer (some ⟨n197, 0, none⟩) : Value) from T21) (show _ = (.int .i64 ((((4) * (q)) + (3) : Nat) : Int) : Value) from rfl) (by omega) ?_)    -- ref.go:63 t273 := (Op.indexAddr 24 (Operand.tmp 21) (Operand.tmp 268))
      refine opsF_step rfl (YieldsK.storeB8 (i := ((4) * (q)) + (3)) (v := ((Sf).getD (q) 0).toUInt8) (show _ = (.pointer (some ⟨n197, ((4) * (q)) + (3), none⟩) : Value) from rfl) (show _ = (B8 (((Sf).getD (q) 0).toUInt8) : Value) from rfl) hb211l (by rw [List.length_set, List.length_set, List.length_set, Sha.outs_length _ hSf _ (by omega)]; omega) sha9_isz5 fun w244 hb245 hg246 hs247 => ?_)    -- ref.go:63 tNone := (Op.store 5 (Operand.tmp 273) (Operand.tmp 272))
      have hE : Ext w w244 := row_fresh hE hg246 (Nat.le_trans hz206 (by omega))
      have hb8 : w244.heap[n2]? = some (.cells (Lib.byteCells (List.replicate 32 0)).toArray 24 (0, 0)) := (hg246.block _ (Array.getElem?_eq_some_iff.1 hb8).1 (by simp; omega)).trans hb8
      have hA18 : Ext w3 w244 := row_fresh hA18 hg246 (Nat.le_trans hz207 (by omega))
      have ho41 : w244.ownsRow w24.heap.size 5 1 v31 (P : List UInt8).length (Lib.byteCells (P)) := own_kept ho41 hg246 hap210
      have hb22l : w244.heap[n12]? = some (.cells (Sf.map fun x => U x).toArray 41 (0, 0)) := (hg246.block _ (Array.getElem?_eq_some_iff.1 hb22l).1 (by simp; omega)).trans hb22l
      have hA203 : Ext w47 w244 := row_fresh hA203 hg246 (Nat.le_trans (Nat.le_refl _) (by omega))
      clear hb211l
      have hb211l := hb245; clear hb245
      have hl248 : n197 < w244.heap.size := (Array.getElem?_eq_some_iff.1 hb211l).1
      refine opsF_end (fun ρ => ρ 0 = (v : Value) ∧ ρ 2 = (.pointer (some ⟨n2, 0, none⟩) : Value) ∧ ρ 3 = (.pointer (some ⟨n12, 0, none⟩) : Value) ∧ ρ 4 = (v31 : Value) ∧ ρ 5 = (.int .i64 ((64 * j : Nat) : Int) : Value) ∧ ρ 21 = (.pointer (some ⟨n197, 0, none⟩) : Value) ∧ ρ 22 = (.int .i64 ((q : Nat) : Int) : Value) ∧ True) ⟨T0, T2, T3, T4, T5, T21, T22, trivial⟩ fun ρ249 ⟨T0, T2, T3, T4, T5, T21, T22, _⟩ => ?_
      refine inBlockF_normal ?_
      refine thenF_normal (hK222 _ _ ?_)
      refine wpF_text ?_
      refine opsF_step rfl (YieldsK.move (show _ = (.int .i64 ((q : Nat) : Int) : Value) from T22) ?_)    -- ref.go:59 t238 := (Op.move (Operand.tmp 22))
      refine opsF_step rfl (YieldsK.bin (xv := .int .i64 ((q : Nat) : Int)) (yv := .int .i64 ((1 : Nat) : Int)) (show _ = (.int .i64 ((q : Nat) : Int) : Value) from rfl) (show _ = (.int .i64 ((1 : Nat) : Int) : Value) from rfl) rfl (i64_add _ (q) (1) (by omega)) ?_)    -- ref.go:59 t239 := (Op.binOp BinOp.add 3 (Operand.tmp 238) (Operand.const (Value.int IntKind.i64 1)) 3)
      refine opsF_step rfl (YieldsK.assign (show _ = (.int .i64 (((q) + (1) : Nat) : Int) : Value) from rfl) ?_)    -- ref.go:59 t22 := (Op.assign (Operand.tmp 239))
      refine opsF_end (fun ρ => ρ 0 = (v : Value) ∧ ρ 2 = (.pointer (some ⟨n2, 0, none⟩) : Value) ∧ ρ 3 = (.pointer (some ⟨n12, 0, none⟩) : Value) ∧ ρ 4 = (v31 : Value) ∧ ρ 5 = (.int .i64 ((64 * j : Nat) : Int) : Value) ∧ ρ 21 = (.pointer (some ⟨n197, 0, none⟩) : Value) ∧ ρ 22 = (.int .i64 (((q) + (1) : Nat) : Int) : Value) ∧ True) ⟨T0, T2, T3, T4, T5, T21, rfl, trivial⟩ fun ρ250 ⟨T0, T2, T3, T4, T5, T21, T22, _⟩ => ?_
      refine thenF_normal (And.intro ⟨q + 1, T0, T2, T3, T4, T5, T21, T22, hE, hb8, hA18, ho41, hb22l, hA203, blk_eq hb211l (congrArg Lib.byteCells (Sha.outs_step Sf hSf q hc4)), by omega, trivial⟩ ?_)
      show 8 - (intOf (ρ250 22)).toNat < 8 - (intOf (ρ217 22)).toNat
      rw [T22, q22]
      simp only [intOf, Int.toNat_natCast]; omega
    · refine wpF_exit (thenF_exit (thenF_exit (inBlockF_hit ?_)))
      refine thenF_normal (hK214 _ _ ?_)
      refine wpF_seq_k fun K251 hK251 => ?_
      refine wpF_text ?_
      refine opsF_step rfl (YieldsK.loadAll (show _ = (.pointer (some ⟨n197, 0, none⟩) : Value) from T21) hb211l sha9_ty24 rfl (by rw [List.size_toArray, Lib.byteCells_length, Sha.outs_length _ hSf _ (by omega)]; exact sha9_isz24) ?_)    -- ref.go:65 t274 := (Op.load 24 (Operand.tmp 21))
      refine opsF_step rfl (YieldsK.storeAll (show _ = (.pointer (some ⟨n2, 0, none⟩) : Value) from T2) (show _ = (.agg (Lib.byteCells (Sha.outs Sf q)).toArray : Value) from rfl) hb8 (by rw [List.size_toArray, Lib.byteCells_length, Sha.outs_length _ hSf _ (by omega)]; rfl) (by rw [List.size_toArray, Lib.byteCells_length, Sha.outs_length _ hSf _ (by omega)]; exact sha9_isz24) (byteCells_one _) fun w252 hb253 hg254 hs255 => ?_)    -- ref.go:65 tNone := (Op.store 24 (Operand.tmp 2) (Operand.tmp 274))
      have hE : Ext w w252 := row_fresh hE hg254 (Nat.le_trans (Nat.le_refl _) (by omega))
      clear hb8
      clear hA18
      have ho41 : w252.ownsRow w24.heap.size 5 1 v31 (P : List UInt8).length (Lib.byteCells (P)) := own_kept ho41 hg254 hap39
      have hb22l : w252.heap[n12]? = some (.cells (Sf.map fun x => U x).toArray 41 (0, 0)) := (hg254.block _ (Array.getElem?_eq_some_iff.1 hb22l).1 (by simp; omega)).trans hb22l
      clear hA203
      have hb211l : w252.heap[n197]? = some (.cells (Lib.byteCells (Sha.outs Sf q)).toArray 24 (0, 0)) := (hg254.block _ (Array.getElem?_eq_some_iff.1 hb211l).1 (by simp; omega)).trans hb211l
      have hb8 := hb253; clear hb253
      have hl256 : n2 < w252.heap.size := (Array.getElem?_eq_some_iff.1 hb8).1
      refine opsF_end (fun ρ => ρ 0 = (v : Value) ∧ ρ 2 = (.pointer (some ⟨n2, 0, none⟩) : Value) ∧ ρ 3 = (.pointer (some ⟨n12, 0, none⟩) : Value) ∧ ρ 4 = (v31 : Value) ∧ ρ 5 = (.int .i64 ((64 * j : Nat) : Int) : Value) ∧ ρ 21 = (.pointer (some ⟨n197, 0, none⟩) : Value) ∧ ρ 22 = (.int .i64 ((q : Nat) : Int) : Value) ∧ True) ⟨T0, T2, T3, T4, T5, T21, T22, trivial⟩ fun ρ257 ⟨T0, T2, T3, T4, T5, T21, T22, _⟩ => ?_
      refine thenF_normal (hK251 _ _ ?_)
      refine wpF_ret ?_
      refine postF_ret (fn := Tryd.f10) _ rfl [.agg (Lib.byteCells (Sha.outs Sf q)).toArray] (.agg (Lib.byteCells (Sha.outs Sf q)).toArray) rfl ⟨ResF.row T2 hb8 sha9_ty24 rfl (by rw [List.size_toArray, Lib.byteCells_length, Sha.outs_length _ hSf _ (by omega)]; exact sha9_isz24), trivial⟩ ?_
      refine ⟨?_, hE⟩
      have e : Sha.outs Sf q = Sha.sum l := by rw [show q = 8 by omega, Sha.outs_all Sf hSf, hSe, hjK, hP]; rfl
      rw [e]
end Go.Proofs.YtcindgknimallaaDoor
