/- Two arrays of bytes held against each other. It holds of any program. -/
import Derived.Test.YtfjmbcjcgdfkfaaSteps
import Derived.Laws.StructEq
namespace Go.Proofs.Ytfjmbcjcgdfkfaa
open Go.RowKit
variable {P : Program}

/-- The comparison, place by place. -/
def eqPlaces (l1 l2 : List UInt8) : List Nat → Bool
  | [] => true
  | i :: r => if l1.getD i 0 = l2.getD i 0 then eqPlaces l1 l2 r else false
theorem eqPlaces_iff (l1 l2 : List UInt8) : ∀ is : List Nat, eqPlaces l1 l2 is = true ↔ ∀ i ∈ is, l1.getD i 0 = l2.getD i 0
  | [] => by simp [eqPlaces]
  | i :: r => by
    have ih := eqPlaces_iff l1 l2 r
    unfold eqPlaces
    split
    · rename_i h
      rw [ih]
      constructor
      · intro h2 j hj
        rcases List.mem_cons.1 hj with rfl | hj
        · exact h
        · exact h2 j hj
      · exact fun h2 j hj => h2 j (List.mem_cons_of_mem _ hj)
    · rename_i h
      constructor
      · intro h2; cases h2
      · intro h2; exact absurd (h2 i (by simp)) h
theorem byte_eq (a b : UInt8) : ((a.toNat : Int) == (b.toNat : Int)) = decide (a = b) := by
  rw [Bool.eq_iff_iff]
  simp
  constructor
  · intro h; exact UInt8.toNat_inj.1 (by omega)
  · intro h; rw [h]
theorem run_eqArray (w : World) {t e : TypeId} {n d : Nat} (ht : P.underlying t = some (.array n e)) (he : P.underlying e = some (.int .u8)) (hs : (sizeOf e).run P w = .ok 1 w) (l1 l2 : List UInt8) (h1 : l1.length = n) (h2 : l2.length = n) :
    (Op.equalIn (d + 1 + 1) t (.agg (Lib.byteCells l1).toArray) (.agg (Lib.byteCells l2).toArray)).run P w = .ok (decide (l1 = l2)) w := by
  have hagg : (isAgg e).run P w = .ok false w := by
    unfold isAgg
    rw [Sem.run_bind, run_underlying he w]
    rfl
  have hpart : ∀ (l : List UInt8) (i : Nat), i < l.length → (part e (Lib.byteCells l).toArray (i * 1)).run P w = .ok (.int .u8 ((l.getD i 0).toNat : Int)) w := fun l i hi => by
    unfold part
    rw [Sem.run_bind, hagg]
    simp [Lib.byteCells, hi, Sem.run_pure]
  have key : ∀ (is : List Nat), (∀ i ∈ is, i < n) → ∀ (f : Nat → (Option Bool × Unit) → Sem (ForInStep ((Option Bool × Unit)))),
      (∀ i r, i < n → (f i r).run P w = if l1.getD i 0 = l2.getD i 0 then .ok (.yield (none, ())) w else .ok (.done (some false, ())) w) →
      ∀ r, r.1 = none → (forIn is r f).run P w = .ok (if eqPlaces l1 l2 is = true then none else some false, ()) w := by
    intro is
    induction is with
    | nil =>
      intro _ f _ r hr
      obtain ⟨a, b⟩ := r
      simp at hr
      subst hr
      simp [eqPlaces, Sem.run_pure]
    | cons i is ih =>
      intro hi f hf r hr
      simp only [List.forIn_cons, Sem.run_bind, hf i r (hi i (by simp))]
      by_cases h : l1.getD i 0 = l2.getD i 0
      · rw [if_pos h]
        simp only [Result.andThen_ok]
        rw [ih (fun j hj => hi j (List.mem_cons_of_mem _ hj)) f hf (none, ()) rfl]
        simp only [eqPlaces, if_pos h]
      · rw [if_neg h]
        simp only [Result.andThen_ok, Sem.run_pure, eqPlaces, if_neg h]
        rfl
  obtain ⟨D, hD⟩ : ∃ D, D = d + 1 := ⟨_, rfl⟩
  rw [← hD]
  simp only [Op.equalIn, Sem.run_bind, run_underlying ht, Result.andThen_ok, hs]
  rw [Std.Legacy.Range.forIn_eq_forIn_range']
  have hsz : ([:n] : Std.Legacy.Range).size = n := by simp [Std.Legacy.Range.size]
  rw [hsz, key (List.range' 0 n 1) (fun i hi => by simpa using hi)]
  · have hiff := eqPlaces_iff l1 l2 (List.range' 0 n 1)
    have hl : l1 = l2 ↔ eqPlaces l1 l2 (List.range' 0 n 1) = true := by
      rw [hiff]
      constructor
      · intro h i _; rw [h]
      · intro h
        apply List.ext_getElem (by omega)
        intro i hi1 hi2
        have := h i (by simp; omega)
        simpa [hi1, hi2] using this
    by_cases h : l1 = l2
    · rw [hl.1 h, decide_eq_true h]
      simp [Sem.run_pure]
    · have h' : eqPlaces l1 l2 (List.range' 0 n 1) = false := by
        cases hb : eqPlaces l1 l2 (List.range' 0 n 1) with
        | false => rfl
        | true => exact absurd (hl.2 hb) h
      rw [h', decide_eq_false h]
      simp [Sem.run_pure]
  · intro i r hi
    simp only [Sem.run_bind, hpart l1 i (by omega), hpart l2 i (by omega), Result.andThen_ok, hD, run_equalIn_int w d e .u8 .u8 _ _ he]
    by_cases h : l1.getD i 0 = l2.getD i 0
    · rw [if_pos h, byte_eq, decide_eq_true h]
      simp [Sem.run_pure]
    · rw [if_neg h, byte_eq, decide_eq_false h]
      simp [Sem.run_pure]
  · rfl
/-- '==' on arrays of bytes, as an operation. -/
theorem run_eqArrayOp (w : World) {t e : TypeId} {n : Nat} (ht : P.underlying t = some (.array n e)) (he : P.underlying e = some (.int .u8)) (hs : (sizeOf e).run P w = .ok 1 w) (hg : P.eqGuardType P.depth t = false) (l1 l2 : List UInt8) (h1 : l1.length = n) (h2 : l2.length = n) (x y : Operand) :
    (do eqGuard .eql t x y (.agg (Lib.byteCells l1).toArray) (.agg (Lib.byteCells l2).toArray); binOp .eql t (.agg (Lib.byteCells l1).toArray) (.agg (Lib.byteCells l2).toArray) : Sem Value).run P w = .ok (.bool (decide (l1 = l2))) w := by
  have he2 : (eqGuard .eql t x y (.agg (Lib.byteCells l1).toArray) (.agg (Lib.byteCells l2).toArray)).run P w = .ok () w := by
    simp [eqGuard, hg]
  rw [Sem.run_bind, he2, Result.andThen_ok, run_eql_struct, run_eqArray (d := 9998) w ht he hs l1 l2 h1 h2]
  rfl
theorem run_execEql {ρ : Operand → Value} {d : Option Tmp} {x y : Operand} {ty2 tt : TypeId} {pos : String} {af : Array Edge} {gd : Option (Nat × Bool)} {w : World} {t e : TypeId} {n : Nat} (ht : P.underlying t = some (.array n e)) (he : P.underlying e = some (.int .u8)) (hs : (sizeOf e).run P w = .ok 1 w) (hg : P.eqGuardType P.depth t = false) {l1 l2 : List UInt8} (h1 : l1.length = n) (h2 : l2.length = n)
    (hx : ρ x = .agg (Lib.byteCells l1).toArray) (hy : ρ y = .agg (Lib.byteCells l2).toArray) : (execOp ρ ⟨d, .binOp .eql t x y ty2, tt, pos, af, gd⟩).run P w = .ok (.value (.bool (decide (l1 = l2)))) w := by
  have h := run_eqArrayOp (P := P) w ht he hs hg l1 l2 h1 h2 x y
  simp only [execOp, hx, hy]
  rw [Sem.run_bind, h]
  rfl
end Go.Proofs.Ytfjmbcjcgdfkfaa
