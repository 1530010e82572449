/- Rows of words in blocks of their own: what is alloced, read, stored. They hold of any program. -/
import Derived.Test.YtcindgknimallaaDoorU32
namespace Go.Proofs.YtcindgknimallaaDoor
open Go.RowKit
variable {P : Program}

/-- A row of words. -/
def cellsU (l : List UInt32) : Array Value := (l.map fun x => U x).toArray
theorem cellsU_size (l : List UInt32) : (cellsU l).size = l.length := by simp [cellsU]
theorem cellsU_one (l : List UInt32) : ∀ v ∈ (cellsU l).toList, v.oneCell' = true := by
  intro v hv
  simp [cellsU] at hv
  obtain ⟨x, -, rfl⟩ := hv
  rfl
theorem cellU_at {w : World} {b : Nat} {l : List UInt32} {t : TypeId} {fr : Nat × Nat} (h : w.heap[b]? = some (.cells (cellsU l) t fr)) {i : Nat} (hi : i < l.length) : w.cell? ⟨b, i, none⟩ = some (U (l.getD i 0)) := by
  simp [World.cell?, h, cellsU, hi]
theorem row_set (l : List Value) (i : Nat) (v : Value) (hi : i < l.length) : (l.take (i + 0) ++ [v] ++ l.drop (i + 0 + 1)) = l.set i v := by
  rw [List.set_eq_take_append_cons_drop, if_pos hi]
  simp
theorem run_store1 (w : World) (g i : Nat) (ty : TypeId) (cs : List Value) (t : TypeId) (v : Value) (hg : w.heap[g]? = some (.cells cs.toArray t (0, 0))) (hi : i < cs.length) (hinfo : (P.info? ty).map (·.size) = some 1) (hv : v.cells = #[v]) (h1 : v.oneCell' = true) :
    (Instr.storeAt ty (.pointer (some ⟨g, i, none⟩)) v).run P w = .ok () (w.setRow g (cs.set i v).toArray) := by
  have hst := run_storeCells_at P g i t [v] 0 cs.toArray w hg (by simp; omega) (by simpa using h1)
  rw [List.length_singleton, show cs.toArray.toList = cs from rfl, row_set cs i v hi] at hst
  cases hq : P.info? ty with
  | none => simp [hq] at hinfo
  | some q =>
    have hs : q.size = 1 := by simp [hq] at hinfo; omega
    simp [Instr.storeAt, Instr.sureAddr, storeVar, sizeOf, typeInfo, hq, hv, hs, hst]
theorem cellsU_set (l : List UInt32) (i : Nat) (x : UInt32) : (((l.map fun x => U x).set i (U x)).toArray) = cellsU (l.set i x) := by
  simp [cellsU, List.map_set]
theorem YieldsK.storeU {K : Value → World → Prop} {ty : TypeId} {x y : Operand} {d : Option Tmp} {tt : TypeId} {pos : String} {af : Array Edge} {gd : Option (Nat × Bool)} {ρ : Tmp → Value} {w : World} {g i : Nat} {l : List UInt32} {t : TypeId} {v : UInt32}
    (hx : evalR ρ x = .pointer (some ⟨g, i, none⟩)) (hy : evalR ρ y = U v) (hg : w.heap[g]? = some (.cells (cellsU l) t (0, 0))) (hi : i < l.length) (hinfo : (P.info? ty).map (·.size) = some 1)
    (hk : K undef (w.setRow g (cellsU (l.set i v)))) : YieldsK P K ((execOp (evalR ρ) ⟨d, .store ty x y, tt, pos, af, gd⟩).run P w) := by
  have hr := run_store1 (P := P) w g i ty (l.map fun x => U x) t (U v) hg (by simpa using hi) hinfo rfl rfl
  rw [cellsU_set] at hr
  unfold execOp
  simp only [hx, hy, hr, Sem.run_bind, Result.andThen_ok, Sem.run_pure]
  exact hk
/-- A new row, its place and the world behind it under names. -/
theorem wpList_fresh {ops : Array Oper} {rest : List Oper} {o : Oper} {a : Act} {w : World} {Q : Exit → Act → World → Prop} (hgd : o.guard = none) (cells : Array Value) (t : TypeId)
    (hr : (execOp a.eval o).run P w = .ok (.value (.pointer (some ⟨w.heap.size, 0, none⟩))) (w.alloc (.cells cells t)))
    (h : ∀ n w', w.heap.size = n → w'.heap[n]? = some (.cells cells t (0, 0)) → w'.heap.size = n + 1 → Ext w w' → wpList P ops Q rest (a.put o.dst (.pointer (some ⟨n, 0, none⟩))) w') : wpList P ops Q (o :: rest) a w :=
  wpList_value hgd _ _ hr (h _ _ rfl (heap_alloc_new w _) (by simp) ((Below.refl _ _).alloc (Nat.le_refl _) _))
theorem results_cell0 {fn : Func} {p : Tmp} {ty : TypeId} (h : fn.results = #[.cell p ty]) (tmps : Array Value) (w : World) (g : Nat) (t : TypeId) (cs : Array Value) (fr : Nat × Nat) (d : TypeDesc)
    (hp : tmps.getD p undef = .pointer (some ⟨g, 0, none⟩)) (hg : w.heap[g]? = some (.cells cs t fr))
    (hu : P.underlying ty = some d) (hd : (match d with | .struct _ | .array _ _ => true | _ => false) = true) (hi : (P.info? ty).map (·.size) = some cs.size) :
    (results fn tmps).run P w = .ok (.agg cs) w := by
  have hp' : tmps[p]?.getD undef = .pointer (some ⟨g, 0, none⟩) := by simpa using hp
  simp [results, h, hp', asAddr, run_loadVar_row w g t ty cs fr d hg hu hd hi]
theorem setRow_below {B : Nat} {a w : World} (h : Below B a w) {g : Nat} (hg : B ≤ g) (cs : Array Value) : Below B a (w.setRow g cs) :=
  h.trans ⟨rfl, rfl, rfl, by simp, fun k hk => setRow_other w g k cs (by omega)⟩
/-- An element of an array value. -/
theorem run_idxU {xType e : TypeId} {n : Nat} (ht : P.underlying xType = some (.array n e)) {de : TypeDesc} (he : P.underlying e = some de) (hd : (match de with | .struct _ | .array _ _ => false | _ => true) = true) (hs : ∀ w' : World, (sizeOf e).run P w' = .ok 1 w') {x y : Operand} {d : Option Tmp} {ty : TypeId} {pos : String} {af : Array Edge} {gd : Option (Nat × Bool)} {ρ : Operand → Value} {w : World} {l : List UInt32} {i : Nat} {k : IntKind}
    (hx : ρ x = .agg (cellsU l)) (hy : ρ y = .int k (i : Int)) (hi : i < n) (hl : l.length = n) : (execOp ρ ⟨d, .index xType x y, ty, pos, af, gd⟩).run P w = .ok (.value (U (l.getD i 0))) w := by
  have hg : (cellsU l)[i]? = some (U (l.getD i 0)) := by
    have : i < l.length := by omega
    simp [cellsU, this]
  have hagg : (isAgg e).run P w = .ok false w := by
    unfold isAgg
    rw [Sem.run_bind, run_underlying he w]
    cases de <;> simp_all
  unfold execOp
  simp only [hx, hy, Instr.index, asIntOf, Sem.run_bind, Sem.run_pure, Result.andThen_ok, run_underlying ht]
  rw [if_pos (by omega)]
  simp [hs, part, hagg, hg]
theorem run_execBox {ρ : Operand → Value} {d : Option Tmp} {e : TypeId} {x : Operand} {ty : TypeId} {pos : String} {af : Array Edge} {gd : Option (Nat × Bool)} {w : World} {cs : Array Value} (hx : ρ x = .agg cs) :
    (execOp ρ ⟨d, .box e x, ty, pos, af, gd⟩).run P w = .ok (.value (.pointer (some ⟨w.heap.size, 0, none⟩))) (w.alloc (.cells cs e)) := by
  show ((Instr.box e (ρ x)).run P w).andThen (fun v w => Result.ok (Next.value v) w) = _
  rw [hx]
  rfl
theorem YieldsK.storeRow {K : Value → World → Prop} {ty : TypeId} {x y : Operand} {d : Option Tmp} {tt : TypeId} {pos : String} {af : Array Edge} {gd : Option (Nat × Bool)} {ρ : Tmp → Value} {w : World} {g : Nat} {cells cur : Array Value} {t : TypeId}
    (hx : evalR ρ x = .pointer (some ⟨g, 0, none⟩)) (hy : evalR ρ y = .agg cells) (hg : w.heap[g]? = some (.cells cur t (0, 0))) (hs : cells.size = cur.size) (hi : (P.info? ty).map (·.size) = some cells.size) (h1 : ∀ v ∈ cells.toList, v.oneCell' = true)
    (hk : K undef (w.setRow g cells)) : YieldsK P K ((execOp (evalR ρ) ⟨d, .store ty x y, tt, pos, af, gd⟩).run P w) := by
  have hr := run_storeAt_row (P := P) w g ty cells cur t hg hs hi h1
  unfold execOp
  simp only [hx, hy, hr, Sem.run_bind, Result.andThen_ok, Sem.run_pure]
  exact hk
end Go.Proofs.YtcindgknimallaaDoor
