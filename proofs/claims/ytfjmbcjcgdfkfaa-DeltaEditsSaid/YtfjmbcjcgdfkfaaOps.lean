/- Laws for single operations on slots: what each yields, out of what its operands hold. They hold of any program. -/
import Derived.Test.YtfjmbcjcgdfkfaaWalk
import Derived.Test.YtfjmbcjcgdfkfaaU32
namespace Go.Proofs.Ytfjmbcjcgdfkfaa
open Go.RowKit
section
variable {P : Program} {K : Value → World → Prop} {ρ : Slots} {w : World} {d : Option Tmp} {ty : TypeId} {pos : String} {af : Array Edge} {gd : Option (Nat × Bool)}
theorem YieldsK.move {x : Operand} {v : Value} (hx : evalR ρ x = v) (hk : K v w) : YieldsK P K ((execOp (evalR ρ) ⟨d, .move x, ty, pos, af, gd⟩).run P w) := by
  subst hx; exact hk
theorem YieldsK.assign {x : Operand} {v : Value} (hx : evalR ρ x = v) (hk : K v w) : YieldsK P K ((execOp (evalR ρ) ⟨d, .assign x, ty, pos, af, gd⟩).run P w) := by
  subst hx; exact hk
theorem YieldsK.pickT {c x y : Operand} {v : Value} (hc : evalR ρ c = .bool true) (hx : evalR ρ x = v) (hk : K v w) : YieldsK P K ((execOp (evalR ρ) ⟨d, .pick c x y, ty, pos, af, gd⟩).run P w) := by
  subst hx
  unfold execOp
  simp only [hc, asBool, Sem.run_bind, Sem.run_pure, Result.andThen_ok, if_true]
  exact hk
theorem YieldsK.pickF {c x y : Operand} {v : Value} (hc : evalR ρ c = .bool false) (hx : evalR ρ y = v) (hk : K v w) : YieldsK P K ((execOp (evalR ρ) ⟨d, .pick c x y, ty, pos, af, gd⟩).run P w) := by
  subst hx
  unfold execOp
  simp only [hc, asBool, Sem.run_bind, Sem.run_pure, Result.andThen_ok, Bool.false_eq_true, if_false]
  exact hk
theorem YieldsK.nilCheck {x : Operand} {a : Addr} (hx : evalR ρ x = .pointer (some a)) (hk : K (.pointer (some a)) w) : YieldsK P K ((execOp (evalR ρ) ⟨d, .nilCheck x, ty, pos, af, gd⟩).run P w) := by
  unfold execOp
  simp only [hx]
  exact hk
/-- A field's place. -/
def FieldOff (P : Program) (s : TypeId) (f off : Nat) : Prop := ∀ (b o : Nat) (w : World), (Instr.fieldAt s (.pointer (some ⟨b, o, none⟩)) f).run P w = .ok (.pointer (some ⟨b, o + off, none⟩)) w
theorem YieldsK.fieldAt {s : TypeId} {f off b o : Nat} (hf : FieldOff P s f off) {x : Operand} (hx : evalR ρ x = .pointer (some ⟨b, o, none⟩)) (hk : K (.pointer (some ⟨b, o + off, none⟩)) w) : YieldsK P K ((execOp (evalR ρ) ⟨d, .fieldAddr s x f, ty, pos, af, gd⟩).run P w) := by
  unfold execOp
  simp only [hx, Sem.run_bind, hf b o w, Result.andThen_ok, Sem.run_pure]
  exact hk
theorem YieldsK.alloc {e : TypeId} {cs : Array Value} (hz : ∀ (σ : Operand → Value) (w : World), (execOp σ ⟨d, .alloc e, ty, pos, af, gd⟩).run P w = .ok (.value (.pointer (some ⟨w.heap.size, 0, none⟩))) (w.alloc (.cells cs e)))
    (hk : ∀ n w', w.heap.size = n → w'.heap[n]? = some (.cells cs e (0, 0)) → Ext w w' → w'.heap.size = n + 1 → K (.pointer (some ⟨n, 0, none⟩)) w') : YieldsK P K ((execOp (evalR ρ) ⟨d, .alloc e, ty, pos, af, gd⟩).run P w) := by
  rw [hz]
  exact hk _ _ rfl (heap_alloc_new w _) ((Below.refl _ _).alloc (Nat.le_refl _) _) (by simp)
theorem YieldsK.box {e : TypeId} {x : Operand} {cs : Array Value} (hx : evalR ρ x = .agg cs)
    (hk : ∀ n w', w.heap.size = n → w'.heap[n]? = some (.cells cs e (0, 0)) → Ext w w' → w'.heap.size = n + 1 → K (.pointer (some ⟨n, 0, none⟩)) w') : YieldsK P K ((execOp (evalR ρ) ⟨d, .box e x, ty, pos, af, gd⟩).run P w) := by
  have hr : (execOp (evalR ρ) ⟨d, .box e x, ty, pos, af, gd⟩).run P w = .ok (.value (.pointer (some ⟨w.heap.size, 0, none⟩))) (w.alloc (.cells cs e)) := by
    show ((Instr.box e (evalR ρ x)).run P w).andThen (fun v w => Result.ok (Next.value v) w) = _
    rw [hx]
    rfl
  rw [hr]
  exact hk _ _ rfl (heap_alloc_new w _) ((Below.refl _ _).alloc (Nat.le_refl _) _) (by simp)
/-- len of bytes. -/
theorem YieldsK.lenRB {t e : TypeId} (ht : P.underlying t = some (.slice e)) {x : Operand} {l : List UInt8} (h : RB w (evalR ρ x) l) (hk : K (NI l.length) w) : YieldsK P K ((execOp (evalR ρ) ⟨d, .call ⟨.builtin .len, #[x], #[t]⟩, ty, pos, af, gd⟩).run P w) := by
  obtain ⟨h1, ao, cap, hv, h2, h3, h4, h5⟩ := h
  refine YieldsK.value (v := NI l.length) (w' := w) ?_ hk
  unfold execOp
  simp [resolve, invoke, builtin, Builtin.len_, hv, run_underlying ht, goInt]
theorem YieldsK.lenSl {t e : TypeId} (ht : P.underlying t = some (.slice e)) {x : Operand} {ao : Option Addr} {n c : Nat} (hx : evalR ρ x = .slice ao n c) (hk : K (NI n) w) : YieldsK P K ((execOp (evalR ρ) ⟨d, .call ⟨.builtin .len, #[x], #[t]⟩, ty, pos, af, gd⟩).run P w) := by
  refine YieldsK.value (v := NI n) (w' := w) ?_ hk
  unfold execOp
  simp [resolve, invoke, builtin, Builtin.len_, hx, run_underlying ht, goInt]
theorem YieldsK.lenStr {t : TypeId} (ht : P.underlying t = some .string) {x : Operand} {s : ByteArray} (hx : evalR ρ x = .string s) (hk : K (NI s.size) w) : YieldsK P K ((execOp (evalR ρ) ⟨d, .call ⟨.builtin .len, #[x], #[t]⟩, ty, pos, af, gd⟩).run P w) := by
  refine YieldsK.value (v := NI s.size) (w' := w) ?_ hk
  unfold execOp
  simp [resolve, invoke, builtin, Builtin.len_, hx, run_underlying ht, goInt]
theorem YieldsK.lenArr {t e : TypeId} {n : Nat} (ht : P.underlying t = some (.array n e)) {x : Operand} (hk : K (NI n) w) : YieldsK P K ((execOp (evalR ρ) ⟨d, .call ⟨.builtin .len, #[x], #[t]⟩, ty, pos, af, gd⟩).run P w) := by
  refine YieldsK.value (v := NI n) (w' := w) ?_ hk
  unfold execOp
  simp [resolve, invoke, builtin, Builtin.len_, run_underlying ht, goInt]
/-- A cell that can be read, by its address. -/
def PCell (v : Value) : Fact := fun x w => ∃ a, x = .pointer (some a) ∧ w.cell? a = some v
theorem Stab.pcell (v : Value) : Stab Ext (PCell v) := fun _ _ _ ⟨a, hx, hc⟩ h => ⟨a, hx, by rw [Below.cell h (World.block_lt_of_cell? _ a hc)]; exact hc⟩
theorem PCell.keep {v x : Value} {w w' : World} (h : PCell v x w) (k : Ext w w') : PCell v x w' := Stab.pcell v x w w' h k
/-- The address of a byte. -/
theorem YieldsK.atRB {t e : TypeId} (ht : P.underlying t = some (.slice e)) (he : ∀ w' : World, (sizeOf e).run P w' = .ok 1 w') {x y : Operand} {l : List UInt8} (h : RB w (evalR ρ x) l) {k : IntKind} {i : Nat} (hy : evalR ρ y = .int k (i : Int)) (hi : i < l.length)
    (hk : ∀ v, PCell (B8 (l.getD i 0)) v w → K v w) : YieldsK P K ((execOp (evalR ρ) ⟨d, .indexAddr t x y, ty, pos, af, gd⟩).run P w) := by
  obtain ⟨b, off, cap, hv, h1, h2, h3, h4⟩ := h.open_ (by omega)
  exact YieldsK.atSl ht he hv hy hi (hk _ ⟨_, rfl, h4 i hi⟩)
theorem YieldsK.loadC {t : TypeId} {desc : TypeDesc} (hu : P.underlying t = some desc) (hd : (match desc with | .struct _ | .array _ _ => false | _ => true) = true) {x : Operand} {v : Value} (hx : PCell v (evalR ρ x) w) (hk : K v w) : YieldsK P K ((execOp (evalR ρ) ⟨d, .load t x, ty, pos, af, gd⟩).run P w) := by
  obtain ⟨a, ha, hc⟩ := hx
  exact YieldsK.cell1 hu hd ha hc hk
/-- A comparison for equality of two numbers. -/
theorem YieldsK.eqI {op : BinOp} {t ty2 : TypeId} {x y : Operand} {k : IntKind} {a b : Int} {v : Value} (hx : evalR ρ x = .int k a) (hy : evalR ρ y = .int k b) (hr : Go.binOp op t (.int k a) (.int k b) = pure v) (hk : K v w) : YieldsK P K ((execOp (evalR ρ) ⟨d, .binOp op t x y ty2, ty, pos, af, gd⟩).run P w) := by
  have hg : eqGuard op t x y (.int k a) (.int k b) = pure () := by
    unfold eqGuard
    cases op <;> rfl
  refine YieldsK.value (v := v) (w' := w) ?_ hk
  unfold execOp
  simp only [hx, hy, hg, hr, Sem.run_bind, Sem.run_pure, Result.andThen_ok]
theorem YieldsK.notB {t : TypeId} {x : Operand} {b : Bool} (hx : evalR ρ x = .bool b) (hk : K (.bool (!b)) w) : YieldsK P K ((execOp (evalR ρ) ⟨d, .unOp .not t x, ty, pos, af, gd⟩).run P w) := by
  refine YieldsK.value (v := .bool (!b)) (w' := w) ?_ hk
  unfold execOp
  simp [hx, Op.unary]
/-- An operation by its run. -/
theorem YieldsK.run {o : Oper} {v : Value} (hr : (execOp (evalR ρ) o).run P w = .ok (.value v) w) (hk : K v w) : YieldsK P K ((execOp (evalR ρ) o).run P w) := by rw [hr]; exact hk
theorem convI {src dst : TypeId} {ks kd : IntKind} (hs : P.underlying src = some (.int ks)) (hd : P.underlying dst = some (.int kd)) (a : Int) (w : World) : (convert src dst (.int ks a)).run P w = .ok (.int kd (kd.wrap a)) w := by
  simp only [convert, Sem.run_bind, run_underlying hs, run_underlying hd, Result.andThen_ok, Conv.intToInt, Sem.run_pure]
theorem YieldsK.convI {src dst : TypeId} {ks kd : IntKind} (hs : P.underlying src = some (.int ks)) (hd : P.underlying dst = some (.int kd)) {x : Operand} {a b : Int} (hx : evalR ρ x = .int ks a) (hb : kd.wrap a = b) (hk : K (.int kd b) w) : YieldsK P K ((execOp (evalR ρ) ⟨d, .convert src dst x, ty, pos, af, gd⟩).run P w) := by
  refine YieldsK.value (v := .int kd b) (w' := w) ?_ hk
  have := Go.Proofs.Ytfjmbcjcgdfkfaa.convI (P := P) hs hd a w
  unfold execOp
  simp only [hx, Sem.run_bind, this, Result.andThen_ok, Sem.run_pure, hb]
/-- append onto a row of the call's own. -/
theorem YieldsK.appendRB (s x : Operand) {t tx e e' : TypeId} (base : Nat) (z : Value) (ht : P.underlying t = some (.slice e)) (hi : (P.info? e).map (fun i => (i.zero, i.size, i.bytes)) = some (some z, 1, 1)) (hzs : z.cells.size = 1) (hu : P.underlying tx = some (.slice e'))
    (l m : List UInt8) (hown : w.ownsRow base e 1 (evalR ρ s) l.length (Lib.byteCells l)) (hsrc : RB w (evalR ρ x) m) (hb : l.length + m.length ≤ 140737488355328) (hbase : base ≤ w.heap.size)
    (h : ∀ v' w', w'.ownsRow base e 1 v' (l ++ m).length (Lib.byteCells (l ++ m)) → Grew w w' (evalR ρ s) v' → K v' w') : YieldsK P K ((execOp (evalR ρ) ⟨d, .call ⟨.builtin .append, #[s, x], #[t, tx]⟩, ty, pos, af, gd⟩).run P w) :=
  YieldsK.append s x base e z 1 1 ht hi hzs l.length (Lib.byteCells l) hown m.length (Lib.byteCells m) (hsrc.src hu) (by unfold maxLen; omega) (by omega) hbase fun v' w' ho g => h v' w' (by rw [List.length_append, Lib.byteCells_append]; exact ho) g
theorem YieldsK.appendStr (s x : Operand) {t tx e : TypeId} (base : Nat) (z : Value) (ht : P.underlying t = some (.slice e)) (hi : (P.info? e).map (fun i => (i.zero, i.size, i.bytes)) = some (some z, 1, 1)) (hzs : z.cells.size = 1) (hu : P.underlying tx = some .string)
    (l m : List UInt8) (hown : w.ownsRow base e 1 (evalR ρ s) l.length (Lib.byteCells l)) (hsrc : evalR ρ x = .string ⟨m.toArray⟩) (hb : l.length + m.length ≤ 140737488355328) (hbase : base ≤ w.heap.size)
    (h : ∀ v' w', w'.ownsRow base e 1 v' (l ++ m).length (Lib.byteCells (l ++ m)) → Grew w w' (evalR ρ s) v' → K v' w') : YieldsK P K ((execOp (evalR ρ) ⟨d, .call ⟨.builtin .append, #[s, x], #[t, tx]⟩, ty, pos, af, gd⟩).run P w) :=
  YieldsK.append s x base e z 1 1 ht hi hzs l.length (Lib.byteCells l) hown m.length (Lib.byteCells m) (by rw [hsrc]; exact srcString hu w ⟨m.toArray⟩) (by unfold maxLen; omega) (by omega) hbase fun v' w' ho g => h v' w' (by rw [List.length_append, Lib.byteCells_append]; exact ho) g
/-- A new row that holds a list of values. -/
theorem YieldsK.lits {t e : TypeId} {n : Nat} {parts : Array (Nat × Operand)} {cs : Array Value} (hr : ∀ w : World, (Instr.buildSlice t n (parts.map fun (i, x) => (i, evalR ρ x))).run P w = .ok (.slice (some ⟨w.heap.size, 0, none⟩) n n) (w.alloc (.cells cs e)))
    (hk : ∀ b w', w.heap.size = b → w'.heap[b]? = some (.cells cs e (0, 0)) → Ext w w' → w'.heap.size = b + 1 → K (.slice (some ⟨b, 0, none⟩) n n) w') : YieldsK P K ((execOp (evalR ρ) ⟨d, .buildSlice t n parts, ty, pos, af, gd⟩).run P w) := by
  have hr' : (execOp (evalR ρ) ⟨d, .buildSlice t n parts, ty, pos, af, gd⟩).run P w = .ok (.value (.slice (some ⟨w.heap.size, 0, none⟩) n n)) (w.alloc (.cells cs e)) := by
    unfold execOp
    simp only [Sem.run_bind, hr, Result.andThen_ok, Sem.run_pure]
  rw [hr']
  exact hk _ _ rfl (heap_alloc_new w _) ((Below.refl _ _).alloc (Nat.le_refl _) _) (by simp)
theorem newB_lit (w : World) (e : TypeId) (l : List UInt8) (hl : l.length ≤ 9223372036854775807) : NewB e w (w.alloc (.cells (Lib.byteCells l).toArray e)) (.slice (some ⟨w.heap.size, 0, none⟩) l.length l.length) l :=
  ⟨⟨by rw [Lib.byteCells_length]; simp, .inr ⟨w.heap.size, l.length, (Lib.byteCells l).toArray, rfl, Nat.le_refl _, heap_alloc_new w _, Nat.le_refl _, hl, by simp [Lib.byteCells_length], by rw [show l.length * 1 = (Lib.byteCells l).length by rw [Lib.byteCells_length]; simp]; exact List.take_length⟩⟩, World.grownBy_alloc _ _ none⟩
/-- A call, its arguments as they stand. -/
theorem YieldsK.callA {f : FuncId} (hp : Plain P f) {args : Array Operand} {at_ : Array TypeId} (vs : List Value) (hv : args.toList.map (evalR ρ) = vs)
    (h : Calls P f vs.toArray w fun e w' => ∃ v, e = .returned v ∧ K v w') : YieldsK P K ((execOp (evalR ρ) ⟨d, .call ⟨.value (.func f), args, at_⟩, ty, pos, af, gd⟩).run P w) := by
  subst hv
  have := YieldsK.call (P := P) (K := K) hp (ρ := ρ) (args := args.toList) (at_ := at_) (dst := d) (ty := ty) (pos := pos) (af := af) (gd := gd) (w := w) h
  simpa using this
theorem YieldsK.callA0 {f : FuncId} (hp : Plain P f) {at_ : Array TypeId}
    (h : Calls P f #[] w fun e w' => ∃ v, e = .returned v ∧ K v w') : YieldsK P K ((execOp (evalR ρ) ⟨d, .call ⟨.value (.func f), #[], at_⟩, ty, pos, af, gd⟩).run P w) :=
  YieldsK.callA hp [] (by simp) h
theorem YieldsK.callA1 {f : FuncId} (hp : Plain P f) {x0 : Operand} {v0 : Value} {at_ : Array TypeId} (h0 : evalR ρ x0 = v0)
    (h : Calls P f #[v0] w fun e w' => ∃ v, e = .returned v ∧ K v w') : YieldsK P K ((execOp (evalR ρ) ⟨d, .call ⟨.value (.func f), #[x0], at_⟩, ty, pos, af, gd⟩).run P w) :=
  YieldsK.callA hp [v0] (by simp [h0]) h
theorem YieldsK.callA2 {f : FuncId} (hp : Plain P f) {x0 x1 : Operand} {v0 v1 : Value} {at_ : Array TypeId} (h0 : evalR ρ x0 = v0) (h1 : evalR ρ x1 = v1)
    (h : Calls P f #[v0, v1] w fun e w' => ∃ v, e = .returned v ∧ K v w') : YieldsK P K ((execOp (evalR ρ) ⟨d, .call ⟨.value (.func f), #[x0, x1], at_⟩, ty, pos, af, gd⟩).run P w) :=
  YieldsK.callA hp [v0, v1] (by simp [h0, h1]) h
theorem YieldsK.callA3 {f : FuncId} (hp : Plain P f) {x0 x1 x2 : Operand} {v0 v1 v2 : Value} {at_ : Array TypeId} (h0 : evalR ρ x0 = v0) (h1 : evalR ρ x1 = v1) (h2 : evalR ρ x2 = v2)
    (h : Calls P f #[v0, v1, v2] w fun e w' => ∃ v, e = .returned v ∧ K v w') : YieldsK P K ((execOp (evalR ρ) ⟨d, .call ⟨.value (.func f), #[x0, x1, x2], at_⟩, ty, pos, af, gd⟩).run P w) :=
  YieldsK.callA hp [v0, v1, v2] (by simp [h0, h1, h2]) h
theorem YieldsK.callA4 {f : FuncId} (hp : Plain P f) {x0 x1 x2 x3 : Operand} {v0 v1 v2 v3 : Value} {at_ : Array TypeId} (h0 : evalR ρ x0 = v0) (h1 : evalR ρ x1 = v1) (h2 : evalR ρ x2 = v2) (h3 : evalR ρ x3 = v3)
    (h : Calls P f #[v0, v1, v2, v3] w fun e w' => ∃ v, e = .returned v ∧ K v w') : YieldsK P K ((execOp (evalR ρ) ⟨d, .call ⟨.value (.func f), #[x0, x1, x2, x3], at_⟩, ty, pos, af, gd⟩).run P w) :=
  YieldsK.callA hp [v0, v1, v2, v3] (by simp [h0, h1, h2, h3]) h
theorem YieldsK.callA5 {f : FuncId} (hp : Plain P f) {x0 x1 x2 x3 x4 : Operand} {v0 v1 v2 v3 v4 : Value} {at_ : Array TypeId} (h0 : evalR ρ x0 = v0) (h1 : evalR ρ x1 = v1) (h2 : evalR ρ x2 = v2) (h3 : evalR ρ x3 = v3) (h4 : evalR ρ x4 = v4)
    (h : Calls P f #[v0, v1, v2, v3, v4] w fun e w' => ∃ v, e = .returned v ∧ K v w') : YieldsK P K ((execOp (evalR ρ) ⟨d, .call ⟨.value (.func f), #[x0, x1, x2, x3, x4], at_⟩, ty, pos, af, gd⟩).run P w) :=
  YieldsK.callA hp [v0, v1, v2, v3, v4] (by simp [h0, h1, h2, h3, h4]) h
theorem YieldsK.callA6 {f : FuncId} (hp : Plain P f) {x0 x1 x2 x3 x4 x5 : Operand} {v0 v1 v2 v3 v4 v5 : Value} {at_ : Array TypeId} (h0 : evalR ρ x0 = v0) (h1 : evalR ρ x1 = v1) (h2 : evalR ρ x2 = v2) (h3 : evalR ρ x3 = v3) (h4 : evalR ρ x4 = v4) (h5 : evalR ρ x5 = v5)
    (h : Calls P f #[v0, v1, v2, v3, v4, v5] w fun e w' => ∃ v, e = .returned v ∧ K v w') : YieldsK P K ((execOp (evalR ρ) ⟨d, .call ⟨.value (.func f), #[x0, x1, x2, x3, x4, x5], at_⟩, ty, pos, af, gd⟩).run P w) :=
  YieldsK.callA hp [v0, v1, v2, v3, v4, v5] (by simp [h0, h1, h2, h3, h4, h5]) h
theorem YieldsK.callA7 {f : FuncId} (hp : Plain P f) {x0 x1 x2 x3 x4 x5 x6 : Operand} {v0 v1 v2 v3 v4 v5 v6 : Value} {at_ : Array TypeId} (h0 : evalR ρ x0 = v0) (h1 : evalR ρ x1 = v1) (h2 : evalR ρ x2 = v2) (h3 : evalR ρ x3 = v3) (h4 : evalR ρ x4 = v4) (h5 : evalR ρ x5 = v5) (h6 : evalR ρ x6 = v6)
    (h : Calls P f #[v0, v1, v2, v3, v4, v5, v6] w fun e w' => ∃ v, e = .returned v ∧ K v w') : YieldsK P K ((execOp (evalR ρ) ⟨d, .call ⟨.value (.func f), #[x0, x1, x2, x3, x4, x5, x6], at_⟩, ty, pos, af, gd⟩).run P w) :=
  YieldsK.callA hp [v0, v1, v2, v3, v4, v5, v6] (by simp [h0, h1, h2, h3, h4, h5, h6]) h
/-- string(b). -/
theorem YieldsK.convRB {src dst e : TypeId} (hs : P.underlying src = some (.slice e)) (he : P.underlying e = some (.int .u8)) (hd : P.underlying dst = some .string) {x : Operand} {l : List UInt8}
    (h : RB w (evalR ρ x) l) (hk : K (.string ⟨l.toArray⟩) w) : YieldsK P K ((execOp (evalR ρ) ⟨d, .convert src dst x, ty, pos, af, gd⟩).run P w) := by
  have hr := run_conv (P := P) hs he hd h
  refine YieldsK.value (v := .string ⟨l.toArray⟩) (w' := w) ?_ hk
  unfold execOp
  simp only [Sem.run_bind, hr, Result.andThen_ok, Sem.run_pure]
theorem RB.of {v x : Value} {l : List UInt8} (h : RB w v l) (e : x = v) : RB w x l := by rw [e]; exact h
theorem PCell.of {v x y : Value} (h : PCell v x w) (e : y = x) : PCell v y w := by rw [e]; exact h
theorem own_of {v x : Value} {b : Nat} {e : TypeId} {z n : Nat} {xs : List Value} (h : w.ownsRow b e z v n xs) (e' : x = v) : w.ownsRow b e z x n xs := by rw [e']; exact h
theorem opsF_end {Q : PostF} {ops : Array Oper} {n : Nat} (F : Slots → Prop) (hF : F ρ) (h : ∀ ρ', F ρ' → Q .normal ρ' w) : opsF P ops n Q [] ρ w := opsF_nil (h ρ hF)
/-- What was there ahead of an owned row is as it was when that one has grown. -/
theorem ext_grew {w0 w w' : World} {v v' : Value} {b : Nat} {e : TypeId} {z n : Nat} {xs : List Value} (h : Ext w0 w) (g : Grew w w' v v') (ho : w.ownsRow b e z v n xs) (hb : w0.heap.size ≤ b) : Ext w0 w' :=
  Below.grown h g.by_ h.size (fun k hk => Nat.le_trans hb (ho.lt k hk).1)
theorem blk_grew {w w' : World} {v v' : Value} {g : Nat} {o : Obj} (h : w.heap[g]? = some o) (gr : Grew w w' v v') (hne : v.ownBlock ≠ some g) : w'.heap[g]? = some o :=
  (gr.by_.block g (Array.getElem?_eq_some_iff.1 h).1 (fun e => hne e.symm)).trans h
theorem own_older {w : World} {v : Value} {b : Nat} {e : TypeId} {z n : Nat} {xs : List Value} {g : Nat} (ho : w.ownsRow b e z v n xs) (hg : g < b) : v.ownBlock ≠ some g := fun h => by have := (ho.lt g h).1; omega
theorem own_newer {w : World} {v : Value} {b : Nat} {e : TypeId} {z n : Nat} {xs : List Value} {g : Nat} (ho : w.ownsRow b e z v n xs) (hg : w.heap.size ≤ g) : v.ownBlock ≠ some g := fun h => by have := (ho.lt g h).2; omega
theorem apart_grew {w w' : World} {v v' : Value} {g : Nat} (gr : Grew w w' v v') (h : v.ownBlock ≠ some g) (hg : g < w.heap.size) : v'.ownBlock ≠ some g := fun h' => by
  rcases gr.fresh g h' with h1 | h1
  · exact h h1
  · omega
theorem own_kept {w w' : World} {v : Value} {b : Nat} {e : TypeId} {z n : Nat} {xs : List Value} {g : Nat} (ho : w.ownsRow b e z v n xs) (h : w.grownBy w' (some g)) (hne : v.ownBlock ≠ some g) : w'.ownsRow b e z v n xs :=
  ho.kept h (.inr hne)
/-- A new row of bytes, its elements as they stand. -/
theorem YieldsK.lit1 {t e : TypeId} (hr : ∀ (z : Int) (w : World), (Instr.buildSlice t 1 #[(0, .int .u8 z)]).run P w = .ok (.slice (some ⟨w.heap.size, 0, none⟩) 1 1) (w.alloc (.cells #[.int .u8 z] e))) {x : Operand} {b : UInt8} (hx : evalR ρ x = B8 b)
    (hk : ∀ v w', NewB e w w' v [b] → K v w') : YieldsK P K ((execOp (evalR ρ) ⟨d, .buildSlice t 1 #[(0, x)], ty, pos, af, gd⟩).run P w) := by
  have hr' : (execOp (evalR ρ) ⟨d, .buildSlice t 1 #[(0, x)], ty, pos, af, gd⟩).run P w = .ok (.value (.slice (some ⟨w.heap.size, 0, none⟩) 1 1)) (w.alloc (.cells #[B8 b] e)) := by
    have := hr (b.toNat : Int) w
    unfold execOp
    simp only [List.map_toArray, List.map_cons, List.map_nil, hx, Sem.run_bind]
    rw [this]
    rfl
  rw [hr']
  exact hk _ _ (newB_lit w e [b] (by simp))
theorem YieldsK.lit0 {t e : TypeId} (hr : ∀ (w : World), (Instr.buildSlice t 0 #[]).run P w = .ok (.slice (some ⟨w.heap.size, 0, none⟩) 0 0) (w.alloc (.cells #[] e)))
    (hk : ∀ v w', NewB e w w' v [] → K v w') : YieldsK P K ((execOp (evalR ρ) ⟨d, .buildSlice t 0 #[], ty, pos, af, gd⟩).run P w) := by
  have hr' : (execOp (evalR ρ) ⟨d, .buildSlice t 0 #[], ty, pos, af, gd⟩).run P w = .ok (.value (.slice (some ⟨w.heap.size, 0, none⟩) 0 0)) (w.alloc (.cells #[] e)) := by
    unfold execOp
    simp only [List.map_toArray, List.map_nil, Sem.run_bind, hr, Result.andThen_ok, Sem.run_pure]
  rw [hr']
  exact hk _ _ (newB_lit w e [] (by decide))
theorem YieldsK.litN {t e : TypeId} {n : Nat} {parts : Array (Nat × Operand)} (l : List UInt8) (hl : l.length ≤ 9223372036854775807) (hr : ∀ (σ : Slots) (w : World), (execOp (evalR σ) ⟨d, .buildSlice t n parts, ty, pos, af, gd⟩).run P w = .ok (.value (.slice (some ⟨w.heap.size, 0, none⟩) l.length l.length)) (w.alloc (.cells (Lib.byteCells l).toArray e)))
    (hk : ∀ v w', NewB e w w' v l → K v w') : YieldsK P K ((execOp (evalR ρ) ⟨d, .buildSlice t n parts, ty, pos, af, gd⟩).run P w) := by
  rw [hr]
  exact hk _ _ (newB_lit w e l hl)
theorem byte_at {l : List UInt8} {i : Nat} (hi : i < l.length) : (Lib.byteCells l)[i]? = some (B8 (l.getD i 0)) := by simp [Lib.byteCells, hi]
theorem word_at {l : List UInt32} {i : Nat} (hi : i < l.length) : (l.map fun x => U x)[i]? = some (U (l.getD i 0)) := by simp [hi]
theorem byteCells_set (l : List UInt8) (i : Nat) (x : UInt8) : (Lib.byteCells l).set i (B8 x) = Lib.byteCells (l.set i x) := by simp [Lib.byteCells, List.map_set]
theorem cellAt {b : Nat} {l : List Value} {t : TypeId} {fr : Nat × Nat} (h : w.heap[b]? = some (.cells l.toArray t fr)) {i : Nat} {v : Value} (hi : l[i]? = some v) : w.cell? ⟨b, i, none⟩ = some v := by
  simp [World.cell?, h, hi]
/-- A cell of a known row is stored. -/
theorem YieldsK.storeC {t' : TypeId} {x y : Operand} {g i : Nat} {cs : List Value} {t : TypeId} {v : Value} (hx : evalR ρ x = .pointer (some ⟨g, i, none⟩)) (hy : evalR ρ y = v) (hg : w.heap[g]? = some (.cells cs.toArray t (0, 0))) (hi : i < cs.length) (hinfo : (P.info? t').map (·.size) = some 1) (hv : v.cells = #[v]) (h1 : v.oneCell' = true)
    (hk : ∀ w', w'.heap[g]? = some (.cells (cs.set i v).toArray t (0, 0)) → w.grownBy w' (some g) → w'.heap.size = w.heap.size → K undef w') : YieldsK P K ((execOp (evalR ρ) ⟨d, .store t' x y, ty, pos, af, gd⟩).run P w) := by
  have hst := run_storeCells_at P g i t [v] 0 cs.toArray w hg (by simp; omega) (by simpa using h1)
  have e : (cs.toArray.toList.take (i + 0) ++ [v] ++ cs.toArray.toList.drop (i + 0 + [v].length)) = cs.set i v := by
    rw [List.set_eq_take_append_cons_drop, if_pos hi]
    simp
  rw [e] at hst
  have hr : (Instr.storeAt t' (.pointer (some ⟨g, i, none⟩)) v).run P w = .ok () (w.setRow g (cs.set i v).toArray) := by
    cases hq : P.info? t' with
    | none => simp [hq] at hinfo
    | some q =>
      have hs : q.size = 1 := by simp [hq] at hinfo; omega
      simp [Instr.storeAt, Instr.sureAddr, storeVar, sizeOf, typeInfo, hq, hv, hs, hst]
  unfold execOp
  simp only [hx, hy, hr, Sem.run_bind, Result.andThen_ok, Sem.run_pure]
  exact hk _ (setRow_heap w g cs.toArray _ t (0, 0) hg) ⟨rfl, rfl, rfl, by simp, fun k _ hk => setRow_other w g k _ (fun e => hk (by rw [e]))⟩ (by simp)
theorem YieldsK.storeB8 {t' : TypeId} {x y : Operand} {g i : Nat} {l : List UInt8} {t : TypeId} {v : UInt8} (hx : evalR ρ x = .pointer (some ⟨g, i, none⟩)) (hy : evalR ρ y = B8 v) (hg : w.heap[g]? = some (.cells (Lib.byteCells l).toArray t (0, 0))) (hi : i < l.length) (hinfo : (P.info? t').map (·.size) = some 1)
    (hk : ∀ w', w'.heap[g]? = some (.cells (Lib.byteCells (l.set i v)).toArray t (0, 0)) → w.grownBy w' (some g) → w'.heap.size = w.heap.size → K undef w') : YieldsK P K ((execOp (evalR ρ) ⟨d, .store t' x y, ty, pos, af, gd⟩).run P w) :=
  YieldsK.storeC hx hy hg (by rw [Lib.byteCells_length]; exact hi) hinfo rfl rfl fun w' h1 h2 h3 => hk w' (by rw [← byteCells_set]; exact h1) h2 h3
theorem YieldsK.storeU32 {t' : TypeId} {x y : Operand} {g i : Nat} {l : List UInt32} {t : TypeId} {v : UInt32} (hx : evalR ρ x = .pointer (some ⟨g, i, none⟩)) (hy : evalR ρ y = U v) (hg : w.heap[g]? = some (.cells (l.map fun x => U x).toArray t (0, 0))) (hi : i < l.length) (hinfo : (P.info? t').map (·.size) = some 1)
    (hk : ∀ w', w'.heap[g]? = some (.cells ((l.set i v).map fun x => U x).toArray t (0, 0)) → w.grownBy w' (some g) → w'.heap.size = w.heap.size → K undef w') : YieldsK P K ((execOp (evalR ρ) ⟨d, .store t' x y, ty, pos, af, gd⟩).run P w) :=
  YieldsK.storeC hx hy hg (by simpa using hi) hinfo rfl rfl fun w' h1 h2 h3 => hk w' (by rw [List.map_set]; exact h1) h2 h3
/-- A whole row is stored. -/
theorem YieldsK.storeAll {t' : TypeId} {x y : Operand} {g : Nat} {cells cur : Array Value} {t : TypeId} (hx : evalR ρ x = .pointer (some ⟨g, 0, none⟩)) (hy : evalR ρ y = .agg cells) (hg : w.heap[g]? = some (.cells cur t (0, 0))) (hs : cells.size = cur.size) (hi : (P.info? t').map (·.size) = some cells.size) (h1 : ∀ v ∈ cells.toList, v.oneCell' = true)
    (hk : ∀ w', w'.heap[g]? = some (.cells cells t (0, 0)) → w.grownBy w' (some g) → w'.heap.size = w.heap.size → K undef w') : YieldsK P K ((execOp (evalR ρ) ⟨d, .store t' x y, ty, pos, af, gd⟩).run P w) := by
  have hr := run_storeAt_row (P := P) w g t' cells cur t hg hs hi h1
  unfold execOp
  simp only [hx, hy, hr, Sem.run_bind, Result.andThen_ok, Sem.run_pure]
  exact hk _ (setRow_heap w g cur cells t (0, 0) hg) ⟨rfl, rfl, rfl, by simp, fun k _ hk => setRow_other w g k _ (fun e => hk (by rw [e]))⟩ (by simp)
/-- A whole row is loaded. -/
theorem YieldsK.loadAll {t' : TypeId} {x : Operand} {g : Nat} {cs : Array Value} {t : TypeId} {fr : Nat × Nat} {de : TypeDesc} (hx : evalR ρ x = .pointer (some ⟨g, 0, none⟩)) (hg : w.heap[g]? = some (.cells cs t fr)) (hu : P.underlying t' = some de) (hd : (match de with | .struct _ | .array _ _ => true | _ => false) = true) (hi : (P.info? t').map (·.size) = some cs.size)
    (hk : K (.agg cs) w) : YieldsK P K ((execOp (evalR ρ) ⟨d, .load t' x, ty, pos, af, gd⟩).run P w) := by
  have hr := run_loadVar_row w g t t' cs fr de hg hu hd hi
  refine YieldsK.value (v := .agg cs) (w' := w) ?_ hk
  unfold execOp
  simp [hx, Instr.loadAt, Instr.sureAddr, hr]
/-- The length of a slice. -/
def sliceLen : Value → Nat
  | .slice _ n _ => n
  | _ => 0
theorem own_sliceLen {b : Nat} {e : TypeId} {z n : Nat} {xs : List Value} {v : Value} (h : w.ownsRow b e z v n xs) : sliceLen v = n := by
  rcases h.2 with ⟨rfl, h0⟩ | ⟨g, cap, cur, rfl, -⟩
  · exact h0.symm
  · rfl
theorem RB.sliceLen {v : Value} {l : List UInt8} (h : RB w v l) : sliceLen v = l.length := by
  obtain ⟨-, ao, cap, rfl, -⟩ := h
  rfl
theorem own_eq {b : Nat} {e : TypeId} {v : Value} {l l' : List UInt8} (h : w.ownsRow b e 1 v l.length (Lib.byteCells l)) (e' : l = l') : w.ownsRow b e 1 v l'.length (Lib.byteCells l') := by rw [← e']; exact h
theorem blk_eq {g : Nat} {l l' : List Value} {t : TypeId} {fr : Nat × Nat} (h : w.heap[g]? = some (.cells l.toArray t fr)) (e : l = l') : w.heap[g]? = some (.cells l'.toArray t fr) := by rw [← e]; exact h
theorem blk_b8 {g : Nat} {l l' : List UInt8} {t : TypeId} {fr : Nat × Nat} (h : w.heap[g]? = some (.cells (Lib.byteCells l).toArray t fr)) (e : l = l') : w.heap[g]? = some (.cells (Lib.byteCells l').toArray t fr) := by rw [← e]; exact h
theorem reslice_own {v : Value} {ao : Option Addr} {n c : Nat} (h : (Value.slice ao n c).ownBlock = v.ownBlock) : (Value.slice ao n c).ownBlock = v.ownBlock := h
/-- b[l:] -/
theorem YieldsK.sliceLo {t e : TypeId} (ht : P.underlying t = some (.slice e)) (he : ∀ w' : World, (sizeOf e).run P w' = .ok 1 w') {x lo : Operand} {v : Value} {xs : List UInt8} (hx : evalR ρ x = v) (h : RB w v xs) {k : IntKind} {l : Nat} (hlo : evalR ρ lo = .int k (l : Int)) (hl : l ≤ xs.length)
    (hk : ∀ v', RB w v' (xs.drop l) → v'.ownBlock = v.ownBlock → K v' w) : YieldsK P K ((execOp (evalR ρ) ⟨d, .slice t x (some lo) none none, ty, pos, af, gd⟩).run P w) := by
  obtain ⟨ao, c, ⟨hrun, hb⟩, hR⟩ := run_reslice_readsB ht he h (some (.int k l)) none l xs.length hl (Nat.le_refl _) (.inr ⟨k, rfl⟩) (.inl ⟨rfl, rfl⟩)
  have hR' := RB.take_drop (Nat.le_refl _) hR
  rw [List.take_of_length_le (by rw [List.length_drop]; exact Nat.le_refl _)] at hR'
  refine YieldsK.value (v := .slice ao (xs.length - l) c) (w' := w) ?_ (hk _ hR' hb)
  unfold execOp
  simp only [hx, hlo, Option.map_some, Option.map_none, hrun, Sem.run_bind, Sem.run_pure, Result.andThen_ok]
/-- b[:h] -/
theorem YieldsK.sliceHi {t e : TypeId} (ht : P.underlying t = some (.slice e)) (he : ∀ w' : World, (sizeOf e).run P w' = .ok 1 w') {x hi : Operand} {v : Value} {xs : List UInt8} (hx : evalR ρ x = v) (h : RB w v xs) {k : IntKind} {n : Nat} (hhi : evalR ρ hi = .int k (n : Int)) (hn : n ≤ xs.length)
    (hk : ∀ v', RB w v' (xs.take n) → v'.ownBlock = v.ownBlock → K v' w) : YieldsK P K ((execOp (evalR ρ) ⟨d, .slice t x none (some hi) none, ty, pos, af, gd⟩).run P w) := by
  obtain ⟨ao, c, ⟨hrun, hb⟩, hR⟩ := run_reslice_readsB ht he h none (some (.int k n)) 0 n (Nat.zero_le _) hn (.inl ⟨rfl, rfl⟩) (.inr ⟨k, rfl⟩)
  have hR' := RB.take_drop hn hR
  rw [List.drop_zero, Nat.sub_zero] at hR'
  refine YieldsK.value (v := .slice ao (n - 0) c) (w' := w) ?_ (hk _ hR' hb)
  unfold execOp
  simp only [hx, hhi, Option.map_some, Option.map_none, hrun, Sem.run_bind, Sem.run_pure, Result.andThen_ok]
/-- b[l:h] -/
theorem YieldsK.sliceLH {t e : TypeId} (ht : P.underlying t = some (.slice e)) (he : ∀ w' : World, (sizeOf e).run P w' = .ok 1 w') {x lo hi : Operand} {v : Value} {xs : List UInt8} (hx : evalR ρ x = v) (h : RB w v xs) {k k' : IntKind} {l n : Nat} (hlo : evalR ρ lo = .int k (l : Int)) (hhi : evalR ρ hi = .int k' (n : Int)) (hl : l ≤ n) (hn : n ≤ xs.length)
    (hk : ∀ v', RB w v' ((xs.drop l).take (n - l)) → v'.ownBlock = v.ownBlock → K v' w) : YieldsK P K ((execOp (evalR ρ) ⟨d, .slice t x (some lo) (some hi) none, ty, pos, af, gd⟩).run P w) := by
  obtain ⟨ao, c, ⟨hrun, hb⟩, hR⟩ := run_reslice_readsB ht he h (some (.int k l)) (some (.int k' n)) l n hl hn (.inr ⟨k, rfl⟩) (.inr ⟨k', rfl⟩)
  refine YieldsK.value (v := .slice ao (n - l) c) (w' := w) ?_ (hk _ (RB.take_drop hn hR) hb)
  unfold execOp
  simp only [hx, hlo, hhi, Option.map_some, Option.map_none, hrun, Sem.run_bind, Sem.run_pure, Result.andThen_ok]
/-- A row's first cells are stored over. -/
theorem YieldsK.storeHd {t' : TypeId} {x y : Operand} {g : Nat} {cells : Array Value} {cur : List Value} {t : TypeId} (hx : evalR ρ x = .pointer (some ⟨g, 0, none⟩)) (hy : evalR ρ y = .agg cells) (hg : w.heap[g]? = some (.cells cur.toArray t (0, 0))) (hs : cells.size ≤ cur.length) (hi : (P.info? t').map (·.size) = some cells.size) (h1 : ∀ v ∈ cells.toList, v.oneCell' = true)
    (hk : ∀ w', w'.heap[g]? = some (.cells (cells.toList ++ cur.drop cells.size).toArray t (0, 0)) → w.grownBy w' (some g) → w'.heap.size = w.heap.size → K undef w') : YieldsK P K ((execOp (evalR ρ) ⟨d, .store t' x y, ty, pos, af, gd⟩).run P w) := by
  have hst := run_storeCells_at P g 0 t cells.toList 0 cur.toArray w hg (by simpa using hs) h1
  have e : (cur.toArray.toList.take (0 + 0) ++ cells.toList ++ cur.toArray.toList.drop (0 + 0 + cells.toList.length)).toArray = (cells.toList ++ cur.drop cells.size).toArray := by simp
  rw [e] at hst
  have hr : (Instr.storeAt t' (.pointer (some ⟨g, 0, none⟩)) (.agg cells)).run P w = .ok () (w.setRow g (cells.toList ++ cur.drop cells.size).toArray) := by
    cases hq : P.info? t' with
    | none => simp [hq] at hi
    | some i =>
      have hsz : cells.size = i.size := by simp [hq] at hi; omega
      simp [Instr.storeAt, Instr.sureAddr, storeVar, sizeOf, typeInfo, hq, Value.cells, hsz, hst]
  unfold execOp
  simp only [hx, hy, hr, Sem.run_bind, Result.andThen_ok, Sem.run_pure]
  exact hk _ (setRow_heap w g cur.toArray _ t (0, 0) hg) ⟨rfl, rfl, rfl, by simp, fun k _ hk => setRow_other w g k _ (fun e => hk (by rw [e]))⟩ (by simp)
/-- Cells out of the middle of a row, as an array. -/
theorem YieldsK.loadPart {t' : TypeId} {x : Operand} {g o : Nat} {cs : List Value} {de : TypeDesc} (hx : evalR ρ x = .pointer (some ⟨g, o, none⟩)) (hc : w.rangeAt g o cs) (hu : P.underlying t' = some de) (hd : de.isRow = true) (hi : (P.info? t').map (·.size) = some cs.length)
    (hk : K (.agg cs.toArray) w) : YieldsK P K ((execOp (evalR ρ) ⟨d, .load t' x, ty, pos, af, gd⟩).run P w) := by
  refine YieldsK.value (v := .agg cs.toArray) (w' := w) ?_ hk
  simp only [execOp, hx, Sem.run_bind, run_loadAt_mid w g o t' cs de hc hu hd hi, Result.andThen_ok, Sem.run_pure]
section
variable {Q : PostF} {K : Slots → World → Prop}
theorem thenF_normal (h : K ρ w) : thenF K Q .normal ρ w := h
theorem thenF_exit {i : Nat} (h : Q (.exit i) ρ w) : thenF K Q (.exit i) ρ w := h
theorem thenF_ret (h : Q .ret ρ w) : thenF K Q .ret ρ w := h
theorem inBlockF_normal {i : Nat} (h : Q .normal ρ w) : inBlockF i Q .normal ρ w := h
theorem inBlockF_ret {i : Nat} (h : Q .ret ρ w) : inBlockF i Q .ret ρ w := h
theorem inBlockF_hit {i : Nat} (h : Q .normal ρ w) : inBlockF i Q (.exit i) ρ w := by
  simp only [inBlockF, if_true]
  exact h
theorem inBlockF_miss {i j : Nat} (hij : (Nat.beq j i) = false) (h : Q (.exit j) ρ w) : inBlockF i Q (.exit j) ρ w := by
  simp only [inBlockF]
  rw [if_neg (fun e => by subst e; simp at hij)]
  exact h
theorem noGotoF_normal (h : Q .normal ρ w) : noGotoF Q .normal ρ w := h
theorem noGotoF_ret (h : Q .ret ρ w) : noGotoF Q .ret ρ w := h
theorem noGotoF_exit {i : Nat} (h : Q (.exit i) ρ w) : noGotoF Q (.exit i) ρ w := h
end
/-- An element of an array value. -/
theorem YieldsK.idxA {xType e : TypeId} {n : Nat} (ht : P.underlying xType = some (.array n e)) {de : TypeDesc} (he : P.underlying e = some de) (hd : (match de with | .struct _ | .array _ _ => false | _ => true) = true) (hs : ∀ w' : World, (sizeOf e).run P w' = .ok 1 w') {x y : Operand} {cs : List Value} {v : Value} {i : Nat} {k : IntKind}
    (hx : evalR ρ x = .agg cs.toArray) (hy : evalR ρ y = .int k (i : Int)) (hi : i < n) (hv : cs[i]? = some v) (hk : K v w) : YieldsK P K ((execOp (evalR ρ) ⟨d, .index xType x y, ty, pos, af, gd⟩).run P w) := by
  have hagg : (isAgg e).run P w = .ok false w := by
    unfold isAgg
    rw [Sem.run_bind, run_underlying he w]
    cases de <;> simp_all
  refine YieldsK.value (v := v) (w' := w) ?_ hk
  unfold execOp
  simp only [hx, hy, Instr.index, asIntOf, Sem.run_bind, Sem.run_pure, Result.andThen_ok, run_underlying ht]
  rw [if_pos (by omega)]
  simp [hs, part, hagg, hv]
theorem YieldsK.idxU {xType e : TypeId} {n : Nat} (ht : P.underlying xType = some (.array n e)) {de : TypeDesc} (he : P.underlying e = some de) (hd : (match de with | .struct _ | .array _ _ => false | _ => true) = true) (hs : ∀ w' : World, (sizeOf e).run P w' = .ok 1 w') {x y : Operand} {l : List UInt32} {i : Nat} {k : IntKind}
    (hx : evalR ρ x = .agg (l.map fun x => U x).toArray) (hy : evalR ρ y = .int k (i : Int)) (hi : i < n) (hl : l.length = n) (hk : K (U (l.getD i 0)) w) : YieldsK P K ((execOp (evalR ρ) ⟨d, .index xType x y, ty, pos, af, gd⟩).run P w) :=
  YieldsK.idxA ht he hd hs hx hy hi (word_at (by omega)) hk
theorem YieldsK.idxB {xType e : TypeId} {n : Nat} (ht : P.underlying xType = some (.array n e)) {de : TypeDesc} (he : P.underlying e = some de) (hd : (match de with | .struct _ | .array _ _ => false | _ => true) = true) (hs : ∀ w' : World, (sizeOf e).run P w' = .ok 1 w') {x y : Operand} {l : List UInt8} {i : Nat} {k : IntKind}
    (hx : evalR ρ x = .agg (Lib.byteCells l).toArray) (hy : evalR ρ y = .int k (i : Int)) (hi : i < n) (hl : l.length = n) (hk : K (B8 (l.getD i 0)) w) : YieldsK P K ((execOp (evalR ρ) ⟨d, .index xType x y, ty, pos, af, gd⟩).run P w) :=
  YieldsK.idxA ht he hd hs hx hy hi (byte_at (by omega)) hk
theorem struct_of {t : TypeId} (h : (match P.underlying t with | some (.struct _) => true | _ => false) = true) : ∃ fs, P.underlying t = some (.struct fs) := by
  split at h
  · exact ⟨_, ‹_›⟩
  · cases h
theorem YieldsK.atArr0 {t e : TypeId} {n : Nat} (ht : P.underlying t = some (.array n e)) (he : ∀ w' : World, (sizeOf e).run P w' = .ok 1 w') {x y : Operand} {b i : Nat} {k : IntKind}
    (hx : evalR ρ x = .pointer (some ⟨b, 0, none⟩)) (hy : evalR ρ y = .int k (i : Int)) (hi : i < n) (hk : K (.pointer (some ⟨b, i, none⟩)) w) : YieldsK P K ((execOp (evalR ρ) ⟨d, .indexAddr t x y, ty, pos, af, gd⟩).run P w) :=
  YieldsK.atArr ht he hx hy hi (by rw [Nat.zero_add]; exact hk)
/-- A pointer held against nil. -/
theorem run_ptrNil {t e : TypeId} (ht : P.underlying t = some (.pointer e)) (a : Option Addr) (w : World) : (Op.equal t (.pointer a) (.pointer none)).run P w = .ok a.isNone w := by
  unfold Op.equal
  rw [show Op.maxDepth = (Op.maxDepth - 1) + 1 from rfl]
  cases a <;> simp [Op.equalIn, run_underlying ht, Sem.run_bind, Sem.run_pure]
theorem YieldsK.eqlNil {t e ty2 : TypeId} (ht : P.underlying t = some (.pointer e)) {x : Operand} {a : Option Addr} (hx : evalR ρ x = .pointer a) (hk : K (.bool a.isNone) w) : YieldsK P K ((execOp (evalR ρ) ⟨d, .binOp .eql t x (.const (.pointer none)) ty2, ty, pos, af, gd⟩).run P w) := by
  have hy : evalR ρ (.const (.pointer none)) = .pointer none := rfl
  refine YieldsK.value (v := .bool a.isNone) (w' := w) ?_ hk
  have hr := run_ptrNil ht a w
  unfold execOp
  simp only [hx, hy]
  cases a <;> simp [eqGuard, Go.binOp, hr]
theorem YieldsK.neqNil {t e ty2 : TypeId} (ht : P.underlying t = some (.pointer e)) {x : Operand} {a : Option Addr} (hx : evalR ρ x = .pointer a) (hk : K (.bool !a.isNone) w) : YieldsK P K ((execOp (evalR ρ) ⟨d, .binOp .neq t x (.const (.pointer none)) ty2, ty, pos, af, gd⟩).run P w) := by
  have hy : evalR ρ (.const (.pointer none)) = .pointer none := rfl
  refine YieldsK.value (v := .bool !a.isNone) (w' := w) ?_ hk
  have hr := run_ptrNil ht a w
  unfold execOp
  simp only [hx, hy]
  cases a <;> simp [eqGuard, Go.binOp, hr]
/-- Writes to a row that was not there are none to what was. -/
theorem row_fresh {w0 w1 w2 : World} {g : Nat} (h0 : Ext w0 w1) (h : w1.grownBy w2 (some g)) (hg : w0.heap.size ≤ g) : Ext w0 w2 :=
  Below.grown h0 h h0.size (fun k hk => by cases hk; exact hg)
end

/-! ### Numbers that are not below 0 -/
section
theorem k_lss (t : TypeId) (k : IntKind) (a b : Nat) : Go.binOp .lss t (.int k (a : Int)) (.int k (b : Int)) = pure (.bool (decide (a < b))) := by
  simp [Go.binOp, Op.intCmp]
theorem k_leq (t : TypeId) (k : IntKind) (a b : Nat) : Go.binOp .leq t (.int k (a : Int)) (.int k (b : Int)) = pure (.bool (decide (a ≤ b))) := by
  simp [Go.binOp, Op.intCmp]
theorem k_gtr (t : TypeId) (k : IntKind) (a b : Nat) : Go.binOp .gtr t (.int k (a : Int)) (.int k (b : Int)) = pure (.bool (decide (b < a))) := by
  simp [Go.binOp, Op.intCmp]
theorem k_geq (t : TypeId) (k : IntKind) (a b : Nat) : Go.binOp .geq t (.int k (a : Int)) (.int k (b : Int)) = pure (.bool (decide (b ≤ a))) := by
  simp [Go.binOp, Op.intCmp]
theorem k_eql (t : TypeId) (k : IntKind) (a b : Nat) : Go.binOp .eql t (.int k (a : Int)) (.int k (b : Int)) = pure (.bool (decide (a = b))) := by
  have : ((a : Int) == (b : Int)) = decide (a = b) := by rw [Bool.eq_iff_iff]; simp; omega
  simp [Go.binOp, Op.intCmp, this]
theorem k_neq (t : TypeId) (k : IntKind) (a b : Nat) : Go.binOp .neq t (.int k (a : Int)) (.int k (b : Int)) = pure (.bool (decide (a ≠ b))) := by
  have : ((a : Int) != (b : Int)) = decide (a ≠ b) := by rw [Bool.eq_iff_iff]; simp; omega
  simp [Go.binOp, Op.intCmp, this]
theorem z_lss (t : TypeId) (k : IntKind) (a b : Int) : Go.binOp .lss t (.int k a) (.int k b) = pure (.bool (decide (a < b))) := by simp [Go.binOp, Op.intCmp]
theorem z_leq (t : TypeId) (k : IntKind) (a b : Int) : Go.binOp .leq t (.int k a) (.int k b) = pure (.bool (decide (a ≤ b))) := by simp [Go.binOp, Op.intCmp]
theorem z_gtr (t : TypeId) (k : IntKind) (a b : Int) : Go.binOp .gtr t (.int k a) (.int k b) = pure (.bool (decide (b < a))) := by simp [Go.binOp, Op.intCmp]
theorem z_geq (t : TypeId) (k : IntKind) (a b : Int) : Go.binOp .geq t (.int k a) (.int k b) = pure (.bool (decide (b ≤ a))) := by simp [Go.binOp, Op.intCmp]
theorem z_eql (t : TypeId) (k : IntKind) (a b : Int) : Go.binOp .eql t (.int k a) (.int k b) = pure (.bool (decide (a = b))) := by
  have : (a == b) = decide (a = b) := by rw [Bool.eq_iff_iff]; simp
  simp [Go.binOp, Op.intCmp, this]
theorem z_neq (t : TypeId) (k : IntKind) (a b : Int) : Go.binOp .neq t (.int k a) (.int k b) = pure (.bool (decide (a ≠ b))) := by
  have : (a != b) = decide (a ≠ b) := by rw [Bool.eq_iff_iff]; simp
  simp [Go.binOp, Op.intCmp, this]
theorem wrap_i64 (n : Nat) (h : n < 9223372036854775808) : IntKind.i64.wrap (n : Int) = (n : Int) := by
  simp only [IntKind.wrap, IntKind.bits, IntKind.signed]
  have : (n : Int) % (2 ^ 64 : Int) = n := by omega
  simp only [this]
  rw [if_neg]
  simp
  omega
theorem i64_add (t : TypeId) (a b : Nat) (h : a + b < 9223372036854775808) : Go.binOp .add t (.int .i64 (a : Int)) (.int .i64 (b : Int)) = pure (.int .i64 ((a + b : Nat) : Int)) := by
  unfold Go.binOp
  simp only [ne_eq, not_true_eq_false, if_false, Op.intArith]
  rw [← Int.natCast_add, wrap_i64 _ h]
theorem i64_mul (t : TypeId) (a b : Nat) (h : a * b < 9223372036854775808) : Go.binOp .mul t (.int .i64 (a : Int)) (.int .i64 (b : Int)) = pure (.int .i64 ((a * b : Nat) : Int)) := by
  unfold Go.binOp
  simp only [ne_eq, not_true_eq_false, if_false, Op.intArith]
  rw [← Int.natCast_mul, wrap_i64 _ h]
theorem i64_sub (t : TypeId) (a b : Nat) (h : a < 9223372036854775808) (hb : b ≤ a) : Go.binOp .sub t (.int .i64 (a : Int)) (.int .i64 (b : Int)) = pure (.int .i64 ((a - b : Nat) : Int)) := by
  unfold Go.binOp
  simp only [ne_eq, not_true_eq_false, if_false, Op.intArith]
  rw [← Int.natCast_sub hb, wrap_i64 _ (by omega)]
theorem i64_quo (t : TypeId) (a b : Nat) (h : a < 9223372036854775808) (hb : 0 < b) : Go.binOp .quo t (.int .i64 (a : Int)) (.int .i64 (b : Int)) = pure (.int .i64 ((a / b : Nat) : Int)) := by
  unfold Go.binOp
  simp only [ne_eq, not_true_eq_false, if_false, Op.intDiv]
  rw [if_neg (by omega), ← Int.ofNat_tdiv, wrap_i64 _ (Nat.lt_of_le_of_lt (Nat.div_le_self a b) h)]
theorem i64_rem (t : TypeId) (a b : Nat) (hb : 0 < b) : Go.binOp .rem t (.int .i64 (a : Int)) (.int .i64 (b : Int)) = pure (.int .i64 ((a % b : Nat) : Int)) := by
  unfold Go.binOp
  simp only [ne_eq, not_true_eq_false, if_false, Op.intDiv]
  rw [if_neg (by omega), ← Int.ofNat_tmod]
theorem i64_shr (t : TypeId) (a : Nat) (j : IntKind) (n : Nat) (hn : n < 64) : Go.binOp .shr t (.int .i64 (a : Int)) (.int j (n : Int)) = pure (.int .i64 ((a / 2 ^ n : Nat) : Int)) := by
  unfold Go.binOp
  simp only [Op.shift, IntKind.bits]
  rw [if_neg (by omega), Int.toNat_natCast, Nat.min_eq_left (by omega)]
  have : (a : Int).fdiv (2 ^ n) = ((a / 2 ^ n : Nat) : Int) := by
    rw [show (2 ^ n : Int) = ((2 ^ n : Nat) : Int) by simp, Int.fdiv_eq_ediv_of_nonneg _ (Int.natCast_nonneg _)]
    rfl
  rw [this]
theorem i64_shl (t : TypeId) (a : Nat) (j : IntKind) (n : Nat) (hn : n < 64) (h : a * 2 ^ n < 9223372036854775808) : Go.binOp .shl t (.int .i64 (a : Int)) (.int j (n : Int)) = pure (.int .i64 ((a * 2 ^ n : Nat) : Int)) := by
  unfold Go.binOp
  simp only [Op.shift, IntKind.bits]
  rw [if_neg (by omega), Int.toNat_natCast, Nat.min_eq_left (by omega)]
  have : (a : Int) * 2 ^ n = ((a * 2 ^ n : Nat) : Int) := by simp
  rw [this, wrap_i64 _ h]
theorem wrap_u64 (n : Nat) (h : n < 18446744073709551616) : IntKind.u64.wrap (n : Int) = (n : Int) := by
  simp only [IntKind.wrap, IntKind.bits, IntKind.signed]
  have : (n : Int) % (2 ^ 64 : Int) = n := by omega
  simp only [this]
  simp
theorem u64_add (t : TypeId) (a b : Nat) (h : a + b < 18446744073709551616) : Go.binOp .add t (.int .u64 (a : Int)) (.int .u64 (b : Int)) = pure (.int .u64 ((a + b : Nat) : Int)) := by
  unfold Go.binOp
  simp only [ne_eq, not_true_eq_false, if_false, Op.intArith]
  rw [← Int.natCast_add, wrap_u64 _ h]
theorem u64_mul (t : TypeId) (a b : Nat) (h : a * b < 18446744073709551616) : Go.binOp .mul t (.int .u64 (a : Int)) (.int .u64 (b : Int)) = pure (.int .u64 ((a * b : Nat) : Int)) := by
  unfold Go.binOp
  simp only [ne_eq, not_true_eq_false, if_false, Op.intArith]
  rw [← Int.natCast_mul, wrap_u64 _ h]
theorem u64_sub (t : TypeId) (a b : Nat) (h : a < 18446744073709551616) (hb : b ≤ a) : Go.binOp .sub t (.int .u64 (a : Int)) (.int .u64 (b : Int)) = pure (.int .u64 ((a - b : Nat) : Int)) := by
  unfold Go.binOp
  simp only [ne_eq, not_true_eq_false, if_false, Op.intArith]
  rw [← Int.natCast_sub hb, wrap_u64 _ (by omega)]
theorem u64_quo (t : TypeId) (a b : Nat) (h : a < 18446744073709551616) (hb : 0 < b) : Go.binOp .quo t (.int .u64 (a : Int)) (.int .u64 (b : Int)) = pure (.int .u64 ((a / b : Nat) : Int)) := by
  unfold Go.binOp
  simp only [ne_eq, not_true_eq_false, if_false, Op.intDiv]
  rw [if_neg (by omega), ← Int.ofNat_tdiv, wrap_u64 _ (Nat.lt_of_le_of_lt (Nat.div_le_self a b) h)]
theorem u64_rem (t : TypeId) (a b : Nat) (hb : 0 < b) : Go.binOp .rem t (.int .u64 (a : Int)) (.int .u64 (b : Int)) = pure (.int .u64 ((a % b : Nat) : Int)) := by
  unfold Go.binOp
  simp only [ne_eq, not_true_eq_false, if_false, Op.intDiv]
  rw [if_neg (by omega), ← Int.ofNat_tmod]
theorem u64_shr (t : TypeId) (a : Nat) (j : IntKind) (n : Nat) (hn : n < 64) : Go.binOp .shr t (.int .u64 (a : Int)) (.int j (n : Int)) = pure (.int .u64 ((a / 2 ^ n : Nat) : Int)) := by
  unfold Go.binOp
  simp only [Op.shift, IntKind.bits]
  rw [if_neg (by omega), Int.toNat_natCast, Nat.min_eq_left (by omega)]
  have : (a : Int).fdiv (2 ^ n) = ((a / 2 ^ n : Nat) : Int) := by
    rw [show (2 ^ n : Int) = ((2 ^ n : Nat) : Int) by simp, Int.fdiv_eq_ediv_of_nonneg _ (Int.natCast_nonneg _)]
    rfl
  rw [this]
theorem u64_shl (t : TypeId) (a : Nat) (j : IntKind) (n : Nat) (hn : n < 64) (h : a * 2 ^ n < 18446744073709551616) : Go.binOp .shl t (.int .u64 (a : Int)) (.int j (n : Int)) = pure (.int .u64 ((a * 2 ^ n : Nat) : Int)) := by
  unfold Go.binOp
  simp only [Op.shift, IntKind.bits]
  rw [if_neg (by omega), Int.toNat_natCast, Nat.min_eq_left (by omega)]
  have : (a : Int) * 2 ^ n = ((a * 2 ^ n : Nat) : Int) := by simp
  rw [this, wrap_u64 _ h]
theorem wrap_u32 (n : Nat) (h : n < 4294967296) : IntKind.u32.wrap (n : Int) = (n : Int) := by
  simp only [IntKind.wrap, IntKind.bits, IntKind.signed]
  have : (n : Int) % (2 ^ 32 : Int) = n := by omega
  simp only [this]
  simp
theorem u32_add (t : TypeId) (a b : Nat) (h : a + b < 4294967296) : Go.binOp .add t (.int .u32 (a : Int)) (.int .u32 (b : Int)) = pure (.int .u32 ((a + b : Nat) : Int)) := by
  unfold Go.binOp
  simp only [ne_eq, not_true_eq_false, if_false, Op.intArith]
  rw [← Int.natCast_add, wrap_u32 _ h]
theorem u32_mul (t : TypeId) (a b : Nat) (h : a * b < 4294967296) : Go.binOp .mul t (.int .u32 (a : Int)) (.int .u32 (b : Int)) = pure (.int .u32 ((a * b : Nat) : Int)) := by
  unfold Go.binOp
  simp only [ne_eq, not_true_eq_false, if_false, Op.intArith]
  rw [← Int.natCast_mul, wrap_u32 _ h]
theorem u32_sub (t : TypeId) (a b : Nat) (h : a < 4294967296) (hb : b ≤ a) : Go.binOp .sub t (.int .u32 (a : Int)) (.int .u32 (b : Int)) = pure (.int .u32 ((a - b : Nat) : Int)) := by
  unfold Go.binOp
  simp only [ne_eq, not_true_eq_false, if_false, Op.intArith]
  rw [← Int.natCast_sub hb, wrap_u32 _ (by omega)]
theorem u32_quo (t : TypeId) (a b : Nat) (h : a < 4294967296) (hb : 0 < b) : Go.binOp .quo t (.int .u32 (a : Int)) (.int .u32 (b : Int)) = pure (.int .u32 ((a / b : Nat) : Int)) := by
  unfold Go.binOp
  simp only [ne_eq, not_true_eq_false, if_false, Op.intDiv]
  rw [if_neg (by omega), ← Int.ofNat_tdiv, wrap_u32 _ (Nat.lt_of_le_of_lt (Nat.div_le_self a b) h)]
theorem u32_rem (t : TypeId) (a b : Nat) (hb : 0 < b) : Go.binOp .rem t (.int .u32 (a : Int)) (.int .u32 (b : Int)) = pure (.int .u32 ((a % b : Nat) : Int)) := by
  unfold Go.binOp
  simp only [ne_eq, not_true_eq_false, if_false, Op.intDiv]
  rw [if_neg (by omega), ← Int.ofNat_tmod]
theorem u32_shr (t : TypeId) (a : Nat) (j : IntKind) (n : Nat) (hn : n < 32) : Go.binOp .shr t (.int .u32 (a : Int)) (.int j (n : Int)) = pure (.int .u32 ((a / 2 ^ n : Nat) : Int)) := by
  unfold Go.binOp
  simp only [Op.shift, IntKind.bits]
  rw [if_neg (by omega), Int.toNat_natCast, Nat.min_eq_left (by omega)]
  have : (a : Int).fdiv (2 ^ n) = ((a / 2 ^ n : Nat) : Int) := by
    rw [show (2 ^ n : Int) = ((2 ^ n : Nat) : Int) by simp, Int.fdiv_eq_ediv_of_nonneg _ (Int.natCast_nonneg _)]
    rfl
  rw [this]
theorem u32_shl (t : TypeId) (a : Nat) (j : IntKind) (n : Nat) (hn : n < 32) (h : a * 2 ^ n < 4294967296) : Go.binOp .shl t (.int .u32 (a : Int)) (.int j (n : Int)) = pure (.int .u32 ((a * 2 ^ n : Nat) : Int)) := by
  unfold Go.binOp
  simp only [Op.shift, IntKind.bits]
  rw [if_neg (by omega), Int.toNat_natCast, Nat.min_eq_left (by omega)]
  have : (a : Int) * 2 ^ n = ((a * 2 ^ n : Nat) : Int) := by simp
  rw [this, wrap_u32 _ h]
theorem wrap_u8 (n : Nat) (h : n < 256) : IntKind.u8.wrap (n : Int) = (n : Int) := by
  simp only [IntKind.wrap, IntKind.bits, IntKind.signed]
  have : (n : Int) % (2 ^ 8 : Int) = n := by omega
  simp only [this]
  simp
theorem u8_add (t : TypeId) (a b : Nat) (h : a + b < 256) : Go.binOp .add t (.int .u8 (a : Int)) (.int .u8 (b : Int)) = pure (.int .u8 ((a + b : Nat) : Int)) := by
  unfold Go.binOp
  simp only [ne_eq, not_true_eq_false, if_false, Op.intArith]
  rw [← Int.natCast_add, wrap_u8 _ h]
theorem u8_mul (t : TypeId) (a b : Nat) (h : a * b < 256) : Go.binOp .mul t (.int .u8 (a : Int)) (.int .u8 (b : Int)) = pure (.int .u8 ((a * b : Nat) : Int)) := by
  unfold Go.binOp
  simp only [ne_eq, not_true_eq_false, if_false, Op.intArith]
  rw [← Int.natCast_mul, wrap_u8 _ h]
theorem u8_sub (t : TypeId) (a b : Nat) (h : a < 256) (hb : b ≤ a) : Go.binOp .sub t (.int .u8 (a : Int)) (.int .u8 (b : Int)) = pure (.int .u8 ((a - b : Nat) : Int)) := by
  unfold Go.binOp
  simp only [ne_eq, not_true_eq_false, if_false, Op.intArith]
  rw [← Int.natCast_sub hb, wrap_u8 _ (by omega)]
theorem u8_quo (t : TypeId) (a b : Nat) (h : a < 256) (hb : 0 < b) : Go.binOp .quo t (.int .u8 (a : Int)) (.int .u8 (b : Int)) = pure (.int .u8 ((a / b : Nat) : Int)) := by
  unfold Go.binOp
  simp only [ne_eq, not_true_eq_false, if_false, Op.intDiv]
  rw [if_neg (by omega), ← Int.ofNat_tdiv, wrap_u8 _ (Nat.lt_of_le_of_lt (Nat.div_le_self a b) h)]
theorem u8_rem (t : TypeId) (a b : Nat) (hb : 0 < b) : Go.binOp .rem t (.int .u8 (a : Int)) (.int .u8 (b : Int)) = pure (.int .u8 ((a % b : Nat) : Int)) := by
  unfold Go.binOp
  simp only [ne_eq, not_true_eq_false, if_false, Op.intDiv]
  rw [if_neg (by omega), ← Int.ofNat_tmod]
theorem u8_shr (t : TypeId) (a : Nat) (j : IntKind) (n : Nat) (hn : n < 8) : Go.binOp .shr t (.int .u8 (a : Int)) (.int j (n : Int)) = pure (.int .u8 ((a / 2 ^ n : Nat) : Int)) := by
  unfold Go.binOp
  simp only [Op.shift, IntKind.bits]
  rw [if_neg (by omega), Int.toNat_natCast, Nat.min_eq_left (by omega)]
  have : (a : Int).fdiv (2 ^ n) = ((a / 2 ^ n : Nat) : Int) := by
    rw [show (2 ^ n : Int) = ((2 ^ n : Nat) : Int) by simp, Int.fdiv_eq_ediv_of_nonneg _ (Int.natCast_nonneg _)]
    rfl
  rw [this]
theorem u8_shl (t : TypeId) (a : Nat) (j : IntKind) (n : Nat) (hn : n < 8) (h : a * 2 ^ n < 256) : Go.binOp .shl t (.int .u8 (a : Int)) (.int j (n : Int)) = pure (.int .u8 ((a * 2 ^ n : Nat) : Int)) := by
  unfold Go.binOp
  simp only [Op.shift, IntKind.bits]
  rw [if_neg (by omega), Int.toNat_natCast, Nat.min_eq_left (by omega)]
  have : (a : Int) * 2 ^ n = ((a * 2 ^ n : Nat) : Int) := by simp
  rw [this, wrap_u8 _ h]
theorem toByte (n : Nat) : IntKind.u8.wrap (n : Int) = ((UInt8.ofNat n).toNat : Int) := by
  rw [u8_wrap]
  simp
theorem ofByte (k : IntKind) (b : UInt8) (h : ∀ n : Nat, n < 256 → k.wrap (n : Int) = (n : Int)) : k.wrap (b.toNat : Int) = ((b.toNat : Nat) : Int) := h _ b.toNat_lt
end
end Go.Proofs.Ytfjmbcjcgdfkfaa
