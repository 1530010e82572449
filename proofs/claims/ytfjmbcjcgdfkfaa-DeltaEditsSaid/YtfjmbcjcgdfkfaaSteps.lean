/- Steps of regions by facts: append, conversions. They hold of any program. -/
import Derived.Test.YtfjmbcjcgdfkfaaBase
import Derived.Test.YtfjmbcjcgdfkfaaRegion
import Derived.Laws.IdiomStrings
import Derived.Deep.MidRow
namespace Go.Proofs.Ytfjmbcjcgdfkfaa
open Go.RowKit
variable {P : Program}

/-- string(b). -/
theorem run_conv {w : World} {src dst e : TypeId} (hs : P.underlying src = some (.slice e)) (he : P.underlying e = some (.int .u8)) (hd : P.underlying dst = some .string) {v : Value} {l : List UInt8} (h : RB w v l) :
    (convert src dst v).run P w = .ok (.string ⟨l.toArray⟩) w := by
  obtain ⟨h1, ao, cap, rfl, h2, h3, h4, h5⟩ := h
  cases ao with
  | none =>
    obtain ⟨h6, rfl⟩ := h4 rfl
    have : l = [] := List.eq_nil_of_length_eq_zero h6
    subst this
    rw [run_convert_bytes_string w src dst e _ _ _ hs he hd]
    simp [Conv.bytesToString, Sem.run_pure]
    rfl
  | some a => exact run_convert_bytes_back w src dst e a cap l hs he hd (fun j hj => h5 a rfl j _ (by simp [Lib.byteCells, hj]))
theorem YieldsK.conv {K : Value → World → Prop} {ρ : Tmp → Value} {src dst e : TypeId} (hs : P.underlying src = some (.slice e)) (he : P.underlying e = some (.int .u8)) (hd : P.underlying dst = some .string) {t : Tmp} {d : Option Tmp} {ty : TypeId} {pos : String} {af : Array Edge} {gd : Option (Nat × Bool)} {w : World} {l : List UInt8}
    (h : RB w (ρ t) l) (hk : K (.string ⟨l.toArray⟩) w) : YieldsK P K ((execOp (evalR ρ) ⟨d, .convert src dst (.tmp t), ty, pos, af, gd⟩).run P w) := by
  have hr := run_conv (P := P) hs he hd h
  refine YieldsK.value (v := .string ⟨l.toArray⟩) (w' := w) ?_ hk
  simp [execOp, evalR, hr]

theorem wpList_conv {ops : Array Oper} {rest : List Oper} {o : Oper} {a : Act} {w : World} {Q : Exit → Act → World → Prop} (hgd : o.guard = none) (src dst : TypeId) (x : Operand) (ho : o.op = .convert src dst x)
    {e : TypeId} (hs : P.underlying src = some (.slice e)) (he : P.underlying e = some (.int .u8)) (hd : P.underlying dst = some .string) (v : Value) (l : List UInt8) (hx : a.eval x = v) (h : RB w v l)
    (hK : wpList P ops Q rest (a.put o.dst (.string ⟨l.toArray⟩)) w) : wpList P ops Q (o :: rest) a w :=
  wpList_plain hgd fun K hK' => by
    have hr := run_conv (P := P) hs he hd h
    unfold Oper.wp execOp
    simp only [ho, hx, hr, Sem.run_bind, Sem.run_pure, Result.andThen_ok]
    exact hK' _ _ hK

theorem bytes_append (a b : List UInt8) : (⟨a.toArray⟩ : ByteArray) ++ ⟨b.toArray⟩ = ⟨(a ++ b).toArray⟩ := by
  apply ByteArray.ext
  rw [ByteArray.data_append]
  simp
/-- s + t. -/
theorem YieldsK.concat {K : Value → World → Prop} {ρ : Tmp → Value} {t ty2 : TypeId} {x y : Operand} {d : Option Tmp} {ty : TypeId} {pos : String} {af : Array Edge} {gd : Option (Nat × Bool)} {w : World} {l1 l2 : List UInt8}
    (hx : evalR ρ x = .string ⟨l1.toArray⟩) (hy : evalR ρ y = .string ⟨l2.toArray⟩) (hb : l1.length + l2.length ≤ 9223372036854775807) (hk : K (.string ⟨(l1 ++ l2).toArray⟩) w) : YieldsK P K ((execOp (evalR ρ) ⟨d, .binOp .add t x y ty2, ty, pos, af, gd⟩).run P w) := by
  refine YieldsK.value (v := .string ⟨(l1 ++ l2).toArray⟩) (w' := w) ?_ hk
  have hr := run_string_add_sum (P := P) (w := w) ⟨l1.toArray⟩ ⟨l2.toArray⟩ (show l1.toArray.size + l2.toArray.size ≤ _ from hb)
  rw [bytes_append] at hr
  simp [execOp, hx, hy, eqGuard, binOp, hr]

/-- append onto an owned row. -/
theorem YieldsK.append {K : Value → World → Prop} {ρ : Tmp → Value} (s x : Operand) {t tx : TypeId} {d : Option Tmp} {ty : TypeId} {pos : String} {af : Array Edge} {gd : Option (Nat × Bool)} {w : World}
    (base : Nat) (e : TypeId) (z : Value) (size bytes : Nat) (ht : P.underlying t = some (.slice e)) (hi : (P.info? e).map (fun i => (i.zero, i.size, i.bytes)) = some (some z, size, bytes)) (hzs : z.cells.size = size)
    (n : Nat) (xs : List Value) (hown : w.ownsRow base e size (evalR ρ s) n xs) (m : Nat) (news : List Value) (hsrc : Src P size tx (evalR ρ x) m news w)
    (h63 : n + m ≤ maxLen) (hbytes : (n + m) * bytes ≤ 140737488355328) (hbase : base ≤ w.heap.size)
    (h : ∀ v' w', w'.ownsRow base e size v' (n + m) (xs ++ news) → Grew w w' (evalR ρ s) v' → K v' w') :
    YieldsK P K ((execOp (evalR ρ) ⟨d, .call ⟨.builtin .append, [s, x].toArray, [t, tx].toArray⟩, ty, pos, af, gd⟩).run P w) := by
  obtain ⟨i, hi, hz, hsize, hby⟩ := info_parts hi
  obtain ⟨v', w', hr, h2, h3⟩ := run_append_src (P := P) w base t tx ty e i z size bytes ht hi hz hsize hby hzs (evalR ρ s) n xs hown (evalR ρ x) m news hsrc h63 hbytes hbase
  refine YieldsK.value (v := v') (w' := w') ?_ (h v' w' h2 h3)
  unfold execOp
  simp only [resolve, invoke, builtin, Sem.run_bind, Sem.run_pure, Result.andThen_ok, List.map_toArray, List.map_cons, List.map_nil, hr]

theorem Stab.rb (l : List UInt8) : Stab Ext (fun x w => RB w x l) := fun _ _ _ h k => h.keep k
theorem Ext.grown {w w' : World} (h : Ext w w') : w.grownBy w' none := ⟨h.os, h.tape, h.output, h.size, fun k hk _ => h.block k hk⟩
theorem Ext.of {w w' : World} (h : w.grownBy w' none) : Ext w w' := (Below.refl _ _).grown h (Nat.le_refl _) (fun k hk => by cases hk)
theorem Stab.own (base : Nat) (e : TypeId) (size : Nat) (n : Nat) (xs : List Value) : Stab Ext (fun x w => w.ownsRow base e size x n xs) := fun v _ _ h k => h.kept k.grown (by cases v.ownBlock <;> simp)
theorem NewB.ext {e : TypeId} {w w' : World} {v : Value} {l : List UInt8} (h : NewB e w w' v l) : Ext w w' := h.below

theorem Ext.cell {w w' : World} (h : Ext w w') {a : Addr} {v : Value} (hc : w.cell? a = some v) : w'.cell? a = some v := by
  rw [Below.cell h (World.block_lt_of_cell? w a hc)]
  exact hc
theorem Ext.blk' {w w' : World} (h : Ext w w') {b : Nat} {o : Obj} (hb : w.heap[b]? = some o) : w'.heap[b]? = some o :=
  (h.block b (Array.getElem?_eq_some_iff.1 hb).1).trans hb
/-- copy of bytes into a row whose cells are known. -/
theorem YieldsK.copyB {K : Value → World → Prop} {ρ : Tmp → Value} (s x : Operand) {dT sT elem : TypeId} {d : Option Tmp} {ty : TypeId} {pos : String} {af : Array Edge} {gd : Option (Nat × Bool)} {w : World}
    (hu : P.underlying dT = some (.slice elem)) (hsz : (P.info? elem).map (·.size) = some 1) {g o dLen dCap : Nat} (hs : evalR ρ s = .slice (some ⟨g, o, none⟩) dLen dCap) {l : List UInt8} (hx : RB w (evalR ρ x) l)
    {cur : Array Value} {t : TypeId} (hg : w.heap[g]? = some (.cells cur t (0, 0))) (hfit : o + Nat.min l.length dLen ≤ cur.size)
    (h : K (goInt (Nat.min l.length dLen)) (w.setRow g (cur.toList.take o ++ Lib.byteCells (l.take dLen) ++ cur.toList.drop (o + Nat.min l.length dLen)).toArray)) :
    YieldsK P K ((execOp (evalR ρ) ⟨d, .call ⟨.builtin .copy, [s, x].toArray, [dT, sT].toArray⟩, ty, pos, af, gd⟩).run P w) := by
  obtain ⟨h1, ao, cap, hv, h2, h3, h4, h5⟩ := hx
  have hlen : (Lib.byteCells (l.take dLen)).length = Nat.min l.length dLen := by rw [Lib.byteCells_length, List.length_take]; exact Nat.min_comm _ _
  refine YieldsK.value (v := goInt (Nat.min l.length dLen)) (w' := w.setRow g (cur.toList.take o ++ Lib.byteCells (l.take dLen) ++ cur.toList.drop (o + Nat.min l.length dLen)).toArray) ?_ h
  have hrun : (Builtin.copy_ #[dT, sT] ty #[.slice (some ⟨g, o, none⟩) dLen dCap, .slice ao l.length cap]).run P w = .ok (goInt (Nat.min l.length dLen)) (w.setRow g (cur.toList.take o ++ Lib.byteCells (l.take dLen) ++ cur.toList.drop (o + Nat.min l.length dLen)).toArray) := by
    cases ao with
    | none =>
      obtain ⟨h6, rfl⟩ := h4 rfl
      have : l = [] := List.eq_nil_of_length_eq_zero h6
      subst this
      have hr := run_copy_nil (P := P) w dT sT ty elem ⟨g, o, none⟩ dLen dCap hu (by rw [hsz]; rfl)
      have e : (cur.toList.take o ++ Lib.byteCells ([].take dLen) ++ cur.toList.drop (o + Nat.min ([] : List UInt8).length dLen)).toArray = cur := by
        simp [Lib.byteCells]
      rw [e, setRow_self w g cur t (0, 0) hg]
      simpa using hr
    | some a =>
      have hr := run_copy_row (P := P) w dT sT ty elem g o dLen dCap a l.length cap cur t (Lib.byteCells (l.take dLen)) hu hsz hg hlen (fun j v hj => h5 a rfl j v (by
        have hj' := hj
        simp only [Lib.byteCells, List.map_take, List.getElem?_take] at hj'
        split at hj'
        · exact hj'
        · cases hj')) (by rw [hlen]; exact hfit) (byteCells_one _)
      rw [hlen] at hr
      exact hr
  unfold execOp
  simp only [resolve, invoke, builtin, Sem.run_bind, Sem.run_pure, Result.andThen_ok, List.map_toArray, List.map_cons, List.map_nil, hs, hv, hrun]

/-- An operation by its run. -/
theorem wpList_value {ops : Array Oper} {rest : List Oper} {o : Oper} {a : Act} {w : World} {Q : Exit → Act → World → Prop} (hgd : o.guard = none) (v : Value) (w' : World) (hr : (execOp a.eval o).run P w = .ok (.value v) w')
    (h : wpList P ops Q rest (a.put o.dst v) w') : wpList P ops Q (o :: rest) a w :=
  wpList_plain hgd fun K hK => by
    unfold Oper.wp
    rw [hr]
    exact hK _ _ h
/-! ### Whole arrays and structs in blocks of their own -/
theorem run_storeAt_row (w : World) (g : Nat) (ty : TypeId) (cells cur : Array Value) (t : TypeId) (hg : w.heap[g]? = some (.cells cur t (0, 0))) (hs : cells.size = cur.size) (hi : (P.info? ty).map (·.size) = some cells.size) (h1 : ∀ v ∈ cells.toList, v.oneCell' = true) :
    (Instr.storeAt ty (.pointer (some ⟨g, 0, none⟩)) (.agg cells)).run P w = .ok () (w.setRow g cells) := by
  have hst := run_storeCells_at P g 0 t cells.toList 0 cur w hg (by simp [hs]) h1
  have e : (cur.toList.take (0 + 0) ++ cells.toList ++ cur.toList.drop (0 + 0 + cells.toList.length)).toArray = cells := by
    simp
    rw [List.drop_of_length_le (by simp [hs])]
    simp
  rw [e] at hst
  cases hq : P.info? ty with
  | none => simp [hq] at hi
  | some i =>
    have hs : cells.size = i.size := by simp [hq] at hi; omega
    simp [Instr.storeAt, Instr.sureAddr, storeVar, sizeOf, typeInfo, hq, Value.cells, hs, hst]
theorem wpList_store_row {ops : Array Oper} {rest : List Oper} {o : Oper} {a : Act} {w : World} {Q : Exit → Act → World → Prop} (hgd : o.guard = none) (ty : TypeId) (x y : Operand) (ho : o.op = .store ty x y)
    (g : Nat) (hx : a.eval x = .pointer (some ⟨g, 0, none⟩)) (cells cur : Array Value) (t : TypeId) (hy : a.eval y = .agg cells) (hg : w.heap[g]? = some (.cells cur t (0, 0))) (hs : cells.size = cur.size) (hi : (P.info? ty).map (·.size) = some cells.size) (h1 : ∀ v ∈ cells.toList, v.oneCell' = true)
    (h : wpList P ops Q rest (a.put o.dst undef) (w.setRow g cells)) : wpList P ops Q (o :: rest) a w :=
  wpList_plain hgd fun K hK => by
    have hr := run_storeAt_row (P := P) w g ty cells cur t hg hs hi h1
    unfold Oper.wp execOp
    simp only [ho, hx, hy, hr, Sem.run_bind, Sem.run_pure, Result.andThen_ok]
    exact hK _ _ h
/-- The same, the world behind it under a name. -/
theorem wpList_store_row' {ops : Array Oper} {rest : List Oper} {o : Oper} {a : Act} {w : World} {Q : Exit → Act → World → Prop} (hgd : o.guard = none) (ty : TypeId) (x y : Operand) (ho : o.op = .store ty x y)
    (g : Nat) (hx : a.eval x = .pointer (some ⟨g, 0, none⟩)) (cells cur : Array Value) (t : TypeId) (hy : a.eval y = .agg cells) (hg : w.heap[g]? = some (.cells cur t (0, 0))) (hs : cells.size = cur.size) (hi : (P.info? ty).map (·.size) = some cells.size) (h1 : ∀ v ∈ cells.toList, v.oneCell' = true)
    (h : ∀ w', w'.heap[g]? = some (.cells cells t (0, 0)) → w.grownBy w' (some g) → w'.heap.size = w.heap.size → wpList P ops Q rest (a.put o.dst undef) w') : wpList P ops Q (o :: rest) a w :=
  wpList_store_row hgd ty x y ho g hx cells cur t hy hg hs hi h1 (h _ (setRow_heap w g cur cells t (0, 0) hg) ⟨rfl, rfl, rfl, by simp, fun k _ hk => setRow_other w g k cells (fun e => hk (by rw [e]))⟩ (by simp))
/-- An operation under a guard that says yes, by its run. -/
theorem wpList_valueG {ops : Array Oper} {rest : List Oper} {o : Oper} {a : Act} {w : World} {Q : Exit → Act → World → Prop} (hw : Region.wanted o (yielded ops a.tmps) = true) (v : Value) (w' : World) (hr : (execOp a.eval o).run P w = .ok (.value v) w')
    (h : wpList P ops Q rest (a.put o.dst v) w') : wpList P ops Q (o :: rest) a w := by
  unfold wpList
  rw [if_pos hw]
  refine .inl ?_
  unfold Oper.wp
  rw [hr]
  exact h
theorem run_execLoad {ρ : Operand → Value} {d : Option Tmp} {ty : TypeId} {x : Operand} {tt : TypeId} {pos : String} {af : Array Edge} {gd : Option (Nat × Bool)} {w : World} {b o : Nat} (hx : ρ x = .pointer (some ⟨b, o, none⟩)) {cs : List Value} {de : TypeDesc} (hc : w.rangeAt b o cs)
    (hu : P.underlying ty = some de) (hd : de.isRow = true) (hi : (P.info? ty).map (·.size) = some cs.length) : (execOp ρ ⟨d, .load ty x, tt, pos, af, gd⟩).run P w = .ok (.value (.agg cs.toArray)) w := by
  simp only [execOp, hx, Sem.run_bind, run_loadAt_mid w b o ty cs de hc hu hd hi, Result.andThen_ok, Sem.run_pure]
theorem rangeAt_block {w : World} {g : Nat} {cs : List Value} {t : TypeId} {fr : Nat × Nat} (h : w.heap[g]? = some (.cells cs.toArray t fr)) : w.rangeAt g 0 cs := fun j v hv => by
  simp [World.cell?, h, hv]
/-- The same array is stored back. -/
theorem wpList_store_same {ops : Array Oper} {rest : List Oper} {o : Oper} {a : Act} {w : World} {Q : Exit → Act → World → Prop} (hgd : o.guard = none) (ty : TypeId) (x y : Operand) (ho : o.op = .store ty x y)
    (g : Nat) (hx : a.eval x = .pointer (some ⟨g, 0, none⟩)) (cells : Array Value) (t : TypeId) (hy : a.eval y = .agg cells) (hg : w.heap[g]? = some (.cells cells t (0, 0))) (hi : (P.info? ty).map (·.size) = some cells.size) (h1 : ∀ v ∈ cells.toList, v.oneCell' = true)
    (h : wpList P ops Q rest (a.put o.dst undef) w) : wpList P ops Q (o :: rest) a w :=
  wpList_store_row hgd ty x y ho g hx cells cells t hy hg rfl hi h1 (by rw [setRow_self w g cells t (0, 0) hg]; exact h)
theorem results_cell2 {fn : Func} {p q r : Tmp} {ty : TypeId} (h : fn.results = #[.cell p ty, .tmp q, .tmp r]) (tmps : Array Value) (w : World) (g : Nat) (t : TypeId) (cs : Array Value) (fr : Nat × Nat) (d : TypeDesc)
    (hp : tmps.getD p undef = .pointer (some ⟨g, 0, none⟩)) (hg : w.heap[g]? = some (.cells cs t fr))
    (hu : P.underlying ty = some d) (hd : (match d with | .struct _ | .array _ _ => true | _ => false) = true) (hi : (P.info? ty).map (·.size) = some cs.size) :
    (results fn tmps).run P w = .ok (.tuple #[.agg cs, tmps.getD q undef, tmps.getD r undef]) w := by
  have hp' : tmps[p]?.getD undef = .pointer (some ⟨g, 0, none⟩) := by simpa using hp
  simp [results, h, hp', asAddr, run_loadVar_row w g t ty cs fr d hg hu hd hi]
theorem results_cell1 {fn : Func} {p q : Tmp} {ty : TypeId} (h : fn.results = #[.cell p ty, .tmp q]) (tmps : Array Value) (w : World) (g : Nat) (t : TypeId) (cs : Array Value) (fr : Nat × Nat) (d : TypeDesc)
    (hp : tmps.getD p undef = .pointer (some ⟨g, 0, none⟩)) (hg : w.heap[g]? = some (.cells cs t fr))
    (hu : P.underlying ty = some d) (hd : (match d with | .struct _ | .array _ _ => true | _ => false) = true) (hi : (P.info? ty).map (·.size) = some cs.size) :
    (results fn tmps).run P w = .ok (.tuple #[.agg cs, tmps.getD q undef]) w := by
  have hp' : tmps[p]?.getD undef = .pointer (some ⟨g, 0, none⟩) := by simpa using hp
  simp [results, h, hp', asAddr, run_loadVar_row w g t ty cs fr d hg hu hd hi]

/-! ### Slices of slices -/
theorem addr_add_add (a : Addr) (m n : Nat) : (a.add m).add n = a.add (m + n) := by
  cases a with
  | mk b o sp =>
    unfold Addr.add
    split <;> split <;> simp_all
    all_goals (try omega)
theorem run_reslice_readsB {t e : TypeId} {size : Nat} (ht : P.underlying t = some (.slice e)) (he : ∀ w' : World, (sizeOf e).run P w' = .ok size w') {w : World} {v : Value} {n : Nat} {xs : List Value} (hr : Reads w size v n xs) (lo hi : Option Value) (l h : Nat) (hlh : l ≤ h) (hn : h ≤ n)
    (hlo : lo = none ∧ l = 0 ∨ ∃ k, lo = some (.int k l)) (hhi : hi = none ∧ h = n ∨ ∃ k, hi = some (.int k h)) :
    ∃ ao c, ((Instr.sliceAt t v lo hi none).run P w = .ok (.slice ao (h - l) c) w ∧ (Value.slice ao (h - l) c).ownBlock = v.ownBlock) ∧ Reads w size (.slice ao (h - l) c) (h - l) ((xs.drop (l * size)).take ((h - l) * size)) := by
  obtain ⟨h1, ao, cap, rfl, h2, h3, h4, h5⟩ := hr
  have hE : P.elem t = e := by simp [Program.elem, ht]
  have ht' : P.underlying t = some (.slice (P.elem t)) := by rw [hE]; exact ht
  refine ⟨if cap = l then ao else ao.map (·.add (l * size)), cap - l, ⟨?_, ?_⟩, ?_, _, _, rfl, by omega, by omega, ?_, ?_⟩
  · rw [run_sliceAt_slice (P := P) w t _ _ _ _ ht']
    have hl' : (l : Int) ≤ (h : Int) := by omega
    have hh' : (h : Int) ≤ (cap : Int) := by omega
    have hn' : (l : Int) ≤ (n : Int) := by omega
    rcases hlo with ⟨rfl, rfl⟩ | ⟨k, rfl⟩ <;> rcases hhi with ⟨rfl, rfl⟩ | ⟨k', rfl⟩
    · rw [run_slice_all (P := P) w t ao h cap ht', hE, he]
      simp [Result.andThen, sliced]
    · rw [run_slice_h (P := P) w t ao n cap ht' k' h (by omega) hh', hE, he]
      simp [Result.andThen, sliced]
    · rw [run_slice_l (P := P) w t ao h cap ht' k l (by omega) hl', hE, he]
      simp [Result.andThen, sliced]
    · rw [run_slice_lh (P := P) w t ao n cap ht' k k' l h (by omega) hl' hh', hE, he]
      simp [Result.andThen, sliced]
  · cases ao with
    | none => simp [Value.ownBlock]
    | some x =>
      split
      · rfl
      · simp only [Option.map_some, Value.ownBlock, Option.some.injEq]
        unfold Addr.add
        split <;> rfl
  · rw [List.length_take, List.length_drop, h1]
    have : (h - l) * size ≤ n * size - l * size := by rw [← Nat.sub_mul]; exact Nat.mul_le_mul_right _ (by omega)
    omega
  · intro hnone
    have : ao = none := by
      cases ao with
      | none => rfl
      | some x => split at hnone <;> simp at hnone
    obtain ⟨h6, h7⟩ := h4 this
    omega
  · intro a ha j u hu
    have hj : j < ((xs.drop (l * size)).take ((h - l) * size)).length := (List.getElem?_eq_some_iff.1 hu).1
    have hj2 : j < (h - l) * size := by rw [List.length_take] at hj; omega
    have hhl : h - l ≠ 0 := fun e => by rw [e] at hj2; simp at hj2
    rw [if_neg (by omega)] at ha
    cases ao with
    | none => simp at ha
    | some x =>
      simp at ha
      subst ha
      rw [addr_add_add]
      refine h5 x rfl _ _ ?_
      rw [List.getElem?_take, if_pos hj2, List.getElem?_drop] at hu
      exact hu
theorem run_reslice_reads {t e : TypeId} {size : Nat} (ht : P.underlying t = some (.slice e)) (he : ∀ w' : World, (sizeOf e).run P w' = .ok size w') {w : World} {v : Value} {n : Nat} {xs : List Value} (hr : Reads w size v n xs) (lo hi : Option Value) (l h : Nat) (hlh : l ≤ h) (hn : h ≤ n)
    (hlo : lo = none ∧ l = 0 ∨ ∃ k, lo = some (.int k l)) (hhi : hi = none ∧ h = n ∨ ∃ k, hi = some (.int k h)) :
    ∃ ao c, (Instr.sliceAt t v lo hi none).run P w = .ok (.slice ao (h - l) c) w ∧ Reads w size (.slice ao (h - l) c) (h - l) ((xs.drop (l * size)).take ((h - l) * size)) := by
  obtain ⟨ao, c, h1, h2⟩ := run_reslice_readsB ht he hr lo hi l h hlh hn hlo hhi
  exact ⟨ao, c, h1.1, h2⟩
theorem RB.take_drop {w : World} {v : Value} {xs : List UInt8} {l h : Nat} (hn : h ≤ xs.length) (hR : Reads w 1 v (h - l) (((Lib.byteCells xs).drop (l * 1)).take ((h - l) * 1))) : RB w v ((xs.drop l).take (h - l)) := by
  have e1 : ((xs.drop l).take (h - l)).length = h - l := by rw [List.length_take, List.length_drop]; omega
  unfold RB
  rw [e1]
  have e2 : Lib.byteCells ((xs.drop l).take (h - l)) = ((Lib.byteCells xs).drop (l * 1)).take ((h - l) * 1) := by
    simp [Lib.byteCells, List.map_take, List.map_drop]
  rw [e2]
  exact hR
/-- b[l:] in a plain region, with the block that it lies in. -/
theorem wpList_resliceB {ops : Array Oper} {rest : List Oper} {o : Oper} {a : Act} {w : World} {Q : Exit → Act → World → Prop} (hgd : o.guard = none) (t : TypeId) (x : Operand) (lo hi : Option Operand) (ho : o.op = .slice t x lo hi none)
    {e : TypeId} (ht : P.underlying t = some (.slice e)) (he : ∀ w' : World, (sizeOf e).run P w' = .ok 1 w') (v : Value) (xs : List UInt8) (hx : a.eval x = v) (hr : RB w v xs) (l h : Nat) (hlh : l ≤ h) (hn : h ≤ xs.length)
    (hlo : lo.map a.eval = none ∧ l = 0 ∨ ∃ k, lo.map a.eval = some (.int k l)) (hhi : hi.map a.eval = none ∧ h = xs.length ∨ ∃ k, hi.map a.eval = some (.int k h))
    (hK : ∀ ao c, RB w (.slice ao (h - l) c) ((xs.drop l).take (h - l)) → (Value.slice ao (h - l) c).ownBlock = v.ownBlock → wpList P ops Q rest (a.put o.dst (.slice ao (h - l) c)) w) : wpList P ops Q (o :: rest) a w :=
  wpList_plain hgd fun K hK' => by
    obtain ⟨ao, c, ⟨hrun, hb⟩, hR⟩ := run_reslice_readsB ht he hr (lo.map a.eval) (hi.map a.eval) l h hlh hn hlo hhi
    unfold Oper.wp execOp
    simp only [ho, hx, Option.map_none, hrun, Sem.run_bind, Sem.run_pure, Result.andThen_ok]
    exact hK' _ _ (hK ao c (RB.take_drop hn hR) hb)
theorem RB.kept {w w' : World} {v : Value} {l : List UInt8} (h : RB w v l) {row : Option Nat} (hg : w.grownBy w' row) (hv : v.ownBlock = none ∨ v.ownBlock ≠ row) : RB w' v l := by
  obtain ⟨h1, ao, cap, rfl, h2, h3, h4, h5⟩ := h
  refine ⟨h1, ao, cap, rfl, h2, h3, h4, fun a ha j u hu => ?_⟩
  have hc := h5 a ha j u hu
  subst ha
  have hlt := World.block_lt_of_cell? w _ hc
  have hbl : (a.add j).block = a.block := by unfold Addr.add; split <;> rfl
  have hne : (some a.block) ≠ row := by
    rcases hv with hv | hv
    · cases hv
    · exact hv
  rw [hbl] at hlt
  rw [World.cell?_of_block (w := w) (by rw [hbl]; exact hg.block a.block hlt hne)]
  exact hc
theorem row_none {w w' : World} (h : w.grownBy w' none) (row : Option Nat) : w.grownBy w' row := ⟨h.os, h.tape, h.output, h.size, fun k hk _ => h.block k hk (by simp)⟩
theorem run_reslice {t e : TypeId} (ht : P.underlying t = some (.slice e)) (he : ∀ w' : World, (sizeOf e).run P w' = .ok 1 w') {w : World} {v : Value} {xs : List UInt8} (hr : RB w v xs) (lo hi : Option Value) (l h : Nat) (hlh : l ≤ h) (hn : h ≤ xs.length)
    (hlo : lo = none ∧ l = 0 ∨ ∃ k, lo = some (.int k l)) (hhi : hi = none ∧ h = xs.length ∨ ∃ k, hi = some (.int k h)) :
    ∃ ao c, (Instr.sliceAt t v lo hi none).run P w = .ok (.slice ao (h - l) c) w ∧ RB w (.slice ao (h - l) c) ((xs.drop l).take (h - l)) := by
  obtain ⟨ao, c, hrun, hR⟩ := run_reslice_reads ht he hr lo hi l h hlh hn hlo hhi
  refine ⟨ao, c, hrun, ?_⟩
  have e1 : ((xs.drop l).take (h - l)).length = h - l := by rw [List.length_take, List.length_drop]; omega
  unfold RB
  rw [e1]
  have e2 : Lib.byteCells ((xs.drop l).take (h - l)) = ((Lib.byteCells xs).drop (l * 1)).take ((h - l) * 1) := by
    simp [Lib.byteCells, List.map_take, List.map_drop]
  rw [e2]
  exact hR
/-- The law at the operation, in a plain region: the new slice's address under a name. -/
theorem wpList_reslice {ops : Array Oper} {rest : List Oper} {o : Oper} {a : Act} {w : World} {Q : Exit → Act → World → Prop} (hgd : o.guard = none) (t : TypeId) (x : Operand) (lo hi : Option Operand) (ho : o.op = .slice t x lo hi none)
    {e : TypeId} (ht : P.underlying t = some (.slice e)) (he : ∀ w' : World, (sizeOf e).run P w' = .ok 1 w') (v : Value) (xs : List UInt8) (hx : a.eval x = v) (hr : RB w v xs) (l h : Nat) (hlh : l ≤ h) (hn : h ≤ xs.length)
    (hlo : lo.map a.eval = none ∧ l = 0 ∨ ∃ k, lo.map a.eval = some (.int k l)) (hhi : hi.map a.eval = none ∧ h = xs.length ∨ ∃ k, hi.map a.eval = some (.int k h))
    (hK : ∀ ao c, RB w (.slice ao (h - l) c) ((xs.drop l).take (h - l)) → wpList P ops Q rest (a.put o.dst (.slice ao (h - l) c)) w) : wpList P ops Q (o :: rest) a w :=
  wpList_plain hgd fun K hK' => by
    obtain ⟨ao, c, hrun, hR⟩ := run_reslice ht he hr (lo.map a.eval) (hi.map a.eval) l h hlh hn hlo hhi
    unfold Oper.wp execOp
    simp only [ho, hx, Option.map_none, hrun, Sem.run_bind, Sem.run_pure, Result.andThen_ok]
    exact hK' _ _ (hK ao c hR)
/-- A slice of bytes that is not empty: its address, its cells. -/
theorem RB.open_ {w : World} {v : Value} {l : List UInt8} (h : RB w v l) (hl : 0 < l.length) : ∃ b off cap, v = .slice (some ⟨b, off, none⟩) l.length cap ∧ l.length ≤ cap ∧ cap ≤ 9223372036854775807 ∧ b < w.heap.size ∧ ∀ i, i < l.length → w.cell? ⟨b, off + i, none⟩ = some (.int .u8 ((l.getD i 0).toNat : Int)) := by
  obtain ⟨h1, ao, cap, rfl, h2, h3, h4, h5⟩ := h
  cases ao with
  | none => have := (h4 rfl).1; omega
  | some a =>
    obtain ⟨b, off, sp⟩ := a
    have hc : ∀ i, i < l.length → w.cell? ((⟨b, off, sp⟩ : Addr).add i) = some (.int .u8 ((l.getD i 0).toNat : Int)) := fun i hi => h5 _ rfl i _ (by simp [Lib.byteCells, hi])
    have hsp : sp = none := by
      have := hc 0 hl
      simpa [Addr.add] using World.cell?_spot this
    subst hsp
    refine ⟨b, off, cap, rfl, h2, by simpa [maxLen] using h3, World.block_lt_of_cell? w _ (hc 0 hl), fun i hi => ?_⟩
    have := hc i hi
    rwa [Addr.add_lit] at this
theorem YieldsK.reslice {K : Value → World → Prop} {ρ : Tmp → Value} {t e : TypeId} {x : Operand} {lo hi : Option Operand} {d : Option Tmp} {ty : TypeId} {pos : String} {af : Array Edge} {gd : Option (Nat × Bool)} {w : World}
    (ht : P.underlying t = some (.slice e)) (he : ∀ w' : World, (sizeOf e).run P w' = .ok 1 w') {xs : List UInt8} (hr : RB w (evalR ρ x) xs) (l h : Nat) (hlh : l ≤ h) (hn : h ≤ xs.length)
    (hlo : lo.map (evalR ρ) = none ∧ l = 0 ∨ ∃ k, lo.map (evalR ρ) = some (.int k l)) (hhi : hi.map (evalR ρ) = none ∧ h = xs.length ∨ ∃ k, hi.map (evalR ρ) = some (.int k h))
    (hK : ∀ ao c, RB w (.slice ao (h - l) c) ((xs.drop l).take (h - l)) → K (.slice ao (h - l) c) w) : YieldsK P K ((execOp (evalR ρ) ⟨d, .slice t x lo hi none, ty, pos, af, gd⟩).run P w) := by
  obtain ⟨ao, c, hrun, hR⟩ := run_reslice ht he hr (lo.map (evalR ρ)) (hi.map (evalR ρ)) l h hlh hn hlo hhi
  refine YieldsK.value (v := .slice ao (h - l) c) (w' := w) ?_ (hK ao c hR)
  unfold execOp
  simp only [Option.map_none, hrun, Sem.run_bind, Sem.run_pure, Result.andThen_ok]
end Go.Proofs.Ytfjmbcjcgdfkfaa
