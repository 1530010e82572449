/- Part 2 of what stands behind these statements: laws and walks of the functions that are reached. Conditions: those that each theorem names. -/
import Derived.Test.YtmonlobfofkbdaaDoorP1
set_option linter.unusedVariables false
namespace Go.Proofs.YtmonlobfofkbdaaDoor
open Go.RowKit
section
variable {P : Program} {K : Value → World → Prop} {ρ : Slots} {w : World} {d : Option Tmp} {ty : TypeId} {pos : String} {af : Array Edge} {gd : Option (Nat × Bool)}
variable {α β : Type} {ek : α → Value} {ev : β → Value} {D : α → Prop} {b : Nat} {G : α → Option β}
variable {t Kt E : TypeId} {OK : Value → Prop}
theorem Yk.lookM (L : KL P Kt OK) (hD : ∀ a, D a → OK (ek a)) (hi : ∀ a c, ek a = ek c → a = c) (ht : P.underlying t = some (.map Kt E)) {z : Value} (hz : ∀ u : World, (zeroValue E).run P u = .ok z u) {x y : Operand} {a : α}
    (hm : evalR ρ x = .map (some b)) (hy : evalR ρ y = ek a) (h : MapF ek ev D w b G) (ha : D a) (hk : K ((G a).elim z ev) w) :
    Yk P K ((execOp (evalR ρ) ⟨d, .lookup t x y false, ty, pos, af, gd⟩).run P w) := by
  have hrun := h.look L hD hi ht hz ha false
  refine Yk.value (v := (G a).elim z ev) (w' := w) ?_ hk
  unfold execOp
  simp only [hm, hy, Sem.run_bind, hrun, Result.andThen_ok, Sem.run_pure]
  rfl
theorem Yk.lookOk (L : KL P Kt OK) (hD : ∀ a, D a → OK (ek a)) (hi : ∀ a c, ek a = ek c → a = c) (ht : P.underlying t = some (.map Kt E)) {z : Value} (hz : ∀ u : World, (zeroValue E).run P u = .ok z u) {x y : Operand} {a : α}
    (hm : evalR ρ x = .map (some b)) (hy : evalR ρ y = ek a) (h : MapF ek ev D w b G) (ha : D a) (hk : K (.tuple #[(G a).elim z ev, .bool (G a).isSome]) w) :
    Yk P K ((execOp (evalR ρ) ⟨d, .lookup t x y true, ty, pos, af, gd⟩).run P w) := by
  have hrun := h.look L hD hi ht hz ha true
  refine Yk.value (v := .tuple #[(G a).elim z ev, .bool (G a).isSome]) (w' := w) ?_ hk
  unfold execOp
  simp only [hm, hy, Sem.run_bind, hrun, Result.andThen_ok, Sem.run_pure]
  rfl
theorem Yk.mkMap (ek : α → Value) (ev : β → Value) (D : α → Prop) (hk : ∀ g w', w.heap.size = g → MapF ek ev D w' g (fun _ => none) → Ext w w' → w'.heap.size = g + 1 → K (.map (some g)) w') :
    Yk P K ((execOp (evalR ρ) ⟨d, .makeMap t none, ty, pos, af, gd⟩).run P w) := by
  refine Yk.value (v := .map (some w.heap.size)) (w' := w.alloc (.map #[] 0)) ?_ (hk _ _ rfl (MapF.made ek ev D w) ((Below.refl _ _).alloc (Nat.le_refl _) _) (by simp))
  unfold execOp
  simp [Instr.makeMap, newObj, Result.andThen]
  rfl
theorem Yk.lookOkS (L : KL P Kt OK) (hD : ∀ a, D a → OK (ek a)) (hi : ∀ a c, ek a = ek c → a = c) (ht : P.underlying t = some (.map Kt E)) {z : Value} (hz : ∀ u : World, (zeroValue E).run P u = .ok z u) {x y : Operand} {a : α} {c : β}
    (hm : evalR ρ x = .map (some b)) (hy : evalR ρ y = ek a) (h : MapF ek ev D w b G) (ha : D a) (hG : G a = some c) (hk : K (.tuple #[ev c, .bool true]) w) : Yk P K ((execOp (evalR ρ) ⟨d, .lookup t x y true, ty, pos, af, gd⟩).run P w) :=
  Yk.lookOk L hD hi ht hz hm hy h ha (by rw [hG]; exact hk)
theorem Yk.lookOkN (L : KL P Kt OK) (hD : ∀ a, D a → OK (ek a)) (hi : ∀ a c, ek a = ek c → a = c) (ht : P.underlying t = some (.map Kt E)) {z : Value} (hz : ∀ u : World, (zeroValue E).run P u = .ok z u) {x y : Operand} {a : α}
    (hm : evalR ρ x = .map (some b)) (hy : evalR ρ y = ek a) (h : MapF ek ev D w b G) (ha : D a) (hG : G a = none) (hk : K (.tuple #[z, .bool false]) w) : Yk P K ((execOp (evalR ρ) ⟨d, .lookup t x y true, ty, pos, af, gd⟩).run P w) :=
  Yk.lookOk L hD hi ht hz hm hy h ha (by rw [hG]; exact hk)
theorem Yk.lookMS (L : KL P Kt OK) (hD : ∀ a, D a → OK (ek a)) (hi : ∀ a c, ek a = ek c → a = c) (ht : P.underlying t = some (.map Kt E)) {z : Value} (hz : ∀ u : World, (zeroValue E).run P u = .ok z u) {x y : Operand} {a : α} {c : β}
    (hm : evalR ρ x = .map (some b)) (hy : evalR ρ y = ek a) (h : MapF ek ev D w b G) (ha : D a) (hG : G a = some c) (hk : K (ev c) w) : Yk P K ((execOp (evalR ρ) ⟨d, .lookup t x y false, ty, pos, af, gd⟩).run P w) :=
  Yk.lookM L hD hi ht hz hm hy h ha (by rw [hG]; exact hk)
theorem Yk.build {parts : Array (Nat × Operand)} {vs : Array (Nat × Value)} {v : Value} (hv : (parts.map fun (i, x) => (i, evalR ρ x)) = vs) (hr : ∀ w : World, (Instr.build t vs).run P w = .ok v w) (hk : K v w) :
    Yk P K ((execOp (evalR ρ) ⟨d, .build t parts, ty, pos, af, gd⟩).run P w) := by
  refine Yk.value (v := v) (w' := w) ?_ hk
  unfold execOp
  simp only [hv, hr, Sem.run_bind, Result.andThen_ok, Sem.run_pure]
theorem Yk.build1 {i0 : Nat} {x0 : Operand} {v0 v : Value} (h0 : evalR ρ x0 = v0) (hr : ∀ w : World, (Instr.build t #[(i0, v0)]).run P w = .ok v w) (hk : K v w) : Yk P K ((execOp (evalR ρ) ⟨d, .build t #[(i0, x0)], ty, pos, af, gd⟩).run P w) :=
  Yk.build (by simp [h0]) hr hk
theorem Yk.build2 {i0 i1 : Nat} {x0 x1 : Operand} {v0 v1 v : Value} (h0 : evalR ρ x0 = v0) (h1 : evalR ρ x1 = v1) (hr : ∀ w : World, (Instr.build t #[(i0, v0), (i1, v1)]).run P w = .ok v w) (hk : K v w) : Yk P K ((execOp (evalR ρ) ⟨d, .build t #[(i0, x0), (i1, x1)], ty, pos, af, gd⟩).run P w) :=
  Yk.build (by simp [h0, h1]) hr hk
theorem Yk.mkIface {fs} (hu : P.underlying t = some (.struct fs)) {x : Operand} {v : Value} (hx : evalR ρ x = v) (hk : K (.iface t v) w) : Yk P K ((execOp (evalR ρ) ⟨d, .makeInterface t x, ty, pos, af, gd⟩).run P w) := by
  refine Yk.value (v := .iface t v) (w' := w) ?_ hk
  unfold execOp
  simp [Instr.makeInterface, hx, run_underlying hu, Result.andThen]
theorem Yk.lit1G {k : Nat} {enc : α → List Value} {e : TypeId} {x : Operand} {a : α} (hx : evalR ρ x = .agg (enc a).toArray) (hl : (enc a).length = k)
    (hr : ∀ (cs : Array Value), cs.size = k → ∀ w : World, (Instr.buildSlice t 1 #[(0, .agg cs)]).run P w = .ok (.slice (some ⟨w.heap.size, 0, none⟩) 1 1) (w.alloc (.cells cs e)))
    (hk : ∀ v w', RG k enc w' v [a] → Ext w w' → K v w') : Yk P K ((execOp (evalR ρ) ⟨d, .buildSlice t 1 #[(0, x)], ty, pos, af, gd⟩).run P w) := by
  have hE : Ext w (w.alloc (.cells (enc a).toArray e)) := (Below.refl _ _).alloc (Nat.le_refl _) _
  refine Yk.value (v := .slice (some ⟨w.heap.size, 0, none⟩) 1 1) (w' := w.alloc (.cells (enc a).toArray e)) ?_ (hk _ _ (RG.single hl (heap_alloc_new w _)) hE)
  unfold execOp
  simp only [List.map_toArray, List.map_cons, List.map_nil, hx, Sem.run_bind, hr _ (show (enc a).toArray.size = k by rw [List.size_toArray]; exact hl), Result.andThen_ok, Sem.run_pure]
theorem RG.elem {k : Nat} {enc : α → List Value} {v : Value} {l : List α} (h : RG k enc w v l) (dd : α) {i : Nat} (hi : i < l.length) : (enc (l.getD i dd)).length = k := by
  refine h.1 _ ?_
  rw [List.getD_eq_getElem?_getD, List.getElem?_eq_getElem hi]
  exact List.getElem_mem hi
theorem Yp.callA1 {f : FuncId} (hp : Plain P f) {x0 : Operand} {v0 : Value} {at_ : Array TypeId} {J : List PanicEntry → World → Prop} (h0 : evalR ρ x0 = v0)
    (h : Calls P f #[v0] w fun e w' => match e with | .returned v => K v w' | .panicked ch => J ch w' | .outgrown => False) : Yp P K J ((execOp (evalR ρ) ⟨d, .call ⟨.value (.func f), #[x0], at_⟩, ty, pos, af, gd⟩).run P w) :=
  Yp.call hp [v0] (by simp [h0]) h
theorem Yp.callA2 {f : FuncId} (hp : Plain P f) {x0 x1 : Operand} {v0 v1 : Value} {at_ : Array TypeId} {J : List PanicEntry → World → Prop} (h0 : evalR ρ x0 = v0) (h1 : evalR ρ x1 = v1)
    (h : Calls P f #[v0, v1] w fun e w' => match e with | .returned v => K v w' | .panicked ch => J ch w' | .outgrown => False) : Yp P K J ((execOp (evalR ρ) ⟨d, .call ⟨.value (.func f), #[x0, x1], at_⟩, ty, pos, af, gd⟩).run P w) :=
  Yp.call hp [v0, v1] (by simp [h0, h1]) h
theorem Yp.callA3 {f : FuncId} (hp : Plain P f) {x0 x1 x2 : Operand} {v0 v1 v2 : Value} {at_ : Array TypeId} {J : List PanicEntry → World → Prop} (h0 : evalR ρ x0 = v0) (h1 : evalR ρ x1 = v1) (h2 : evalR ρ x2 = v2)
    (h : Calls P f #[v0, v1, v2] w fun e w' => match e with | .returned v => K v w' | .panicked ch => J ch w' | .outgrown => False) : Yp P K J ((execOp (evalR ρ) ⟨d, .call ⟨.value (.func f), #[x0, x1, x2], at_⟩, ty, pos, af, gd⟩).run P w) :=
  Yp.call hp [v0, v1, v2] (by simp [h0, h1, h2]) h
end
open Go.RowKit
theorem run_loadBytes {P : Program} {w : World} : ∀ (l : List UInt8) (a : Addr) (acc : ByteArray), (∀ j u, (Lib.byteCells l)[j]? = some u → w.cell? (a.add j) = some u) → (Extern.Bytes.loadBytes a l.length acc).run P w = .ok ⟨acc.data ++ l.toArray⟩ w
  | [], a, acc, _ => by simp [Extern.Bytes.loadBytes, Sem.run_pure]
  | b :: r, a, acc, h => by
    have h0 := h 0 (B8 b) (by simp [Lib.byteCells])
    have ha : a.add 0 = a := by unfold Addr.add; split <;> simp_all
    rw [ha] at h0
    have ih := run_loadBytes (P := P) (w := w) r (a.add 1) (acc.push b) (fun j u hj => by
      rw [addr_add_add]
      refine h (1 + j) u ?_
      rw [Nat.add_comm]
      simpa [Lib.byteCells] using hj)
    have hb : (((b.toNat : Nat) : Int)).toNat.toUInt8 = b := by simp
    have hl : (load a).run P w = .ok (B8 b) w := by simp [load, Sem.run, h0]
    simp only [List.length_cons, Extern.Bytes.loadBytes, Sem.run_bind, hl, Result.andThen_ok]
    rw [hb, ih]
    simp
theorem run_bytesOf {P : Program} {w : World} {v : Value} {l : List UInt8} (h : RB w v l) : (Extern.Bytes.bytesOf v).run P w = .ok ⟨l.toArray⟩ w := by
  obtain ⟨h1, ao, cap, rfl, h2, h3, h4, h5⟩ := h
  cases ao with
  | none =>
    have : l = [] := List.eq_nil_of_length_eq_zero (h4 rfl).1
    subst this
    rfl
  | some a =>
    have := run_loadBytes (P := P) (w := w) l a .empty (h5 a rfl)
    simpa [Extern.Bytes.bytesOf] using this
theorem run_compareRB {P : Program} {w : World} {x y : Value} {l m : List UInt8} (hx : RB w x l) (hy : RB w y m) : (Extern.BytealgCompare.compare #[x, y]).run P w = .ok (.int .i64 (Lib.compareBytes l m)) w := by
  change Sem.run P (do pure (goInt (Extern.BytealgCompare.cmp (← Extern.Bytes.bytesOf x) (← Extern.Bytes.bytesOf y)))) w = _
  simp only [Sem.run_bind, run_bytesOf hx, run_bytesOf hy, Sem.run_pure, Result.andThen_ok]
  rw [Lib.cmp_eq]
  rfl
section
variable {P : Program} {K : Value → World → Prop} {ρ : Slots} {w : World} {d : Option Tmp} {ty : TypeId} {pos : String} {af : Array Edge} {gd : Option (Nat × Bool)}
theorem Yk.extern2 {f : FuncId} {at_ : Array TypeId} {x y : Operand} {v0 v1 v : Value} (hx : evalR ρ x = v0) (hy : evalR ρ y = v1) (hr : (callFunc f #[v0, v1]).run P w = .ok (.value v) w) (hk : K v w) : Yk P K ((execOp (evalR ρ) ⟨d, .call ⟨.value (.func f), #[x, y], at_⟩, ty, pos, af, gd⟩).run P w) := by
  refine Yk.value (v := v) (w' := w) ?_ hk
  have hf : evalR ρ (.func f) = .func (.func f) #[] #[] := rfl
  unfold execOp
  simp [resolve, hf, Deferred.ofValue, invoke, hx, hy, hr]
end
section
variable {P : Program} {w : World}
theorem RB.ofBlk {g : Nat} {l : List UInt8} {t : TypeId} {fr : Nat × Nat} (h : w.heap[g]? = some (.cells (Lib.byteCells l).toArray t fr)) (hl : l.length ≤ 9223372036854775807) : RB w (.slice (some ⟨g, 0, none⟩) l.length l.length) l :=
  ⟨by simp [Lib.byteCells], _, _, rfl, Nat.le_refl _, by unfold maxLen; omega, (fun h => by cases h), fun a ha j u hu => by
    cases ha
    rw [Addr.add_lit, Nat.zero_add]
    exact cellAt h hu⟩
theorem RB.ofBlkN {g n : Nat} {l : List UInt8} {t : TypeId} {fr : Nat × Nat} (h : w.heap[g]? = some (.cells (Lib.byteCells l).toArray t fr)) (hn : l.length = n) (hl : n ≤ 9223372036854775807) : RB w (.slice (some ⟨g, 0, none⟩) n n) l := by
  subst hn
  exact RB.ofBlk h hl
theorem Yk.sliceArr {K : Value → World → Prop} {ρ : Tmp → Value} {t e : TypeId} {n : Nat} (ht : P.underlying t = some (.array n e)) (he : ∀ w' : World, (sizeOf e).run P w' = .ok 1 w') {x : Operand} {d : Option Tmp} {ty : TypeId} {pos : String} {af : Array Edge} {gd : Option (Nat × Bool)} {w : World} {b o : Nat}
    (hx : evalR ρ x = .pointer (some ⟨b, o, none⟩)) (hk : K (.slice (some ⟨b, o, none⟩) n n) w) : Yk P K ((execOp (evalR ρ) ⟨d, .slice t x none none none, ty, pos, af, gd⟩).run P w) := by
  refine Yk.value (v := .slice (some ⟨b, o, none⟩) n n) (w' := w) ?_ hk
  have hE : P.elem t = e := by simp [Program.elem, ht]
  have hN : P.arrayLen t = n := by simp [Program.arrayLen, ht]
  have hr := run_sliceAt_array_all (P := P) (w := w) (t := t) (a := ⟨b, o, none⟩) (by rw [hE, hN]; exact ht)
  rw [hE, he, hN] at hr
  unfold execOp
  simp only [hx, Option.map_none, Sem.run_bind, hr, Result.andThen_ok, Sem.run_pure]
  simp [slicedAt, Addr.add_lit]
end
def zeroB (x : Id32) : Bool := decide (x.1 = List.replicate 32 0)
def setTo (l : List Bs) (i : Nat) : Prop := ∀ j, 0 < j → j < i → Lib.compareBytes (l.getD (j - 1) []) (l.getD j []) < 0
open Classical in
noncomputable def setB (l : List Bs) : Bool := decide (setTo l l.length)
theorem setTo_zero (l : List Bs) : setTo l 0 := fun j _ h => by omega
theorem setTo_one {l : List Bs} {i : Nat} (_h : setTo l i) (h0 : i = 0) : setTo l (i + 1) := fun j h1 h2 => by omega
theorem setTo_step {l : List Bs} {i : Nat} (h : setTo l i) (h1 : Lib.compareBytes (l.getD (i - 1) []) (l.getD i []) < 0) : setTo l (i + 1) := fun j h2 h3 => by
  by_cases e : j < i
  · exact h j h2 e
  · obtain rfl : j = i := by omega
    exact h1
theorem setB_all {l : List Bs} {i : Nat} (hi : l.length ≤ i) (h : setTo l i) : setB l = true := by
  classical
  exact decide_eq_true (fun j h1 h2 => h j h1 (by omega))
theorem setB_no {l : List Bs} {i : Nat} (hi : i < l.length) (h0 : 0 < i) (h : ¬ Lib.compareBytes (l.getD (i - 1) []) (l.getD i []) < 0) : setB l = false := by
  classical
  exact decide_eq_false (fun k => h (k i h0 hi))
theorem drop_cons {α : Type} {l : List α} {i : Nat} (d : α) (h : i < l.length) : l.drop i = l.getD i d :: l.drop (i + 1) := by
  rw [List.drop_eq_getElem_cons h, List.getD_eq_getElem?_getD, List.getElem?_eq_getElem h]; rfl
theorem getD_mem {α : Type} {l : List α} {i : Nat} (d : α) (h : i < l.length) : l.getD i d ∈ l := by
  rw [List.getD_eq_getElem?_getD, List.getElem?_eq_getElem h]; exact List.getElem_mem h
theorem bytes_len32 {l : List UInt8} (h : (Lib.byteCells l).length = 32) : l.length = 32 := by rwa [Lib.byteCells_length] at h
theorem take_same {α : Type} {l m : List α} {i : Nat} {d : α} (h : i < l.length) (hm : i < m.length) (h1 : l.take i = m.take i) (h2 : l.getD i d = m.getD i d) : l.take (i + 1) = m.take (i + 1) := by
  rw [List.take_succ_eq_append_getElem h, List.take_succ_eq_append_getElem hm, h1]
  rw [List.getD_eq_getElem?_getD, List.getElem?_eq_getElem h, List.getD_eq_getElem?_getD, List.getElem?_eq_getElem hm] at h2
  rw [show l[i] = m[i] from h2]
theorem getD_ne {α : Type} {l m : List α} {i : Nat} {d : α} (h2 : l.getD i d ≠ m.getD i d) : l ≠ m := fun e => h2 (by rw [e])
open Go.RowKit
set_option maxRecDepth 100000
theorem bcmp {vx vy : Value} {x y : Bs} {w : World} (hx : RB w vx x) (hy : RB w vy y) : (callFunc 168 #[vx, vy]).run Tryd.prog w = .ok (.value (.int .i64 (Lib.compareBytes x y))) w := by
 rw [run_callFunc_extern (e := Extern.BytealgCompare.compare) Tryd.func168 (by kernel_rfl) (by kernel_rfl) (by kernel_rfl) (by kernel_rfl), run_compareRB hx hy]
 rfl
theorem wr2_ty25 : Tryd.prog.underlying 25 = some (.array 32 5) := by kernel_rfl
theorem wr2_eg25 : Tryd.prog.eqGuardType Tryd.prog.depth 25 = false := by kernel_rfl
theorem wr2_ty5 : Tryd.prog.underlying 5 = some (.int .u8) := by kernel_rfl
theorem wr2_sz5 : ∀ w' : World, (sizeOf 5).run Tryd.prog w' = .ok 1 w' := fun _ => by kernel_rfl
theorem wr2_pl154 : Plain Tryd.prog 154 := fun _ _ => by kernel_rfl
theorem wr2_ty23 : Tryd.prog.underlying 23 = some (.slice 25) := by kernel_rfl
theorem wr2_szg25 : ∀ w' : World, (sizeOf 25).run Tryd.prog w' = .ok 32 w' := fun _ => by kernel_rfl
theorem wr2_isz25 : (Tryd.prog.info? 25).map (·.size) = some 32 := by kernel_rfl
theorem wr2_pl142 : Plain Tryd.prog 142 := fun _ _ => by kernel_rfl
theorem wzero_any (w : World) (x : Id32) :
  Calls Tryd.prog 60 #[AB x.1] w fun e w' => e = .returned (.bool (zeroB x)) ∧ Ext w w' := by
 refine calls_of_wpF (args := [AB x.1]) Tryd.func60 rfl 6 rfl (Nat.le_of_ble_eq_true rfl) ?_
 intro ρ0 hb
 have T0 : ρ0 0 = (AB x.1 : Value) := hb.get 0
 clear hb
 have hE := Ext.refl w
 refine sk fun K1 hK1 => (wt (oS rfl (Yk.box (cs := (Lib.byteCells x.1 : List Value).toArray) T0 fun n2 w3 hn4 hb5 hx6 hs7 => ?_)))
 have hE := hE.trans hx6
 have hb8 := hb5; clear hb5
 have hl9 : n2 < w3.heap.size := by omega
 refine oA rfl (oZ (tN (hK1 _ _ (sk fun K10 hK10 => (wt (oS rfl (Yk.loadAll (vr (PQ n2 0) rfl) hb8 wr2_ty25 rfl (by exact sizeId_of x.2) (oS rfl (Yk.run (v := AB (List.replicate 32 0)) (by kernel_rfl) (oS rfl (Yk.eqArr (l1 := x.1) (l2 := (List.replicate 32 0)) wr2_ty25 wr2_ty5 wr2_sz5 wr2_eg25 (vr (AB x.1) rfl) (vr (AB (List.replicate 32 0)) rfl) (by exact x.2) (by simp) (oA rfl (oZ (tN (hK10 _ _ (wpF_ret (postF_ret (fn := Tryd.f60) _ rfl [.bool (decide (x.1 = (List.replicate 32 0)))] (.bool (decide (x.1 = (List.replicate 32 0)))) rfl ⟨rfl, trivial⟩ ?_)))))))))))))))))
 exact ⟨rfl, hE⟩

theorem bytesCompare_any (w : World) (vx vy : Value) (x y : Bs) (hx : RB w vx x) (hy : RB w vy y) :
  Calls Tryd.prog 154 #[vx, vy] w fun e w' => e = .returned (.int .i64 (Lib.compareBytes x y)) ∧ Ext w w' := by
 refine calls_of_wpF (args := [vx, vy]) Tryd.func154 rfl 8 rfl (Nat.le_of_ble_eq_true rfl) ?_
 intro ρ0 hb
 have T0 : ρ0 0 = (vx : Value) := hb.get 0
 have T1 : ρ0 1 = (vy : Value) := hb.get 1
 clear hb
 have hE := Ext.refl w
 refine sk fun K1 hK1 => (wt (oA rfl (oZ (tN (hK1 _ _ (sk fun K2 hK2 => (wt (oM rfl (oM rfl (oS rfl (Yk.extern2 T0 T1 (bcmp (hx.keep hE) (hy.keep hE)) (oA rfl (oZ (tN (hK2 _ _ (wpF_ret (postF_ret (fn := Tryd.f154) _ rfl [.int .i64 (Lib.compareBytes x y : Int)] (.int .i64 (Lib.compareBytes x y : Int)) rfl ⟨rfl, trivial⟩ ?_)))))))))))))))))
 exact ⟨rfl, hE⟩

theorem compare_any (w : World) (x y : Bs) (hxl : x.length = 32) (hyl : y.length = 32) :
  Calls Tryd.prog 142 #[AB x, AB y] w fun e w' => e = .returned (.int .i64 (Lib.compareBytes x y)) ∧ Ext w w' := by
 refine calls_of_wpF (args := [AB x, AB y]) Tryd.func142 rfl 8 rfl (Nat.le_of_ble_eq_true rfl) ?_
 intro ρ0 hb
 have T0 : ρ0 0 = (AB x : Value) := hb.get 0
 have T1 : ρ0 1 = (AB y : Value) := hb.get 1
 clear hb
 have hE := Ext.refl w
 refine sk fun K1 hK1 => (wt (oS rfl (Yk.box (cs := (Lib.byteCells x : List Value).toArray) T0 fun n2 w3 hn4 hb5 hx6 hs7 => ?_)))
 have hE := hE.trans hx6
 have hb8 := hb5; clear hb5
 have hl9 : n2 < w3.heap.size := by omega
 refine oS rfl (Yk.box (cs := (Lib.byteCells y : List Value).toArray) T1 fun n10 w11 hn12 hb13 hx14 hs15 => ?_)
 have hA16 := Ext.refl w3
 have hea17 := hE
 have hz18 := hE.size
 have hlt19 := lte (bl hb8) hn12
 have hE := hE.trans hx14
 have hb8 := eb hx14 hb8
 have hA16 := hA16.trans hx14
 have hb20 := hb13; clear hb13
 have hl21 : n10 < w11.heap.size := by omega
 refine oA rfl (oZ (tN (hK1 _ _ (sk fun K22 hK22 => ?_))))
 refine wpF_draw [Is (.slice (some ⟨n2, 0, none⟩) 32 32), Is (.slice (some ⟨n10, 0, none⟩) 32 32), Is (.int .i64 (Lib.compareBytes x y : Int)), Is (.int .i64 (Lib.compareBytes x y : Int))] (by kernel_rfl) [5, 6, 7, 4] (by kernel_rfl) (by kernel_rfl) (si4 trivial) ?hs1001 ?hQ1001
 case hs1001 =>
  refine ⟨?_, ?_, ?_, ?_, trivial⟩
  ·refine stepN rfl fun σ w1 hC h => ?_
   have e2 : σ 2 = PQ n2 0 := (eqo (h 2 (by decide))).trans rfl
   exact Yk.sliceArr wr2_ty25 wr2_sz5 e2 ⟨Ext.refl _, rfl⟩
  ·refine stepN rfl fun σ w1 hC h => ?_
   have e3 : σ 3 = PQ n10 0 := (eqo (h 3 (by decide))).trans rfl
   exact Yk.sliceArr wr2_ty25 wr2_sz5 e3 ⟨Ext.refl _, rfl⟩
  ·refine stepN rfl fun σ w1 hC h => ?_
   have e5 := eqo (h 5 (by decide))
   have e6 := eqo (h 6 (by decide))
   refine Yk.callA2 wr2_pl154 e5 e6 ((bytesCompare_any _ _ _ x y (RB.ofBlkN (eb hC hb8) hxl (by decide)) (RB.ofBlkN (eb hC hb20) hyl (by decide))).mono ?_)
   rintro e w2 ⟨rfl, hx⟩
   exact ⟨_, rfl, hx, rfl⟩
  ·refine stepN rfl fun σ w1 hC h => ?_
   have e7 := eqo (h 7 (by decide))
   exact Yk.assign e7 ⟨Ext.refl _, rfl⟩
 intro ρ23 w24 hx25 he hf
 obtain ⟨-, -, -, k4, -⟩ := hf
 obtain ⟨T0, T1, T2, T3, -⟩ := he.hold [(0, _), (1, _), (2, PQ n2 0), (3, PQ n10 0)] ⟨T0, T1, rfl, rfl, trivial⟩ rfl
 clear he
 have hE := hE.trans hx25
 have hb8 := eb hx25 hb8
 have hA16 := hA16.trans hx25
 have hb20 := eb hx25 hb20
 have T4 : ρ23 4 = .int .i64 (Lib.compareBytes x y : Int) := k4
 clear k4
 refine tN (hK22 _ _ (wpF_ret (postF_ret (fn := Tryd.f142) _ rfl [.int .i64 (Lib.compareBytes x y : Int)] (.int .i64 (Lib.compareBytes x y : Int)) rfl ⟨T4, trivial⟩ ?_)))
 exact ⟨rfl, hE⟩

theorem isSet_any (w : World) (v : Value) (l : List Bs) (hr : RG 32 Lib.byteCells w v l) (hll : l.length < 9223372036854775807) :
  Calls Tryd.prog 104 #[v] w fun e w' => e = .returned (.bool (setB l)) ∧ Ext w w' := by
 refine calls_of_wpF (args := [v]) Tryd.func104 rfl 25 rfl (Nat.le_of_ble_eq_true rfl) ?_
 intro ρ0 hb
 have T0 : ρ0 0 = (v : Value) := hb.get 0
 clear hb
 have hE := Ext.refl w
 refine sk fun K1 hK1 => (wt (oA rfl (oZ (tN (hK1 _ _ (sk fun K2 hK2 => (sk fun K3 hK3 => (wt (oM rfl (oS rfl (Yk.lenRG wr2_ty23 (RG.of hr T0) (oM rfl (oL_ [(0, v), (2, .bool (false)), (5, NI l.length), (6, NI 0)] ⟨T0, rfl, rfl, rfl, trivial⟩ fun ρ4 ⟨T0, T2, T5, T6, _⟩ => (tN (hK3 _ _ (wpF_block (wpF_loop (fun (ρ : Slots) (wz : World) => ∃ i : Nat, ρ 0 = (v : Value) ∧ ρ 5 = (NI l.length : Value) ∧ ρ 6 = (NI i : Value) ∧ RG 32 Lib.byteCells wz v l ∧ Ext w wz ∧ (i ≤ l.length) ∧ (setTo l i) ∧ True) (fun ρ _ => l.length - (intOf (ρ 6)).toNat) ⟨0, T0, T5, T6, hr, hE, Nat.zero_le _, setTo_zero _, trivial⟩ ?_)))))))))))))))))
 clear hr hE
 rintro ρ5 w6 ⟨i, T0, T5, T6, hr, hE, hi, hn, -⟩
 have q6 := T6
 by_cases hlt : i < l.length
 ·have hel : (l.getD i []).length = 32 := bytes_len32 (RG.elem hr [] hlt)
  by_cases q0 : 0 < i
  ·have hem : (l.getD (i - 1) []).length = 32 := bytes_len32 (RG.elem hr [] (by omega))
   by_cases q1 : 0 ≤ Lib.compareBytes (l.getD (i - 1) []) (l.getD i [])
   ·refine sk fun K7 hK7 => (wt (oS rfl (Yk.eqI (a := (i : Nat)) (b := (l.length : Nat)) T6 T5 (k_lss _ _ _ _) (oZ (tN (hK7 _ _ (sk fun K8 hK8 => (wpF_true (vr (.bool (true)) (congrArg Value.bool (decide_eq_true (hlt)))) (wpF_skip (tN (hK8 _ _ (sk fun K9 hK9 => (wpF_block (sk fun K10 hK10 => (wt (oM rfl (oA rfl (oZ ?_))))))))))))))))))
    refine tN (hK10 _ _ (sk fun K11 hK11 => ?_))
    refine wpF_draw [Is (NI i), Is (.bool (true)), Is (.bool (true)), Is (v), Is (NI i), Is (NI ((i) - (1))), fun x w' => PR (Lib.byteCells (l.getD ((i) - (1)) ([] : List UInt8))) x w', Is (AB (l.getD ((i) - (1)) ([] : List UInt8))), Is (v), Is (NI i), fun x w' => PR (Lib.byteCells (l.getD (i) ([] : List UInt8))) x w', Is (AB (l.getD (i) ([] : List UInt8))), Is (.int .i64 (Lib.compareBytes (l.getD ((i) - (1)) ([] : List UInt8)) (l.getD (i) ([] : List UInt8)) : Int)), Is (.bool (true)), Is (.bool (true))] (by kernel_rfl) [9, 10, 11, 12, 13, 14, 15, 16, 17, 18, 19, 20, 21, 22, 23] (by kernel_rfl) (by kernel_rfl) (si6 ⟨(fun _ _ _ h k => PR.keep h k), (si3 ⟨(fun _ _ _ h k => PR.keep h k), (si4 trivial)⟩)⟩) ?hs1004 ?hQ1004
    case hs1004 =>
     refine ⟨?_, ?_, ?_, ?_, ?_, ?_, ?_, ?_, ?_, ?_, ?_, ?_, ?_, ?_, ?_, trivial⟩
     ·refine stepN rfl fun σ w1 hC h => ?_
      have e3 := (eqo (h 3 (by decide))).trans T6
      exact Yk.move e3 ⟨Ext.refl _, rfl⟩
     ·refine stepN rfl fun σ w1 hC h => ?_
      have e9 := eqo (h 9 (by decide))
      exact Yk.eqI (a := (i : Nat)) (b := (0 : Nat)) e9 rfl (k_gtr _ _ _ _) ⟨Ext.refl _, (congrArg Value.bool (decide_eq_true (q0)))⟩
     ·refine stepN rfl fun σ w1 hC h => ?_
      have e10 := eqo (h 10 (by decide))
      exact Yk.move e10 ⟨Ext.refl _, rfl⟩
     ·refine stepY 2 true 11 rfl rfl (fun _ _ h => h) fun σ w1 hC h => ?_
      have e0 := (eqo (h 0 (by decide))).trans T0
      exact Yk.move e0 ⟨Ext.refl _, rfl⟩
     ·refine stepY 2 true 11 rfl rfl (fun _ _ h => h) fun σ w1 hC h => ?_
      have e3 := (eqo (h 3 (by decide))).trans T6
      exact Yk.move e3 ⟨Ext.refl _, rfl⟩
     ·refine stepY 2 true 11 rfl rfl (fun _ _ h => h) fun σ w1 hC h => ?_
      have e13 := eqo (h 13 (by decide))
      exact Yk.bin (xv := NI i) (yv := NI 1) e13 rfl rfl (i64_sub _ _ _ (by omega) (by omega)) ⟨Ext.refl _, rfl⟩
     ·refine stepY 2 true 11 rfl rfl (fun _ _ h => h) fun σ w1 hC h => ?_
      have e12 := eqo (h 12 (by decide))
      have e14 := eqo (h 14 (by decide))
      exact Yk.atRG wr2_ty23 wr2_szg25 (by decide) ([] : List UInt8) (RG.of (hr.keep hC) e12) e14 (by omega) fun v h => ⟨Ext.refl _, h⟩
     ·refine stepY 2 true 11 rfl rfl (fun _ _ h => h) fun σ w1 hC h => ?_
      have e15 : (fun x w' => PR (Lib.byteCells (l.getD ((i) - (1)) ([] : List UInt8))) x w') (σ 15) w1 := h 15 (by decide)
      exact Yk.loadPR e15 wr2_ty25 rfl (by rw [RG.elem hr ([] : List UInt8) (by omega)]; exact wr2_isz25) ⟨Ext.refl _, rfl⟩
     ·refine stepY 2 true 11 rfl rfl (fun _ _ h => h) fun σ w1 hC h => ?_
      have e0 := (eqo (h 0 (by decide))).trans T0
      exact Yk.move e0 ⟨Ext.refl _, rfl⟩
     ·refine stepY 2 true 11 rfl rfl (fun _ _ h => h) fun σ w1 hC h => ?_
      have e3 := (eqo (h 3 (by decide))).trans T6
      exact Yk.move e3 ⟨Ext.refl _, rfl⟩
     ·refine stepY 2 true 11 rfl rfl (fun _ _ h => h) fun σ w1 hC h => ?_
      have e17 := eqo (h 17 (by decide))
      have e18 := eqo (h 18 (by decide))
      exact Yk.atRG wr2_ty23 wr2_szg25 (by decide) ([] : List UInt8) (RG.of (hr.keep hC) e17) e18 (by omega) fun v h => ⟨Ext.refl _, h⟩
     ·refine stepY 2 true 11 rfl rfl (fun _ _ h => h) fun σ w1 hC h => ?_
      have e19 : (fun x w' => PR (Lib.byteCells (l.getD (i) ([] : List UInt8))) x w') (σ 19) w1 := h 19 (by decide)
      exact Yk.loadPR e19 wr2_ty25 rfl (by rw [RG.elem hr ([] : List UInt8) (by omega)]; exact wr2_isz25) ⟨Ext.refl _, rfl⟩
     ·refine stepY 2 true 11 rfl rfl (fun _ _ h => h) fun σ w1 hC h => ?_
      have e16 := eqo (h 16 (by decide))
      have e20 := eqo (h 20 (by decide))
      refine Yk.callA2 wr2_pl142 e16 e20 ((compare_any _ (l.getD ((i) - (1)) ([] : List UInt8)) (l.getD (i) ([] : List UInt8)) (bytes_len32 (RG.elem hr ([] : List UInt8) (by omega))) (bytes_len32 (RG.elem hr ([] : List UInt8) (by omega)))).mono ?_)
      rintro e w2 ⟨rfl, hx⟩
      exact ⟨_, rfl, hx, rfl⟩
     ·refine stepY 2 true 11 rfl rfl (fun _ _ h => h) fun σ w1 hC h => ?_
      have e21 := eqo (h 21 (by decide))
      exact Yk.eqI e21 (vr (NI 0) rfl) (z_geq _ .i64 (Lib.compareBytes (l.getD ((i) - (1)) ([] : List UInt8)) (l.getD (i) ([] : List UInt8)) : Int) ((0 : Nat) : Int)) ⟨Ext.refl _, (congrArg Value.bool (decide_eq_true (by omega)))⟩
     ·refine stepN rfl fun σ w1 hC h => ?_
      have e11 := eqo (h 11 (by decide))
      have e22 := eqo (h 22 (by decide))
      exact Yk.pickT e11 e22 ⟨Ext.refl _, rfl⟩
    intro ρ12 w13 hx14 he hf
    obtain ⟨-, -, -, -, -, -, -, -, -, -, -, -, -, -, k23, -⟩ := hf
    obtain ⟨T0, T3, T5, T6, T7, -⟩ := he.hold [(0, _), (3, _), (5, _), (6, _), (7, _)] ⟨T0, T6, T5, T6, (congrArg Value.bool (decide_eq_true (hlt))), trivial⟩ rfl
    clear he
    have hr := hr.keep hx14
    have hE := hE.trans hx14
    have T23 : ρ12 23 = .bool (true) := k23
    clear k23
    refine tN (hK11 _ _ (wpF_true T23 (sk fun K15 hK15 => (wt (oA rfl (oZ (tN (hK15 _ _ (wpF_ret (inBlockF_ret (thenF_ret (thenF_ret (inBlockF_ret (thenF_ret (postF_ret (fn := Tryd.f104) _ rfl [.bool (false)] (.bool (false)) rfl ⟨rfl, trivial⟩ ?_)))))))))))))))
    exact ⟨by rw [setB_no hlt q0 (by omega)], hE⟩
   refine sk fun K16 hK16 => (wt (oS rfl (Yk.eqI (a := (i : Nat)) (b := (l.length : Nat)) T6 T5 (k_lss _ _ _ _) (oZ (tN (hK16 _ _ (sk fun K17 hK17 => (wpF_true (vr (.bool (true)) (congrArg Value.bool (decide_eq_true (hlt)))) (wpF_skip (tN (hK17 _ _ (sk fun K18 hK18 => (wpF_block (sk fun K19 hK19 => (wt (oM rfl (oA rfl (oZ ?_))))))))))))))))))
   refine tN (hK19 _ _ (sk fun K20 hK20 => ?_))
   refine wpF_draw [Is (NI i), Is (.bool (true)), Is (.bool (true)), Is (v), Is (NI i), Is (NI ((i) - (1))), fun x w' => PR (Lib.byteCells (l.getD ((i) - (1)) ([] : List UInt8))) x w', Is (AB (l.getD ((i) - (1)) ([] : List UInt8))), Is (v), Is (NI i), fun x w' => PR (Lib.byteCells (l.getD (i) ([] : List UInt8))) x w', Is (AB (l.getD (i) ([] : List UInt8))), Is (.int .i64 (Lib.compareBytes (l.getD ((i) - (1)) ([] : List UInt8)) (l.getD (i) ([] : List UInt8)) : Int)), Is (.bool (false)), Is (.bool (false))] (by kernel_rfl) [9, 10, 11, 12, 13, 14, 15, 16, 17, 18, 19, 20, 21, 22, 23] (by kernel_rfl) (by kernel_rfl) (si6 ⟨(fun _ _ _ h k => PR.keep h k), (si3 ⟨(fun _ _ _ h k => PR.keep h k), (si4 trivial)⟩)⟩) ?hs2004 ?hQ2004
   case hs2004 =>
    refine ⟨?_, ?_, ?_, ?_, ?_, ?_, ?_, ?_, ?_, ?_, ?_, ?_, ?_, ?_, ?_, trivial⟩
    ·refine stepN rfl fun σ w1 hC h => ?_
     have e3 := (eqo (h 3 (by decide))).trans T6
     exact Yk.move e3 ⟨Ext.refl _, rfl⟩
    ·refine stepN rfl fun σ w1 hC h => ?_
     have e9 := eqo (h 9 (by decide))
     exact Yk.eqI (a := (i : Nat)) (b := (0 : Nat)) e9 rfl (k_gtr _ _ _ _) ⟨Ext.refl _, (congrArg Value.bool (decide_eq_true (q0)))⟩
    ·refine stepN rfl fun σ w1 hC h => ?_
     have e10 := eqo (h 10 (by decide))
     exact Yk.move e10 ⟨Ext.refl _, rfl⟩
    ·refine stepY 2 true 11 rfl rfl (fun _ _ h => h) fun σ w1 hC h => ?_
     have e0 := (eqo (h 0 (by decide))).trans T0
     exact Yk.move e0 ⟨Ext.refl _, rfl⟩
    ·refine stepY 2 true 11 rfl rfl (fun _ _ h => h) fun σ w1 hC h => ?_
     have e3 := (eqo (h 3 (by decide))).trans T6
     exact Yk.move e3 ⟨Ext.refl _, rfl⟩
    ·refine stepY 2 true 11 rfl rfl (fun _ _ h => h) fun σ w1 hC h => ?_
     have e13 := eqo (h 13 (by decide))
     exact Yk.bin (xv := NI i) (yv := NI 1) e13 rfl rfl (i64_sub _ _ _ (by omega) (by omega)) ⟨Ext.refl _, rfl⟩
    ·refine stepY 2 true 11 rfl rfl (fun _ _ h => h) fun σ w1 hC h => ?_
     have e12 := eqo (h 12 (by decide))
     have e14 := eqo (h 14 (by decide))
     exact Yk.atRG wr2_ty23 wr2_szg25 (by decide) ([] : List UInt8) (RG.of (hr.keep hC) e12) e14 (by omega) fun v h => ⟨Ext.refl _, h⟩
    ·refine stepY 2 true 11 rfl rfl (fun _ _ h => h) fun σ w1 hC h => ?_
     have e15 : (fun x w' => PR (Lib.byteCells (l.getD ((i) - (1)) ([] : List UInt8))) x w') (σ 15) w1 := h 15 (by decide)
     exact Yk.loadPR e15 wr2_ty25 rfl (by rw [RG.elem hr ([] : List UInt8) (by omega)]; exact wr2_isz25) ⟨Ext.refl _, rfl⟩
    ·refine stepY 2 true 11 rfl rfl (fun _ _ h => h) fun σ w1 hC h => ?_
     have e0 := (eqo (h 0 (by decide))).trans T0
     exact Yk.move e0 ⟨Ext.refl _, rfl⟩
    ·refine stepY 2 true 11 rfl rfl (fun _ _ h => h) fun σ w1 hC h => ?_
     have e3 := (eqo (h 3 (by decide))).trans T6
     exact Yk.move e3 ⟨Ext.refl _, rfl⟩
    ·refine stepY 2 true 11 rfl rfl (fun _ _ h => h) fun σ w1 hC h => ?_
     have e17 := eqo (h 17 (by decide))
     have e18 := eqo (h 18 (by decide))
     exact Yk.atRG wr2_ty23 wr2_szg25 (by decide) ([] : List UInt8) (RG.of (hr.keep hC) e17) e18 (by omega) fun v h => ⟨Ext.refl _, h⟩
    ·refine stepY 2 true 11 rfl rfl (fun _ _ h => h) fun σ w1 hC h => ?_
     have e19 : (fun x w' => PR (Lib.byteCells (l.getD (i) ([] : List UInt8))) x w') (σ 19) w1 := h 19 (by decide)
     exact Yk.loadPR e19 wr2_ty25 rfl (by rw [RG.elem hr ([] : List UInt8) (by omega)]; exact wr2_isz25) ⟨Ext.refl _, rfl⟩
    ·refine stepY 2 true 11 rfl rfl (fun _ _ h => h) fun σ w1 hC h => ?_
     have e16 := eqo (h 16 (by decide))
     have e20 := eqo (h 20 (by decide))
     refine Yk.callA2 wr2_pl142 e16 e20 ((compare_any _ (l.getD ((i) - (1)) ([] : List UInt8)) (l.getD (i) ([] : List UInt8)) (bytes_len32 (RG.elem hr ([] : List UInt8) (by omega))) (bytes_len32 (RG.elem hr ([] : List UInt8) (by omega)))).mono ?_)
     rintro e w2 ⟨rfl, hx⟩
     exact ⟨_, rfl, hx, rfl⟩
    ·refine stepY 2 true 11 rfl rfl (fun _ _ h => h) fun σ w1 hC h => ?_
     have e21 := eqo (h 21 (by decide))
     exact Yk.eqI e21 (vr (NI 0) rfl) (z_geq _ .i64 (Lib.compareBytes (l.getD ((i) - (1)) ([] : List UInt8)) (l.getD (i) ([] : List UInt8)) : Int) ((0 : Nat) : Int)) ⟨Ext.refl _, (congrArg Value.bool (decide_eq_false (by omega)))⟩
    ·refine stepN rfl fun σ w1 hC h => ?_
     have e11 := eqo (h 11 (by decide))
     have e22 := eqo (h 22 (by decide))
     exact Yk.pickT e11 e22 ⟨Ext.refl _, rfl⟩
   intro ρ21 w22 hx23 he hf
   obtain ⟨-, -, -, -, -, -, -, -, -, -, -, -, -, -, k23, -⟩ := hf
   obtain ⟨T0, T3, T5, T6, T7, -⟩ := he.hold [(0, _), (3, _), (5, _), (6, _), (7, _)] ⟨T0, T6, T5, T6, (congrArg Value.bool (decide_eq_true (hlt))), trivial⟩ rfl
   clear he
   have hr := hr.keep hx23
   have hE := hE.trans hx23
   have T23 : ρ21 23 = .bool (false) := k23
   clear k23
   refine tN (hK20 _ _ (wpF_false T23 (wpF_skip (bN (tN (hK18 _ _ (wt (oS rfl (Yk.bin (xv := NI i) (yv := NI 1) T6 rfl rfl (i64_add _ _ _ (by omega)) (oM rfl (oL_ [(0, v), (3, NI i), (5, NI l.length), (6, NI ((i) + (1))), (7, .bool (true)), (23, .bool (false))] ⟨T0, T3, T5, rfl, T7, T23, trivial⟩ fun ρ24 ⟨T0, T3, T5, T6, T7, T23, _⟩ => (tN (And.intro ⟨i + 1, T0, T5, T6, hr, hE, by omega, setTo_step hn (by omega), trivial⟩ ?_)))))))))))))
   show l.length - (intOf (ρ24 6)).toNat < l.length - (intOf (ρ5 6)).toNat
   rw [T6, q6]
   simp only [intOf, Int.toNat_natCast]; omega
  refine sk fun K25 hK25 => (wt (oS rfl (Yk.eqI (a := (i : Nat)) (b := (l.length : Nat)) T6 T5 (k_lss _ _ _ _) (oZ (tN (hK25 _ _ (sk fun K26 hK26 => (wpF_true (vr (.bool (true)) (congrArg Value.bool (decide_eq_true (hlt)))) (wpF_skip (tN (hK26 _ _ (sk fun K27 hK27 => (wpF_block (sk fun K28 hK28 => (wt (oM rfl (oA rfl (oZ ?_))))))))))))))))))
  refine tN (hK28 _ _ (sk fun K29 hK29 => ?_))
  refine wpF_draw [Is (NI i), Is (.bool (false)), Is (.bool (false)), Is undef, Is undef, Is undef, Is undef, Is undef, Is undef, Is undef, Is undef, Is undef, Is undef, Is undef, Is (.bool (false))] (by kernel_rfl) [9, 10, 11, 12, 13, 14, 15, 16, 17, 18, 19, 20, 21, 22, 23] (by kernel_rfl) (by kernel_rfl) (si3 (si12 trivial)) ?hs3004 ?hQ3004
  case hs3004 =>
   refine ⟨?_, ?_, ?_, ?_, ?_, ?_, ?_, ?_, ?_, ?_, ?_, ?_, ?_, ?_, ?_, trivial⟩
   ·refine stepN rfl fun σ w1 hC h => ?_
    have e3 := (eqo (h 3 (by decide))).trans T6
    exact Yk.move e3 ⟨Ext.refl _, rfl⟩
   ·refine stepN rfl fun σ w1 hC h => ?_
    have e9 := eqo (h 9 (by decide))
    exact Yk.eqI (a := (i : Nat)) (b := (0 : Nat)) e9 rfl (k_gtr _ _ _ _) ⟨Ext.refl _, (congrArg Value.bool (decide_eq_false (q0)))⟩
   ·refine stepN rfl fun σ w1 hC h => ?_
    have e10 := eqo (h 10 (by decide))
    exact Yk.move e10 ⟨Ext.refl _, rfl⟩
   ·refine stepX 2 true 11 rfl rfl (fun x _ (h : x = .bool false) => by rw [h]; intro h; cases h) fun _ => rfl
   ·refine stepX 2 true 11 rfl rfl (fun x _ (h : x = .bool false) => by rw [h]; intro h; cases h) fun _ => rfl
   ·refine stepX 2 true 11 rfl rfl (fun x _ (h : x = .bool false) => by rw [h]; intro h; cases h) fun _ => rfl
   ·refine stepX 2 true 11 rfl rfl (fun x _ (h : x = .bool false) => by rw [h]; intro h; cases h) fun _ => rfl
   ·refine stepX 2 true 11 rfl rfl (fun x _ (h : x = .bool false) => by rw [h]; intro h; cases h) fun _ => rfl
   ·refine stepX 2 true 11 rfl rfl (fun x _ (h : x = .bool false) => by rw [h]; intro h; cases h) fun _ => rfl
   ·refine stepX 2 true 11 rfl rfl (fun x _ (h : x = .bool false) => by rw [h]; intro h; cases h) fun _ => rfl
   ·refine stepX 2 true 11 rfl rfl (fun x _ (h : x = .bool false) => by rw [h]; intro h; cases h) fun _ => rfl
   ·refine stepX 2 true 11 rfl rfl (fun x _ (h : x = .bool false) => by rw [h]; intro h; cases h) fun _ => rfl
   ·refine stepX 2 true 11 rfl rfl (fun x _ (h : x = .bool false) => by rw [h]; intro h; cases h) fun _ => rfl
   ·refine stepX 2 true 11 rfl rfl (fun x _ (h : x = .bool false) => by rw [h]; intro h; cases h) fun _ => rfl
   ·refine stepN rfl fun σ w1 hC h => ?_
    have e11 := eqo (h 11 (by decide))
    exact Yk.pickF e11 (vr (.bool (false)) rfl) ⟨Ext.refl _, rfl⟩
  intro ρ30 w31 hx32 he hf
  obtain ⟨-, -, -, -, -, -, -, -, -, -, -, -, -, -, k23, -⟩ := hf
  obtain ⟨T0, T3, T5, T6, T7, -⟩ := he.hold [(0, _), (3, _), (5, _), (6, _), (7, _)] ⟨T0, T6, T5, T6, (congrArg Value.bool (decide_eq_true (hlt))), trivial⟩ rfl
  clear he
  have hr := hr.keep hx32
  have hE := hE.trans hx32
  have T23 : ρ30 23 = .bool (false) := k23
  clear k23
  refine tN (hK29 _ _ (wpF_false T23 (wpF_skip (bN (tN (hK27 _ _ (wt (oS rfl (Yk.bin (xv := NI i) (yv := NI 1) T6 rfl rfl (i64_add _ _ _ (by omega)) (oM rfl (oL_ [(0, v), (3, NI i), (5, NI l.length), (6, NI ((i) + (1))), (7, .bool (true)), (23, .bool (false))] ⟨T0, T3, T5, rfl, T7, T23, trivial⟩ fun ρ33 ⟨T0, T3, T5, T6, T7, T23, _⟩ => (tN (And.intro ⟨i + 1, T0, T5, T6, hr, hE, by omega, setTo_one hn (by omega), trivial⟩ ?_)))))))))))))
  show l.length - (intOf (ρ33 6)).toNat < l.length - (intOf (ρ5 6)).toNat
  rw [T6, q6]
  simp only [intOf, Int.toNat_natCast]; omega
 refine sk fun K34 hK34 => (wt (oS rfl (Yk.eqI (a := (i : Nat)) (b := (l.length : Nat)) T6 T5 (k_lss _ _ _ _) (oZ (tN (hK34 _ _ (sk fun K35 hK35 => (wpF_false (vr (.bool (false)) (congrArg Value.bool (decide_eq_false (hlt)))) (wpF_exit (thenF_exit (thenF_exit (inBlockF_hit (tN (hK2 _ _ (sk fun K36 hK36 => (wt (oA rfl (oZ (tN (hK36 _ _ (wpF_ret (postF_ret (fn := Tryd.f104) _ rfl [.bool (true)] (.bool (true)) rfl ⟨rfl, trivial⟩ ?_))))))))))))))))))))))
 exact ⟨by rw [setB_all (show l.length ≤ i by omega) hn], hE⟩

theorem refSame_any (w : World) (v u_ : Value) (l m : List Bs) (hr : RG 32 Lib.byteCells w v l) (hs : RG 32 Lib.byteCells w u_ m) (hll : l.length < 9223372036854775807) :
  Calls Tryd.prog 41 #[v, u_] w fun e w' => e = .returned (.bool (decide (l = m))) ∧ Ext w w' := by
 refine calls_of_wpF (args := [v, u_]) Tryd.func41 rfl 26 rfl (Nat.le_of_ble_eq_true rfl) ?_
 intro ρ0 hb
 have T0 : ρ0 0 = (v : Value) := hb.get 0
 have T1 : ρ0 1 = (u_ : Value) := hb.get 1
 clear hb
 have hE := Ext.refl w
 refine sk fun K1 hK1 => (wt (oA rfl (oZ ?_)))
 by_cases hq : l.length = m.length
 ·refine tN (hK1 _ _ (sk fun K2 hK2 => (sk fun K3 hK3 => (wt (oM rfl (oS rfl (Yk.lenRG wr2_ty23 (RG.of hr T0) (oM rfl (oS rfl (Yk.lenRG wr2_ty23 (RG.of hs T1) (oS rfl (Yk.eqI (a := (l.length : Nat)) (b := (m.length : Nat)) rfl rfl (k_neq _ _ _ _) (oZ (tN (hK3 _ _ (wpF_false (vr (.bool (false)) (congrArg Value.bool (decide_eq_false (fun h => h hq)))) (wpF_skip (tN (hK2 _ _ (sk fun K4 hK4 => (sk fun K5 hK5 => ?_)))))))))))))))))))))
  refine wt (oA rfl (oL_ [(0, v), (1, u_), (4, .bool (false)), (5, NI 0), (10, .bool (false))] ⟨T0, T1, rfl, rfl, (congrArg Value.bool (decide_eq_false (fun h => h hq))), trivial⟩ fun ρ6 ⟨T0, T1, T4, T5, T10, _⟩ => (tN (hK5 _ _ (wpF_block (wpF_loop (fun (ρ : Slots) (wz : World) => ∃ i : Nat, ρ 0 = (v : Value) ∧ ρ 1 = (u_ : Value) ∧ ρ 10 = (.bool (false) : Value) ∧ ρ 5 = (NI i : Value) ∧ RG 32 Lib.byteCells wz v l ∧ RG 32 Lib.byteCells wz u_ m ∧ Ext w wz ∧ (i ≤ l.length) ∧ (l.take i = m.take i) ∧ True) (fun ρ _ => l.length - (intOf (ρ 5)).toNat) ⟨0, T0, T1, T10, T5, hr, hs, hE, Nat.zero_le _, (by simp), trivial⟩ ?_))))))
  clear hr hs hE
  rintro ρ7 w8 ⟨i, T0, T1, T10, T5, hr, hs, hE, hi, hn, -⟩
  have q5 := T5
  by_cases hlt : i < l.length
  ·have hel : (l.getD i []).length = 32 := bytes_len32 (RG.elem hr [] hlt)
   have hem : (m.getD i []).length = 32 := bytes_len32 (RG.elem hs [] (by omega))
   by_cases q1 : l.getD i [] = m.getD i []
   ·refine sk fun K9 hK9 => (sk fun K10 hK10 => (wt (oM rfl (oM rfl (oS rfl (Yk.lenRG wr2_ty23 (RG.of hr T0) (oS rfl (Yk.eqI (a := (i : Nat)) (b := (l.length : Nat)) T5 rfl (k_lss _ _ _ _) (oZ (tN (hK10 _ _ (wpF_true (vr (.bool (true)) (congrArg Value.bool (decide_eq_true (hlt)))) (wpF_skip (tN (hK9 _ _ (sk fun K11 hK11 => (wpF_block (sk fun K12 hK12 => ?_))))))))))))))))))
    refine wpF_draw [Is (v), Is (NI i), fun x w' => PR (Lib.byteCells (l.getD (i) ([] : List UInt8))) x w', Is (AB (l.getD (i) ([] : List UInt8))), Is (u_), Is (NI i), fun x w' => PR (Lib.byteCells (m.getD (i) ([] : List UInt8))) x w', Is (AB (m.getD (i) ([] : List UInt8))), Is (.bool (false))] (by kernel_rfl) [17, 18, 19, 20, 21, 22, 23, 24, 25] (by kernel_rfl) (by kernel_rfl) (si2 ⟨(fun _ _ _ h k => PR.keep h k), (si3 ⟨(fun _ _ _ h k => PR.keep h k), (si2 trivial)⟩)⟩) ?hs1006 ?hQ1006
    case hs1006 =>
     refine ⟨?_, ?_, ?_, ?_, ?_, ?_, ?_, ?_, ?_, trivial⟩
     ·refine stepN rfl fun σ w1 hC h => ?_
      have e0 := (eqo (h 0 (by decide))).trans T0
      exact Yk.move e0 ⟨Ext.refl _, rfl⟩
     ·refine stepN rfl fun σ w1 hC h => ?_
      have e5 := (eqo (h 5 (by decide))).trans T5
      exact Yk.move e5 ⟨Ext.refl _, rfl⟩
     ·refine stepN rfl fun σ w1 hC h => ?_
      have e17 := eqo (h 17 (by decide))
      have e18 := eqo (h 18 (by decide))
      exact Yk.atRG wr2_ty23 wr2_szg25 (by decide) ([] : List UInt8) (RG.of (hr.keep hC) e17) e18 (by omega) fun v h => ⟨Ext.refl _, h⟩
     ·refine stepN rfl fun σ w1 hC h => ?_
      have e19 : (fun x w' => PR (Lib.byteCells (l.getD (i) ([] : List UInt8))) x w') (σ 19) w1 := h 19 (by decide)
      exact Yk.loadPR e19 wr2_ty25 rfl (by rw [RG.elem hr ([] : List UInt8) (by omega)]; exact wr2_isz25) ⟨Ext.refl _, rfl⟩
     ·refine stepN rfl fun σ w1 hC h => ?_
      have e1 := (eqo (h 1 (by decide))).trans T1
      exact Yk.move e1 ⟨Ext.refl _, rfl⟩
     ·refine stepN rfl fun σ w1 hC h => ?_
      have e5 := (eqo (h 5 (by decide))).trans T5
      exact Yk.move e5 ⟨Ext.refl _, rfl⟩
     ·refine stepN rfl fun σ w1 hC h => ?_
      have e21 := eqo (h 21 (by decide))
      have e22 := eqo (h 22 (by decide))
      exact Yk.atRG wr2_ty23 wr2_szg25 (by decide) ([] : List UInt8) (RG.of (hs.keep hC) e21) e22 (by omega) fun v h => ⟨Ext.refl _, h⟩
     ·refine stepN rfl fun σ w1 hC h => ?_
      have e23 : (fun x w' => PR (Lib.byteCells (m.getD (i) ([] : List UInt8))) x w') (σ 23) w1 := h 23 (by decide)
      exact Yk.loadPR e23 wr2_ty25 rfl (by rw [RG.elem hs ([] : List UInt8) (by omega)]; exact wr2_isz25) ⟨Ext.refl _, rfl⟩
     ·refine stepN rfl fun σ w1 hC h => ?_
      have e20 := eqo (h 20 (by decide))
      have e24 := eqo (h 24 (by decide))
      exact Yk.neArr (l1 := (l.getD (i) ([] : List UInt8))) (l2 := (m.getD (i) ([] : List UInt8))) wr2_ty25 wr2_ty5 wr2_sz5 wr2_eg25 e20 e24 (hel) (hem) ⟨Ext.refl _, (congrArg Value.bool (decide_eq_false (fun h => h q1)))⟩
    intro ρ13 w14 hx15 he hf
    obtain ⟨-, -, -, -, -, -, -, -, k25, -⟩ := hf
    obtain ⟨T0, T1, T5, T10, T14, -⟩ := he.hold [(0, _), (1, _), (5, _), (10, _), (14, _)] ⟨T0, T1, T5, T10, (congrArg Value.bool (decide_eq_true (hlt))), trivial⟩ rfl
    clear he
    have hr := hr.keep hx15
    have hs := hs.keep hx15
    have hE := hE.trans hx15
    have T25 : ρ13 25 = .bool (false) := k25
    clear k25
    refine tN (hK12 _ _ (wpF_false T25 (wpF_skip (bN (tN (hK11 _ _ (wt (oM rfl (oS rfl (Yk.bin (xv := NI i) (yv := NI 1) T5 rfl rfl (i64_add _ _ _ (by omega)) (oA rfl (oL_ [(0, v), (1, u_), (5, NI ((i) + (1))), (10, .bool (false)), (14, .bool (true)), (25, .bool (false))] ⟨T0, T1, rfl, T10, T14, T25, trivial⟩ fun ρ16 ⟨T0, T1, T5, T10, T14, T25, _⟩ => (tN (And.intro ⟨i + 1, T0, T1, T10, T5, hr, hs, hE, by omega, take_same hlt (by omega) hn q1, trivial⟩ ?_))))))))))))))
    show l.length - (intOf (ρ16 5)).toNat < l.length - (intOf (ρ7 5)).toNat
    rw [T5, q5]
    simp only [intOf, Int.toNat_natCast]; omega
   refine sk fun K17 hK17 => (sk fun K18 hK18 => (wt (oM rfl (oM rfl (oS rfl (Yk.lenRG wr2_ty23 (RG.of hr T0) (oS rfl (Yk.eqI (a := (i : Nat)) (b := (l.length : Nat)) T5 rfl (k_lss _ _ _ _) (oZ (tN (hK18 _ _ (wpF_true (vr (.bool (true)) (congrArg Value.bool (decide_eq_true (hlt)))) (wpF_skip (tN (hK17 _ _ (sk fun K19 hK19 => (wpF_block (sk fun K20 hK20 => ?_))))))))))))))))))
   refine wpF_draw [Is (v), Is (NI i), fun x w' => PR (Lib.byteCells (l.getD (i) ([] : List UInt8))) x w', Is (AB (l.getD (i) ([] : List UInt8))), Is (u_), Is (NI i), fun x w' => PR (Lib.byteCells (m.getD (i) ([] : List UInt8))) x w', Is (AB (m.getD (i) ([] : List UInt8))), Is (.bool (true))] (by kernel_rfl) [17, 18, 19, 20, 21, 22, 23, 24, 25] (by kernel_rfl) (by kernel_rfl) (si2 ⟨(fun _ _ _ h k => PR.keep h k), (si3 ⟨(fun _ _ _ h k => PR.keep h k), (si2 trivial)⟩)⟩) ?hs2006 ?hQ2006
   case hs2006 =>
    refine ⟨?_, ?_, ?_, ?_, ?_, ?_, ?_, ?_, ?_, trivial⟩
    ·refine stepN rfl fun σ w1 hC h => ?_
     have e0 := (eqo (h 0 (by decide))).trans T0
     exact Yk.move e0 ⟨Ext.refl _, rfl⟩
    ·refine stepN rfl fun σ w1 hC h => ?_
     have e5 := (eqo (h 5 (by decide))).trans T5
     exact Yk.move e5 ⟨Ext.refl _, rfl⟩
    ·refine stepN rfl fun σ w1 hC h => ?_
     have e17 := eqo (h 17 (by decide))
     have e18 := eqo (h 18 (by decide))
     exact Yk.atRG wr2_ty23 wr2_szg25 (by decide) ([] : List UInt8) (RG.of (hr.keep hC) e17) e18 (by omega) fun v h => ⟨Ext.refl _, h⟩
    ·refine stepN rfl fun σ w1 hC h => ?_
     have e19 : (fun x w' => PR (Lib.byteCells (l.getD (i) ([] : List UInt8))) x w') (σ 19) w1 := h 19 (by decide)
     exact Yk.loadPR e19 wr2_ty25 rfl (by rw [RG.elem hr ([] : List UInt8) (by omega)]; exact wr2_isz25) ⟨Ext.refl _, rfl⟩
    ·refine stepN rfl fun σ w1 hC h => ?_
     have e1 := (eqo (h 1 (by decide))).trans T1
     exact Yk.move e1 ⟨Ext.refl _, rfl⟩
    ·refine stepN rfl fun σ w1 hC h => ?_
     have e5 := (eqo (h 5 (by decide))).trans T5
     exact Yk.move e5 ⟨Ext.refl _, rfl⟩
    ·refine stepN rfl fun σ w1 hC h => ?_
     have e21 := eqo (h 21 (by decide))
     have e22 := eqo (h 22 (by decide))
     exact Yk.atRG wr2_ty23 wr2_szg25 (by decide) ([] : List UInt8) (RG.of (hs.keep hC) e21) e22 (by omega) fun v h => ⟨Ext.refl _, h⟩
    ·refine stepN rfl fun σ w1 hC h => ?_
     have e23 : (fun x w' => PR (Lib.byteCells (m.getD (i) ([] : List UInt8))) x w') (σ 23) w1 := h 23 (by decide)
     exact Yk.loadPR e23 wr2_ty25 rfl (by rw [RG.elem hs ([] : List UInt8) (by omega)]; exact wr2_isz25) ⟨Ext.refl _, rfl⟩
    ·refine stepN rfl fun σ w1 hC h => ?_
     have e20 := eqo (h 20 (by decide))
     have e24 := eqo (h 24 (by decide))
     exact Yk.neArr (l1 := (l.getD (i) ([] : List UInt8))) (l2 := (m.getD (i) ([] : List UInt8))) wr2_ty25 wr2_ty5 wr2_sz5 wr2_eg25 e20 e24 (hel) (hem) ⟨Ext.refl _, (congrArg Value.bool (decide_eq_true (q1)))⟩
   intro ρ21 w22 hx23 he hf
   obtain ⟨-, -, -, -, -, -, -, -, k25, -⟩ := hf
   obtain ⟨T0, T1, T5, T10, T14, -⟩ := he.hold [(0, _), (1, _), (5, _), (10, _), (14, _)] ⟨T0, T1, T5, T10, (congrArg Value.bool (decide_eq_true (hlt))), trivial⟩ rfl
   clear he
   have hr := hr.keep hx23
   have hs := hs.keep hx23
   have hE := hE.trans hx23
   have T25 : ρ21 25 = .bool (true) := k25
   clear k25
   refine tN (hK20 _ _ (wpF_true T25 (sk fun K24 hK24 => (wt (oA rfl (oZ (tN (hK24 _ _ (wpF_ret (inBlockF_ret (thenF_ret (thenF_ret (inBlockF_ret (thenF_ret (postF_ret (fn := Tryd.f41) _ rfl [.bool (false)] (.bool (false)) rfl ⟨rfl, trivial⟩ ?_)))))))))))))))
   exact ⟨by rw [decide_eq_false (getD_ne q1)], hE⟩
  refine sk fun K25 hK25 => (sk fun K26 hK26 => (wt (oM rfl (oM rfl (oS rfl (Yk.lenRG wr2_ty23 (RG.of hr T0) (oS rfl (Yk.eqI (a := (i : Nat)) (b := (l.length : Nat)) T5 rfl (k_lss _ _ _ _) (oZ (tN (hK26 _ _ (wpF_false (vr (.bool (false)) (congrArg Value.bool (decide_eq_false (hlt)))) (wpF_exit (thenF_exit (thenF_exit (inBlockF_hit (tN (hK4 _ _ (sk fun K27 hK27 => (wt (oA rfl (oZ ?_))))))))))))))))))))))
  refine tN (hK27 _ _ (wpF_ret (postF_ret (fn := Tryd.f41) _ rfl [.bool (true)] (.bool (true)) rfl ⟨rfl, trivial⟩ ?_)))
  rw [show i = l.length by omega, List.take_length, show l.length = m.length by omega, List.take_length] at hn
  exact ⟨by rw [decide_eq_true hn], hE⟩
 refine tN (hK1 _ _ (sk fun K28 hK28 => (sk fun K29 hK29 => (wt (oM rfl (oS rfl (Yk.lenRG wr2_ty23 (RG.of hr T0) (oM rfl (oS rfl (Yk.lenRG wr2_ty23 (RG.of hs T1) (oS rfl (Yk.eqI (a := (l.length : Nat)) (b := (m.length : Nat)) rfl rfl (k_neq _ _ _ _) (oZ (tN (hK29 _ _ (wpF_true (vr (.bool (true)) (congrArg Value.bool (decide_eq_true (hq)))) (sk fun K30 hK30 => (wt (oA rfl (oZ ?_))))))))))))))))))))
 refine tN (hK30 _ _ (wpF_ret (thenF_ret (postF_ret (fn := Tryd.f41) _ rfl [.bool (false)] (.bool (false)) rfl ⟨rfl, trivial⟩ ?_))))
 exact ⟨by rw [decide_eq_false (fun e => hq (by rw [e]))], hE⟩
open Go.RowKit
def badB (u : Upd) : Bool := (((((decide (u.kind.toNat ≠ 1)) && (decide (u.kind.toNat ≠ 2))) || (!nameB u.name)) || (!zeroB u.old)) || (zeroB u.new))
def ordB (a u : Upd) : Bool := (decide (u.kind.toNat < a.kind.toNat)) || ((decide (a.kind.toNat = u.kind.toNat)) && (!(Op.bytesLess a.name u.name)))
def listTo (l : List Upd) (i : Nat) : Prop := ∀ j, j < i → badB (l.getD j dUpd) = false ∧ (0 < j → ordB (l.getD (j - 1) dUpd) (l.getD j dUpd) = false)
open Classical in
noncomputable def listB (l : List Upd) : Bool := decide (listTo l l.length ∧ l.length ≤ 128)
theorem listTo_zero (l : List Upd) : listTo l 0 := fun j h => by omega
theorem listTo_step {l : List Upd} {i : Nat} (h : listTo l i) (h1 : badB (l.getD i dUpd) = false) (h2 : 0 < i → ordB (l.getD (i - 1) dUpd) (l.getD i dUpd) = false) : listTo l (i + 1) := fun j hj => by
  by_cases e : j < i
  · exact h j e
  · obtain rfl : j = i := by omega
    exact ⟨h1, h2⟩
theorem listB_all {l : List Upd} {i : Nat} (hi : l.length ≤ i) (h : listTo l i) : listB l = decide (l.length ≤ 128) := by
  classical
  have h1 : listTo l l.length := fun j hj => h j (by omega)
  unfold listB
  by_cases h2 : l.length ≤ 128
  · rw [decide_eq_true h2, decide_eq_true ⟨h1, h2⟩]
  · rw [decide_eq_false h2, decide_eq_false (fun k => h2 k.2)]
theorem listB_bad {l : List Upd} {i : Nat} (hi : i < l.length) (h : badB (l.getD i dUpd) = true) : listB l = false := by
  classical
  exact decide_eq_false (fun k => by have := (k.1 i hi).1; rw [h] at this; cases this)
theorem listB_ord {l : List Upd} {i : Nat} (hi : i < l.length) (h0 : 0 < i) (h : ordB (l.getD (i - 1) dUpd) (l.getD i dUpd) = true) : listB l = false := by
  classical
  exact decide_eq_false (fun k => by have := (k.1 i hi).2 h0; rw [h] at this; cases this)
noncomputable def setW (l : List Bs) : Bool := (decide (l.length ≤ 65536) && setB l) && (decide (l.length = 0) || !decide (l.getD 0 [] = List.replicate 32 0))
def boundB (n m : Int) : Bool := decide (n ≥ ((0 : Nat) : Int)) && decide (n ≤ m)
theorem and_t {a b : Bool} (h : (a && b) = true) : a = true ∧ b = true := ⟨and_l h, and_r h⟩
theorem and_f {a b : Bool} (h : (a && b) = false) (ha : a = true) : b = false := by rw [ha] at h; exact h
open Go.RowKit
set_option maxRecDepth 100000
theorem wr3_ty22 : Tryd.prog.underlying 22 = some (.slice 67) := by kernel_rfl
theorem wr3_szg67 : ∀ w' : World, (sizeOf 67).run Tryd.prog w' = .ok 66 w' := fun _ => by kernel_rfl
theorem wr3_ty67 : ∃ fs, Tryd.prog.underlying 67 = some (.struct fs) := struct_of (by kernel_rfl)
theorem wr3_isz67 : (Tryd.prog.info? 67).map (·.size) = some 66 := by kernel_rfl
theorem wr3_al67 {d : Option Tmp} {ty : TypeId} {pos : String} {af : Array Edge} {gd : Option (Nat × Bool)} (σ : Operand → Value) (w : World) : (execOp σ ⟨d, .alloc 67, ty, pos, af, gd⟩).run Tryd.prog w = .ok (.value (PQ w.heap.size 0)) (w.alloc (.cells (updC (⟨0, [], zid, zid⟩ : Upd)).toArray 67)) := by kernel_rfl
theorem wr3_fo67_0 : FieldOff Tryd.prog 67 0 0 := fun b o w => by simp [go_sem]
theorem wr3_ty5 : Tryd.prog.underlying 5 = some (.int .u8) := by kernel_rfl
theorem wr3_fo67_1 : FieldOff Tryd.prog 67 1 1 := fun b o w => by simp [go_sem]
theorem wr3_ty9 : Tryd.prog.underlying 9 = some (.string) := by kernel_rfl
theorem wr3_pl59 : Plain Tryd.prog 59 := fun _ _ => by kernel_rfl
theorem wr3_fo67_2 : FieldOff Tryd.prog 67 2 2 := fun b o w => by simp [go_sem]
theorem wr3_ty25 : Tryd.prog.underlying 25 = some (.array 32 5) := by kernel_rfl
theorem wr3_pl60 : Plain Tryd.prog 60 := fun _ _ => by kernel_rfl
theorem wr3_fo67_3 : FieldOff Tryd.prog 67 3 34 := fun b o w => by simp [go_sem]
theorem wr3_ty23 : Tryd.prog.underlying 23 = some (.slice 25) := by kernel_rfl
theorem wr3_pl104 : Plain Tryd.prog 104 := fun _ _ => by kernel_rfl
theorem wr3_szg25 : ∀ w' : World, (sizeOf 25).run Tryd.prog w' = .ok 32 w' := fun _ => by kernel_rfl
theorem wr3_isz25 : (Tryd.prog.info? 25).map (·.size) = some 32 := by kernel_rfl
set_option maxHeartbeats 1600000
theorem wlist_any (w : World) (v : Value) (l : List Upd) (hr : RG 66 updC w v l) (hll : l.length < 9223372036854775807) (hln : ∀ u ∈ l, u.name.length ≤ 4611686018427387904) :
  Calls Tryd.prog 57 #[v] w fun e w' => e = .returned (.bool (listB l)) ∧ Ext w w' := by
 refine calls_of_wpF (args := [v]) Tryd.func57 rfl 76 rfl (Nat.le_of_ble_eq_true rfl) ?_
 intro ρ0 hb
 have T0 : ρ0 0 = (v : Value) := hb.get 0
 clear hb
 have hE := Ext.refl w
 refine sk fun K1 hK1 => (wt (oA rfl (oZ (tN (hK1 _ _ (sk fun K2 hK2 => (sk fun K3 hK3 => (wt (oM rfl (oS rfl (Yk.lenRG wr3_ty22 (RG.of hr T0) (oM rfl (oL_ [(0, v), (2, .bool (false)), (5, v), (6, NI l.length), (7, NI 0)] ⟨T0, rfl, T0, rfl, rfl, trivial⟩ fun ρ4 ⟨T0, T2, T5, T6, T7, _⟩ => (tN (hK3 _ _ (wpF_block (wpF_loop (fun (ρ : Slots) (wz : World) => ∃ i : Nat, ρ 0 = (v : Value) ∧ ρ 5 = (v : Value) ∧ ρ 6 = (NI l.length : Value) ∧ ρ 7 = (NI i : Value) ∧ RG 66 updC wz v l ∧ Ext w wz ∧ (i ≤ l.length) ∧ (listTo l i) ∧ True) (fun ρ _ => l.length - (intOf (ρ 7)).toNat) ⟨0, T0, T5, T6, T7, hr, hE, Nat.zero_le _, listTo_zero _, trivial⟩ ?_)))))))))))))))))
 clear hr hE
 rintro ρ5 w6 ⟨i, T0, T5, T6, T7, hr, hE, hi, hn, -⟩
 have q7 := T7
 refine sk fun K7 hK7 => (wt (oS rfl (Yk.eqI (a := (i : Nat)) (b := (l.length : Nat)) T7 T6 (k_lss _ _ _ _) (oZ (tN (hK7 _ _ (sk fun K8 hK8 => ?_)))))))
 refine wpF_cond ((i) < (l.length)) (vr (.bool (decide ((i) < (l.length)))) rfl) (fun hc0 => ?_) (fun hc0 => ?_)
 ·have hlt : i < l.length := hc0
  have hnm := hln _ (getD_mem dUpd hlt)
  refine wpF_skip (tN (hK8 _ _ (sk fun K9 hK9 => (wpF_block (sk fun K10 hK10 => (wt (oM rfl ?_)))))))
  have hl13 : (updC (l.getD (i) dUpd)).length = 66 := (RG.elem hr dUpd (by omega))
  refine oS rfl (Yk.atRG wr3_ty22 wr3_szg67 (by decide) dUpd (RG.of hr T5) T7 (by omega) fun v11 hp12 => (oS rfl (Yk.loadPR (PR.of hp12 (vr v11 rfl)) (wr3_ty67).choose_spec rfl (by rw [upd_len]; exact wr3_isz67) (oS rfl (Yk.alloc (cs := (updC (⟨0, [], zid, zid⟩ : Upd)).toArray) wr3_al67 fun n14 w15 hn16 hb17 hx18 hs19 => ?_)))))
  have hA20 := Ext.refl w6
  have hea21 := hE
  have hz22 := hE.size
  have hE := hE.trans hx18
  have hA20 := hA20.trans hx18
  have hb23 := hb17; clear hb17
  have hl24 : n14 < w15.heap.size := by omega
  refine oA rfl (oS rfl (Yk.storeAll (vr (PQ n14 0) rfl) (vr (.agg (updC (l.getD (i) dUpd)).toArray) rfl) hb23 (by simp only [List.size_toArray, upd_len]) (st_isz (upd_len _) wr3_isz67) (upd_one (x := (l.getD (i) dUpd))) fun w25 hb26 hg27 hs28 => ?_))
  have hE := row_fresh hE hg27 (Nat.le_trans hz22 (by omega))
  have hA20 := row_fresh hA20 hg27 (Nat.le_trans (Nat.le_refl _) (by omega))
  clear hb23
  have hb23 : w25.heap[n14]? = some (.cells (updC (l.getD (i) dUpd)).toArray 67 (0, 0)) := hb26; clear hb26
  have hl29 := bl hb23
  refine oZ ?_
  clear hp12
  refine tN (hK10 _ _ (sk fun K30 hK30 => (sk fun K31 hK31 => (wt (oS rfl (Yk.fieldAt wr3_fo67_0 (vr (PQ n14 0) rfl) (oS rfl (Yk.cell1 wr3_ty5 rfl (vr (PQ n14 0) rfl) (cellAt hb23 (show (updC (l.getD (i) dUpd))[0]? = some (B8 (((l.getD (i) dUpd)).kind) : Value) from upd_g0 (l.getD (i) dUpd))) (oS rfl (Yk.eqI (a := ((((l.getD (i) dUpd)).kind).toNat : Nat)) (b := (1 : Nat)) rfl rfl (k_neq _ _ _ _) (oM rfl (opsF_mayV (PQ n14 0) rfl rfl (gT (vr (.bool (decide (((((l.getD (i) dUpd)).kind).toNat : Nat) ≠ (1)))) rfl)) (fun hG32 => Yk.fieldAt wr3_fo67_0 (vr (PQ n14 0) rfl) ⟨rfl, rfl⟩) (opsF_mayV (B8 (((l.getD (i) dUpd)).kind)) rfl rfl (gT (vr (.bool (decide (((((l.getD (i) dUpd)).kind).toNat : Nat) ≠ (1)))) rfl)) (fun hG33 => Yk.cell1 wr3_ty5 rfl (mayT (vr (cond ((decide (((((l.getD (i) dUpd)).kind).toNat : Nat) ≠ (1)))) (PQ n14 0) undef) rfl) hG33) (cellAt hb23 (show (updC (l.getD (i) dUpd))[0]? = some (B8 (((l.getD (i) dUpd)).kind) : Value) from upd_g0 (l.getD (i) dUpd))) ⟨rfl, rfl⟩) (opsF_mayV (.bool (decide (((((l.getD (i) dUpd)).kind).toNat : Nat) ≠ (2)))) rfl rfl (gT (vr (.bool (decide (((((l.getD (i) dUpd)).kind).toNat : Nat) ≠ (1)))) rfl)) (fun hG34 => Yk.eqI (a := (((((l.getD (i) dUpd)).kind).toNat : Nat) : Int)) (b := ((2 : Nat) : Int)) (mayT (vr (cond ((decide (((((l.getD (i) dUpd)).kind).toNat : Nat) ≠ (1)))) (B8 (((l.getD (i) dUpd)).kind)) undef) rfl) hG34) (vr (B8 (2)) rfl) (k_neq _ .u8 ((((l.getD (i) dUpd)).kind).toNat) (2)) ⟨rfl, rfl⟩) (oS rfl (Yk.pickAndN (vr (.bool (decide (((((l.getD (i) dUpd)).kind).toNat : Nat) ≠ (1)))) rfl) (fun hA => (mayT (vr (cond ((decide (((((l.getD (i) dUpd)).kind).toNat : Nat) ≠ (1)))) (.bool (decide (((((l.getD (i) dUpd)).kind).toNat : Nat) ≠ (2)))) undef) rfl) hA)) (vr (.bool (false)) rfl) fun bb35 hbb36 => (oM rfl (opsF_mayV (PQ n14 1) rfl rfl (gF (vr (.bool (bb35)) rfl)) (fun hG37 => Yk.fieldAt wr3_fo67_1 (vr (PQ n14 0) rfl) ⟨rfl, rfl⟩) (opsF_mayV (St (((l.getD (i) dUpd)).name)) rfl rfl (gF (vr (.bool (bb35)) rfl)) (fun hG38 => Yk.cell1 wr3_ty9 rfl (mayT (vr (cond (!bb35) (PQ n14 1) undef) rfl) hG38) (cellAt hb23 (show (updC (l.getD (i) dUpd))[1]? = some (St (((l.getD (i) dUpd)).name) : Value) from upd_g1 (l.getD (i) dUpd))) ⟨rfl, rfl⟩) (opsF_mayC (.bool (nameB (((l.getD (i) dUpd)).name))) rfl rfl (gF (vr (.bool (bb35)) rfl)) (fun hG39 => Yk.callA1 wr3_pl59 (mayT (vr (cond (!bb35) (St (((l.getD (i) dUpd)).name)) undef) rfl) hG39) ((name_any _ (((l.getD (i) dUpd)).name) (by have := hnm; omega)).mono (by rintro e w2 ⟨rfl, hx⟩; exact ⟨_, rfl, rfl, hx⟩))) fun w41 hx42 => ?_))))))))))))))))))))
  have hE := hE.trans hx42
  have hA20 := hA20.trans hx42
  have hb23 := eb hx42 hb23
  refine opsF_mayV (.bool (!(nameB (((l.getD (i) dUpd)).name)))) rfl rfl (gF (vr (.bool (bb35)) rfl)) (fun hG43 => Yk.notB (mayT (vr (cond (!bb35) (.bool (nameB (((l.getD (i) dUpd)).name))) undef) rfl) hG43) ⟨rfl, rfl⟩) (oS rfl (Yk.pickOrN (vr (.bool (bb35)) rfl) (vr (.bool (true)) rfl) (fun hA => (mayT (vr (cond (!bb35) (.bool (!(nameB (((l.getD (i) dUpd)).name)))) undef) rfl) (not_i hA))) fun bb44 hbb45 => (oM rfl (opsF_mayV (PQ n14 2) rfl rfl (gF (vr (.bool (bb44)) rfl)) (fun hG46 => Yk.fieldAt wr3_fo67_2 (vr (PQ n14 0) rfl) ⟨rfl, rfl⟩) (opsF_mayV (AB (((l.getD (i) dUpd)).old.1)) rfl rfl (gF (vr (.bool (bb44)) rfl)) (fun hG47 => Yk.loadPR (PR.blk hb23 (upd_m2 (l.getD (i) dUpd)) (upd_n2 (l.getD (i) dUpd)) (mayT (vr (cond (!bb44) (PQ n14 2) undef) rfl) hG47)) wr3_ty25 rfl (sizeId_of ((l.getD (i) dUpd)).old.2) ⟨rfl, rfl⟩) (opsF_mayC (.bool (zeroB (((l.getD (i) dUpd)).old))) rfl rfl (gF (vr (.bool (bb44)) rfl)) (fun hG48 => Yk.callA1 wr3_pl60 (mayT (vr (cond (!bb44) (AB (((l.getD (i) dUpd)).old.1)) undef) rfl) hG48) ((wzero_any _ (((l.getD (i) dUpd)).old)).mono (by rintro e w2 ⟨rfl, hx⟩; exact ⟨_, rfl, rfl, hx⟩))) fun w50 hx51 => ?_))))))
  have hE := hE.trans hx51
  have hA20 := hA20.trans hx51
  have hb23 := eb hx51 hb23
  refine opsF_mayV (.bool (!(zeroB (((l.getD (i) dUpd)).old)))) rfl rfl (gF (vr (.bool (bb44)) rfl)) (fun hG52 => Yk.notB (mayT (vr (cond (!bb44) (.bool (zeroB (((l.getD (i) dUpd)).old))) undef) rfl) hG52) ⟨rfl, rfl⟩) (oS rfl (Yk.pickOrN (vr (.bool (bb44)) rfl) (vr (.bool (true)) rfl) (fun hA => (mayT (vr (cond (!bb44) (.bool (!(zeroB (((l.getD (i) dUpd)).old)))) undef) rfl) (not_i hA))) fun bb53 hbb54 => (oM rfl (opsF_mayV (PQ n14 34) rfl rfl (gF (vr (.bool (bb53)) rfl)) (fun hG55 => Yk.fieldAt wr3_fo67_3 (vr (PQ n14 0) rfl) ⟨rfl, rfl⟩) (opsF_mayV (AB (((l.getD (i) dUpd)).new.1)) rfl rfl (gF (vr (.bool (bb53)) rfl)) (fun hG56 => Yk.loadPR (PR.blk hb23 (upd_m3 (l.getD (i) dUpd)) (upd_n3 (l.getD (i) dUpd)) (mayT (vr (cond (!bb53) (PQ n14 34) undef) rfl) hG56)) wr3_ty25 rfl (sizeId_of ((l.getD (i) dUpd)).new.2) ⟨rfl, rfl⟩) (opsF_mayC (.bool (zeroB (((l.getD (i) dUpd)).new))) rfl rfl (gF (vr (.bool (bb53)) rfl)) (fun hG57 => Yk.callA1 wr3_pl60 (mayT (vr (cond (!bb53) (AB (((l.getD (i) dUpd)).new.1)) undef) rfl) hG57) ((wzero_any _ (((l.getD (i) dUpd)).new)).mono (by rintro e w2 ⟨rfl, hx⟩; exact ⟨_, rfl, rfl, hx⟩))) fun w59 hx60 => ?_))))))
  have hE := hE.trans hx60
  have hA20 := hA20.trans hx60
  have hb23 := eb hx60 hb23
  refine oS rfl (Yk.pickOrN (vr (.bool (bb53)) rfl) (vr (.bool (true)) rfl) (fun hA => (mayT (vr (cond (!bb53) (.bool (zeroB (((l.getD (i) dUpd)).new))) undef) rfl) (not_i hA))) fun bb61 hbb62 => (oZ (tN (hK31 _ _ ?_))))
  refine wpF_condB (bb61) (vr (.bool (bb61)) rfl) (fun hc1 => ?_) (fun hc1 => ?_)
  ·subst hbb36 hbb45 hbb54 hbb62
   have hbad : badB (l.getD i dUpd) = true := hc1
   refine sk fun K63 hK63 => (wt (oA rfl (oZ (tN (hK63 _ _ (wpF_ret (thenF_ret (inBlockF_ret (thenF_ret (thenF_ret (inBlockF_ret (thenF_ret (postF_ret (fn := Tryd.f57) _ rfl [.bool (false)] (.bool (false)) rfl ⟨rfl, trivial⟩ ?_)))))))))))))
   exact ⟨by rw [listB_bad hlt hbad], hE⟩
  subst hbb36 hbb45 hbb54 hbb62
  have hbad : badB (l.getD i dUpd) = false := hc1
  refine wpF_skip (tN (hK30 _ _ (sk fun K64 hK64 => ?_)))
  refine wpF_draw [Is (NI i), Is (.bool (decide ((0) < (i)))), Is (.bool (decide ((0) < (i)))), Is (cond ((decide ((0) < (i)))) (v) undef), Is (cond ((decide ((0) < (i)))) (NI i) undef), Is (cond ((decide ((0) < (i)))) (NI ((i) - (1))) undef), fun x w' => ((decide ((0) < (i)))) = true → (fun x w' => PR (updC (l.getD ((i) - (1)) dUpd)) x w') x w', fun x w' => ((decide ((0) < (i)))) = true → (PCell (B8 ((l.getD ((i) - (1)) dUpd).kind))) x w', Is (cond ((decide ((0) < (i)))) (B8 ((l.getD ((i) - (1)) dUpd).kind)) undef), Is (cond ((decide ((0) < (i)))) (PQ n14 0) undef), Is (cond ((decide ((0) < (i)))) (B8 (((l.getD (i) dUpd)).kind)) undef), Is (cond ((decide ((0) < (i)))) (.bool (decide (((((l.getD (i) dUpd)).kind).toNat) < (((l.getD ((i) - (1)) dUpd).kind).toNat)))) undef), Is (cond ((decide ((0) < (i)))) (.bool (decide (((((l.getD (i) dUpd)).kind).toNat) < (((l.getD ((i) - (1)) dUpd).kind).toNat)))) undef), Is (cond ((decide ((0) < (i))) && !(decide (((((l.getD (i) dUpd)).kind).toNat) < (((l.getD ((i) - (1)) dUpd).kind).toNat)))) (v) undef), Is (cond ((decide ((0) < (i))) && !(decide (((((l.getD (i) dUpd)).kind).toNat) < (((l.getD ((i) - (1)) dUpd).kind).toNat)))) (NI i) undef), Is (cond ((decide ((0) < (i))) && !(decide (((((l.getD (i) dUpd)).kind).toNat) < (((l.getD ((i) - (1)) dUpd).kind).toNat)))) (NI ((i) - (1))) undef), fun x w' => ((decide ((0) < (i))) && !(decide (((((l.getD (i) dUpd)).kind).toNat) < (((l.getD ((i) - (1)) dUpd).kind).toNat)))) = true → (fun x w' => PR (updC (l.getD ((i) - (1)) dUpd)) x w') x w', fun x w' => ((decide ((0) < (i))) && !(decide (((((l.getD (i) dUpd)).kind).toNat) < (((l.getD ((i) - (1)) dUpd).kind).toNat)))) = true → (PCell (B8 ((l.getD ((i) - (1)) dUpd).kind))) x w', Is (cond ((decide ((0) < (i))) && !(decide (((((l.getD (i) dUpd)).kind).toNat) < (((l.getD ((i) - (1)) dUpd).kind).toNat)))) (B8 ((l.getD ((i) - (1)) dUpd).kind)) undef), Is (cond ((decide ((0) < (i))) && !(decide (((((l.getD (i) dUpd)).kind).toNat) < (((l.getD ((i) - (1)) dUpd).kind).toNat)))) (PQ n14 0) undef), Is (cond ((decide ((0) < (i))) && !(decide (((((l.getD (i) dUpd)).kind).toNat) < (((l.getD ((i) - (1)) dUpd).kind).toNat)))) (B8 (((l.getD (i) dUpd)).kind)) undef), Is (cond ((decide ((0) < (i))) && !(decide (((((l.getD (i) dUpd)).kind).toNat) < (((l.getD ((i) - (1)) dUpd).kind).toNat)))) (.bool (decide ((((l.getD ((i) - (1)) dUpd).kind).toNat : Nat) = ((((l.getD (i) dUpd)).kind).toNat)))) undef), Is (cond ((decide ((0) < (i))) && !(decide (((((l.getD (i) dUpd)).kind).toNat) < (((l.getD ((i) - (1)) dUpd).kind).toNat)))) (.bool (decide ((((l.getD ((i) - (1)) dUpd).kind).toNat : Nat) = ((((l.getD (i) dUpd)).kind).toNat)))) undef), Is (cond (((decide ((0) < (i))) && !(decide (((((l.getD (i) dUpd)).kind).toNat) < (((l.getD ((i) - (1)) dUpd).kind).toNat)))) && (decide ((((l.getD ((i) - (1)) dUpd).kind).toNat : Nat) = ((((l.getD (i) dUpd)).kind).toNat)))) (v) undef), Is (cond (((decide ((0) < (i))) && !(decide (((((l.getD (i) dUpd)).kind).toNat) < (((l.getD ((i) - (1)) dUpd).kind).toNat)))) && (decide ((((l.getD ((i) - (1)) dUpd).kind).toNat : Nat) = ((((l.getD (i) dUpd)).kind).toNat)))) (NI i) undef), Is (cond (((decide ((0) < (i))) && !(decide (((((l.getD (i) dUpd)).kind).toNat) < (((l.getD ((i) - (1)) dUpd).kind).toNat)))) && (decide ((((l.getD ((i) - (1)) dUpd).kind).toNat : Nat) = ((((l.getD (i) dUpd)).kind).toNat)))) (NI ((i) - (1))) undef), fun x w' => (((decide ((0) < (i))) && !(decide (((((l.getD (i) dUpd)).kind).toNat) < (((l.getD ((i) - (1)) dUpd).kind).toNat)))) && (decide ((((l.getD ((i) - (1)) dUpd).kind).toNat : Nat) = ((((l.getD (i) dUpd)).kind).toNat)))) = true → (fun x w' => PR (updC (l.getD ((i) - (1)) dUpd)) x w') x w', fun x w' => (((decide ((0) < (i))) && !(decide (((((l.getD (i) dUpd)).kind).toNat) < (((l.getD ((i) - (1)) dUpd).kind).toNat)))) && (decide ((((l.getD ((i) - (1)) dUpd).kind).toNat : Nat) = ((((l.getD (i) dUpd)).kind).toNat)))) = true → (PCell (St ((l.getD ((i) - (1)) dUpd).name))) x w', Is (cond (((decide ((0) < (i))) && !(decide (((((l.getD (i) dUpd)).kind).toNat) < (((l.getD ((i) - (1)) dUpd).kind).toNat)))) && (decide ((((l.getD ((i) - (1)) dUpd).kind).toNat : Nat) = ((((l.getD (i) dUpd)).kind).toNat)))) (St ((l.getD ((i) - (1)) dUpd).name)) undef), Is (cond (((decide ((0) < (i))) && !(decide (((((l.getD (i) dUpd)).kind).toNat) < (((l.getD ((i) - (1)) dUpd).kind).toNat)))) && (decide ((((l.getD ((i) - (1)) dUpd).kind).toNat : Nat) = ((((l.getD (i) dUpd)).kind).toNat)))) (PQ n14 1) undef), Is (cond (((decide ((0) < (i))) && !(decide (((((l.getD (i) dUpd)).kind).toNat) < (((l.getD ((i) - (1)) dUpd).kind).toNat)))) && (decide ((((l.getD ((i) - (1)) dUpd).kind).toNat : Nat) = ((((l.getD (i) dUpd)).kind).toNat)))) (St (((l.getD (i) dUpd)).name)) undef), Is (cond (((decide ((0) < (i))) && !(decide (((((l.getD (i) dUpd)).kind).toNat) < (((l.getD ((i) - (1)) dUpd).kind).toNat)))) && (decide ((((l.getD ((i) - (1)) dUpd).kind).toNat : Nat) = ((((l.getD (i) dUpd)).kind).toNat)))) (.bool (!(Op.bytesLess ((l.getD ((i) - (1)) dUpd).name) (((l.getD (i) dUpd)).name)))) undef), Is (cond ((decide ((0) < (i))) && !(decide (((((l.getD (i) dUpd)).kind).toNat) < (((l.getD ((i) - (1)) dUpd).kind).toNat)))) (.bool ((decide ((((l.getD ((i) - (1)) dUpd).kind).toNat : Nat) = ((((l.getD (i) dUpd)).kind).toNat))) && (!(Op.bytesLess ((l.getD ((i) - (1)) dUpd).name) (((l.getD (i) dUpd)).name))))) undef), Is (cond ((decide ((0) < (i)))) (.bool ((decide (((((l.getD (i) dUpd)).kind).toNat) < (((l.getD ((i) - (1)) dUpd).kind).toNat))) || ((decide ((((l.getD ((i) - (1)) dUpd).kind).toNat : Nat) = ((((l.getD (i) dUpd)).kind).toNat))) && (!(Op.bytesLess ((l.getD ((i) - (1)) dUpd).name) (((l.getD (i) dUpd)).name)))))) undef), Is (.bool ((decide ((0) < (i))) && ((decide (((((l.getD (i) dUpd)).kind).toNat) < (((l.getD ((i) - (1)) dUpd).kind).toNat))) || ((decide ((((l.getD ((i) - (1)) dUpd).kind).toNat : Nat) = ((((l.getD (i) dUpd)).kind).toNat))) && (!(Op.bytesLess ((l.getD ((i) - (1)) dUpd).name) (((l.getD (i) dUpd)).name)))))))] (by kernel_rfl) [37, 38, 39, 40, 41, 42, 43, 44, 45, 46, 47, 48, 49, 50, 51, 52, 53, 54, 55, 56, 57, 58, 59, 60, 61, 62, 63, 64, 65, 66, 67, 68, 69, 70, 71] (by kernel_rfl) (by kernel_rfl) (si6 ⟨(Stab.may ((fun _ _ _ h k => PR.keep h k))), (Stab.may (Stab.pcell _)), (si8 ⟨(Stab.may ((fun _ _ _ h k => PR.keep h k))), (Stab.may (Stab.pcell _)), (si8 ⟨(Stab.may ((fun _ _ _ h k => PR.keep h k))), (Stab.may (Stab.pcell _)), (si7 trivial)⟩)⟩)⟩) ?hs1006 ?hQ1006
  case hs1006 =>
   refine ⟨?_, ?_, ?_, ?_, ?_, ?_, ?_, ?_, ?_, ?_, ?_, ?_, ?_, ?_, ?_, ?_, ?_, ?_, ?_, ?_, ?_, ?_, ?_, ?_, ?_, ?_, ?_, ?_, ?_, ?_, ?_, ?_, ?_, ?_, ?_, trivial⟩
   ·refine stepN rfl fun σ w1 hC h => ?_
    have e3 := (eqo (h 3 (by decide))).trans T7
    exact Yk.move e3 ⟨Ext.refl _, rfl⟩
   ·refine stepN rfl fun σ w1 hC h => ?_
    have e37 := eqo (h 37 (by decide))
    exact Yk.eqI (a := (i : Nat)) (b := (0 : Nat)) e37 rfl (k_gtr _ _ _ _) ⟨Ext.refl _, rfl⟩
   ·refine stepN rfl fun σ w1 hC h => ?_
    have e38 := eqo (h 38 (by decide))
    exact Yk.move e38 ⟨Ext.refl _, rfl⟩
   ·refine stepM 2 true 39 (G := (decide ((0) < (i)))) rfl rfl (fun x _ (h : x = .bool (decide ((0) < (i)))) => gT h) (fun hu_ _ => mayU hu_) fun hG σ w1 hC h => ?_
    have e0 := (eqo (h 0 (by decide))).trans T0
    exact Yk.move e0 ⟨Ext.refl _, mayI hG⟩
   ·refine stepM 2 true 39 (G := (decide ((0) < (i)))) rfl rfl (fun x _ (h : x = .bool (decide ((0) < (i)))) => gT h) (fun hu_ _ => mayU hu_) fun hG σ w1 hC h => ?_
    have e3 := (eqo (h 3 (by decide))).trans T7
    exact Yk.move e3 ⟨Ext.refl _, mayI hG⟩
   ·refine stepM 2 true 39 (G := (decide ((0) < (i)))) rfl rfl (fun x _ (h : x = .bool (decide ((0) < (i)))) => gT h) (fun hu_ _ => mayU hu_) fun hG σ w1 hC h => ?_
    have e41 := eqo (h 41 (by decide))
    exact Yk.bin (xv := NI i) (yv := NI 1) (mayT e41 hG) (vr (NI 1) rfl) rfl (i64_sub _ (i) (1) (by simp only [gA, gB, gC, gD, gE] at hG; omega) (by simp only [gA, gB, gC, gD, gE] at hG; omega)) ⟨Ext.refl _, mayI hG⟩
   ·refine stepM 2 true 39 (G := (decide ((0) < (i)))) rfl rfl (fun x _ (h : x = .bool (decide ((0) < (i)))) => gT h) (fun hu_ _ => noG hu_) fun hG σ w1 hC h => ?_
    have e40 := eqo (h 40 (by decide))
    have e42 := eqo (h 42 (by decide))
    exact Yk.atRG wr3_ty22 wr3_szg67 (by decide) dUpd (RG.of (hr.keep (hA20.trans hC)) (mayT e40 hG)) (mayT e42 hG) (by simp only [gA, gB, gC, gD, gE] at hG; omega) fun v h => ⟨Ext.refl _, fun _ => h⟩
   ·refine stepM 2 true 39 (G := (decide ((0) < (i)))) rfl rfl (fun x _ (h : x = .bool (decide ((0) < (i)))) => gT h) (fun hu_ _ => noG hu_) fun hG σ w1 hC h => ?_
    have e43 : (fun x w' => ((decide ((0) < (i)))) = true → (fun x w' => PR (updC (l.getD ((i) - (1)) dUpd)) x w') x w') (σ 43) w1 := h 43 (by decide)
    exact Yk.fieldPR (n := 1) wr3_fo67_0 (e43 hG) fun v h => ⟨Ext.refl _, fun _ => PR.pcell (by rw [upd_f0] at h; exact h)⟩
   ·refine stepM 2 true 39 (G := (decide ((0) < (i)))) rfl rfl (fun x _ (h : x = .bool (decide ((0) < (i)))) => gT h) (fun hu_ _ => mayU hu_) fun hG σ w1 hC h => ?_
    have e44 : (fun x w' => ((decide ((0) < (i)))) = true → (PCell (B8 ((l.getD ((i) - (1)) dUpd).kind))) x w') (σ 44) w1 := h 44 (by decide)
    exact Yk.loadC wr3_ty5 rfl (e44 hG) ⟨Ext.refl _, mayI hG⟩
   ·refine stepM 2 true 39 (G := (decide ((0) < (i)))) rfl rfl (fun x _ (h : x = .bool (decide ((0) < (i)))) => gT h) (fun hu_ _ => mayU hu_) fun hG σ w1 hC h => ?_
    have e4 : σ 4 = PQ n14 0 := (eqo (h 4 (by decide))).trans rfl
    exact Yk.fieldAt wr3_fo67_0 e4 ⟨Ext.refl _, mayI hG⟩
   ·refine stepM 2 true 39 (G := (decide ((0) < (i)))) rfl rfl (fun x _ (h : x = .bool (decide ((0) < (i)))) => gT h) (fun hu_ _ => mayU hu_) fun hG σ w1 hC h => ?_
    have e46 := eqo (h 46 (by decide))
    exact Yk.cell1 wr3_ty5 rfl (mayT e46 hG) (cellAt (eb hC hb23) (show (updC (l.getD (i) dUpd))[0]? = some (B8 (((l.getD (i) dUpd)).kind) : Value) from upd_g0 (l.getD (i) dUpd))) ⟨Ext.refl _, mayI hG⟩
   ·refine stepM 2 true 39 (G := (decide ((0) < (i)))) rfl rfl (fun x _ (h : x = .bool (decide ((0) < (i)))) => gT h) (fun hu_ _ => mayU hu_) fun hG σ w1 hC h => ?_
    have e45 := eqo (h 45 (by decide))
    have e47 := eqo (h 47 (by decide))
    exact Yk.eqI (a := ((((l.getD ((i) - (1)) dUpd).kind).toNat : Nat) : Int)) (b := (((((l.getD (i) dUpd)).kind).toNat : Nat) : Int)) (mayT e45 hG) (mayT e47 hG) (k_gtr _ .u8 (((l.getD ((i) - (1)) dUpd).kind).toNat) ((((l.getD (i) dUpd)).kind).toNat)) ⟨Ext.refl _, mayI hG⟩
   ·refine stepM 2 true 39 (G := (decide ((0) < (i)))) rfl rfl (fun x _ (h : x = .bool (decide ((0) < (i)))) => gT h) (fun hu_ _ => mayU hu_) fun hG σ w1 hC h => ?_
    have e48 := eqo (h 48 (by decide))
    exact Yk.move (mayT e48 hG) ⟨Ext.refl _, mayI hG⟩
   ·refine stepM 12 false 49 (G := (decide ((0) < (i))) && !(decide (((((l.getD (i) dUpd)).kind).toNat) < (((l.getD ((i) - (1)) dUpd).kind).toNat)))) rfl rfl (fun x _ (h : x = cond ((decide ((0) < (i)))) (.bool (decide (((((l.getD (i) dUpd)).kind).toNat) < (((l.getD ((i) - (1)) dUpd).kind).toNat)))) undef) => geF h) (fun hu_ _ => mayU hu_) fun hG σ w1 hC h => ?_
    have e0 := (eqo (h 0 (by decide))).trans T0
    exact Yk.move e0 ⟨Ext.refl _, mayI hG⟩
   ·refine stepM 12 false 49 (G := (decide ((0) < (i))) && !(decide (((((l.getD (i) dUpd)).kind).toNat) < (((l.getD ((i) - (1)) dUpd).kind).toNat)))) rfl rfl (fun x _ (h : x = cond ((decide ((0) < (i)))) (.bool (decide (((((l.getD (i) dUpd)).kind).toNat) < (((l.getD ((i) - (1)) dUpd).kind).toNat)))) undef) => geF h) (fun hu_ _ => mayU hu_) fun hG σ w1 hC h => ?_
    have e3 := (eqo (h 3 (by decide))).trans T7
    exact Yk.move e3 ⟨Ext.refl _, mayI hG⟩
   ·refine stepM 12 false 49 (G := (decide ((0) < (i))) && !(decide (((((l.getD (i) dUpd)).kind).toNat) < (((l.getD ((i) - (1)) dUpd).kind).toNat)))) rfl rfl (fun x _ (h : x = cond ((decide ((0) < (i)))) (.bool (decide (((((l.getD (i) dUpd)).kind).toNat) < (((l.getD ((i) - (1)) dUpd).kind).toNat)))) undef) => geF h) (fun hu_ _ => mayU hu_) fun hG σ w1 hC h => ?_
    have e51 := eqo (h 51 (by decide))
    exact Yk.bin (xv := NI i) (yv := NI 1) (mayT e51 hG) (vr (NI 1) rfl) rfl (i64_sub _ (i) (1) (by simp only [gA, gB, gC, gD, gE] at hG; omega) (by simp only [gA, gB, gC, gD, gE] at hG; omega)) ⟨Ext.refl _, mayI hG⟩
   ·refine stepM 12 false 49 (G := (decide ((0) < (i))) && !(decide (((((l.getD (i) dUpd)).kind).toNat) < (((l.getD ((i) - (1)) dUpd).kind).toNat)))) rfl rfl (fun x _ (h : x = cond ((decide ((0) < (i)))) (.bool (decide (((((l.getD (i) dUpd)).kind).toNat) < (((l.getD ((i) - (1)) dUpd).kind).toNat)))) undef) => geF h) (fun hu_ _ => noG hu_) fun hG σ w1 hC h => ?_
    have e50 := eqo (h 50 (by decide))
    have e52 := eqo (h 52 (by decide))
    exact Yk.atRG wr3_ty22 wr3_szg67 (by decide) dUpd (RG.of (hr.keep (hA20.trans hC)) (mayT e50 hG)) (mayT e52 hG) (by simp only [gA, gB, gC, gD, gE] at hG; omega) fun v h => ⟨Ext.refl _, fun _ => h⟩
   ·refine stepM 12 false 49 (G := (decide ((0) < (i))) && !(decide (((((l.getD (i) dUpd)).kind).toNat) < (((l.getD ((i) - (1)) dUpd).kind).toNat)))) rfl rfl (fun x _ (h : x = cond ((decide ((0) < (i)))) (.bool (decide (((((l.getD (i) dUpd)).kind).toNat) < (((l.getD ((i) - (1)) dUpd).kind).toNat)))) undef) => geF h) (fun hu_ _ => noG hu_) fun hG σ w1 hC h => ?_
    have e53 : (fun x w' => ((decide ((0) < (i))) && !(decide (((((l.getD (i) dUpd)).kind).toNat) < (((l.getD ((i) - (1)) dUpd).kind).toNat)))) = true → (fun x w' => PR (updC (l.getD ((i) - (1)) dUpd)) x w') x w') (σ 53) w1 := h 53 (by decide)
    exact Yk.fieldPR (n := 1) wr3_fo67_0 (e53 hG) fun v h => ⟨Ext.refl _, fun _ => PR.pcell (by rw [upd_f0] at h; exact h)⟩
   ·refine stepM 12 false 49 (G := (decide ((0) < (i))) && !(decide (((((l.getD (i) dUpd)).kind).toNat) < (((l.getD ((i) - (1)) dUpd).kind).toNat)))) rfl rfl (fun x _ (h : x = cond ((decide ((0) < (i)))) (.bool (decide (((((l.getD (i) dUpd)).kind).toNat) < (((l.getD ((i) - (1)) dUpd).kind).toNat)))) undef) => geF h) (fun hu_ _ => mayU hu_) fun hG σ w1 hC h => ?_
    have e54 : (fun x w' => ((decide ((0) < (i))) && !(decide (((((l.getD (i) dUpd)).kind).toNat) < (((l.getD ((i) - (1)) dUpd).kind).toNat)))) = true → (PCell (B8 ((l.getD ((i) - (1)) dUpd).kind))) x w') (σ 54) w1 := h 54 (by decide)
    exact Yk.loadC wr3_ty5 rfl (e54 hG) ⟨Ext.refl _, mayI hG⟩
   ·refine stepM 12 false 49 (G := (decide ((0) < (i))) && !(decide (((((l.getD (i) dUpd)).kind).toNat) < (((l.getD ((i) - (1)) dUpd).kind).toNat)))) rfl rfl (fun x _ (h : x = cond ((decide ((0) < (i)))) (.bool (decide (((((l.getD (i) dUpd)).kind).toNat) < (((l.getD ((i) - (1)) dUpd).kind).toNat)))) undef) => geF h) (fun hu_ _ => mayU hu_) fun hG σ w1 hC h => ?_
    have e4 : σ 4 = PQ n14 0 := (eqo (h 4 (by decide))).trans rfl
    exact Yk.fieldAt wr3_fo67_0 e4 ⟨Ext.refl _, mayI hG⟩
   ·refine stepM 12 false 49 (G := (decide ((0) < (i))) && !(decide (((((l.getD (i) dUpd)).kind).toNat) < (((l.getD ((i) - (1)) dUpd).kind).toNat)))) rfl rfl (fun x _ (h : x = cond ((decide ((0) < (i)))) (.bool (decide (((((l.getD (i) dUpd)).kind).toNat) < (((l.getD ((i) - (1)) dUpd).kind).toNat)))) undef) => geF h) (fun hu_ _ => mayU hu_) fun hG σ w1 hC h => ?_
    have e56 := eqo (h 56 (by decide))
    exact Yk.cell1 wr3_ty5 rfl (mayT e56 hG) (cellAt (eb hC hb23) (show (updC (l.getD (i) dUpd))[0]? = some (B8 (((l.getD (i) dUpd)).kind) : Value) from upd_g0 (l.getD (i) dUpd))) ⟨Ext.refl _, mayI hG⟩
   ·refine stepM 12 false 49 (G := (decide ((0) < (i))) && !(decide (((((l.getD (i) dUpd)).kind).toNat) < (((l.getD ((i) - (1)) dUpd).kind).toNat)))) rfl rfl (fun x _ (h : x = cond ((decide ((0) < (i)))) (.bool (decide (((((l.getD (i) dUpd)).kind).toNat) < (((l.getD ((i) - (1)) dUpd).kind).toNat)))) undef) => geF h) (fun hu_ _ => mayU hu_) fun hG σ w1 hC h => ?_
    have e55 := eqo (h 55 (by decide))
    have e57 := eqo (h 57 (by decide))
    exact Yk.eqI (a := ((((l.getD ((i) - (1)) dUpd).kind).toNat : Nat) : Int)) (b := (((((l.getD (i) dUpd)).kind).toNat : Nat) : Int)) (mayT e55 hG) (mayT e57 hG) (k_eql _ .u8 (((l.getD ((i) - (1)) dUpd).kind).toNat) ((((l.getD (i) dUpd)).kind).toNat)) ⟨Ext.refl _, mayI hG⟩
   ·refine stepM 12 false 49 (G := (decide ((0) < (i))) && !(decide (((((l.getD (i) dUpd)).kind).toNat) < (((l.getD ((i) - (1)) dUpd).kind).toNat)))) rfl rfl (fun x _ (h : x = cond ((decide ((0) < (i)))) (.bool (decide (((((l.getD (i) dUpd)).kind).toNat) < (((l.getD ((i) - (1)) dUpd).kind).toNat)))) undef) => geF h) (fun hu_ _ => mayU hu_) fun hG σ w1 hC h => ?_
    have e58 := eqo (h 58 (by decide))
    exact Yk.move (mayT e58 hG) ⟨Ext.refl _, mayI hG⟩
   ·refine stepM 22 true 59 (G := ((decide ((0) < (i))) && !(decide (((((l.getD (i) dUpd)).kind).toNat) < (((l.getD ((i) - (1)) dUpd).kind).toNat)))) && (decide ((((l.getD ((i) - (1)) dUpd).kind).toNat : Nat) = ((((l.getD (i) dUpd)).kind).toNat)))) rfl rfl (fun x _ (h : x = cond ((decide ((0) < (i))) && !(decide (((((l.getD (i) dUpd)).kind).toNat) < (((l.getD ((i) - (1)) dUpd).kind).toNat)))) (.bool (decide ((((l.getD ((i) - (1)) dUpd).kind).toNat : Nat) = ((((l.getD (i) dUpd)).kind).toNat)))) undef) => geT h) (fun hu_ _ => mayU hu_) fun hG σ w1 hC h => ?_
    have e0 := (eqo (h 0 (by decide))).trans T0
    exact Yk.move e0 ⟨Ext.refl _, mayI hG⟩
   ·refine stepM 22 true 59 (G := ((decide ((0) < (i))) && !(decide (((((l.getD (i) dUpd)).kind).toNat) < (((l.getD ((i) - (1)) dUpd).kind).toNat)))) && (decide ((((l.getD ((i) - (1)) dUpd).kind).toNat : Nat) = ((((l.getD (i) dUpd)).kind).toNat)))) rfl rfl (fun x _ (h : x = cond ((decide ((0) < (i))) && !(decide (((((l.getD (i) dUpd)).kind).toNat) < (((l.getD ((i) - (1)) dUpd).kind).toNat)))) (.bool (decide ((((l.getD ((i) - (1)) dUpd).kind).toNat : Nat) = ((((l.getD (i) dUpd)).kind).toNat)))) undef) => geT h) (fun hu_ _ => mayU hu_) fun hG σ w1 hC h => ?_
    have e3 := (eqo (h 3 (by decide))).trans T7
    exact Yk.move e3 ⟨Ext.refl _, mayI hG⟩
   ·refine stepM 22 true 59 (G := ((decide ((0) < (i))) && !(decide (((((l.getD (i) dUpd)).kind).toNat) < (((l.getD ((i) - (1)) dUpd).kind).toNat)))) && (decide ((((l.getD ((i) - (1)) dUpd).kind).toNat : Nat) = ((((l.getD (i) dUpd)).kind).toNat)))) rfl rfl (fun x _ (h : x = cond ((decide ((0) < (i))) && !(decide (((((l.getD (i) dUpd)).kind).toNat) < (((l.getD ((i) - (1)) dUpd).kind).toNat)))) (.bool (decide ((((l.getD ((i) - (1)) dUpd).kind).toNat : Nat) = ((((l.getD (i) dUpd)).kind).toNat)))) undef) => geT h) (fun hu_ _ => mayU hu_) fun hG σ w1 hC h => ?_
    have e61 := eqo (h 61 (by decide))
    exact Yk.bin (xv := NI i) (yv := NI 1) (mayT e61 hG) (vr (NI 1) rfl) rfl (i64_sub _ (i) (1) (by simp only [gA, gB, gC, gD, gE] at hG; omega) (by simp only [gA, gB, gC, gD, gE] at hG; omega)) ⟨Ext.refl _, mayI hG⟩
   ·refine stepM 22 true 59 (G := ((decide ((0) < (i))) && !(decide (((((l.getD (i) dUpd)).kind).toNat) < (((l.getD ((i) - (1)) dUpd).kind).toNat)))) && (decide ((((l.getD ((i) - (1)) dUpd).kind).toNat : Nat) = ((((l.getD (i) dUpd)).kind).toNat)))) rfl rfl (fun x _ (h : x = cond ((decide ((0) < (i))) && !(decide (((((l.getD (i) dUpd)).kind).toNat) < (((l.getD ((i) - (1)) dUpd).kind).toNat)))) (.bool (decide ((((l.getD ((i) - (1)) dUpd).kind).toNat : Nat) = ((((l.getD (i) dUpd)).kind).toNat)))) undef) => geT h) (fun hu_ _ => noG hu_) fun hG σ w1 hC h => ?_
    have e60 := eqo (h 60 (by decide))
    have e62 := eqo (h 62 (by decide))
    exact Yk.atRG wr3_ty22 wr3_szg67 (by decide) dUpd (RG.of (hr.keep (hA20.trans hC)) (mayT e60 hG)) (mayT e62 hG) (by simp only [gA, gB, gC, gD, gE] at hG; omega) fun v h => ⟨Ext.refl _, fun _ => h⟩
   ·refine stepM 22 true 59 (G := ((decide ((0) < (i))) && !(decide (((((l.getD (i) dUpd)).kind).toNat) < (((l.getD ((i) - (1)) dUpd).kind).toNat)))) && (decide ((((l.getD ((i) - (1)) dUpd).kind).toNat : Nat) = ((((l.getD (i) dUpd)).kind).toNat)))) rfl rfl (fun x _ (h : x = cond ((decide ((0) < (i))) && !(decide (((((l.getD (i) dUpd)).kind).toNat) < (((l.getD ((i) - (1)) dUpd).kind).toNat)))) (.bool (decide ((((l.getD ((i) - (1)) dUpd).kind).toNat : Nat) = ((((l.getD (i) dUpd)).kind).toNat)))) undef) => geT h) (fun hu_ _ => noG hu_) fun hG σ w1 hC h => ?_
    have e63 : (fun x w' => (((decide ((0) < (i))) && !(decide (((((l.getD (i) dUpd)).kind).toNat) < (((l.getD ((i) - (1)) dUpd).kind).toNat)))) && (decide ((((l.getD ((i) - (1)) dUpd).kind).toNat : Nat) = ((((l.getD (i) dUpd)).kind).toNat)))) = true → (fun x w' => PR (updC (l.getD ((i) - (1)) dUpd)) x w') x w') (σ 63) w1 := h 63 (by decide)
    exact Yk.fieldPR (n := 1) wr3_fo67_1 (e63 hG) fun v h => ⟨Ext.refl _, fun _ => PR.pcell (by rw [upd_f1] at h; exact h)⟩
   ·refine stepM 22 true 59 (G := ((decide ((0) < (i))) && !(decide (((((l.getD (i) dUpd)).kind).toNat) < (((l.getD ((i) - (1)) dUpd).kind).toNat)))) && (decide ((((l.getD ((i) - (1)) dUpd).kind).toNat : Nat) = ((((l.getD (i) dUpd)).kind).toNat)))) rfl rfl (fun x _ (h : x = cond ((decide ((0) < (i))) && !(decide (((((l.getD (i) dUpd)).kind).toNat) < (((l.getD ((i) - (1)) dUpd).kind).toNat)))) (.bool (decide ((((l.getD ((i) - (1)) dUpd).kind).toNat : Nat) = ((((l.getD (i) dUpd)).kind).toNat)))) undef) => geT h) (fun hu_ _ => mayU hu_) fun hG σ w1 hC h => ?_
    have e64 : (fun x w' => (((decide ((0) < (i))) && !(decide (((((l.getD (i) dUpd)).kind).toNat) < (((l.getD ((i) - (1)) dUpd).kind).toNat)))) && (decide ((((l.getD ((i) - (1)) dUpd).kind).toNat : Nat) = ((((l.getD (i) dUpd)).kind).toNat)))) = true → (PCell (St ((l.getD ((i) - (1)) dUpd).name))) x w') (σ 64) w1 := h 64 (by decide)
    exact Yk.loadC wr3_ty9 rfl (e64 hG) ⟨Ext.refl _, mayI hG⟩
   ·refine stepM 22 true 59 (G := ((decide ((0) < (i))) && !(decide (((((l.getD (i) dUpd)).kind).toNat) < (((l.getD ((i) - (1)) dUpd).kind).toNat)))) && (decide ((((l.getD ((i) - (1)) dUpd).kind).toNat : Nat) = ((((l.getD (i) dUpd)).kind).toNat)))) rfl rfl (fun x _ (h : x = cond ((decide ((0) < (i))) && !(decide (((((l.getD (i) dUpd)).kind).toNat) < (((l.getD ((i) - (1)) dUpd).kind).toNat)))) (.bool (decide ((((l.getD ((i) - (1)) dUpd).kind).toNat : Nat) = ((((l.getD (i) dUpd)).kind).toNat)))) undef) => geT h) (fun hu_ _ => mayU hu_) fun hG σ w1 hC h => ?_
    have e4 : σ 4 = PQ n14 0 := (eqo (h 4 (by decide))).trans rfl
    exact Yk.fieldAt wr3_fo67_1 e4 ⟨Ext.refl _, mayI hG⟩
   ·refine stepM 22 true 59 (G := ((decide ((0) < (i))) && !(decide (((((l.getD (i) dUpd)).kind).toNat) < (((l.getD ((i) - (1)) dUpd).kind).toNat)))) && (decide ((((l.getD ((i) - (1)) dUpd).kind).toNat : Nat) = ((((l.getD (i) dUpd)).kind).toNat)))) rfl rfl (fun x _ (h : x = cond ((decide ((0) < (i))) && !(decide (((((l.getD (i) dUpd)).kind).toNat) < (((l.getD ((i) - (1)) dUpd).kind).toNat)))) (.bool (decide ((((l.getD ((i) - (1)) dUpd).kind).toNat : Nat) = ((((l.getD (i) dUpd)).kind).toNat)))) undef) => geT h) (fun hu_ _ => mayU hu_) fun hG σ w1 hC h => ?_
    have e66 := eqo (h 66 (by decide))
    exact Yk.cell1 wr3_ty9 rfl (mayT e66 hG) (cellAt (eb hC hb23) (show (updC (l.getD (i) dUpd))[1]? = some (St (((l.getD (i) dUpd)).name) : Value) from upd_g1 (l.getD (i) dUpd))) ⟨Ext.refl _, mayI hG⟩
   ·refine stepM 22 true 59 (G := ((decide ((0) < (i))) && !(decide (((((l.getD (i) dUpd)).kind).toNat) < (((l.getD ((i) - (1)) dUpd).kind).toNat)))) && (decide ((((l.getD ((i) - (1)) dUpd).kind).toNat : Nat) = ((((l.getD (i) dUpd)).kind).toNat)))) rfl rfl (fun x _ (h : x = cond ((decide ((0) < (i))) && !(decide (((((l.getD (i) dUpd)).kind).toNat) < (((l.getD ((i) - (1)) dUpd).kind).toNat)))) (.bool (decide ((((l.getD ((i) - (1)) dUpd).kind).toNat : Nat) = ((((l.getD (i) dUpd)).kind).toNat)))) undef) => geT h) (fun hu_ _ => mayU hu_) fun hG σ w1 hC h => ?_
    have e65 := eqo (h 65 (by decide))
    have e67 := eqo (h 67 (by decide))
    exact Yk.ltSt (l := (l.getD ((i) - (1)) dUpd).name) (m := ((l.getD (i) dUpd)).name) (.inr rfl) (mayT e65 hG) (mayT e67 hG) (!(Op.bytesLess ((l.getD ((i) - (1)) dUpd).name) (((l.getD (i) dUpd)).name))) rfl ⟨Ext.refl _, mayI hG⟩
   ·refine stepM 12 false 49 (G := (decide ((0) < (i))) && !(decide (((((l.getD (i) dUpd)).kind).toNat) < (((l.getD ((i) - (1)) dUpd).kind).toNat)))) rfl rfl (fun x _ (h : x = cond ((decide ((0) < (i)))) (.bool (decide (((((l.getD (i) dUpd)).kind).toNat) < (((l.getD ((i) - (1)) dUpd).kind).toNat)))) undef) => geF h) (fun hu_ _ => mayU hu_) fun hG σ w1 hC h => ?_
    have e59 := eqo (h 59 (by decide))
    have e68 := eqo (h 68 (by decide))
    exact Yk.pickAnd (mayT e59 hG) (fun hA => (mayT e68 (and_i hG hA))) (vr (.bool (false)) rfl) ⟨Ext.refl _, mayI hG⟩
   ·refine stepM 2 true 39 (G := (decide ((0) < (i)))) rfl rfl (fun x _ (h : x = .bool (decide ((0) < (i)))) => gT h) (fun hu_ _ => mayU hu_) fun hG σ w1 hC h => ?_
    have e49 := eqo (h 49 (by decide))
    have e69 := eqo (h 69 (by decide))
    exact Yk.pickOr (mayT e49 hG) (vr (.bool (true)) rfl) (fun hA => (mayT e69 (and_i hG (not_i hA)))) ⟨Ext.refl _, mayI hG⟩
   ·refine stepN rfl fun σ w1 hC h => ?_
    have e39 := eqo (h 39 (by decide))
    have e70 := eqo (h 70 (by decide))
    exact Yk.pickAnd e39 (fun hA => (mayT e70 hA)) (vr (.bool (false)) rfl) ⟨Ext.refl _, rfl⟩
  intro ρ65 w66 hx67 he hf
  obtain ⟨-, -, -, -, -, -, -, -, -, -, -, -, -, -, -, -, -, -, -, -, -, -, -, -, -, -, -, -, -, -, -, -, -, -, k71, -⟩ := hf
  obtain ⟨T0, T3, T4, T5, T6, T7, -⟩ := he.hold [(0, _), (3, _), (4, PQ n14 0), (5, _), (6, _), (7, _)] ⟨T0, T7, rfl, T5, T6, T7, trivial⟩ rfl
  clear he
  have hE := hE.trans hx67
  have hA20 := hA20.trans hx67
  have hb23 := eb hx67 hb23
  have T71 : ρ65 71 = .bool ((decide ((0) < (i))) && ((decide (((((l.getD (i) dUpd)).kind).toNat) < (((l.getD ((i) - (1)) dUpd).kind).toNat))) || ((decide ((((l.getD ((i) - (1)) dUpd).kind).toNat : Nat) = ((((l.getD (i) dUpd)).kind).toNat))) && (!(Op.bytesLess ((l.getD ((i) - (1)) dUpd).name) (((l.getD (i) dUpd)).name)))))) := k71
  clear k71
  refine tN (hK64 _ _ ?_)
  refine wpF_condB ((decide ((0) < (i))) && ((decide (((((l.getD (i) dUpd)).kind).toNat) < (((l.getD ((i) - (1)) dUpd).kind).toNat))) || ((decide ((((l.getD ((i) - (1)) dUpd).kind).toNat : Nat) = ((((l.getD (i) dUpd)).kind).toNat))) && (!(Op.bytesLess ((l.getD ((i) - (1)) dUpd).name) (((l.getD (i) dUpd)).name)))))) T71 (fun hc2 => ?_) (fun hc2 => ?_)
  ·have hq := and_t hc2
   refine sk fun K68 hK68 => (wt (oA rfl (oZ (tN (hK68 _ _ (wpF_ret (inBlockF_ret (thenF_ret (thenF_ret (inBlockF_ret (thenF_ret (postF_ret (fn := Tryd.f57) _ rfl [.bool (false)] (.bool (false)) rfl ⟨rfl, trivial⟩ ?_))))))))))))
   exact ⟨by rw [listB_ord hlt (of_decide_eq_true hq.1) hq.2], hE⟩
  have hord : 0 < i → ordB (l.getD (i - 1) dUpd) (l.getD i dUpd) = false := fun h0 => and_f hc2 (decide_eq_true h0)
  refine wpF_skip (bN (tN (hK9 _ _ (wt (oS rfl (Yk.bin (xv := NI i) (yv := NI 1) T7 rfl rfl (i64_add _ _ _ (by omega)) (oM rfl (oL_ [(0, v), (3, NI i), (4, PQ n14 0), (5, v), (6, NI l.length), (7, NI ((i) + (1)))] ⟨T0, T3, T4, T5, T6, rfl, trivial⟩ fun ρ69 ⟨T0, T3, T4, T5, T6, T7, _⟩ => (tN (And.intro ⟨i + 1, T0, T5, T6, T7, (hr.keep hA20), hE, by omega, listTo_step hn hbad hord, trivial⟩ ?_))))))))))
  show l.length - (intOf (ρ69 7)).toNat < l.length - (intOf (ρ5 7)).toNat
  rw [T7, q7]
  simp only [intOf, Int.toNat_natCast]; omega
 refine wpF_exit (thenF_exit (thenF_exit (inBlockF_hit (tN (hK2 _ _ (sk fun K70 hK70 => (wt (oM rfl (oS rfl (Yk.lenRG wr3_ty22 (RG.of hr T0) (oS rfl (Yk.eqI (a := (l.length : Nat)) (b := (128 : Nat)) rfl rfl (k_leq _ _ _ _) (oA rfl (oZ (tN (hK70 _ _ (wpF_ret (postF_ret (fn := Tryd.f57) _ rfl [.bool (decide ((l.length) ≤ (128)))] (.bool (decide ((l.length) ≤ (128)))) rfl ⟨rfl, trivial⟩ ?_))))))))))))))))))
 exact ⟨by rw [listB_all (show l.length ≤ i by omega) hn], hE⟩

theorem wset_any (w : World) (v : Value) (l : List Bs) (hr : RG 32 Lib.byteCells w v l) (hll : l.length < 9223372036854775807) :
  Calls Tryd.prog 58 #[v] w fun e w' => e = .returned (.bool (setW l)) ∧ Ext w w' := by
 refine calls_of_wpF (args := [v]) Tryd.func58 rfl 22 rfl (Nat.le_of_ble_eq_true rfl) ?_
 intro ρ0 hb
 have T0 : ρ0 0 = (v : Value) := hb.get 0
 clear hb
 have hE := Ext.refl w
 refine sk fun K1 hK1 => (wt (oA rfl (oZ (tN (hK1 _ _ (sk fun K2 hK2 => (wt (oM rfl (oS rfl (Yk.lenRG wr3_ty23 (RG.of hr T0) (oS rfl (Yk.eqI (a := (l.length : Nat)) (b := (65536 : Nat)) rfl rfl (k_leq _ _ _ _) (oM rfl (opsF_mayV (v) rfl rfl (gT (vr (.bool (decide ((l.length) ≤ (65536)))) rfl)) (fun hG3 => Yk.move T0 ⟨rfl, rfl⟩) (opsF_mayC (.bool (setB (l))) rfl rfl (gT (vr (.bool (decide ((l.length) ≤ (65536)))) rfl)) (fun hG4 => Yk.callA1 wr3_pl104 (mayT (vr (cond ((decide ((l.length) ≤ (65536)))) (v) undef) rfl) hG4) ((isSet_any _ v (l) hr (by omega)).mono (by rintro e w2 ⟨rfl, hx⟩; exact ⟨_, rfl, rfl, hx⟩))) fun w6 hx7 => ?_)))))))))))))))
 have hr := hr.keep hx7
 have hE := hE.trans hx7
 refine oS rfl (Yk.pickAndN (vr (.bool (decide ((l.length) ≤ (65536)))) rfl) (fun hA => (mayT (vr (cond ((decide ((l.length) ≤ (65536)))) (.bool (setB (l))) undef) rfl) hA)) (vr (.bool (false)) rfl) fun bb8 hbb9 => (oM rfl (opsF_mayV (v) rfl rfl (gT (vr (.bool (bb8)) rfl)) (fun hG10 => Yk.move T0 ⟨rfl, rfl⟩) (opsF_mayV (NI l.length) rfl rfl (gT (vr (.bool (bb8)) rfl)) (fun hG11 => Yk.lenRG wr3_ty23 (RG.of hr (mayT (vr (cond (bb8) (v) undef) rfl) hG11)) ⟨rfl, rfl⟩) (opsF_mayV (.bool (decide ((l.length : Nat) = (0)))) rfl rfl (gT (vr (.bool (bb8)) rfl)) (fun hG12 => Yk.eqI (a := ((l.length : Nat) : Int)) (b := ((0 : Nat) : Int)) (mayT (vr (cond (bb8) (NI l.length) undef) rfl) hG12) (vr (NI 0) rfl) (k_eql _ .i64 (l.length) (0)) ⟨rfl, rfl⟩) (opsF_mayV (.bool (decide ((l.length : Nat) = (0)))) rfl rfl (gT (vr (.bool (bb8)) rfl)) (fun hG13 => Yk.move (mayT (vr (cond (bb8) (.bool (decide ((l.length : Nat) = (0)))) undef) rfl) hG13) ⟨rfl, rfl⟩) (opsF_mayV (v) rfl rfl (geF (vr (cond (bb8) (.bool (decide ((l.length : Nat) = (0)))) undef) rfl)) (fun hG14 => Yk.move T0 ⟨rfl, rfl⟩) ?_)))))))
 have hl18 : (bb8 && !(decide ((l.length : Nat) = (0)))) = true → (Lib.byteCells (l.getD (0) ([] : List UInt8))).length = 32 := fun hG15 => (RG.elem hr ([] : List UInt8) (by simp only [hbb9, gA, gB, gC, gD, gE] at hG15; omega))
 refine opsF_mayX (fun v16 => PR (Lib.byteCells (l.getD (0) ([] : List UInt8))) v16 w6) rfl rfl (geF (vr (cond (bb8) (.bool (decide ((l.length : Nat) = (0)))) undef) rfl)) (fun hG15 => Yk.atRG wr3_ty23 wr3_szg25 (by decide) ([] : List UInt8) (RG.of hr (mayT (vr (cond (bb8 && !(decide ((l.length : Nat) = (0)))) (v) undef) rfl) hG15)) (vr (NI 0) rfl) (by simp only [hbb9, gA, gB, gC, gD, gE] at hG15; omega) fun _ h => ⟨h, rfl⟩) fun v16 hp17 => (opsF_mayV (AB (l.getD (0) ([] : List UInt8))) rfl rfl (geF (vr (cond (bb8) (.bool (decide ((l.length : Nat) = (0)))) undef) rfl)) (fun hG19 => Yk.loadPR (PR.of (hp17 hG19) (vr v16 rfl)) wr3_ty25 rfl (by rw [(hl18 hG19)]; exact wr3_isz25) ⟨rfl, rfl⟩) (opsF_mayC (.bool (decide (l.getD 0 [] = List.replicate 32 0))) rfl rfl (geF (vr (cond (bb8) (.bool (decide ((l.length : Nat) = (0)))) undef) rfl)) (fun hG20 => Yk.callA1 wr3_pl60 (mayT (vr (cond (bb8 && !(decide ((l.length : Nat) = (0)))) (AB (l.getD (0) ([] : List UInt8))) undef) rfl) hG20) ((wzero_any _ (⟨l.getD 0 [], bytes_len32 (RG.elem hr [] (by simp only [hbb9, gA, gB, gC, gD, gE] at hG20; omega))⟩ : Id32)).mono (by rintro e w2 ⟨rfl, hx⟩; exact ⟨_, rfl, rfl, hx⟩))) fun w22 hx23 => ?_))
 have hp17 := fun (e_ : (bb8 && !(decide ((l.length : Nat) = (0)))) = true) => (PR.keep (hp17 e_) hx23)
 have hr := hr.keep hx23
 have hE := hE.trans hx23
 refine opsF_mayV (.bool (!(decide (l.getD 0 [] = List.replicate 32 0)))) rfl rfl (geF (vr (cond (bb8) (.bool (decide ((l.length : Nat) = (0)))) undef) rfl)) (fun hG24 => Yk.notB (mayT (vr (cond (bb8 && !(decide ((l.length : Nat) = (0)))) (.bool (decide (l.getD 0 [] = List.replicate 32 0))) undef) rfl) hG24) ⟨rfl, rfl⟩) (opsF_mayB ((decide ((l.length : Nat) = (0))) || (!(decide (l.getD 0 [] = List.replicate 32 0)))) rfl rfl (gT (vr (.bool (bb8)) rfl)) (fun hG25 => Yk.pickOr (mayT (vr (cond (bb8) (.bool (decide ((l.length : Nat) = (0)))) undef) rfl) hG25) (vr (.bool (true)) rfl) (fun hA => (mayT (vr (cond (bb8 && !(decide ((l.length : Nat) = (0)))) (.bool (!(decide (l.getD 0 [] = List.replicate 32 0)))) undef) rfl) (and_i hG25 (not_i hA)))) ⟨rfl, rfl⟩) fun bb26 hbb27 => (oS rfl (Yk.pickAndN (vr (.bool (bb8)) rfl) (fun hA => (mayT (vr (cond (bb8) (.bool (bb26)) undef) rfl) hA)) (vr (.bool (false)) rfl) fun bb28 hbb29 => (oA rfl (oZ ?_)))))
 clear hp17
 refine tN (hK2 _ _ (wpF_ret (postF_ret (fn := Tryd.f58) _ rfl [.bool (bb28)] (.bool (bb28)) rfl ⟨rfl, trivial⟩ ?_)))
 subst hbb9 hbb27 hbb29
 exact ⟨rfl, hE⟩

theorem bound_any (w : World) (n m : Int) :
  Calls Tryd.prog 55 #[.int .i64 n, .int .i64 m] w fun e w' => e = .returned (.bool (boundB n m)) ∧ Ext w w' := by
 refine calls_of_wpF (args := [.int .i64 (n : Int), .int .i64 (m : Int)]) Tryd.func55 rfl 12 rfl (Nat.le_of_ble_eq_true rfl) ?_
 intro ρ0 hb
 have T0 : ρ0 0 = (.int .i64 (n : Int) : Value) := hb.get 0
 have T1 : ρ0 1 = (.int .i64 (m : Int) : Value) := hb.get 1
 clear hb
 have hE := Ext.refl w
 refine sk fun K1 hK1 => (wt (oA rfl (oZ (tN (hK1 _ _ (sk fun K2 hK2 => (wt (oM rfl (oS rfl (Yk.eqI T0 (vr (NI 0) rfl) (z_geq _ .i64 (n : Int) ((0 : Nat) : Int)) (oM rfl (opsF_mayV (.int .i64 (n : Int)) rfl rfl (gT (vr (.bool (decide (((0 : Nat) : Int) ≤ (n : Int)))) rfl)) (fun hG3 => Yk.move T0 ⟨rfl, rfl⟩) (opsF_mayV (.int .i64 (m : Int)) rfl rfl (gT (vr (.bool (decide (((0 : Nat) : Int) ≤ (n : Int)))) rfl)) (fun hG4 => Yk.move T1 ⟨rfl, rfl⟩) (opsF_mayV (.bool (decide ((n : Int) ≤ (m : Int)))) rfl rfl (gT (vr (.bool (decide (((0 : Nat) : Int) ≤ (n : Int)))) rfl)) (fun hG5 => Yk.eqI (mayT (vr (cond ((decide (((0 : Nat) : Int) ≤ (n : Int)))) (.int .i64 (n : Int)) undef) rfl) hG5) (mayT (vr (cond ((decide (((0 : Nat) : Int) ≤ (n : Int)))) (.int .i64 (m : Int)) undef) rfl) hG5) (z_leq _ .i64 (n : Int) (m : Int)) ⟨rfl, rfl⟩) (oS rfl (Yk.pickAndN (vr (.bool (decide (((0 : Nat) : Int) ≤ (n : Int)))) rfl) (fun hA => (mayT (vr (cond ((decide (((0 : Nat) : Int) ≤ (n : Int)))) (.bool (decide ((n : Int) ≤ (m : Int)))) undef) rfl) hA)) (vr (.bool (false)) rfl) fun bb6 hbb7 => (oA rfl (oZ ?_))))))))))))))))))
 refine tN (hK2 _ _ (wpF_ret (postF_ret (fn := Tryd.f55) _ rfl [.bool (bb6)] (.bool (bb6)) rfl ⟨rfl, trivial⟩ ?_)))
 subst hbb7
 exact ⟨rfl, hE⟩
open Go.RowKit
theorem Yp.mono' {P : Program} {K K' : Value → World → Prop} {J J' : List PanicEntry → World → Prop} {r : Result Next} (h : Yp P K J r) (hm : ∀ v w, K v w → K' v w) (hj : ∀ c w, J c w → J' c w) : Yp P K' J' r := by
  match r, h with
  | .ok (.value v) w', h => exact hm _ _ h
  | .ok .skip w', h => exact hm _ _ h
  | .halt (.panic v) w', h => exact hj _ _ h
  | .ok (.enter f args) w', h =>
    refine Calls.mono h fun e w'' hx => ?_
    match e, hx with
    | .returned v, hx => exact hm _ _ hx
    | .panicked ch, hx => exact hj _ _ hx
open Go.RowKit
section
variable {P : Program} {l : List Oper} {kill : Nat → List Nat} {C : Nat → World → Prop} {R : Nat → World → World → Prop} {Φ : Nat → Fact} {a0 : Act}
theorem anyInvLD (g : Good l a0.tmps.size) (hkl : killB l kill = true) {L : Nat} {oL : Oper} (hn : lastB l L = true) (hoL : l[L]? = some oL) (hgL : oL.guard = none)
    (hC : ∀ n m, n < l.length → m < l.length → n ≠ m → ((masks l []).getD n 0).testBit m = false → ∀ w w', C m w → R n w w' → C m w') (hΦ : ∀ n i, n < l.length → i < l.length → i ∉ kill n → i ≠ n → ((masks l []).getD i 0).testBit n = false → ∀ v w w', Φ i v w → R n w w' → Φ i v w') (hRr : ∀ n o w, l[n]? = some o → o.guard.isSome = true → R n w w) (hs : ∀ i o, l[i]? = some o → i ≠ L → StepOk P l C R Φ a0.tmps i o) {Q : Exit → Act → World → Prop}
    (hQ : ∀ listed a' w', (∀ i, i < l.length → i ≠ L → On listed i) → ¬ On listed L → Inv l kill C (fun _ _ => True) Φ a0 listed a' w' → Yp P (fun v w'' => Q .normal (a'.put oL.dst v) w'') (fun ch w'' => Q (.panic ch) a' w'') ((execOp a'.eval oL).run P w')) :
    ∀ (fuel : Nat) (listed : Array Bool) (a : Act) (w : World), (listed.toList.filter (!·)).length = fuel → ¬ On listed L → Inv l kill C (fun _ _ => True) Φ a0 listed a w → wpAny P .any l.toArray Q fuel listed a w := by
  obtain ⟨hlen, hb⟩ := lastB_iff hn
  have rdy : ∀ (listed : Array Bool), listed.size = l.length → (∀ i, i < l.length → On listed i) → Region.ready .any l.toArray listed = [] := by
    intro listed hsz hon
    cases hr : Region.ready .any l.toArray listed with
    | nil => rfl
    | cons x xs =>
      exfalso
      have hm : x ∈ Region.ready .any l.toArray listed := by rw [hr]; simp
      obtain ⟨h1, o, ho, _⟩ := mem_ready.1 hm
      have hx : x < l.length := by simpa using (Array.getElem?_eq_some_iff.1 ho).1
      have h2 := hon x hx
      have hx' : x < listed.size := h2.lt
      unfold On at h2
      simp [hx'] at h1 h2
      rw [h1] at h2
      cases h2
  intro fuel
  induction fuel with
  | zero =>
    intro listed a w hf hoff h
    exfalso
    have := count_zero _ hf L (by rw [Array.length_toList, h.size]; omega)
    exact hoff (by unfold On; simp at this; simp [this])
  | succ fuel ih =>
    intro listed a w hf hoff h
    have hstep : ∀ i ∈ Region.ready .any l.toArray listed, ∃ o, l[i]? = some o ∧ ¬ On listed i ∧ (∀ e ∈ o.after, Region.binds .any e = true → On listed e.on) ∧ ((listed.setIfInBounds i true).toList.filter (!·)).length = fuel := by
      intro i hi
      obtain ⟨h1, o, ho, hall⟩ := mem_ready.1 hi
      have ho' : l[i]? = some o := by simpa using ho
      have hil : i < listed.size := by rw [h.size]; exact (List.getElem?_eq_some_iff.1 ho').1
      refine ⟨o, ho', ?_, fun e he hb => hall e he hb, ?_⟩
      · unfold On
        simp [hil] at h1 ⊢
        exact h1
      · rw [Array.toList_setIfInBounds]
        have := count_set listed.toList i (by
          simp [hil] at h1
          simp [hil, h1])
        omega
    refine ⟨fun hr => ?_, fun i hi => ?_⟩
    · exfalso
      have full : ∀ i, i < l.length → On listed i := by
        intro i
        induction i using Nat.strongRecOn with
        | _ i ih =>
          intro hi
          refine Classical.byContradiction fun hno => ?_
          have ho : l[i]? = some l[i] := List.getElem?_eq_getElem hi
          have : i ∈ Region.ready .any l.toArray listed := by
            refine mem_ready.2 ⟨?_, l[i], by rw [List.getElem?_toArray]; exact ho, fun e he hb => ?_⟩
            · have hi' : i < listed.size := by rw [h.size]; exact hi
              unfold On at hno
              simp [hi'] at hno ⊢
              exact hno
            · have hlt := g.back i _ ho e he hb
              exact ih e.on hlt (by omega)
          rw [hr] at this
          cases this
      exact hoff (full L (by omega))
    · obtain ⟨o, ho, hno, hall, hcnt⟩ := hstep i hi
      by_cases hiL : i = L
      · subst hiL
        obtain rfl : oL = o := by rw [hoL] at ho; exact Option.some.inj ho
        have hon : ∀ j, j < l.length → j ≠ i → On listed j := fun j hj hne => h.maskReady ho hall (hb j (by omega))
        have hst := hQ listed a w hon hno h
        have hall' : ∀ j, j < l.length → On (listed.setIfInBounds i true) j := fun j hj => by
          by_cases hji : j = i
          · exact (on_set (by rw [h.size]; omega)).2 (.inl hji)
          · exact (on_set (by rw [h.size]; omega)).2 (.inr (hon j hj hji))
        have hr := rdy (listed.setIfInBounds i true) (by simpa using h.size) hall'
        have fin : ∀ v w', Q .normal (a.put oL.dst v) w' → wpAny P .any l.toArray Q fuel (listed.setIfInBounds i true) (a.put oL.dst v) w' := fun v w' hq => by
          cases fuel with
          | zero => exact ⟨hr, hq⟩
          | succ m => exact ⟨fun _ => hq, fun j hj => by rw [hr] at hj; cases hj⟩
        unfold wpOp
        simp only [List.getElem?_toArray, ho]
        have hw : Region.wanted oL (yielded l.toArray a.tmps) = true := by unfold Region.wanted; rw [hgL]
        rw [if_pos hw]
        refine .inl ?_
        unfold Oper.wp
        generalize (execOp a.eval oL).run P w = r at hst ⊢
        match r, hst with
        | .ok (.value v) w', hst => exact fin _ _ hst
        | .ok .skip w', hst => exact fin _ _ hst
        | .halt (.panic v) w', hst => exact hst
        | .ok (.enter f args) w', hst =>
          refine Calls.mono hst fun e w'' hx => ?_
          match e, hx with
          | .returned v, hx => exact fin _ _ hx
          | .panicked ch, hx => exact hx
      · refine h.step g hkl hC (fun _ _ _ _ _ _ _ _ _ _ => trivial) hΦ hRr ho hno hall (hs i o ho hiL) fun a' w' h' => ih _ _ _ hcnt (fun hx => ?_) h'
        exact ((on_set (by rw [h.size]; exact (List.getElem?_eq_some_iff.1 ho).1)).1 hx).elim (fun e => hiL e.symm) hoff
end
section
variable {P : Program} {n : Nat} {ρ : Slots} {w : World} {Q : PostF}
theorem wpF_draw_lastD {l : List Oper} (L : Nat) (oL : Oper) (ks : Nat → List Nat) (C : Nat → World → Prop) (R : Nat → World → World → Prop) (Φs : List Fact) {id : Nat} (hm : P.follows .mixedOrders = true) (ds : List Tmp) (hg : goodB l n = true) (hn : lastB l L = true) (hkl : killB l ks = true) (hds : slotsW l = ds) (hoL : l[L]? = some oL) (hgL : oL.guard = none) (hd : (match oL.dst with | some d => Nat.blt d n | none => true) = true) (hΦL : ∀ v w, facts Φs L v w)
    (hC : ∀ n m, n < l.length → m < l.length → n ≠ m → ((masks l []).getD n 0).testBit m = false → ∀ w w', C m w → R n w w' → C m w')
    (hΦ : ∀ n i, n < l.length → i < l.length → i ∉ ks n → i ≠ n → ((masks l []).getD i 0).testBit n = false → ∀ v w w', facts Φs i v w → R n w w' → facts Φs i v w')
    (hRr : ∀ n o w, l[n]? = some o → o.guard.isSome = true → R n w w) (h0 : ∀ n, n < l.length → C n { w with drawn := w.drawn + 1 })
    (hs : StepsFL P l L C R (facts Φs) ρ 0 l)
    (hQ : ∀ (ρ' : Slots) w1, C L w1 → EndF ds ρ ρ' → EndFacts l ks (facts Φs) ρ' w1 ds → Yp P (fun v w' => Q .normal (updO ρ' oL.dst v) w') (fun ch w' => Q (.panic ch) ρ' w') ((execOp (evalR ρ') oL).run P w1)) : wpF P n (.region id l.toArray true) Q ρ w := by
  intro a ha
  obtain ⟨T, df⟩ := a
  have hz : T.size = n := ha.size
  subst hz
  obtain ⟨hl, hb⟩ := lastB_iff hn
  have g := good_of hg
  refine wp_region_any hm (anyInvLD (a0 := { tmps := T, defers := df }) (C := C) (R := R) (Φ := facts Φs) g hkl hn hoL hgL hC hΦ hRr (fun i o ho hi => ?_) (fun listed a' w' hon hoff h => ?_) _ _ _ _ (by simp) ?_ ?_)
  · have hst := StepsFL.get l 0 hs i o ho (by omega)
    rw [Nat.zero_add] at hst
    have h2 := StepsF.ok (P := P) (l := l) (C := C) (R := R) (Φ := facts Φs) (T := T) ha.get [o] i ⟨hst, trivial⟩
    exact h2.1
  · -- what the slots hold
    have hw : ∀ d k, writer l d l.length = some k → (List.range l.length).all (fun n => !(ks n).contains k) = true → facts Φs k (a'.tmps.getD d undef) w' := fun d k hk hall => by
      obtain ⟨h1, ⟨o, ho, hd'⟩, h3⟩ := writer_some _ hk
      by_cases hkL : k = L
      · rw [hkL]; exact hΦL _ _
      refine h.new d k o ho hd' (hon k h1 hkL) (fun k' o' hkk ho' hd'' _ => h3 k' o' hkk (List.getElem?_eq_some_iff.1 ho').1 ho' hd'') (fun n hn hkn => ?_)
      have hnl : n < l.length := by have := hn.lt; rw [h.size] at this; exact this
      have := List.all_eq_true.1 hall n (by simpa using hnl)
      simp at this
      exact this hkn
    have hget : ∀ t, a'.tmps.getD t undef = if t ∈ ds then a'.tmps.getD t undef else ρ t := fun t => by
      by_cases hn : t ∈ ds
      · rw [if_pos hn]
      · rw [if_neg hn, ← ha.get]
        exact h.old t fun k o ho hd _ => hn (by
          rw [← hds]
          unfold slotsW
          rw [List.mem_eraseDups, List.mem_filterMap]
          exact ⟨o, List.mem_of_getElem? ho, hd⟩)
    have hcl := h.cls L (by omega) hoff
    have hend : EndF ds ρ (fun t => a'.tmps.getD t undef) := ⟨fun t ht => by rw [hget t, if_neg (by simpa using ht)]⟩
    have := hQ (fun t => a'.tmps.getD t undef) w' hcl hend (endFacts_of hw ds)
    rw [evalR_eq] at this
    have hfit : Fits _ (fun t => a'.tmps.getD t undef) a' := ⟨h.tmps, h.defers.trans ha.defers, fun t => rfl⟩
    have hdn : ∀ t, oL.dst = some t → t < _ := fun t ht => by rw [ht] at hd; exact Nat.le_of_ble_eq_true hd
    exact Yp.mono' this (fun v w'' hq => ⟨_, hfit.put oL.dst hdn v, hq⟩) (fun ch w'' hq => ⟨_, ⟨h.tmps, h.defers.trans ha.defers, fun t => rfl⟩, hq⟩)
  · intro h
    unfold On at h
    rw [Array.getD_eq_getD_getElem?, Array.getElem?_replicate] at h
    split at h <;> simp at h
  · have hno : ∀ i, ¬ On (Array.replicate l.toArray.size false) i := fun i h => by
      unfold On at h
      rw [Array.getD_eq_getD_getElem?, Array.getElem?_replicate] at h
      split at h <;> simp at h
    exact ⟨Array.size_replicate, fun i o _ h => absurd h (hno i), rfl, rfl, fun n hn _ => h0 n hn, trivial, fun t _ => rfl, fun t k o _ _ h => absurd h (hno k)⟩
theorem wpF_draw_endD {l : List Oper} (L : Nat) (oL : Oper) (Φs : List Fact) {id : Nat} (hm : P.follows .mixedOrders = true) (ds : List Tmp) (hg : goodB l n = true) (hn : lastB l L = true) (hds : slotsW l = ds)
    (hoL : l[L]? = some oL) (hgL : oL.guard = none) (hd : (match oL.dst with | some d => Nat.blt d n | none => true) = true) (hΦL : ∀ v w, facts Φs L v w) (hst : AllStab Ext Φs)
    (hs : StepsFL P l L (fun _ => Ext w) (fun _ => Ext) (facts Φs) ρ 0 l)
    (hQ : ∀ (ρ' : Slots) w1, Ext w w1 → EndF ds ρ ρ' → EndFacts l (fun _ => []) (facts Φs) ρ' w1 ds → Yp P (fun v w' => Q .normal (updO ρ' oL.dst v) w') (fun ch w' => Q (.panic ch) ρ' w') ((execOp (evalR ρ') oL).run P w1)) : wpF P n (.region id l.toArray true) Q ρ w :=
  wpF_draw_lastD L oL (fun _ => []) (fun _ => Ext w) (fun _ => Ext) Φs hm ds hg hn (by unfold killB; simp) hds hoL hgL hd hΦL (fun _ _ _ _ _ _ _ _ hc hr => hc.trans hr) (fun _ i _ _ _ _ _ v w1 w' => hst.get Φs i v w1 w') (fun _ _ w1 _ _ => Ext.refl w1) (fun _ _ => (Below.refl _ _).drew) hs hQ
theorem updO_other {ρ : Slots} {d : Option Tmp} {v : Value} {t : Tmp} (h : some t ≠ d) : updO ρ d v t = ρ t := by
  cases d with
  | none => rfl
  | some d =>
    show (bif Nat.beq t d then v else ρ t) = ρ t
    cases e : Nat.beq t d with
    | false => rfl
    | true => exact absurd (congrArg some (Nat.eq_of_beq_eq_true e)) h
theorem wpF_draw_endE {l : List Oper} (L : Nat) (oL : Oper) (Φs : List Fact) {id : Nat} (hm : P.follows .mixedOrders = true) (ds : List Tmp) (hg : goodB l n = true) (hn : lastB l L = true) (hds : slotsW l = ds)
    (hoL : l[L]? = some oL) (hgL : oL.guard = none) (hd : (match oL.dst with | some d => Nat.blt d n | none => true) = true) (hΦL : ∀ v w, facts Φs L v w) (hst : AllStab Ext Φs)
    (hs : StepsFL P l L (fun _ => Ext w) (fun _ => Ext) (facts Φs) ρ 0 l)
    (hQ : ∀ (ρ' : Slots) w1, Ext w w1 → EndF ds ρ ρ' → EndFacts l (fun _ => []) (facts Φs) ρ' w1 ds → Yp P (fun _ w' => ∀ ρ'' : Slots, (∀ t, some t ≠ oL.dst → ρ'' t = ρ' t) → Q .normal ρ'' w') (fun ch w' => Q (.panic ch) ρ' w') ((execOp (evalR ρ') oL).run P w1)) : wpF P n (.region id l.toArray true) Q ρ w :=
  wpF_draw_endD L oL Φs hm ds hg hn hds hoL hgL hd hΦL hst hs fun ρ' w1 h1 h2 h3 => Yp.mono' (hQ ρ' w1 h1 h2 h3) (fun _ _ h => h _ fun _ ht => updO_other ht) (fun _ _ h => h)
end
open Go.RowKit
def tailB (l : List Oper) (k : Nat) : Bool := (List.range l.length).all fun i => Nat.blt i k || (List.range i).all fun m => ((masks l []).getD i 0).testBit m
theorem tailB_iff {l : List Oper} {k : Nat} (h : tailB l k = true) : ∀ i, k ≤ i → i < l.length → ∀ m, m < i → ((masks l []).getD i 0).testBit m = true := fun i hi hl m hm => by
  unfold tailB at h
  have h1 := List.all_eq_true.1 h i (by simpa using hl)
  rcases Bool.or_eq_true _ _ ▸ h1 with h2 | h2
  · have := Nat.le_of_ble_eq_true h2
    omega
  · exact List.all_eq_true.1 h2 m (by simpa using hm)
section
variable {P : Program} {l : List Oper} {kill : Nat → List Nat} {C : Nat → World → Prop} {R : Nat → World → World → Prop} {Φ : Nat → Fact} {a0 : Act}
def StepsFC (P : Program) (l : List Oper) (L : Nat) (C : Nat → World → Prop) (R : Nat → World → World → Prop) (Φ : Nat → Fact) (ρ : Slots) : Nat → List Oper → Prop
  | _, [] => True
  | n, o :: r => (bif Nat.ble L n then True else StepF P l C R Φ ρ n o) ∧ StepsFC P l L C R Φ ρ (n + 1) r
theorem stepFC {L n : Nat} {ρ : Slots} {o : Oper} (h : StepF P l C R Φ ρ n o) : bif Nat.ble L n then True else StepF P l C R Φ ρ n o := by
  cases Nat.ble L n
  · exact h
  · trivial
theorem StepsFC.get {L : Nat} {ρ : Slots} : ∀ (r : List Oper) (n : Nat), StepsFC P l L C R Φ ρ n r → ∀ k o, r[k]? = some o → n + k < L → StepF P l C R Φ ρ (n + k) o
  | [], _, _, k, o, h, _ => by simp at h
  | o' :: r, n, hs, 0, o, h, hne => by
    simp only [List.getElem?_cons_zero, Option.some.injEq] at h
    subst h
    have h1 := hs.1
    rw [show Nat.ble L n = false by rw [← Bool.not_eq_true]; exact fun x => by have := Nat.le_of_ble_eq_true x; omega] at h1
    exact h1
  | o' :: r, n, hs, k + 1, o, h, hne => by
    rw [List.getElem?_cons_succ] at h
    have := StepsFC.get r (n + 1) hs.2 k o h (by omega)
    rwa [show n + 1 + k = n + (k + 1) by omega] at this
theorem tail_any {z : Nat} (g : Good l z) {k : Nat} (ht : ∀ i, k ≤ i → i < l.length → ∀ m, m < i → ((masks l []).getD i 0).testBit m = true) {Q : Exit → Act → World → Prop} :
    ∀ (fuel m : Nat) (listed : Array Bool) (a : Act) (w : World), listed.size = l.length → (∀ i, On listed i ↔ i < m) → k ≤ m → m ≤ l.length → l.length ≤ m + fuel → wpList P l.toArray Q (l.drop m) a w → wpAny P .any l.toArray Q fuel listed a w := by
  have noReady : ∀ (m : Nat) (listed : Array Bool), listed.size = l.length → (∀ i, On listed i ↔ i < m) → l.length ≤ m → Region.ready .any l.toArray listed = [] := by
    intro m listed hsz hon hm
    cases hr : Region.ready .any l.toArray listed with
    | nil => rfl
    | cons x xs =>
      exfalso
      have hmem : x ∈ Region.ready .any l.toArray listed := by rw [hr]; simp
      obtain ⟨h1, o, ho, _⟩ := mem_ready.1 hmem
      have hx : x < l.length := by simpa using (Array.getElem?_eq_some_iff.1 ho).1
      have h2 := (hon x).2 (by omega)
      have hx' : x < listed.size := h2.lt
      unfold On at h2
      simp [hx'] at h1 h2
      rw [h1] at h2
      cases h2
  intro fuel
  induction fuel with
  | zero =>
    intro m listed a w hsz hon hk hm hf hw
    rw [List.drop_of_length_le (by omega)] at hw
    exact ⟨noReady m listed hsz hon (by omega), hw⟩
  | succ fuel ih =>
    intro m listed a w hsz hon hk hm hf hw
    by_cases hml : m = l.length
    · have hr := noReady m listed hsz hon (by omega)
      rw [List.drop_of_length_le (by omega)] at hw
      exact ⟨fun _ => hw, fun i hi => by rw [hr] at hi; cases hi⟩
    · have hlt : m < l.length := by omega
      have hoff : ¬ On listed m := fun x => by have := (hon m).1 x; omega
      have hI : Inv l (fun _ => []) (fun _ _ => True) (fun _ _ => True) (fun _ _ _ => True) a listed a w :=
        ⟨hsz, fun i o ho hi e he hb => (hon _).2 (by have := g.back i o ho e he hb; have := (hon i).1 hi; omega), rfl, rfl, fun _ _ _ => trivial, trivial, fun _ _ => rfl, fun _ _ _ _ _ _ _ _ => trivial⟩
      refine ⟨fun hr => ?_, fun i hi => ?_⟩
      · exfalso
        have ho : l[m]? = some l[m] := List.getElem?_eq_getElem hlt
        have : m ∈ Region.ready .any l.toArray listed := by
          refine mem_ready.2 ⟨?_, l[m], by rw [List.getElem?_toArray]; exact ho, fun e he hb => (hon _).2 (g.back m _ ho e he hb)⟩
          have hm' : m < listed.size := by omega
          unfold On at hoff
          simp [hm'] at hoff ⊢
          exact hoff
        rw [hr] at this
        cases this
      · obtain ⟨h1, o, ho, hall⟩ := mem_ready.1 hi
        have ho' : l[i]? = some o := by simpa using ho
        have hil : i < l.length := (List.getElem?_eq_some_iff.1 ho').1
        have hno : ¬ On listed i := fun x => by
          have hx : i < listed.size := by omega
          unfold On at x
          simp [hx] at h1 x
          rw [h1] at x
          cases x
        have him : i = m := by
          by_cases h2 : i < m
          · exact absurd ((hon i).2 h2) hno
          · by_cases h3 : i = m
            · exact h3
            · exact absurd (hI.maskReady ho' (fun e he hb => hall e he hb) (ht i (by omega) hil m (by omega))) hoff
        subst him
        rw [List.drop_eq_getElem_cons hlt] at hw
        obtain rfl : l[i] = o := by rw [List.getElem?_eq_getElem hlt] at ho'; exact Option.some.inj ho'
        have nxt : ∀ a' w', wpList P l.toArray Q (l.drop (i + 1)) a' w' → wpAny P .any l.toArray Q fuel (listed.setIfInBounds i true) a' w' := fun a' w' hw' =>
          ih (i + 1) _ a' w' (by simpa using hsz) (fun j => by rw [on_set (by omega), hon j]; omega) (by omega) (by omega) (by omega) hw'
        unfold wpOp
        simp only [List.getElem?_toArray, ho']
        unfold wpList at hw
        split at hw
        · rename_i hwt
          rw [if_pos hwt]
          exact hw.imp (fun h => Oper.wp_mono nxt h) (fun h => h)
        · rename_i hwt
          rw [if_neg hwt]
          exact nxt _ _ hw
theorem anyInvC {E : Array Bool → World → Prop} (hE : ∀ n listed w w', n < l.length → listed.size = l.length → ¬ On listed n → (∀ i k, On listed i ∨ i = n → ((masks l []).getD i 0).testBit k = true → On listed k) → E listed w → R n w w' → E (listed.setIfInBounds n true) w') (g : Good l a0.tmps.size) (hkl : killB l kill = true) {k : Nat} (ht : ∀ i, k ≤ i → i < l.length → ∀ m, m < i → ((masks l []).getD i 0).testBit m = true) (hk : k ≤ l.length)
    (hC : ∀ n m, n < l.length → m < l.length → n ≠ m → ((masks l []).getD n 0).testBit m = false → ∀ w w', C m w → R n w w' → C m w') (hΦ : ∀ n i, n < l.length → i < l.length → i ∉ kill n → i ≠ n → ((masks l []).getD i 0).testBit n = false → ∀ v w w', Φ i v w → R n w w' → Φ i v w') (hRr : ∀ n o w, l[n]? = some o → o.guard.isSome = true → R n w w) (hs : ∀ i o, l[i]? = some o → i < k → StepOk P l C R Φ a0.tmps i o) {Q : Exit → Act → World → Prop}
    (hQ : ∀ listed a' w', (∀ i, On listed i ↔ i < k) → Inv l kill C E Φ a0 listed a' w' → wpList P l.toArray Q (l.drop k) a' w') :
    ∀ (fuel : Nat) (listed : Array Bool) (a : Act) (w : World), (listed.toList.filter (!·)).length = fuel → (∀ i, On listed i → i < k) → Inv l kill C E Φ a0 listed a w → wpAny P .any l.toArray Q fuel listed a w := by
  intro fuel
  induction fuel with
  | zero =>
    intro listed a w hf hoff h
    have full : ∀ i, i < l.length → On listed i := fun i hi => by
      have := count_zero _ hf i (by rw [Array.length_toList, h.size]; omega)
      unfold On
      simp at this
      simp [this]
    have hkl' : k = l.length := by
      by_cases e : k = l.length
      · exact e
      · have := hoff k (full k (by omega)); omega
    exact tail_any g ht 0 k listed a w h.size (fun i => ⟨hoff i, fun hi => full i (by omega)⟩) (Nat.le_refl _) hk (by omega) (hQ listed a w (fun i => ⟨hoff i, fun hi => full i (by omega)⟩) h)
  | succ fuel ih =>
    intro listed a w hf hoff h
    by_cases hfull : ∀ i, i < k → On listed i
    · have hon : ∀ i, On listed i ↔ i < k := fun i => ⟨hoff i, hfull i⟩
      refine tail_any g ht (fuel + 1) k listed a w h.size hon (Nat.le_refl _) hk ?_ (hQ listed a w hon h)
      have e := List.take_append_drop k listed.toList
      rw [← e, List.filter_append, List.length_append] at hf
      have e2 : (listed.toList.drop k).filter (!·) = listed.toList.drop k := List.filter_eq_self.2 fun b hb => by
        obtain ⟨j, hj, rfl⟩ := List.getElem_of_mem hb
        rw [List.getElem_drop]
        have hno : ¬ On listed (k + j) := fun x => by have := hoff _ x; omega
        rw [List.length_drop] at hj
        have hlt : k + j < listed.size := by rw [← Array.length_toList]; omega
        unfold On at hno
        simp [hlt] at hno
        simp [hno]
      rw [e2, List.length_drop] at hf
      have hz : listed.toList.length = l.length := by rw [Array.length_toList]; exact h.size
      omega
    · have hlow : ∃ j, j < k ∧ ¬ On listed j := by
        refine Classical.byContradiction fun hn => hfull fun i hi => Classical.byContradiction fun hx => hn ⟨i, hi, hx⟩
      obtain ⟨j0, hj0, hoff0⟩ := hlow
      refine ⟨fun hr => ?_, fun i hi => ?_⟩
      · exfalso
        have full : ∀ i, i < l.length → On listed i := by
          intro i
          induction i using Nat.strongRecOn with
          | _ i ih2 =>
            intro hi
            refine Classical.byContradiction fun hno => ?_
            have ho : l[i]? = some l[i] := List.getElem?_eq_getElem hi
            have : i ∈ Region.ready .any l.toArray listed := by
              refine mem_ready.2 ⟨?_, l[i], by rw [List.getElem?_toArray]; exact ho, fun e he hb => ?_⟩
              · have hi' : i < listed.size := by rw [h.size]; exact hi
                unfold On at hno
                simp [hi'] at hno ⊢
                exact hno
              · have hlt := g.back i _ ho e he hb
                exact ih2 e.on hlt (by omega)
            rw [hr] at this
            cases this
        exact hoff0 (full j0 (by omega))
      · obtain ⟨h1, o, ho, hall0⟩ := mem_ready.1 hi
        have ho' : l[i]? = some o := by simpa using ho
        have hilt : i < l.length := (List.getElem?_eq_some_iff.1 ho').1
        have hil : i < listed.size := by rw [h.size]; exact hilt
        have hno : ¬ On listed i := by
          unfold On
          simp [hil] at h1 ⊢
          exact h1
        have hall : ∀ e ∈ o.after, Region.binds .any e = true → On listed e.on := fun e he hb => hall0 e he hb
        have hik : i < k := by
          by_cases h2 : i < k
          · exact h2
          · exact absurd (h.maskReady ho' hall (ht i (by omega) hilt j0 (by omega))) hoff0
        have hcnt : ((listed.setIfInBounds i true).toList.filter (!·)).length = fuel := by
          rw [Array.toList_setIfInBounds]
          have := count_set listed.toList i (by
            simp [hil] at h1
            simp [hil, h1])
          omega
        refine h.step g hkl hC hE hΦ hRr ho' hno hall (hs i o ho' hik) fun a' w' h' => ih _ _ _ hcnt (fun j hx => ?_) h'
        rcases (on_set hil).1 hx with rfl | h3
        · exact hik
        · exact hoff j h3
end
section
variable {P : Program} {n : Nat} {ρ : Slots} {w : World} {Q : PostF}
theorem wpF_draw_cutG {l r : List Oper} (k0 : Nat) (ks : Nat → List Nat) (C : Nat → World → Prop) (R : Nat → World → World → Prop) (E : Array Bool → World → Prop) (Φs : List Fact) {id : Nat} (hm : P.follows .mixedOrders = true) (ds : List Tmp) (hg : goodB l n = true) (hn : tailB l k0 = true) (hk0 : Nat.ble Φs.length k0 = true) (hkl : killB l ks = true) (hds : slotsW l = ds) (hr : (l.drop k0) = r)
    (hC : ∀ n m, n < l.length → m < l.length → n ≠ m → ((masks l []).getD n 0).testBit m = false → ∀ w w', C m w → R n w w' → C m w')
    (hΦ : ∀ n i, n < l.length → i < l.length → i ∉ ks n → i ≠ n → ((masks l []).getD i 0).testBit n = false → ∀ v w w', facts Φs i v w → R n w w' → facts Φs i v w')
    (hE : ∀ n listed w w', n < l.length → listed.size = l.length → ¬ On listed n → (∀ i k, On listed i ∨ i = n → ((masks l []).getD i 0).testBit k = true → On listed k) → E listed w → R n w w' → E (listed.setIfInBounds n true) w') (hE0 : E (Array.replicate l.toArray.size false) { w with drawn := w.drawn + 1 })
    (hRr : ∀ n o w, l[n]? = some o → o.guard.isSome = true → R n w w) (h0 : ∀ n, n < l.length → C n { w with drawn := w.drawn + 1 })
    (hs : StepsFC P l k0 C R (facts Φs) ρ 0 l)
    (hlt : Nat.blt k0 l.length = true) (hQ : ∀ (ρ' : Slots) w1 listed, (∀ i, On listed i ↔ i < k0) → E listed w1 → C k0 w1 → EndF ds ρ ρ' → EndFacts l ks (facts Φs) ρ' w1 ds → opsF P l.toArray n Q r ρ' w1) : wpF P n (.region id l.toArray true) Q ρ w := by
  intro a ha
  obtain ⟨T, df⟩ := a
  have hz : T.size = n := ha.size
  subst hz
  have hk1 : k0 < l.length := Nat.le_of_ble_eq_true hlt
  have g := good_of hg
  refine wp_region_any hm (anyInvC hE (a0 := { tmps := T, defers := df }) (C := C) (R := R) (Φ := facts Φs) g hkl (tailB_iff hn) (Nat.le_of_lt hk1) hC hΦ hRr (fun i o ho hi => ?_) (fun listed a' w' hon h => ?_) _ _ _ _ (by simp) ?_ ?_)
  · have hst := StepsFC.get l 0 hs i o ho (by omega)
    rw [Nat.zero_add] at hst
    have h2 := StepsF.ok (P := P) (l := l) (C := C) (R := R) (Φ := facts Φs) (T := T) ha.get [o] i ⟨hst, trivial⟩
    exact h2.1
  · -- what the slots hold
    have hw : ∀ d k, writer l d l.length = some k → (List.range l.length).all (fun n => !(ks n).contains k) = true → facts Φs k (a'.tmps.getD d undef) w' := fun d k hk hall => by
      obtain ⟨h1, ⟨o, ho, hd'⟩, h3⟩ := writer_some _ hk
      by_cases hkL : k0 ≤ k
      · have e : facts Φs k = fun _ _ => True := by
          have := Nat.le_of_ble_eq_true hk0
          unfold facts
          rw [List.getD_eq_getElem?_getD, List.getElem?_eq_none (by omega)]
          rfl
        rw [e]
        trivial
      refine h.new d k o ho hd' ((hon k).2 (by omega)) (fun k' o' hkk ho' hd'' _ => h3 k' o' hkk (List.getElem?_eq_some_iff.1 ho').1 ho' hd'') (fun n hn hkn => ?_)
      have hnl : n < l.length := by have := hn.lt; rw [h.size] at this; exact this
      have := List.all_eq_true.1 hall n (by simpa using hnl)
      simp at this
      exact this hkn
    have hget : ∀ t, a'.tmps.getD t undef = if t ∈ ds then a'.tmps.getD t undef else ρ t := fun t => by
      by_cases hn : t ∈ ds
      · rw [if_pos hn]
      · rw [if_neg hn, ← ha.get]
        exact h.old t fun k o ho hd _ => hn (by
          rw [← hds]
          unfold slotsW
          rw [List.mem_eraseDups, List.mem_filterMap]
          exact ⟨o, List.mem_of_getElem? ho, hd⟩)
    have hcl := h.cls k0 hk1 (fun x => by have := (hon k0).1 x; omega)
    have hend : EndF ds ρ (fun t => a'.tmps.getD t undef) := ⟨fun t ht => by rw [hget t, if_neg (by simpa using ht)]⟩
    have := hQ (fun t => a'.tmps.getD t undef) w' listed hon h.ecl hcl hend (endFacts_of hw ds)
    rw [hr]
    exact this a' ⟨h.tmps, h.defers.trans ha.defers, fun t => rfl⟩
  · intro i h
    unfold On at h
    rw [Array.getD_eq_getD_getElem?, Array.getElem?_replicate] at h
    split at h <;> simp at h
  · have hno : ∀ i, ¬ On (Array.replicate l.toArray.size false) i := fun i h => by
      unfold On at h
      rw [Array.getD_eq_getD_getElem?, Array.getElem?_replicate] at h
      split at h <;> simp at h
    exact ⟨Array.size_replicate, fun i o _ h => absurd h (hno i), rfl, rfl, fun n hn _ => h0 n hn, hE0, fun t _ => rfl, fun t k o _ _ h => absurd h (hno k)⟩
theorem Yk.allocX {K : Value → World → Prop} {d : Option Tmp} {ty : TypeId} {pos : String} {af : Array Edge} {gd : Option (Nat × Bool)} {e : TypeId} {cs : Array Value} (hz : ∀ (σ : Operand → Value) (w : World), (execOp σ ⟨d, .alloc e, ty, pos, af, gd⟩).run P w = .ok (.value (.pointer (some ⟨w.heap.size, 0, none⟩))) (w.alloc (.cells cs e)))
    (hk : K (.pointer (some ⟨w.heap.size, 0, none⟩)) (w.alloc (.cells cs e))) : Yk P K ((execOp (evalR ρ) ⟨d, .alloc e, ty, pos, af, gd⟩).run P w) := by
  rw [hz]
  exact hk
end
open Go.RowKit
def OnlyMaps (w w' : World) : Prop := ∀ i o, w.heap.size ≤ i → w'.heap[i]? = some o → ∃ es c, o = .map es c
def NoCells (w b : World) : Prop := Ext w b ∧ ∀ i cs t fr, w.heap.size ≤ i → b.heap[i]? ≠ some (Obj.cells cs t fr)
def OneCells (w b : World) : Prop := Ext w b ∧ ∀ i j cs t fr cs' t' fr', w.heap.size ≤ i → w.heap.size ≤ j → b.heap[i]? = some (Obj.cells cs t fr) → b.heap[j]? = some (Obj.cells cs' t' fr') → i = j
def StK (w : World) (T : TypeId) (a b : World) : Prop := Ext a b ∨ ∃ g cs nc, w.heap.size ≤ g ∧ a.heap[g]? = some (Obj.cells cs T (0, 0)) ∧ b.heap[g]? = some (Obj.cells nc T (0, 0)) ∧ nc.size = cs.size ∧ a.grownBy b (some g) ∧ b.heap.size = a.heap.size
def RowK (w : World) (T : TypeId) (n : Nat) : Fact := fun x b => ∃ g cs, x = .pointer (some ⟨g, 0, none⟩) ∧ w.heap.size ≤ g ∧ b.heap[g]? = some (Obj.cells cs T (0, 0)) ∧ cs.size = n
theorem RowK.stab (w : World) (T : TypeId) (n : Nat) : Stab (StK w T) (RowK w T n) := fun x a b ⟨g, cs, h1, h2, h3, h4⟩ k => by
  have hlt := (Array.getElem?_eq_some_iff.1 h3).1
  rcases k with k | ⟨g', cs', nc', k1, k2, k3, k4, k5, k6⟩
  · exact ⟨g, cs, h1, h2, Ext.blk' k h3, h4⟩
  · by_cases e : g = g'
    · subst e
      rw [h3] at k2
      cases k2
      exact ⟨g, nc', h1, h2, k3, k4.trans h4⟩
    · exact ⟨g, cs, h1, h2, (k5.block g hlt (fun q => e (Option.some.inj q))).trans h3, h4⟩
theorem MapF.stabK {α β : Type} {ek : α → Value} {ev : β → Value} {D : α → Prop} {w a b : World} {T : TypeId} {m : Nat} {G : α → Option β} (h : MapF ek ev D a m G) (k : StK w T a b) : MapF ek ev D b m G := by
  rcases k with k | ⟨g', cs', nc', k1, k2, k3, k4, k5, k6⟩
  · exact MapF.keep h k
  · refine MapF.other h k5 (fun e => ?_)
    obtain rfl := Option.some.inj e
    obtain ⟨es, c, h, -⟩ := h
    rw [k2] at h
    cases h
section
variable {P : Program} {n : Nat} {ρ : Slots} {w : World} {Q : PostF}
theorem wpF_draw_newK {l r : List Oper} (kK kA kS k0 : Nat) (T : TypeId) (zc nc : Array Value) (Φs : List Fact) {id : Nat} (hm : P.follows .mixedOrders = true) (ds : List Tmp) (hg : goodB l n = true) (hn : tailB l k0 = true) (hk0 : Nat.ble Φs.length k0 = true) (hds : slotsW l = ds) (hr : (l.drop k0) = r) (hlt : Nat.blt k0 l.length = true)
    (hAS : ((masks l []).getD kS 0).testBit kA = true) (hKA : Nat.beq kK kA = false) (hKS : Nat.beq kK kS = false) (hne : Nat.beq kA kS = false) (hgK : (l[kK]?.bind (·.guard)) = none) (hgA : (l[kA]?.bind (·.guard)) = none) (hgS : (l[kS]?.bind (·.guard)) = none) (hS0 : Nat.blt kS k0 = true)
    (hst : AllStab (StK w T) Φs) (hzn : nc.size = zc.size)
    (hs : StepsFC P l k0 (fun m b => bif Nat.beq m kA then NoCells w b else bif Nat.beq m kS then OneCells w b else Ext w b) (fun m a b => bif Nat.beq m kA then (NoCells w a ∧ b = a.alloc (Obj.cells zc T)) else bif Nat.beq m kS then (OneCells w a ∧ ∃ g cs, w.heap.size ≤ g ∧ a.heap[g]? = some (Obj.cells cs T (0, 0)) ∧ nc.size = cs.size ∧ b.heap[g]? = some (Obj.cells nc T (0, 0)) ∧ a.grownBy b (some g) ∧ b.heap.size = a.heap.size) else bif Nat.beq m kK then (Ext a b ∧ OnlyMaps a b) else a = b) (facts Φs) ρ 0 l)
    (hQ : ∀ (ρ' : Slots) w1, Ext w w1 → (∀ g cs t fr, w.heap.size ≤ g → w1.heap[g]? = some (Obj.cells cs t fr) → cs = nc) → EndF ds ρ ρ' → EndFacts l (fun _ => []) (facts Φs) ρ' w1 ds → opsF P l.toArray n Q r ρ' w1) : wpF P n (.region id l.toArray true) Q ρ w := by
  have bf : ∀ {a b : Nat}, a ≠ b → Nat.beq a b = false := fun h => by rw [← Bool.not_eq_true, Nat.beq_eq]; exact h
  have ne : ∀ {a b : Nat}, Nat.beq a b = false → a ≠ b := fun h e => by rw [e, Nat.beq_refl] at h; cases h
  have hkk := ne hne
  have hka := ne hKA
  have hks := ne hKS
  -- what a step of each kind is
  have hnewC : ∀ {a b : World}, Ext a b → OnlyMaps a b → ∀ i cs t fr, b.heap[i]? = some (Obj.cells cs t fr) → a.heap[i]? = some (Obj.cells cs t fr) := fun {a b} h1 h2 i cs t fr hb => by
    by_cases hi : i < a.heap.size
    · have h := Ext.blk' h1 (Array.getElem?_eq_getElem hi)
      rw [Array.getElem?_eq_getElem hi, ← h, hb]
    · obtain ⟨es, c, e⟩ := h2 i _ (by omega) hb
      cases e
  have hE0 : ∀ {a b : World}, Ext w a → (∃ g, w.heap.size ≤ g ∧ a.grownBy b (some g)) → Ext w b := fun ha ⟨g, h1, h2⟩ => row_fresh ha h2 h1
  have hRS : ∀ {i : Nat} {a b : World}, (bif Nat.beq i kA then (NoCells w a ∧ b = a.alloc (Obj.cells zc T)) else bif Nat.beq i kS then (OneCells w a ∧ ∃ g cs, w.heap.size ≤ g ∧ a.heap[g]? = some (Obj.cells cs T (0, 0)) ∧ nc.size = cs.size ∧ b.heap[g]? = some (Obj.cells nc T (0, 0)) ∧ a.grownBy b (some g) ∧ b.heap.size = a.heap.size) else bif Nat.beq i kK then (Ext a b ∧ OnlyMaps a b) else a = b) → StK w T a b ∧ (Ext w a → Ext w b) := fun {i a b} h => by
    by_cases hiA : i = kA
    · subst hiA
      rw [Nat.beq_refl] at h
      simp only [cond_true] at h
      have hx : Ext a b := by rw [h.2]; exact (Below.refl _ _).alloc (Nat.le_refl _) _
      exact ⟨.inl hx, fun k => k.trans hx⟩
    · rw [bf hiA] at h
      by_cases hiS : i = kS
      · subst hiS
        rw [Nat.beq_refl] at h
        simp only [cond_true, cond_false] at h
        obtain ⟨h0, g, cs, h1, h2, h3, h4, h5, h6⟩ := h
        exact ⟨.inr ⟨g, cs, nc, h1, h2, h4, h3, h5, h6⟩, fun k => hE0 k ⟨g, h1, h5⟩⟩
      · rw [bf hiS] at h
        by_cases hiK : i = kK
        · subst hiK
          rw [Nat.beq_refl] at h
          simp only [cond_true, cond_false] at h
          exact ⟨.inl h.1, fun k => k.trans h.1⟩
        · rw [bf hiK] at h
          simp only [cond_false] at h
          subst h
          exact ⟨.inl (Ext.refl _), fun k => k⟩
  refine wpF_draw_cutG k0 (fun _ => []) _ _ (fun listed b => Ext w b ∧ (On listed kS → ∀ g cs t fr, w.heap.size ≤ g → b.heap[g]? = some (Obj.cells cs t fr) → cs = nc)) Φs hm ds hg hn hk0 (by unfold killB; simp) hds hr (fun i m _ _ hne' hbit a b hc hr => ?_) (fun i j _ _ _ _ _ v a b h hr => hst.get Φs j v a b h (hRS hr).1) (fun i listed a b _ hsz hno hcl he hr => ⟨(hRS hr).2 he.1, ?_⟩) ⟨(Below.refl _ _).drew, fun h => absurd h On.not_replicate⟩ (fun i o a ho hgo => ?_) (fun m _ => ?_) hs hlt (fun ρ' w1 listed hon he hc h2 h3 => ?_)
  · by_cases hmA : m = kA
    · subst hmA
      rw [Nat.beq_refl] at hc ⊢
      simp only [cond_true] at hc ⊢
      refine ⟨(hRS hr).2 hc.1, fun i' cs t fr hi' hb => ?_⟩
      have hiS : i ≠ kS := fun e => by rw [e, hAS] at hbit; cases hbit
      rw [bf hne', bf hiS] at hr
      by_cases hiK : i = kK
      · subst hiK
        rw [Nat.beq_refl] at hr
        simp only [cond_true, cond_false] at hr
        exact hc.2 i' cs t fr hi' (hnewC hr.1 hr.2 i' cs t fr hb)
      · rw [bf hiK] at hr
        simp only [cond_false] at hr
        subst hr
        exact hc.2 i' cs t fr hi' hb
    · rw [bf hmA] at hc ⊢
      by_cases hmS : m = kS
      · subst hmS
        rw [Nat.beq_refl] at hc ⊢
        simp only [cond_true, cond_false] at hc ⊢
        refine ⟨(hRS hr).2 hc.1, fun i1 j1 cs t fr cs' t' fr' hi1 hj1 h1 h2 => ?_⟩
        by_cases hiA : i = kA
        · subst hiA
          rw [Nat.beq_refl] at hr
          simp only [cond_true] at hr
          obtain ⟨hr1, rfl⟩ := hr
          have hat : ∀ i cs t fr, w.heap.size ≤ i → (a.alloc (Obj.cells zc T)).heap[i]? = some (Obj.cells cs t fr) → i = a.heap.size := fun i cs t fr hi h => by
            by_cases hlt : i < a.heap.size
            · have h' : a.heap[i]? = some (Obj.cells cs t fr) := by rw [← heap_alloc_old a (Obj.cells zc T) hlt]; exact h
              exact absurd h' (hr1.2 i cs t fr hi)
            · have := (Array.getElem?_eq_some_iff.1 h).1
              simp at this
              omega
          rw [hat _ _ _ _ hi1 h1, hat _ _ _ _ hj1 h2]
        · rw [bf hiA, bf hne'] at hr
          by_cases hiK : i = kK
          · subst hiK
            rw [Nat.beq_refl] at hr
            simp only [cond_true, cond_false] at hr
            exact hc.2 i1 j1 _ _ _ _ _ _ hi1 hj1 (hnewC hr.1 hr.2 _ _ _ _ h1) (hnewC hr.1 hr.2 _ _ _ _ h2)
          · rw [bf hiK] at hr
            simp only [cond_false] at hr
            subst hr
            exact hc.2 i1 j1 _ _ _ _ _ _ hi1 hj1 h1 h2
      · rw [bf hmS] at hc ⊢
        exact (hRS hr).2 hc
  · intro hon g cs t fr hg' hb
    by_cases hiS : i = kS
    · subst hiS
      rw [bf (Ne.symm hkk), Nat.beq_refl] at hr
      simp only [cond_true, cond_false] at hr
      obtain ⟨h0, g0, cs0, h1, h2, h3, h4, h5, h6⟩ := hr
      by_cases e : g = g0
      · subst e
        rw [h4] at hb
        cases hb
        rfl
      · have hgl : g < a.heap.size := by have := (Array.getElem?_eq_some_iff.1 hb).1; omega
        rw [h5.block g hgl (fun q => e (Option.some.inj q))] at hb
        exact absurd (h0.2 g g0 _ _ _ _ _ _ hg' h1 hb h2) e
    · have hon' : On listed kS := by
        rcases (on_set (by omega)).1 hon with h1 | h1
        · exact absurd h1.symm hiS
        · exact h1
      have hiA : i ≠ kA := fun e => hno (by rw [e]; exact hcl kS kA (.inl hon') hAS)
      rw [bf hiA, bf hiS] at hr
      by_cases hiK : i = kK
      · subst hiK
        rw [Nat.beq_refl] at hr
        simp only [cond_true, cond_false] at hr
        exact he.2 hon' g cs t fr hg' (hnewC hr.1 hr.2 _ _ _ _ hb)
      · rw [bf hiK] at hr
        simp only [cond_false] at hr
        subst hr
        exact he.2 hon' g cs t fr hg' hb
  · have hgn : ∀ {k : Nat}, (l[k]?.bind (·.guard)) = none → i ≠ k := fun h e => by rw [e] at ho; rw [ho] at h; simp only [Option.bind_some] at h; rw [h] at hgo; cases hgo
    rw [bf (hgn hgA), bf (hgn hgS), bf (hgn hgK)]
    rfl
  · have h0 : ∀ i, w.heap.size ≤ i → ∀ o, ({ w with drawn := w.drawn + 1 } : World).heap[i]? ≠ some o := fun i hi o h => by
      have := (Array.getElem?_eq_some_iff.1 h).1
      exact absurd this (by show ¬ i < w.heap.size; omega)
    by_cases hmA : m = kA
    · subst hmA
      rw [Nat.beq_refl]
      exact ⟨(Below.refl _ _).drew, fun i cs t fr hi h => h0 i hi _ h⟩
    · rw [bf hmA]
      by_cases hmS : m = kS
      · subst hmS
        rw [Nat.beq_refl]
        exact ⟨(Below.refl _ _).drew, fun i j cs t fr _ _ _ hi _ h _ => absurd h (h0 i hi _)⟩
      · rw [bf hmS]
        exact (Below.refl _ _).drew
  · exact hQ ρ' w1 he.1 (he.2 ((hon kS).2 (Nat.le_of_ble_eq_true hS0))) h2 h3
end
open Go.RowKit
section
variable {P : Program} {K : Value → World → Prop} {ρ : Slots} {w : World} {d : Option Tmp} {ty : TypeId} {pos : String} {af : Array Edge} {gd : Option (Nat × Bool)}
variable {α β : Type} {ek : α → Value} {ev : β → Value} {D : α → Prop} {b : Nat} {G : α → Option β}
variable {t Kt E : TypeId} {OK : Value → Prop}
theorem Yk.insM [DecidableEq α] (L : KL P Kt OK) (hD : ∀ a, D a → OK (ek a)) (ht : P.underlying t = some (.map Kt E)) {x y z : Operand} {a : α} {c : β}
    (hm : evalR ρ x = .map (some b)) (hy : evalR ρ y = ek a) (hz : evalR ρ z = ev c) (h : MapF ek ev D w b G) (ha : D a) (hk : ∀ w', MapF ek ev D w' b (updM G a (some c)) → w.grownBy w' (some b) → w'.heap.size = w.heap.size → K undef w') :
    Yk P K ((execOp (evalR ρ) ⟨d, .insert t x y z, ty, pos, af, gd⟩).run P w) := by
  obtain ⟨w', hrun, h1, h2, h3⟩ := h.put L hD ht ha c
  have hr : (execOp (evalR ρ) ⟨d, .insert t x y z, ty, pos, af, gd⟩).run P w = .ok .skip w' ∨ (execOp (evalR ρ) ⟨d, .insert t x y z, ty, pos, af, gd⟩).run P w = .ok (.value undef) w' := by
    unfold execOp
    simp only [hm, hy, hz, Sem.run_bind, hrun, Result.andThen_ok, Sem.run_pure]
    simp
  rcases hr with hr | hr <;> rw [hr] <;> exact hk w' h1 h2 h3
theorem Yk.build3 {t : TypeId} {i0 i1 i2 : Nat} {x0 x1 x2 : Operand} {v0 v1 v2 v : Value} (h0 : evalR ρ x0 = v0) (h1 : evalR ρ x1 = v1) (h2 : evalR ρ x2 = v2) (hr : ∀ w : World, (Instr.build t #[(i0, v0), (i1, v1), (i2, v2)]).run P w = .ok v w) (hk : K v w) : Yk P K ((execOp (evalR ρ) ⟨d, .build t #[(i0, x0), (i1, x1), (i2, x2)], ty, pos, af, gd⟩).run P w) :=
  Yk.build (by simp [h0, h1, h2]) hr hk
end
theorem MapF.isMapB {α β : Type} {ek : α → Value} {ev : β → Value} {D : α → Prop} {w : World} {b : Nat} {G : α → Option β} (h : MapF ek ev D w b G) : ∃ es c, w.heap[b]? = some (.map es c) := by
  obtain ⟨es, c, h, -⟩ := h
  exact ⟨_, c, h⟩
abbrev partsV (p : Parts) : Value := .agg (partsC p).toArray
abbrev dParts : Parts := ⟨false, false, false, false, false, false, false, false⟩
theorem u8Law : KL Tryd.prog 5 (MapKept.IsKey (.int .u8)) := KL.ofKey (by kernel_rfl)
theorem u8_ok : ∀ n : UInt8, True → MapKept.IsKey (.int .u8) (B8 n) := fun n _ => by first | exact ⟨_, rfl⟩ | simp [MapKept.IsKey]
theorem b8_inj {a b : UInt8} (h : B8 a = B8 b) : a = b := by
  injection h with _ h
  exact UInt8.toNat_inj.1 (Int.ofNat.inj h)
theorem zeroParts : ∀ u : World, (zeroValue 92).run Tryd.prog u = .ok (partsV dParts) u := fun _ => by kernel_rfl
def kindsG : UInt8 → Option Parts :=
  updM (updM (updM (updM (updM (updM (updM (updM (fun _ => none) 1 (some dParts)) 2 (some ⟨true, false, false, false, false, false, false, false⟩)) 3 (some ⟨false, true, false, false, false, false, false, false⟩)) 4 (some ⟨false, false, true, false, true, false, false, false⟩)) 5 (some ⟨false, false, false, true, false, false, false, false⟩)) 6 (some ⟨false, false, false, true, false, true, false, false⟩)) 7 (some ⟨false, false, true, false, true, false, true, false⟩)) 8 (some ⟨false, false, false, false, false, false, false, true⟩)
def absentB (m : Msg) (p : Parts) : Bool :=
  ((((((((p.refs || decide (m.refs.length = 0)) && (p.ids || (decide (m.wants.length = 0) && decide (m.haves.length = 0)))) && (p.size || decide (m.size = ((0 : Nat) : Int)))) && (p.at_ || decide (m.at_ = ((0 : Nat) : Int)))) && (p.id || zeroB m.id)) && (p.bytes || decide (m.bytes.length = 0))) && (p.push || (((decide (m.name = []) && zeroB m.old) && zeroB m.new) && !m.force))) && (p.code || decide (m.code = ((0 : Nat) : Int))))
structure MsgAt (w : World) (x : MsgV) : Prop where
  refs : RG 66 updC w x.2.refs x.1.refs
  wants : RG 32 Lib.byteCells w x.2.wants x.1.wants
  haves : RG 32 Lib.byteCells w x.2.haves x.1.haves
  bytes : RB w x.2.bytes x.1.bytes
theorem MsgAt.keep {w w' : World} {x : MsgV} (h : MsgAt w x) (k : Ext w w') : MsgAt w' x := ⟨h.refs.keep k, h.wants.keep k, h.haves.keep k, h.bytes.keep k⟩
structure MsgLt (m : Msg) : Prop where
  refs : m.refs.length ≤ 4611686018427387904
  names : ∀ u ∈ m.refs, u.name.length ≤ 4611686018427387904
  wants : m.wants.length ≤ 4611686018427387904
  haves : m.haves.length ≤ 4611686018427387904
  name : m.name.length ≤ 4611686018427387904
noncomputable def rightP (m : Msg) (p : Parts) : Bool :=
  !(((((!boundB m.session 2147483647 || !absentB m p) || !listB m.refs) || !setW m.wants) || !setW m.haves)) &&
  (!((!boundB m.size 1048576 || !boundB m.at_ 1048576) || !boundB m.code 22) &&
  (!(p.bytes && (decide (m.bytes.length < 1) || decide (256 < m.bytes.length))) &&
  (!p.push || (nameB m.name && !zeroB m.new))))
noncomputable def rightB (m : Msg) : Bool := match kindsG m.kind with
  | none => false
  | some p => rightP m p
theorem rightB_none {m : Msg} (h : kindsG m.kind = none) : rightB m = false := by unfold rightB; rw [h]
theorem rightB_some {m : Msg} {p : Parts} (h : kindsG m.kind = some p) : rightB m = rightP m p := by unfold rightB; rw [h]
open Go.RowKit
set_option maxRecDepth 100000
open Go.ChangeShapes Go.WideShapes Go.ChangeAt Go.Deep
theorem open_upd_67 {H : Type} {enc : TypeId × Value → H} {W : World} : Opn enc Tryd.prog W 67 updC (fun x : Upd => True) := fun fuel cs x h => by
 have ht : Tryd.prog.underlying 67 = some (.struct (Tryd.prog.fieldsOf 67)) := by kernel_rfl
 obtain ⟨a0, e0, k0⟩ := field_open (i := 0) (ty := 5) (o := 0) (k := 1) ht h (by kernel_rfl) (by kernel_rfl) (Opn.u8 (by kernel_rfl))
 obtain ⟨a1, e1, k1⟩ := field_open (i := 1) (ty := 9) (o := 1) (k := 1) ht h (by kernel_rfl) (by kernel_rfl) (Opn.str (by kernel_rfl))
 obtain ⟨a2, e2, k2⟩ := field_open (i := 2) (ty := 25) (o := 2) (k := 32) ht h (by kernel_rfl) (by kernel_rfl) (Opn.id (e := 5) (by kernel_rfl) (by kernel_rfl) (by kernel_rfl) (by kernel_rfl))
 obtain ⟨a3, e3, k3⟩ := field_open (i := 3) (ty := 25) (o := 34) (k := 32) ht h (by kernel_rfl) (by kernel_rfl) (Opn.id (e := 5) (by kernel_rfl) (by kernel_rfl) (by kernel_rfl) (by kernel_rfl))
 have hl : cs.drop 66 = [] := List.drop_of_length_le (Nat.le_of_eq ((struct_len ht h).trans (by kernel_rfl)))
 refine ⟨⟨a0, a1, a2, a3⟩, ?_, trivial⟩
 rw [show cs = cs.drop 0 from rfl]
 rw [e0]
 rw [show cs.drop (0 + 1) = _ from e1]
 rw [show cs.drop (1 + 1) = _ from e2]
 rw [show cs.drop (2 + 32) = _ from e3]
 rw [show cs.drop (34 + 32) = [] from hl]
 simp [updC]
instance : Inhabited Upd := ⟨dUpd⟩
theorem Opn.ids {H : Type} {enc : TypeId × Value → H} {P : Program} {W : World} {t e e8 : TypeId} (ht : P.underlying t = some (.slice e)) (he : P.underlying e = some (.array 32 e8)) (h8 : P.underlying e8 = some (.int .u8)) (hc : P.cellsOf e8 = 1) (hn : P.cellsOf e = 32) : Opn enc P W t (fun v : Value × List Bs => [v.1]) (fun v => RG 32 Lib.byteCells W v.1 v.2 ∧ True) := fun fuel cs x h => by
 have hE : Opn enc P W e (fun l : Bs => Lib.byteCells l) (fun l => l.length = 32) := fun fuel cs x h => by
  obtain ⟨l, hl, rfl⟩ := open_idC he h8 hc hn h
  exact ⟨l, rfl, hl⟩
 obtain ⟨a, h1, h2⟩ := Opn.slice ht hn (by decide) hE (fun a ha => by rw [Lib.byteCells_length, ha]) fuel cs x h
 exact ⟨a, h1, h2.1, trivial⟩
theorem open_msg_29 {H : Type} {enc : TypeId × Value → H} {W : World} : Opn enc Tryd.prog W 29 msgC (fun x : MsgV => RG 66 updC W x.2.refs x.1.refs ∧ RG 32 Lib.byteCells W x.2.wants x.1.wants ∧ RG 32 Lib.byteCells W x.2.haves x.1.haves ∧ RB W x.2.bytes x.1.bytes) := fun fuel cs x h => by
 have ht : Tryd.prog.underlying 29 = some (.struct (Tryd.prog.fieldsOf 29)) := by kernel_rfl
 obtain ⟨a0, e0, k0⟩ := field_open (i := 0) (ty := 5) (o := 0) (k := 1) ht h (by kernel_rfl) (by kernel_rfl) (Opn.u8 (by kernel_rfl))
 obtain ⟨a1, e1, k1⟩ := field_open (i := 1) (ty := 3) (o := 1) (k := 1) ht h (by kernel_rfl) (by kernel_rfl) (Opn.i64 (by kernel_rfl))
 obtain ⟨a2, e2, k2⟩ := field_open (i := 2) (ty := 22) (o := 2) (k := 1) ht h (by kernel_rfl) (by kernel_rfl) (Opn.slice (by kernel_rfl) (by kernel_rfl) (by decide) open_upd_67 (fun a _ => upd_len a))
 obtain ⟨a3, e3, k3⟩ := field_open (i := 3) (ty := 23) (o := 3) (k := 1) ht h (by kernel_rfl) (by kernel_rfl) (Opn.ids (e := 25) (e8 := 5) (by kernel_rfl) (by kernel_rfl) (by kernel_rfl) (by kernel_rfl) (by kernel_rfl))
 obtain ⟨a4, e4, k4⟩ := field_open (i := 4) (ty := 23) (o := 4) (k := 1) ht h (by kernel_rfl) (by kernel_rfl) (Opn.ids (e := 25) (e8 := 5) (by kernel_rfl) (by kernel_rfl) (by kernel_rfl) (by kernel_rfl) (by kernel_rfl))
 obtain ⟨a5, e5, k5⟩ := field_open (i := 5) (ty := 3) (o := 5) (k := 1) ht h (by kernel_rfl) (by kernel_rfl) (Opn.i64 (by kernel_rfl))
 obtain ⟨a6, e6, k6⟩ := field_open (i := 6) (ty := 3) (o := 6) (k := 1) ht h (by kernel_rfl) (by kernel_rfl) (Opn.i64 (by kernel_rfl))
 obtain ⟨a7, e7, k7⟩ := field_open (i := 7) (ty := 25) (o := 7) (k := 32) ht h (by kernel_rfl) (by kernel_rfl) (Opn.id (e := 5) (by kernel_rfl) (by kernel_rfl) (by kernel_rfl) (by kernel_rfl))
 obtain ⟨a8, e8, k8⟩ := field_open (i := 8) (ty := 26) (o := 39) (k := 1) ht h (by kernel_rfl) (by kernel_rfl) (Opn.bytes (e := 5) (by kernel_rfl) (by kernel_rfl) (by kernel_rfl))
 obtain ⟨a9, e9, k9⟩ := field_open (i := 9) (ty := 9) (o := 40) (k := 1) ht h (by kernel_rfl) (by kernel_rfl) (Opn.str (by kernel_rfl))
 obtain ⟨a10, e10, k10⟩ := field_open (i := 10) (ty := 25) (o := 41) (k := 32) ht h (by kernel_rfl) (by kernel_rfl) (Opn.id (e := 5) (by kernel_rfl) (by kernel_rfl) (by kernel_rfl) (by kernel_rfl))
 obtain ⟨a11, e11, k11⟩ := field_open (i := 11) (ty := 25) (o := 73) (k := 32) ht h (by kernel_rfl) (by kernel_rfl) (Opn.id (e := 5) (by kernel_rfl) (by kernel_rfl) (by kernel_rfl) (by kernel_rfl))
 obtain ⟨a12, e12, k12⟩ := field_open (i := 12) (ty := 4) (o := 105) (k := 1) ht h (by kernel_rfl) (by kernel_rfl) (Opn.bool (by kernel_rfl))
 obtain ⟨a13, e13, k13⟩ := field_open (i := 13) (ty := 27) (o := 106) (k := 1) ht h (by kernel_rfl) (by kernel_rfl) (Opn.i64 (by kernel_rfl))
 have hl : cs.drop 107 = [] := List.drop_of_length_le (Nat.le_of_eq ((struct_len ht h).trans (by kernel_rfl)))
 refine ⟨(⟨a0, a1, a2.2, a3.2, a4.2, a5, a6, a7, a8.2, a9, a10, a11, a12, a13⟩, ⟨a2.1, a3.1, a4.1, a8.1⟩), ?_, ⟨k2.1, k3.1, k4.1, k8⟩⟩
 rw [show cs = cs.drop 0 from rfl]
 rw [e0]
 rw [show cs.drop (0 + 1) = _ from e1]
 rw [show cs.drop (1 + 1) = _ from e2]
 rw [show cs.drop (2 + 1) = _ from e3]
 rw [show cs.drop (3 + 1) = _ from e4]
 rw [show cs.drop (4 + 1) = _ from e5]
 rw [show cs.drop (5 + 1) = _ from e6]
 rw [show cs.drop (6 + 1) = _ from e7]
 rw [show cs.drop (7 + 32) = _ from e8]
 rw [show cs.drop (39 + 1) = _ from e9]
 rw [show cs.drop (40 + 1) = _ from e10]
 rw [show cs.drop (41 + 32) = _ from e11]
 rw [show cs.drop (73 + 32) = _ from e12]
 rw [show cs.drop (105 + 1) = _ from e13]
 rw [show cs.drop (106 + 1) = [] from hl]
 simp [msgC]
theorem open_msg {H : Type} {enc : TypeId × Value → H} {W : World} {r : Reach} {b0 : Nat} {v : Value} {d : DataW H} {ps : List MemPlace} (hval : Value.okWide Tryd.prog W r b0 29 v) (hd : DataW.Trod enc Tryd.prog W 0 (fun _ => true) true 29 v d ps) :
  ∃ x : MsgV, v = .agg (msgC x).toArray ∧ MsgAt W x ∧ ∀ p ∈ ps, p.block < W.heap.size := by
 obtain ⟨fuel, hf⟩ := hd
 have hlt := DataW.trod_lt fuel _ _ _ hf
 obtain ⟨cs, rfl, -⟩ := okWide_struct (fs := Tryd.prog.fieldsOf 29) (by kernel_rfl) hval
 obtain ⟨x, h1, h2, h3, h4, h5⟩ := open_msg_29 _ _ _ hf
 have h1 : cs.toList = msgC x := h1
 exact ⟨x, by rw [← h1], ⟨h2, h3, h4, h5⟩, hlt⟩
open Go.RowKit
theorem opsF_offU {P : Program} {n : Nat} {Q : PostF} {ρ : Slots} {w : World} {ops : Array Oper} {rest : List Oper} {o : Oper} {g : Nat} {want : Bool} {d : Tmp} (hgd : o.guard = some (g, want)) (hd : (match o.dst with | some d => Nat.blt d n | none => true) = true) (hg : (ops[g]?).bind (·.dst) = some d) (hv : ρ d = undef)
    (h : opsF P ops n Q rest (updO ρ o.dst undef) w) : opsF P ops n Q (o :: rest) ρ w := by
  intro a ha
  have hdn : ∀ t, o.dst = some t → t < n := fun t ht => by rw [ht] at hd; exact Nat.le_of_ble_eq_true hd
  have hw : Region.wanted o (yielded ops a.tmps) = false := by
    have h1 := (ha.get d).trans hv
    rw [Array.getD_eq_getD_getElem?] at h1
    simp only [Region.wanted, hgd, yielded, hg, Option.bind_some]
    cases hx : a.tmps[d]? with
    | none => simp
    | some x =>
      rw [hx] at h1
      obtain rfl : x = undef := by simpa using h1
      simp [undef]
  refine wpList_step fun K hK => ?_
  rw [if_neg (by rw [hw]; simp)]
  exact hK _ _ (h _ (ha.put o.dst hdn undef))
def fldB (f : Field) (x : Nat × Nat) : Bool := f.name != "_" && (f.type == x.1 && f.offset == x.2)
def fldsB : List Field → List (Nat × Nat) → Bool
  | [], [] => true
  | f :: fs, x :: r => fldB f x && fldsB fs r
  | _, _ => false
section
variable {P : Program} {w : World} {d : Nat} {xs ys : Array Value}
theorem eqS_nil {fs : List Field} (h : fldsB fs [] = true) : (Op.eqFields d xs ys fs).run P w = .ok true w := by
  cases fs with
  | nil => simp [Op.eqFields, Sem.run_pure]
  | cons f fs => cases h
theorem eqS_step {fs : List Field} {t o : Nat} {r : List (Nat × Nat)} {a b : Value} {q q2 : Bool} (h : fldsB fs ((t, o) :: r) = true) (ha : (part t xs o).run P w = .ok a w) (hb : (part t ys o).run P w = .ok b w) (he : (Op.equalIn d t a b).run P w = .ok q w)
    (hr : ∀ fs', fldsB fs' r = true → (Op.eqFields d xs ys fs').run P w = .ok q2 w) : (Op.eqFields d xs ys fs).run P w = .ok (q && q2) w := by
  cases fs with
  | nil => cases h
  | cons f fs =>
    simp only [fldsB, fldB, Bool.and_eq_true, bne_iff_ne, beq_iff_eq] at h
    obtain ⟨⟨hn, ht, ho⟩, h2⟩ := h
    have hr := hr fs h2
    simp only [Op.eqFields, if_pos hn, Sem.run_bind, ht, ho, ha, hb, he, Result.andThen_ok]
    cases q
    · simp [Sem.run_pure]
    · simpa using hr
theorem part_one {t o : Nat} {cs : List Value} {v : Value} (h : (isAgg t).run P w = .ok false w) (hv : cs[o]? = some v) : (part t cs.toArray o).run P w = .ok v w := by
  unfold part
  rw [Sem.run_bind, h]
  simp [hv, Sem.run_pure]
theorem part_id {t o : Nat} {cs a z : List Value} {l : List UInt8} (h : (isAgg t).run P w = .ok true w) (hs : (sizeOf t).run P w = .ok 32 w) (hc : cs = a ++ Lib.byteCells l ++ z) (ha : a.length = o) (hl : l.length = 32) : (part t cs.toArray o).run P w = .ok (.agg (Lib.byteCells l).toArray) w := by
  unfold part
  have e : (cs.drop o).take 32 = Lib.byteCells l := by
    rw [hc, List.append_assoc, ← ha, List.drop_left, List.take_left' (by rw [Lib.byteCells_length, hl])]
  rw [Sem.run_bind, h]
  simp [hs, e]
theorem eqF_u8 {t : Nat} {a b : UInt8} (h : P.underlying t = some (.int .u8)) : (Op.equalIn (d + 1) t (B8 a) (B8 b)).run P w = .ok (decide (a = b)) w := by
  rw [run_equalIn_int w d t .u8 .u8 _ _ h, byte_eq]
theorem eqF_str {t : Nat} {a b : Bs} (h : P.underlying t = some .string) : (Op.equalIn (d + 1) t (St a) (St b)).run P w = .ok (decide (a = b)) w := by
  have e := run_equalIn_string (P := P) w d t ⟨a.toArray⟩ ⟨b.toArray⟩ h
  rw [ba_list, ba_list] at e
  refine e.trans ?_
  congr 1
  rw [Bool.eq_iff_iff]
  simp
theorem eqF_id {t e : Nat} {a b : Id32} (ht : P.underlying t = some (.array 32 e)) (he : P.underlying e = some (.int .u8)) (hs : (sizeOf e).run P w = .ok 1 w) : (Op.equalIn (d + 1 + 1) t (.agg (Lib.byteCells a.1).toArray) (.agg (Lib.byteCells b.1).toArray)).run P w = .ok (decide (a = b)) w := by
  rw [run_eqArray w ht he hs a.1 b.1 a.2 b.2]
  congr 1
  exact decide_eq_decide.2 ⟨fun h => Subtype.ext h, fun h => by rw [h]⟩
end
section
variable {P : Program} {K : Value → World → Prop} {ρ : Slots} {w : World} {d : Option Tmp} {ty : TypeId} {pos : String} {af : Array Edge} {gd : Option (Nat × Bool)}
theorem Yk.neStr {t ty2 : TypeId} {x y : Operand} {cx cy : Array Value} {b : Bool} (hg : P.eqGuardType P.depth t = false) (hx : evalR ρ x = .agg cx) (hy : evalR ρ y = .agg cy) (h : (Op.equalIn 10000 t (.agg cx) (.agg cy)).run P w = .ok b w) (hk : K (.bool (!b)) w) : Yk P K ((execOp (evalR ρ) ⟨d, .binOp .neq t x y ty2, ty, pos, af, gd⟩).run P w) := by
  refine Yk.value (v := .bool (!b)) (w' := w) ?_ hk
  unfold execOp
  simp only [hx, hy, Sem.run_bind, run_eqGuard_agg w .neq t x y cx cy hg, Result.andThen_ok, run_neq_struct, h]
  rfl
end
open Go.RowKit
set_option maxRecDepth 100000
theorem wr4_ty93 : Tryd.prog.underlying 93 = some (.map 5 92) := by kernel_rfl
theorem wr4_bs92_0h (z0 : Bool) (w : World) : (Instr.build 92 #[(0, .bool z0)]).run Tryd.prog w = .ok (.agg #[.bool z0, .bool false, .bool false, .bool false, .bool false, .bool false, .bool false, .bool false]) w := by kernel_rfl
theorem wr4_bs92_0 (z0 : Bool) (w : World) : (Instr.build 92 #[(0, .bool z0)]).run Tryd.prog w = .ok (.agg (.bool (z0) :: (.bool (false) :: (.bool (false) :: (.bool (false) :: (.bool (false) :: (.bool (false) :: (.bool (false) :: (.bool (false) :: ([]))))))))).toArray) w := by
 exact wr4_bs92_0h _ w
theorem wr4_bs92_1h (z1 : Bool) (w : World) : (Instr.build 92 #[(1, .bool z1)]).run Tryd.prog w = .ok (.agg #[.bool false, .bool z1, .bool false, .bool false, .bool false, .bool false, .bool false, .bool false]) w := by kernel_rfl
theorem wr4_bs92_1 (z1 : Bool) (w : World) : (Instr.build 92 #[(1, .bool z1)]).run Tryd.prog w = .ok (.agg (.bool (false) :: (.bool (z1) :: (.bool (false) :: (.bool (false) :: (.bool (false) :: (.bool (false) :: (.bool (false) :: (.bool (false) :: ([]))))))))).toArray) w := by
 exact wr4_bs92_1h _ w
theorem wr4_bs92_2_4h (z2 : Bool) (z4 : Bool) (w : World) : (Instr.build 92 #[(2, .bool z2), (4, .bool z4)]).run Tryd.prog w = .ok (.agg #[.bool false, .bool false, .bool z2, .bool false, .bool z4, .bool false, .bool false, .bool false]) w := by kernel_rfl
theorem wr4_bs92_2_4 (z2 : Bool) (z4 : Bool) (w : World) : (Instr.build 92 #[(2, .bool z2), (4, .bool z4)]).run Tryd.prog w = .ok (.agg (.bool (false) :: (.bool (false) :: (.bool (z2) :: (.bool (false) :: (.bool (z4) :: (.bool (false) :: (.bool (false) :: (.bool (false) :: ([]))))))))).toArray) w := by
 exact wr4_bs92_2_4h _ _ w
theorem wr4_bs92_3h (z3 : Bool) (w : World) : (Instr.build 92 #[(3, .bool z3)]).run Tryd.prog w = .ok (.agg #[.bool false, .bool false, .bool false, .bool z3, .bool false, .bool false, .bool false, .bool false]) w := by kernel_rfl
theorem wr4_bs92_3 (z3 : Bool) (w : World) : (Instr.build 92 #[(3, .bool z3)]).run Tryd.prog w = .ok (.agg (.bool (false) :: (.bool (false) :: (.bool (false) :: (.bool (z3) :: (.bool (false) :: (.bool (false) :: (.bool (false) :: (.bool (false) :: ([]))))))))).toArray) w := by
 exact wr4_bs92_3h _ w
theorem wr4_bs92_3_5h (z3 : Bool) (z5 : Bool) (w : World) : (Instr.build 92 #[(3, .bool z3), (5, .bool z5)]).run Tryd.prog w = .ok (.agg #[.bool false, .bool false, .bool false, .bool z3, .bool false, .bool z5, .bool false, .bool false]) w := by kernel_rfl
theorem wr4_bs92_3_5 (z3 : Bool) (z5 : Bool) (w : World) : (Instr.build 92 #[(3, .bool z3), (5, .bool z5)]).run Tryd.prog w = .ok (.agg (.bool (false) :: (.bool (false) :: (.bool (false) :: (.bool (z3) :: (.bool (false) :: (.bool (z5) :: (.bool (false) :: (.bool (false) :: ([]))))))))).toArray) w := by
 exact wr4_bs92_3_5h _ _ w
theorem wr4_bs92_2_4_6h (z2 : Bool) (z4 : Bool) (z6 : Bool) (w : World) : (Instr.build 92 #[(2, .bool z2), (4, .bool z4), (6, .bool z6)]).run Tryd.prog w = .ok (.agg #[.bool false, .bool false, .bool z2, .bool false, .bool z4, .bool false, .bool z6, .bool false]) w := by kernel_rfl
theorem wr4_bs92_2_4_6 (z2 : Bool) (z4 : Bool) (z6 : Bool) (w : World) : (Instr.build 92 #[(2, .bool z2), (4, .bool z4), (6, .bool z6)]).run Tryd.prog w = .ok (.agg (.bool (false) :: (.bool (false) :: (.bool (z2) :: (.bool (false) :: (.bool (z4) :: (.bool (false) :: (.bool (z6) :: (.bool (false) :: ([]))))))))).toArray) w := by
 exact wr4_bs92_2_4_6h _ _ _ w
theorem wr4_bs92_7h (z7 : Bool) (w : World) : (Instr.build 92 #[(7, .bool z7)]).run Tryd.prog w = .ok (.agg #[.bool false, .bool false, .bool false, .bool false, .bool false, .bool false, .bool false, .bool z7]) w := by kernel_rfl
theorem wr4_bs92_7 (z7 : Bool) (w : World) : (Instr.build 92 #[(7, .bool z7)]).run Tryd.prog w = .ok (.agg (.bool (false) :: (.bool (false) :: (.bool (false) :: (.bool (false) :: (.bool (false) :: (.bool (false) :: (.bool (false) :: (.bool (z7) :: ([]))))))))).toArray) w := by
 exact wr4_bs92_7h _ w
theorem wr4_fo92_0 : FieldOff Tryd.prog 92 0 0 := fun b o w => by simp [go_sem]
theorem wr4_ty4 : Tryd.prog.underlying 4 = some (.bool) := by kernel_rfl
theorem wr4_fo29_2 : FieldOff Tryd.prog 29 2 2 := fun b o w => by simp [go_sem]
theorem wr4_ty22 : Tryd.prog.underlying 22 = some (.slice 67) := by kernel_rfl
theorem wr4_fo92_1 : FieldOff Tryd.prog 92 1 1 := fun b o w => by simp [go_sem]
theorem wr4_fo29_3 : FieldOff Tryd.prog 29 3 3 := fun b o w => by simp [go_sem]
theorem wr4_ty23 : Tryd.prog.underlying 23 = some (.slice 25) := by kernel_rfl
theorem wr4_fo29_4 : FieldOff Tryd.prog 29 4 4 := fun b o w => by simp [go_sem]
theorem wr4_fo92_2 : FieldOff Tryd.prog 92 2 2 := fun b o w => by simp [go_sem]
theorem wr4_fo29_5 : FieldOff Tryd.prog 29 5 5 := fun b o w => by simp [go_sem]
theorem wr4_ty3 : Tryd.prog.underlying 3 = some (.int .i64) := by kernel_rfl
theorem wr4_fo92_3 : FieldOff Tryd.prog 92 3 3 := fun b o w => by simp [go_sem]
theorem wr4_fo29_6 : FieldOff Tryd.prog 29 6 6 := fun b o w => by simp [go_sem]
theorem wr4_fo92_4 : FieldOff Tryd.prog 92 4 4 := fun b o w => by simp [go_sem]
theorem wr4_fo29_7 : FieldOff Tryd.prog 29 7 7 := fun b o w => by simp [go_sem]
theorem wr4_ty25 : Tryd.prog.underlying 25 = some (.array 32 5) := by kernel_rfl
theorem wr4_pl60 : Plain Tryd.prog 60 := fun _ _ => by kernel_rfl
theorem wr4_fo92_5 : FieldOff Tryd.prog 92 5 5 := fun b o w => by simp [go_sem]
theorem wr4_fo29_8 : FieldOff Tryd.prog 29 8 39 := fun b o w => by simp [go_sem]
theorem wr4_ty26 : Tryd.prog.underlying 26 = some (.slice 5) := by kernel_rfl
theorem wr4_fo92_6 : FieldOff Tryd.prog 92 6 6 := fun b o w => by simp [go_sem]
theorem wr4_fo29_9 : FieldOff Tryd.prog 29 9 40 := fun b o w => by simp [go_sem]
theorem wr4_ty9 : Tryd.prog.underlying 9 = some (.string) := by kernel_rfl
theorem wr4_fo29_10 : FieldOff Tryd.prog 29 10 41 := fun b o w => by simp [go_sem]
theorem wr4_fo29_11 : FieldOff Tryd.prog 29 11 73 := fun b o w => by simp [go_sem]
theorem wr4_fo29_12 : FieldOff Tryd.prog 29 12 105 := fun b o w => by simp [go_sem]
theorem wr4_fo92_7 : FieldOff Tryd.prog 92 7 7 := fun b o w => by simp [go_sem]
theorem wr4_fo29_13 : FieldOff Tryd.prog 29 13 106 := fun b o w => by simp [go_sem]
theorem wr4_ty27 : Tryd.prog.underlying 27 = some (.int .i64) := by kernel_rfl
theorem wr4_pl50 : Plain Tryd.prog 50 := fun _ _ => by kernel_rfl
theorem wr4_fo29_0 : FieldOff Tryd.prog 29 0 0 := fun b o w => by simp [go_sem]
theorem wr4_ty5 : Tryd.prog.underlying 5 = some (.int .u8) := by kernel_rfl
theorem wr4_al92 {d : Option Tmp} {ty : TypeId} {pos : String} {af : Array Edge} {gd : Option (Nat × Bool)} (σ : Operand → Value) (w : World) : (execOp σ ⟨d, .alloc 92, ty, pos, af, gd⟩).run Tryd.prog w = .ok (.value (PQ w.heap.size 0)) (w.alloc (.cells (partsC (⟨false, false, false, false, false, false, false, false⟩ : Parts)).toArray 92)) := by kernel_rfl
theorem wr4_isz92 : (Tryd.prog.info? 92).map (·.size) = some 8 := by kernel_rfl
theorem wr4_fo29_1 : FieldOff Tryd.prog 29 1 1 := fun b o w => by simp [go_sem]
theorem wr4_pl55 : Plain Tryd.prog 55 := fun _ _ => by kernel_rfl
theorem wr4_ty29 : ∃ fs, Tryd.prog.underlying 29 = some (.struct fs) := struct_of (by kernel_rfl)
theorem wr4_isz29 : (Tryd.prog.info? 29).map (·.size) = some 107 := by kernel_rfl
theorem wr4_ty92 : ∃ fs, Tryd.prog.underlying 92 = some (.struct fs) := struct_of (by kernel_rfl)
theorem wr4_pl56 : Plain Tryd.prog 56 := fun _ _ => by kernel_rfl
theorem wr4_pl57 : Plain Tryd.prog 57 := fun _ _ => by kernel_rfl
theorem wr4_pl58 : Plain Tryd.prog 58 := fun _ _ => by kernel_rfl
theorem wr4_pl59 : Plain Tryd.prog 59 := fun _ _ => by kernel_rfl
set_option maxHeartbeats 1600000
theorem kinds_any (w : World) :
  Calls Tryd.prog 50 #[] w fun e w' => ∃ b, e = .returned (.map (some b)) ∧ MapF B8 partsV (fun _ : UInt8 => True) w' b kindsG ∧ Ext w w' ∧ OnlyMaps w w' := by
 refine calls_of_wpF (args := []) Tryd.func50 rfl 11 rfl (Nat.le_of_ble_eq_true rfl) ?_
 intro ρ0 hb
 clear hb
 have hE := Ext.refl w
 refine sk fun K1 hK1 => (wt (oA rfl (oZ (tN (hK1 _ _ (sk fun K2 hK2 => (wt (oS rfl (Yk.mkMap B8 partsV (fun _ : UInt8 => True) fun n3 w4 hn5 hb6 hx7 hs8 => ?_)))))))))
 have hE := hE.trans hx7
 have hl9 : n3 < w4.heap.size := by omega
 refine oS rfl (Yk.run (v := .agg (partsC (⟨false, false, false, false, false, false, false, false⟩ : Parts)).toArray) (by kernel_rfl) (oS rfl (Yk.insM (ek := B8) (ev := partsV) (D := (fun _ : UInt8 => True)) (c := (⟨false, false, false, false, false, false, false, false⟩ : Parts)) u8Law u8_ok wr4_ty93 (vr (.map (some n3)) rfl) (vr (B8 (1)) rfl) (vr (.agg (partsC (⟨false, false, false, false, false, false, false, false⟩ : Parts)).toArray) rfl) hb6 trivial fun w10 hb11 hg12 hs13 => ?_)))
 have hE := row_fresh hE hg12 (Nat.le_trans (Nat.le_refl _) (by omega))
 clear hb6
 have hl14 : n3 < w10.heap.size := hb11.lt
 refine oS rfl (Yk.build1 (vr (.bool (true)) rfl) (fun w => wr4_bs92_0 true w) (oS rfl (Yk.insM (ek := B8) (ev := partsV) (D := (fun _ : UInt8 => True)) (c := (⟨true, false, false, false, false, false, false, false⟩ : Parts)) u8Law u8_ok wr4_ty93 (vr (.map (some n3)) rfl) (vr (B8 (2)) rfl) (vr (.agg (partsC (⟨true, false, false, false, false, false, false, false⟩ : Parts)).toArray) rfl) hb11 trivial fun w15 hb16 hg17 hs18 => ?_)))
 have hE := row_fresh hE hg17 (Nat.le_trans (Nat.le_refl _) (by omega))
 clear hb11
 have hl19 : n3 < w15.heap.size := hb16.lt
 refine oS rfl (Yk.build1 (vr (.bool (true)) rfl) (fun w => wr4_bs92_1 true w) (oS rfl (Yk.insM (ek := B8) (ev := partsV) (D := (fun _ : UInt8 => True)) (c := (⟨false, true, false, false, false, false, false, false⟩ : Parts)) u8Law u8_ok wr4_ty93 (vr (.map (some n3)) rfl) (vr (B8 (3)) rfl) (vr (.agg (partsC (⟨false, true, false, false, false, false, false, false⟩ : Parts)).toArray) rfl) hb16 trivial fun w20 hb21 hg22 hs23 => ?_)))
 have hE := row_fresh hE hg22 (Nat.le_trans (Nat.le_refl _) (by omega))
 clear hb16
 have hl24 : n3 < w20.heap.size := hb21.lt
 refine oS rfl (Yk.build2 (vr (.bool (true)) rfl) (vr (.bool (true)) rfl) (fun w => wr4_bs92_2_4 true true w) (oS rfl (Yk.insM (ek := B8) (ev := partsV) (D := (fun _ : UInt8 => True)) (c := (⟨false, false, true, false, true, false, false, false⟩ : Parts)) u8Law u8_ok wr4_ty93 (vr (.map (some n3)) rfl) (vr (B8 (4)) rfl) (vr (.agg (partsC (⟨false, false, true, false, true, false, false, false⟩ : Parts)).toArray) rfl) hb21 trivial fun w25 hb26 hg27 hs28 => ?_)))
 have hE := row_fresh hE hg27 (Nat.le_trans (Nat.le_refl _) (by omega))
 clear hb21
 have hl29 : n3 < w25.heap.size := hb26.lt
 refine oS rfl (Yk.build1 (vr (.bool (true)) rfl) (fun w => wr4_bs92_3 true w) (oS rfl (Yk.insM (ek := B8) (ev := partsV) (D := (fun _ : UInt8 => True)) (c := (⟨false, false, false, true, false, false, false, false⟩ : Parts)) u8Law u8_ok wr4_ty93 (vr (.map (some n3)) rfl) (vr (B8 (5)) rfl) (vr (.agg (partsC (⟨false, false, false, true, false, false, false, false⟩ : Parts)).toArray) rfl) hb26 trivial fun w30 hb31 hg32 hs33 => ?_)))
 have hE := row_fresh hE hg32 (Nat.le_trans (Nat.le_refl _) (by omega))
 clear hb26
 have hl34 : n3 < w30.heap.size := hb31.lt
 refine oS rfl (Yk.build2 (vr (.bool (true)) rfl) (vr (.bool (true)) rfl) (fun w => wr4_bs92_3_5 true true w) (oS rfl (Yk.insM (ek := B8) (ev := partsV) (D := (fun _ : UInt8 => True)) (c := (⟨false, false, false, true, false, true, false, false⟩ : Parts)) u8Law u8_ok wr4_ty93 (vr (.map (some n3)) rfl) (vr (B8 (6)) rfl) (vr (.agg (partsC (⟨false, false, false, true, false, true, false, false⟩ : Parts)).toArray) rfl) hb31 trivial fun w35 hb36 hg37 hs38 => ?_)))
 have hE := row_fresh hE hg37 (Nat.le_trans (Nat.le_refl _) (by omega))
 clear hb31
 have hl39 : n3 < w35.heap.size := hb36.lt
 refine oS rfl (Yk.build3 (vr (.bool (true)) rfl) (vr (.bool (true)) rfl) (vr (.bool (true)) rfl) (fun w => wr4_bs92_2_4_6 true true true w) (oS rfl (Yk.insM (ek := B8) (ev := partsV) (D := (fun _ : UInt8 => True)) (c := (⟨false, false, true, false, true, false, true, false⟩ : Parts)) u8Law u8_ok wr4_ty93 (vr (.map (some n3)) rfl) (vr (B8 (7)) rfl) (vr (.agg (partsC (⟨false, false, true, false, true, false, true, false⟩ : Parts)).toArray) rfl) hb36 trivial fun w40 hb41 hg42 hs43 => ?_)))
 have hE := row_fresh hE hg42 (Nat.le_trans (Nat.le_refl _) (by omega))
 clear hb36
 have hl44 : n3 < w40.heap.size := hb41.lt
 refine oS rfl (Yk.build1 (vr (.bool (true)) rfl) (fun w => wr4_bs92_7 true w) (oS rfl (Yk.insM (ek := B8) (ev := partsV) (D := (fun _ : UInt8 => True)) (c := (⟨false, false, false, false, false, false, false, true⟩ : Parts)) u8Law u8_ok wr4_ty93 (vr (.map (some n3)) rfl) (vr (B8 (8)) rfl) (vr (.agg (partsC (⟨false, false, false, false, false, false, false, true⟩ : Parts)).toArray) rfl) hb41 trivial fun w45 hb46 hg47 hs48 => ?_)))
 have hE := row_fresh hE hg47 (Nat.le_trans (Nat.le_refl _) (by omega))
 clear hb41
 have hl49 : n3 < w45.heap.size := hb46.lt
 refine oM rfl (oA rfl (oZ (tN (hK2 _ _ (wpF_ret (postF_ret (fn := Tryd.f50) _ rfl [.map (some n3)] (.map (some n3)) rfl ⟨rfl, trivial⟩ ?_))))))
 refine ⟨_, rfl, hb46, hE, fun i o hi ho => ?_⟩
 have hb_ := (bl ho)
 obtain rfl : i = n3 := by omega
 obtain ⟨es, c, hc⟩ := MapF.isMapB hb46
 rw [hc] at ho
 exact ⟨es, c, (Option.some.inj ho).symm⟩

theorem absent_any (w : World) (x : MsgV) (hm : MsgAt w x) (p : Parts) :
  Calls Tryd.prog 56 #[.agg (msgC x).toArray, .agg (partsC p).toArray] w fun e w' => e = .returned (.bool (absentB x.1 p)) ∧ Ext w w' := by
 have hmr := hm.refs
 have hmw := hm.wants
 have hmh := hm.haves
 have hmb := hm.bytes
 refine calls_of_wpF (args := [.agg (msgC x).toArray, .agg (partsC p).toArray]) Tryd.func56 rfl 99 rfl (Nat.le_of_ble_eq_true rfl) ?_
 intro ρ0 hb
 have T0 : ρ0 0 = (.agg (msgC x).toArray : Value) := hb.get 0
 have T1 : ρ0 1 = (.agg (partsC p).toArray : Value) := hb.get 1
 clear hb
 have hE := Ext.refl w
 refine sk fun K1 hK1 => (wt (oS rfl (Yk.box (cs := (msgC x : List Value).toArray) T0 fun n2 w3 hn4 hb5 hx6 hs7 => ?_)))
 have hE := hE.trans hx6
 have hb8 := hb5; clear hb5
 have hl9 : n2 < w3.heap.size := by omega
 refine oS rfl (Yk.box (cs := (partsC p : List Value).toArray) T1 fun n10 w11 hn12 hb13 hx14 hs15 => ?_)
 have hA16 := Ext.refl w3
 have hea17 := hE
 have hz18 := hE.size
 have hlt19 := lte (bl hb8) hn12
 have hE := hE.trans hx14
 have hb8 := eb hx14 hb8
 have hA16 := hA16.trans hx14
 have hb20 := hb13; clear hb13
 have hl21 : n10 < w11.heap.size := by omega
 refine oA rfl (oZ (tN (hK1 _ _ (sk fun K22 hK22 => (wt (oS rfl (Yk.fieldAt wr4_fo92_0 (vr (PQ n10 0) rfl) (oS rfl (Yk.cell1 wr4_ty4 rfl (vr (PQ n10 0) rfl) (cellAt hb20 (show (partsC p)[0]? = some (.bool (p.refs) : Value) from parts_g0 p)) (oM rfl (opsF_mayV (PQ n2 2) rfl rfl (gF (vr (.bool (p.refs)) rfl)) (fun hG23 => Yk.fieldAt wr4_fo29_2 (vr (PQ n2 0) rfl) ⟨rfl, rfl⟩) (opsF_mayV (x.2.refs) rfl rfl (gF (vr (.bool (p.refs)) rfl)) (fun hG24 => Yk.cell1 wr4_ty22 rfl (mayT (vr (cond (!p.refs) (PQ n2 2) undef) rfl) hG24) (cellAt hb8 (show (msgC x)[2]? = some (x.2.refs : Value) from msg_g2 x)) ⟨rfl, rfl⟩) (opsF_mayV (NI ((x.1.refs).length)) rfl rfl (gF (vr (.bool (p.refs)) rfl)) (fun hG25 => Yk.lenRG wr4_ty22 (RG.of (hmr.keep hE) (mayT (vr (cond (!p.refs) (x.2.refs) undef) rfl) hG25)) ⟨rfl, rfl⟩) (opsF_mayV (.bool (decide (((x.1.refs).length : Nat) = (0)))) rfl rfl (gF (vr (.bool (p.refs)) rfl)) (fun hG26 => Yk.eqI (a := (((x.1.refs).length : Nat) : Int)) (b := ((0 : Nat) : Int)) (mayT (vr (cond (!p.refs) (NI ((x.1.refs).length)) undef) rfl) hG26) (vr (NI 0) rfl) (k_eql _ .i64 ((x.1.refs).length) (0)) ⟨rfl, rfl⟩) (oS rfl (Yk.pickOrN (vr (.bool (p.refs)) rfl) (vr (.bool (true)) rfl) (fun hA => (mayT (vr (cond (!p.refs) (.bool (decide (((x.1.refs).length : Nat) = (0)))) undef) rfl) (not_i hA))) fun bb27 hbb28 => (oM rfl (opsF_mayV (PQ n10 1) rfl rfl (gT (vr (.bool (bb27)) rfl)) (fun hG29 => Yk.fieldAt wr4_fo92_1 (vr (PQ n10 0) rfl) ⟨rfl, rfl⟩) (opsF_mayV (.bool (p.ids)) rfl rfl (gT (vr (.bool (bb27)) rfl)) (fun hG30 => Yk.cell1 wr4_ty4 rfl (mayT (vr (cond (bb27) (PQ n10 1) undef) rfl) hG30) (cellAt hb20 (show (partsC p)[1]? = some (.bool (p.ids) : Value) from parts_g1 p)) ⟨rfl, rfl⟩) ?_)))))))))))))))))))
 refine opsF_mayV (.bool (p.ids)) rfl rfl (gT (vr (.bool (bb27)) rfl)) (fun hG31 => Yk.move (mayT (vr (cond (bb27) (.bool (p.ids)) undef) rfl) hG31) ⟨rfl, rfl⟩) (opsF_mayV (PQ n2 3) rfl rfl (geF (vr (cond (bb27) (.bool (p.ids)) undef) rfl)) (fun hG32 => Yk.fieldAt wr4_fo29_3 (vr (PQ n2 0) rfl) ⟨rfl, rfl⟩) (opsF_mayV (x.2.wants) rfl rfl (geF (vr (cond (bb27) (.bool (p.ids)) undef) rfl)) (fun hG33 => Yk.cell1 wr4_ty23 rfl (mayT (vr (cond (bb27 && !p.ids) (PQ n2 3) undef) rfl) hG33) (cellAt hb8 (show (msgC x)[3]? = some (x.2.wants : Value) from msg_g3 x)) ⟨rfl, rfl⟩) (opsF_mayV (NI ((x.1.wants).length)) rfl rfl (geF (vr (cond (bb27) (.bool (p.ids)) undef) rfl)) (fun hG34 => Yk.lenRG wr4_ty23 (RG.of (hmw.keep hE) (mayT (vr (cond (bb27 && !p.ids) (x.2.wants) undef) rfl) hG34)) ⟨rfl, rfl⟩) (opsF_mayV (.bool (decide (((x.1.wants).length : Nat) = (0)))) rfl rfl (geF (vr (cond (bb27) (.bool (p.ids)) undef) rfl)) (fun hG35 => Yk.eqI (a := (((x.1.wants).length : Nat) : Int)) (b := ((0 : Nat) : Int)) (mayT (vr (cond (bb27 && !p.ids) (NI ((x.1.wants).length)) undef) rfl) hG35) (vr (NI 0) rfl) (k_eql _ .i64 ((x.1.wants).length) (0)) ⟨rfl, rfl⟩) (opsF_mayV (.bool (decide (((x.1.wants).length : Nat) = (0)))) rfl rfl (geF (vr (cond (bb27) (.bool (p.ids)) undef) rfl)) (fun hG36 => Yk.move (mayT (vr (cond (bb27 && !p.ids) (.bool (decide (((x.1.wants).length : Nat) = (0)))) undef) rfl) hG36) ⟨rfl, rfl⟩) (opsF_mayV (PQ n2 4) rfl rfl (geT (vr (cond (bb27 && !p.ids) (.bool (decide (((x.1.wants).length : Nat) = (0)))) undef) rfl)) (fun hG37 => Yk.fieldAt wr4_fo29_4 (vr (PQ n2 0) rfl) ⟨rfl, rfl⟩) (opsF_mayV (x.2.haves) rfl rfl (geT (vr (cond (bb27 && !p.ids) (.bool (decide (((x.1.wants).length : Nat) = (0)))) undef) rfl)) (fun hG38 => Yk.cell1 wr4_ty23 rfl (mayT (vr (cond ((bb27 && !p.ids) && (decide (((x.1.wants).length : Nat) = (0)))) (PQ n2 4) undef) rfl) hG38) (cellAt hb8 (show (msgC x)[4]? = some (x.2.haves : Value) from msg_g4 x)) ⟨rfl, rfl⟩) (opsF_mayV (NI ((x.1.haves).length)) rfl rfl (geT (vr (cond (bb27 && !p.ids) (.bool (decide (((x.1.wants).length : Nat) = (0)))) undef) rfl)) (fun hG39 => Yk.lenRG wr4_ty23 (RG.of (hmh.keep hE) (mayT (vr (cond ((bb27 && !p.ids) && (decide (((x.1.wants).length : Nat) = (0)))) (x.2.haves) undef) rfl) hG39)) ⟨rfl, rfl⟩) (opsF_mayV (.bool (decide (((x.1.haves).length : Nat) = (0)))) rfl rfl (geT (vr (cond (bb27 && !p.ids) (.bool (decide (((x.1.wants).length : Nat) = (0)))) undef) rfl)) (fun hG40 => Yk.eqI (a := (((x.1.haves).length : Nat) : Int)) (b := ((0 : Nat) : Int)) (mayT (vr (cond ((bb27 && !p.ids) && (decide (((x.1.wants).length : Nat) = (0)))) (NI ((x.1.haves).length)) undef) rfl) hG40) (vr (NI 0) rfl) (k_eql _ .i64 ((x.1.haves).length) (0)) ⟨rfl, rfl⟩) (opsF_mayB ((decide (((x.1.wants).length : Nat) = (0))) && (decide (((x.1.haves).length : Nat) = (0)))) rfl rfl (geF (vr (cond (bb27) (.bool (p.ids)) undef) rfl)) (fun hG41 => Yk.pickAnd (mayT (vr (cond (bb27 && !p.ids) (.bool (decide (((x.1.wants).length : Nat) = (0)))) undef) rfl) hG41) (fun hA => (mayT (vr (cond ((bb27 && !p.ids) && (decide (((x.1.wants).length : Nat) = (0)))) (.bool (decide (((x.1.haves).length : Nat) = (0)))) undef) rfl) (and_i hG41 hA))) (vr (.bool (false)) rfl) ⟨rfl, rfl⟩) fun bb42 hbb43 => ?_))))))))))
 refine opsF_mayB (p.ids || bb42) rfl rfl (gT (vr (.bool (bb27)) rfl)) (fun hG44 => Yk.pickOr (mayT (vr (cond (bb27) (.bool (p.ids)) undef) rfl) hG44) (vr (.bool (true)) rfl) (fun hA => (mayT (vr (cond (bb27 && !p.ids) (.bool (bb42)) undef) rfl) (and_i hG44 (not_i hA)))) ⟨rfl, rfl⟩) fun bb45 hbb46 => (oS rfl (Yk.pickAndN (vr (.bool (bb27)) rfl) (fun hA => (mayT (vr (cond (bb27) (.bool (bb45)) undef) rfl) hA)) (vr (.bool (false)) rfl) fun bb47 hbb48 => (oM rfl (opsF_mayV (PQ n10 2) rfl rfl (gT (vr (.bool (bb47)) rfl)) (fun hG49 => Yk.fieldAt wr4_fo92_2 (vr (PQ n10 0) rfl) ⟨rfl, rfl⟩) (opsF_mayV (.bool (p.size)) rfl rfl (gT (vr (.bool (bb47)) rfl)) (fun hG50 => Yk.cell1 wr4_ty4 rfl (mayT (vr (cond (bb47) (PQ n10 2) undef) rfl) hG50) (cellAt hb20 (show (partsC p)[2]? = some (.bool (p.size) : Value) from parts_g2 p)) ⟨rfl, rfl⟩) (opsF_mayV (.bool (p.size)) rfl rfl (gT (vr (.bool (bb47)) rfl)) (fun hG51 => Yk.move (mayT (vr (cond (bb47) (.bool (p.size)) undef) rfl) hG51) ⟨rfl, rfl⟩) (opsF_mayV (PQ n2 5) rfl rfl (geF (vr (cond (bb47) (.bool (p.size)) undef) rfl)) (fun hG52 => Yk.fieldAt wr4_fo29_5 (vr (PQ n2 0) rfl) ⟨rfl, rfl⟩) (opsF_mayV (.int .i64 (x.1.size : Int)) rfl rfl (geF (vr (cond (bb47) (.bool (p.size)) undef) rfl)) (fun hG53 => Yk.cell1 wr4_ty3 rfl (mayT (vr (cond (bb47 && !p.size) (PQ n2 5) undef) rfl) hG53) (cellAt hb8 (show (msgC x)[5]? = some (.int .i64 (x.1.size : Int) : Value) from msg_g5 x)) ⟨rfl, rfl⟩) (opsF_mayV (.bool (decide ((x.1.size : Int) = ((0 : Nat) : Int)))) rfl rfl (geF (vr (cond (bb47) (.bool (p.size)) undef) rfl)) (fun hG54 => Yk.eqI (mayT (vr (cond (bb47 && !p.size) (.int .i64 (x.1.size : Int)) undef) rfl) hG54) (vr (NI 0) rfl) (z_eql _ .i64 (x.1.size : Int) ((0 : Nat) : Int)) ⟨rfl, rfl⟩) (opsF_mayB (p.size || (decide ((x.1.size : Int) = ((0 : Nat) : Int)))) rfl rfl (gT (vr (.bool (bb47)) rfl)) (fun hG55 => Yk.pickOr (mayT (vr (cond (bb47) (.bool (p.size)) undef) rfl) hG55) (vr (.bool (true)) rfl) (fun hA => (mayT (vr (cond (bb47 && !p.size) (.bool (decide ((x.1.size : Int) = ((0 : Nat) : Int)))) undef) rfl) (and_i hG55 (not_i hA)))) ⟨rfl, rfl⟩) fun bb56 hbb57 => (oS rfl (Yk.pickAndN (vr (.bool (bb47)) rfl) (fun hA => (mayT (vr (cond (bb47) (.bool (bb56)) undef) rfl) hA)) (vr (.bool (false)) rfl) fun bb58 hbb59 => (oM rfl (opsF_mayV (PQ n10 3) rfl rfl (gT (vr (.bool (bb58)) rfl)) (fun hG60 => Yk.fieldAt wr4_fo92_3 (vr (PQ n10 0) rfl) ⟨rfl, rfl⟩) (opsF_mayV (.bool (p.at_)) rfl rfl (gT (vr (.bool (bb58)) rfl)) (fun hG61 => Yk.cell1 wr4_ty4 rfl (mayT (vr (cond (bb58) (PQ n10 3) undef) rfl) hG61) (cellAt hb20 (show (partsC p)[3]? = some (.bool (p.at_) : Value) from parts_g3 p)) ⟨rfl, rfl⟩) (opsF_mayV (.bool (p.at_)) rfl rfl (gT (vr (.bool (bb58)) rfl)) (fun hG62 => Yk.move (mayT (vr (cond (bb58) (.bool (p.at_)) undef) rfl) hG62) ⟨rfl, rfl⟩) (opsF_mayV (PQ n2 6) rfl rfl (geF (vr (cond (bb58) (.bool (p.at_)) undef) rfl)) (fun hG63 => Yk.fieldAt wr4_fo29_6 (vr (PQ n2 0) rfl) ⟨rfl, rfl⟩) ?_)))))))))))))))))
 refine opsF_mayV (.int .i64 (x.1.at_ : Int)) rfl rfl (geF (vr (cond (bb58) (.bool (p.at_)) undef) rfl)) (fun hG64 => Yk.cell1 wr4_ty3 rfl (mayT (vr (cond (bb58 && !p.at_) (PQ n2 6) undef) rfl) hG64) (cellAt hb8 (show (msgC x)[6]? = some (.int .i64 (x.1.at_ : Int) : Value) from msg_g6 x)) ⟨rfl, rfl⟩) (opsF_mayV (.bool (decide ((x.1.at_ : Int) = ((0 : Nat) : Int)))) rfl rfl (geF (vr (cond (bb58) (.bool (p.at_)) undef) rfl)) (fun hG65 => Yk.eqI (mayT (vr (cond (bb58 && !p.at_) (.int .i64 (x.1.at_ : Int)) undef) rfl) hG65) (vr (NI 0) rfl) (z_eql _ .i64 (x.1.at_ : Int) ((0 : Nat) : Int)) ⟨rfl, rfl⟩) (opsF_mayB (p.at_ || (decide ((x.1.at_ : Int) = ((0 : Nat) : Int)))) rfl rfl (gT (vr (.bool (bb58)) rfl)) (fun hG66 => Yk.pickOr (mayT (vr (cond (bb58) (.bool (p.at_)) undef) rfl) hG66) (vr (.bool (true)) rfl) (fun hA => (mayT (vr (cond (bb58 && !p.at_) (.bool (decide ((x.1.at_ : Int) = ((0 : Nat) : Int)))) undef) rfl) (and_i hG66 (not_i hA)))) ⟨rfl, rfl⟩) fun bb67 hbb68 => (oS rfl (Yk.pickAndN (vr (.bool (bb58)) rfl) (fun hA => (mayT (vr (cond (bb58) (.bool (bb67)) undef) rfl) hA)) (vr (.bool (false)) rfl) fun bb69 hbb70 => (oM rfl (opsF_mayV (PQ n10 4) rfl rfl (gT (vr (.bool (bb69)) rfl)) (fun hG71 => Yk.fieldAt wr4_fo92_4 (vr (PQ n10 0) rfl) ⟨rfl, rfl⟩) (opsF_mayV (.bool (p.id)) rfl rfl (gT (vr (.bool (bb69)) rfl)) (fun hG72 => Yk.cell1 wr4_ty4 rfl (mayT (vr (cond (bb69) (PQ n10 4) undef) rfl) hG72) (cellAt hb20 (show (partsC p)[4]? = some (.bool (p.id) : Value) from parts_g4 p)) ⟨rfl, rfl⟩) (opsF_mayV (.bool (p.id)) rfl rfl (gT (vr (.bool (bb69)) rfl)) (fun hG73 => Yk.move (mayT (vr (cond (bb69) (.bool (p.id)) undef) rfl) hG73) ⟨rfl, rfl⟩) (opsF_mayV (PQ n2 7) rfl rfl (geF (vr (cond (bb69) (.bool (p.id)) undef) rfl)) (fun hG74 => Yk.fieldAt wr4_fo29_7 (vr (PQ n2 0) rfl) ⟨rfl, rfl⟩) (opsF_mayV (AB x.1.id.1) rfl rfl (geF (vr (cond (bb69) (.bool (p.id)) undef) rfl)) (fun hG75 => Yk.loadPR (PR.blk hb8 (msg_m7 x) (msg_n7 x) (mayT (vr (cond (bb69 && !p.id) (PQ n2 7) undef) rfl) hG75)) wr4_ty25 rfl (sizeId_of x.1.id.2) ⟨rfl, rfl⟩) (opsF_mayC (.bool (zeroB x.1.id)) rfl rfl (geF (vr (cond (bb69) (.bool (p.id)) undef) rfl)) (fun hG76 => Yk.callA1 wr4_pl60 (mayT (vr (cond (bb69 && !p.id) (AB x.1.id.1) undef) rfl) hG76) ((wzero_any _ x.1.id).mono (by rintro e w2 ⟨rfl, hx⟩; exact ⟨_, rfl, rfl, hx⟩))) fun w78 hx79 => ?_)))))))))))
 have hE := hE.trans hx79
 have hb8 := eb hx79 hb8
 have hA16 := hA16.trans hx79
 have hb20 := eb hx79 hb20
 refine opsF_mayB (p.id || (zeroB x.1.id)) rfl rfl (gT (vr (.bool (bb69)) rfl)) (fun hG80 => Yk.pickOr (mayT (vr (cond (bb69) (.bool (p.id)) undef) rfl) hG80) (vr (.bool (true)) rfl) (fun hA => (mayT (vr (cond (bb69 && !p.id) (.bool (zeroB x.1.id)) undef) rfl) (and_i hG80 (not_i hA)))) ⟨rfl, rfl⟩) fun bb81 hbb82 => (oS rfl (Yk.pickAndN (vr (.bool (bb69)) rfl) (fun hA => (mayT (vr (cond (bb69) (.bool (bb81)) undef) rfl) hA)) (vr (.bool (false)) rfl) fun bb83 hbb84 => (oM rfl (opsF_mayV (PQ n10 5) rfl rfl (gT (vr (.bool (bb83)) rfl)) (fun hG85 => Yk.fieldAt wr4_fo92_5 (vr (PQ n10 0) rfl) ⟨rfl, rfl⟩) (opsF_mayV (.bool (p.bytes)) rfl rfl (gT (vr (.bool (bb83)) rfl)) (fun hG86 => Yk.cell1 wr4_ty4 rfl (mayT (vr (cond (bb83) (PQ n10 5) undef) rfl) hG86) (cellAt hb20 (show (partsC p)[5]? = some (.bool (p.bytes) : Value) from parts_g5 p)) ⟨rfl, rfl⟩) (opsF_mayV (.bool (p.bytes)) rfl rfl (gT (vr (.bool (bb83)) rfl)) (fun hG87 => Yk.move (mayT (vr (cond (bb83) (.bool (p.bytes)) undef) rfl) hG87) ⟨rfl, rfl⟩) (opsF_mayV (PQ n2 39) rfl rfl (geF (vr (cond (bb83) (.bool (p.bytes)) undef) rfl)) (fun hG88 => Yk.fieldAt wr4_fo29_8 (vr (PQ n2 0) rfl) ⟨rfl, rfl⟩) (opsF_mayV (x.2.bytes) rfl rfl (geF (vr (cond (bb83) (.bool (p.bytes)) undef) rfl)) (fun hG89 => Yk.cell1 wr4_ty26 rfl (mayT (vr (cond (bb83 && !p.bytes) (PQ n2 39) undef) rfl) hG89) (cellAt hb8 (show (msgC x)[39]? = some (x.2.bytes : Value) from msg_g8 x)) ⟨rfl, rfl⟩) (opsF_mayV (NI ((x.1.bytes : List UInt8).length)) rfl rfl (geF (vr (cond (bb83) (.bool (p.bytes)) undef) rfl)) (fun hG90 => Yk.lenRB wr4_ty26 (RB.of (hmb.keep hE) (mayT (vr (cond (bb83 && !p.bytes) (x.2.bytes) undef) rfl) hG90)) ⟨rfl, rfl⟩) (opsF_mayV (.bool (decide (((x.1.bytes : List UInt8).length : Nat) = (0)))) rfl rfl (geF (vr (cond (bb83) (.bool (p.bytes)) undef) rfl)) (fun hG91 => Yk.eqI (a := (((x.1.bytes : List UInt8).length : Nat) : Int)) (b := ((0 : Nat) : Int)) (mayT (vr (cond (bb83 && !p.bytes) (NI ((x.1.bytes : List UInt8).length)) undef) rfl) hG91) (vr (NI 0) rfl) (k_eql _ .i64 ((x.1.bytes : List UInt8).length) (0)) ⟨rfl, rfl⟩) (opsF_mayB (p.bytes || (decide (((x.1.bytes : List UInt8).length : Nat) = (0)))) rfl rfl (gT (vr (.bool (bb83)) rfl)) (fun hG92 => Yk.pickOr (mayT (vr (cond (bb83) (.bool (p.bytes)) undef) rfl) hG92) (vr (.bool (true)) rfl) (fun hA => (mayT (vr (cond (bb83 && !p.bytes) (.bool (decide (((x.1.bytes : List UInt8).length : Nat) = (0)))) undef) rfl) (and_i hG92 (not_i hA)))) ⟨rfl, rfl⟩) fun bb93 hbb94 => (oS rfl (Yk.pickAndN (vr (.bool (bb83)) rfl) (fun hA => (mayT (vr (cond (bb83) (.bool (bb93)) undef) rfl) hA)) (vr (.bool (false)) rfl) fun bb95 hbb96 => (oM rfl (opsF_mayV (PQ n10 6) rfl rfl (gT (vr (.bool (bb95)) rfl)) (fun hG97 => Yk.fieldAt wr4_fo92_6 (vr (PQ n10 0) rfl) ⟨rfl, rfl⟩) (opsF_mayV (.bool (p.push)) rfl rfl (gT (vr (.bool (bb95)) rfl)) (fun hG98 => Yk.cell1 wr4_ty4 rfl (mayT (vr (cond (bb95) (PQ n10 6) undef) rfl) hG98) (cellAt hb20 (show (partsC p)[6]? = some (.bool (p.push) : Value) from parts_g6 p)) ⟨rfl, rfl⟩) ?_))))))))))))))))
 refine opsF_mayV (.bool (p.push)) rfl rfl (gT (vr (.bool (bb95)) rfl)) (fun hG99 => Yk.move (mayT (vr (cond (bb95) (.bool (p.push)) undef) rfl) hG99) ⟨rfl, rfl⟩) (opsF_mayV (PQ n2 40) rfl rfl (geF (vr (cond (bb95) (.bool (p.push)) undef) rfl)) (fun hG100 => Yk.fieldAt wr4_fo29_9 (vr (PQ n2 0) rfl) ⟨rfl, rfl⟩) (opsF_mayV (St (x.1.name)) rfl rfl (geF (vr (cond (bb95) (.bool (p.push)) undef) rfl)) (fun hG101 => Yk.cell1 wr4_ty9 rfl (mayT (vr (cond (bb95 && !p.push) (PQ n2 40) undef) rfl) hG101) (cellAt hb8 (show (msgC x)[40]? = some (St (x.1.name) : Value) from msg_g9 x)) ⟨rfl, rfl⟩) (opsF_mayV (.bool (decide ((x.1.name : List UInt8) = (([] : List UInt8) : List UInt8)))) rfl rfl (geF (vr (cond (bb95) (.bool (p.push)) undef) rfl)) (fun hG102 => Yk.eqSt (l := x.1.name) (m := ([] : List UInt8)) (.inl rfl) (mayT (vr (cond (bb95 && !p.push) (St (x.1.name)) undef) rfl) hG102) (vr (St (([] : List UInt8))) rfl) (decide ((x.1.name : List UInt8) = (([] : List UInt8) : List UInt8))) rfl ⟨rfl, rfl⟩) (opsF_mayV (.bool (decide ((x.1.name : List UInt8) = (([] : List UInt8) : List UInt8)))) rfl rfl (geF (vr (cond (bb95) (.bool (p.push)) undef) rfl)) (fun hG103 => Yk.move (mayT (vr (cond (bb95 && !p.push) (.bool (decide ((x.1.name : List UInt8) = (([] : List UInt8) : List UInt8)))) undef) rfl) hG103) ⟨rfl, rfl⟩) (opsF_mayV (PQ n2 41) rfl rfl (geT (vr (cond (bb95 && !p.push) (.bool (decide ((x.1.name : List UInt8) = (([] : List UInt8) : List UInt8)))) undef) rfl)) (fun hG104 => Yk.fieldAt wr4_fo29_10 (vr (PQ n2 0) rfl) ⟨rfl, rfl⟩) (opsF_mayV (AB x.1.old.1) rfl rfl (geT (vr (cond (bb95 && !p.push) (.bool (decide ((x.1.name : List UInt8) = (([] : List UInt8) : List UInt8)))) undef) rfl)) (fun hG105 => Yk.loadPR (PR.blk hb8 (msg_m10 x) (msg_n10 x) (mayT (vr (cond ((bb95 && !p.push) && (decide ((x.1.name : List UInt8) = (([] : List UInt8) : List UInt8)))) (PQ n2 41) undef) rfl) hG105)) wr4_ty25 rfl (sizeId_of x.1.old.2) ⟨rfl, rfl⟩) (opsF_mayC (.bool (zeroB x.1.old)) rfl rfl (geT (vr (cond (bb95 && !p.push) (.bool (decide ((x.1.name : List UInt8) = (([] : List UInt8) : List UInt8)))) undef) rfl)) (fun hG106 => Yk.callA1 wr4_pl60 (mayT (vr (cond ((bb95 && !p.push) && (decide ((x.1.name : List UInt8) = (([] : List UInt8) : List UInt8)))) (AB x.1.old.1) undef) rfl) hG106) ((wzero_any _ x.1.old).mono (by rintro e w2 ⟨rfl, hx⟩; exact ⟨_, rfl, rfl, hx⟩))) fun w108 hx109 => ?_)))))))
 have hE := hE.trans hx109
 have hb8 := eb hx109 hb8
 have hA16 := hA16.trans hx109
 have hb20 := eb hx109 hb20
 refine opsF_mayB ((decide ((x.1.name : List UInt8) = (([] : List UInt8) : List UInt8))) && (zeroB x.1.old)) rfl rfl (geF (vr (cond (bb95) (.bool (p.push)) undef) rfl)) (fun hG110 => Yk.pickAnd (mayT (vr (cond (bb95 && !p.push) (.bool (decide ((x.1.name : List UInt8) = (([] : List UInt8) : List UInt8)))) undef) rfl) hG110) (fun hA => (mayT (vr (cond ((bb95 && !p.push) && (decide ((x.1.name : List UInt8) = (([] : List UInt8) : List UInt8)))) (.bool (zeroB x.1.old)) undef) rfl) (and_i hG110 hA))) (vr (.bool (false)) rfl) ⟨rfl, rfl⟩) fun bb111 hbb112 => (opsF_mayV (.bool (bb111)) rfl rfl (geF (vr (cond (bb95) (.bool (p.push)) undef) rfl)) (fun hG113 => Yk.move (mayT (vr (cond (bb95 && !p.push) (.bool (bb111)) undef) rfl) hG113) ⟨rfl, rfl⟩) (opsF_mayV (PQ n2 73) rfl rfl (geT (vr (cond (bb95 && !p.push) (.bool (bb111)) undef) rfl)) (fun hG114 => Yk.fieldAt wr4_fo29_11 (vr (PQ n2 0) rfl) ⟨rfl, rfl⟩) (opsF_mayV (AB x.1.new.1) rfl rfl (geT (vr (cond (bb95 && !p.push) (.bool (bb111)) undef) rfl)) (fun hG115 => Yk.loadPR (PR.blk hb8 (msg_m11 x) (msg_n11 x) (mayT (vr (cond ((bb95 && !p.push) && bb111) (PQ n2 73) undef) rfl) hG115)) wr4_ty25 rfl (sizeId_of x.1.new.2) ⟨rfl, rfl⟩) (opsF_mayC (.bool (zeroB x.1.new)) rfl rfl (geT (vr (cond (bb95 && !p.push) (.bool (bb111)) undef) rfl)) (fun hG116 => Yk.callA1 wr4_pl60 (mayT (vr (cond ((bb95 && !p.push) && bb111) (AB x.1.new.1) undef) rfl) hG116) ((wzero_any _ x.1.new).mono (by rintro e w2 ⟨rfl, hx⟩; exact ⟨_, rfl, rfl, hx⟩))) fun w118 hx119 => ?_))))
 have hE := hE.trans hx119
 have hb8 := eb hx119 hb8
 have hA16 := hA16.trans hx119
 have hb20 := eb hx119 hb20
 refine opsF_mayB (bb111 && (zeroB x.1.new)) rfl rfl (geF (vr (cond (bb95) (.bool (p.push)) undef) rfl)) (fun hG120 => Yk.pickAnd (mayT (vr (cond (bb95 && !p.push) (.bool (bb111)) undef) rfl) hG120) (fun hA => (mayT (vr (cond ((bb95 && !p.push) && bb111) (.bool (zeroB x.1.new)) undef) rfl) (and_i hG120 hA))) (vr (.bool (false)) rfl) ⟨rfl, rfl⟩) fun bb121 hbb122 => (opsF_mayV (.bool (bb121)) rfl rfl (geF (vr (cond (bb95) (.bool (p.push)) undef) rfl)) (fun hG123 => Yk.move (mayT (vr (cond (bb95 && !p.push) (.bool (bb121)) undef) rfl) hG123) ⟨rfl, rfl⟩) (opsF_mayV (PQ n2 105) rfl rfl (geT (vr (cond (bb95 && !p.push) (.bool (bb121)) undef) rfl)) (fun hG124 => Yk.fieldAt wr4_fo29_12 (vr (PQ n2 0) rfl) ⟨rfl, rfl⟩) (opsF_mayV (.bool (x.1.force)) rfl rfl (geT (vr (cond (bb95 && !p.push) (.bool (bb121)) undef) rfl)) (fun hG125 => Yk.cell1 wr4_ty4 rfl (mayT (vr (cond ((bb95 && !p.push) && bb121) (PQ n2 105) undef) rfl) hG125) (cellAt hb8 (show (msgC x)[105]? = some (.bool (x.1.force) : Value) from msg_g12 x)) ⟨rfl, rfl⟩) (opsF_mayV (.bool (!(x.1.force))) rfl rfl (geT (vr (cond (bb95 && !p.push) (.bool (bb121)) undef) rfl)) (fun hG126 => Yk.notB (mayT (vr (cond ((bb95 && !p.push) && bb121) (.bool (x.1.force)) undef) rfl) hG126) ⟨rfl, rfl⟩) (opsF_mayB (bb121 && (!(x.1.force))) rfl rfl (geF (vr (cond (bb95) (.bool (p.push)) undef) rfl)) (fun hG127 => Yk.pickAnd (mayT (vr (cond (bb95 && !p.push) (.bool (bb121)) undef) rfl) hG127) (fun hA => (mayT (vr (cond ((bb95 && !p.push) && bb121) (.bool (!(x.1.force))) undef) rfl) (and_i hG127 hA))) (vr (.bool (false)) rfl) ⟨rfl, rfl⟩) fun bb128 hbb129 => (opsF_mayB (p.push || bb128) rfl rfl (gT (vr (.bool (bb95)) rfl)) (fun hG130 => Yk.pickOr (mayT (vr (cond (bb95) (.bool (p.push)) undef) rfl) hG130) (vr (.bool (true)) rfl) (fun hA => (mayT (vr (cond (bb95 && !p.push) (.bool (bb128)) undef) rfl) (and_i hG130 (not_i hA)))) ⟨rfl, rfl⟩) fun bb131 hbb132 => (oS rfl (Yk.pickAndN (vr (.bool (bb95)) rfl) (fun hA => (mayT (vr (cond (bb95) (.bool (bb131)) undef) rfl) hA)) (vr (.bool (false)) rfl) fun bb133 hbb134 => (oM rfl (opsF_mayV (PQ n10 7) rfl rfl (gT (vr (.bool (bb133)) rfl)) (fun hG135 => Yk.fieldAt wr4_fo92_7 (vr (PQ n10 0) rfl) ⟨rfl, rfl⟩) (opsF_mayV (.bool (p.code)) rfl rfl (gT (vr (.bool (bb133)) rfl)) (fun hG136 => Yk.cell1 wr4_ty4 rfl (mayT (vr (cond (bb133) (PQ n10 7) undef) rfl) hG136) (cellAt hb20 (show (partsC p)[7]? = some (.bool (p.code) : Value) from parts_g7 p)) ⟨rfl, rfl⟩) (opsF_mayV (.bool (p.code)) rfl rfl (gT (vr (.bool (bb133)) rfl)) (fun hG137 => Yk.move (mayT (vr (cond (bb133) (.bool (p.code)) undef) rfl) hG137) ⟨rfl, rfl⟩) (opsF_mayV (PQ n2 106) rfl rfl (geF (vr (cond (bb133) (.bool (p.code)) undef) rfl)) (fun hG138 => Yk.fieldAt wr4_fo29_13 (vr (PQ n2 0) rfl) ⟨rfl, rfl⟩) (opsF_mayV (.int .i64 (x.1.code : Int)) rfl rfl (geF (vr (cond (bb133) (.bool (p.code)) undef) rfl)) (fun hG139 => Yk.cell1 wr4_ty27 rfl (mayT (vr (cond (bb133 && !p.code) (PQ n2 106) undef) rfl) hG139) (cellAt hb8 (show (msgC x)[106]? = some (.int .i64 (x.1.code : Int) : Value) from msg_g13 x)) ⟨rfl, rfl⟩) ?_))))))))))))))
 refine opsF_mayV (.bool (decide ((x.1.code : Int) = ((0 : Nat) : Int)))) rfl rfl (geF (vr (cond (bb133) (.bool (p.code)) undef) rfl)) (fun hG140 => Yk.eqI (mayT (vr (cond (bb133 && !p.code) (.int .i64 (x.1.code : Int)) undef) rfl) hG140) (vr (NI 0) rfl) (z_eql _ .i64 (x.1.code : Int) ((0 : Nat) : Int)) ⟨rfl, rfl⟩) (opsF_mayB (p.code || (decide ((x.1.code : Int) = ((0 : Nat) : Int)))) rfl rfl (gT (vr (.bool (bb133)) rfl)) (fun hG141 => Yk.pickOr (mayT (vr (cond (bb133) (.bool (p.code)) undef) rfl) hG141) (vr (.bool (true)) rfl) (fun hA => (mayT (vr (cond (bb133 && !p.code) (.bool (decide ((x.1.code : Int) = ((0 : Nat) : Int)))) undef) rfl) (and_i hG141 (not_i hA)))) ⟨rfl, rfl⟩) fun bb142 hbb143 => (oS rfl (Yk.pickAndN (vr (.bool (bb133)) rfl) (fun hA => (mayT (vr (cond (bb133) (.bool (bb142)) undef) rfl) hA)) (vr (.bool (false)) rfl) fun bb144 hbb145 => (oA rfl (oL_ [(0, .agg (msgC x).toArray), (1, .agg (partsC p).toArray), (2, PQ n2 0), (3, PQ n10 0), (4, .bool (bb144))] ⟨T0, T1, rfl, rfl, rfl, trivial⟩ fun ρ146 ⟨T0, T1, T2, T3, T4, _⟩ => (tN (hK22 _ _ (wpF_ret (postF_ret (fn := Tryd.f56) _ rfl [.bool (bb144)] (.bool (bb144)) rfl ⟨T4, trivial⟩ ?_)))))))))
 subst hbb28 hbb43 hbb46 hbb48 hbb57 hbb59 hbb68 hbb70 hbb82 hbb84 hbb94 hbb96 hbb112 hbb122 hbb129 hbb132 hbb134 hbb143 hbb145
 exact ⟨rfl, hE⟩

theorem right_any (w : World) (x : MsgV) (hm : MsgAt w x) (hL : MsgLt x.1) :
  Calls Tryd.prog 19 #[.agg (msgC x).toArray] w fun e w' => e = .returned (.bool (rightB x.1)) ∧ Ext w w' := by
 have hmr := hm.refs
 have hmw := hm.wants
 have hmh := hm.haves
 have hmb := hm.bytes
 refine calls_of_wpF (args := [.agg (msgC x).toArray]) Tryd.func19 rfl 88 rfl (Nat.le_of_ble_eq_true rfl) ?_
 intro ρ0 hb
 have T0 : ρ0 0 = (.agg (msgC x).toArray : Value) := hb.get 0
 clear hb
 have hE := Ext.refl w
 refine sk fun K1 hK1 => (wt (oS rfl (Yk.box (cs := (msgC x : List Value).toArray) T0 fun n2 w3 hn4 hb5 hx6 hs7 => ?_)))
 have hE := hE.trans hx6
 have hb8 := hb5; clear hb5
 have hl9 : n2 < w3.heap.size := by omega
 refine oA rfl (oZ ?_)
 rcases hK : kindsG x.1.kind with _ | p
 ·refine tN (hK1 _ _ (sk fun K10 hK10 => ?_))
  have hA11 := Ext.refl w3
  have hea12 := hE
  have hz13 := hE.size
  have hlt14 : n2 < w3.heap.size := (bl hb8)
  refine wpF_draw_newK 0 7 8 9 92 (partsC (⟨false, false, false, false, false, false, false, false⟩ : Parts)).toArray (partsC dParts).toArray [fun x w' => ∃ b, x = .map (some b) ∧ MapF B8 partsV (fun _ : UInt8 => True) w' b kindsG, Is (PQ n2 0), Is (B8 (x.1.kind)), Is (.tuple #[.agg (partsC dParts).toArray, .bool (false)]), Is (.tuple #[.agg (partsC dParts).toArray, .bool (false)]), Is (.agg (partsC dParts).toArray), Is (.bool (false)), RowK w3 92 8, (fun _ _ => True)] (by kernel_rfl) [6, 7, 8, 9, 5, 10, 11, 3, 4] (by kernel_rfl) (by kernel_rfl) (by kernel_rfl) (by kernel_rfl) rfl rfl (by kernel_rfl) rfl rfl rfl rfl rfl rfl rfl ⟨(fun _ _ _ ⟨b, h1, h2⟩ k => ⟨b, h1, MapF.stabK h2 k⟩), Stab.is _, Stab.is _, Stab.is _, Stab.is _, Stab.is _, Stab.is _, RowK.stab _ _ _, Stab.any, trivial⟩ rfl ?hs1001 ?hQ1001
  case hs1001 =>
   refine ⟨?_, ?_, ?_, ?_, ?_, ?_, ?_, ?_, ?_, ?_, trivial⟩
   ·refine stepFC (stepN rfl fun σ w1 hC h => ?_)
    have hC : Ext w3 w1 := hC
    refine Yk.callA0 wr4_pl50  ((kinds_any _).mono ?_)
    rintro e w2 ⟨b, rfl, hmk, hx, hom⟩
    exact ⟨_, rfl, ⟨hx, hom⟩, ⟨b, rfl, hmk⟩⟩
   ·refine stepFC (stepN rfl fun σ w1 hC h => ?_)
    have hC : Ext w3 w1 := hC
    have e1 : σ 1 = PQ n2 0 := (eqo (h 1 (by decide))).trans rfl
    exact Yk.fieldAt wr4_fo29_0 e1 ⟨rfl, rfl⟩
   ·refine stepFC (stepN rfl fun σ w1 hC h => ?_)
    have hC : Ext w3 w1 := hC
    have e7 := eqo (h 7 (by decide))
    exact Yk.cell1 wr4_ty5 rfl e7 (cellAt (eb hC hb8) (show (msgC x)[0]? = some (B8 (x.1.kind) : Value) from msg_g0 x)) ⟨rfl, rfl⟩
   ·refine stepFC (stepN rfl fun σ w1 hC h => ?_)
    have hC : Ext w3 w1 := hC
    have e6 : (fun x w' => ∃ b, x = .map (some b) ∧ MapF B8 partsV (fun _ : UInt8 => True) w' b kindsG) (σ 6) w1 := h 6 (by decide)
    have e8 := eqo (h 8 (by decide))
    obtain ⟨b6, k6, m6⟩ := (show ∃ b, σ 6 = .map (some b) ∧ MapF B8 partsV (fun _ : UInt8 => True) w1 b kindsG from e6)
    exact Yk.lookOkN (ek := B8) (ev := partsV) (D := fun _ : UInt8 => True) u8Law u8_ok (fun _ _ => b8_inj) wr4_ty93 (z := partsV dParts) zeroParts k6 e8 m6 trivial hK ⟨rfl, rfl⟩
   ·refine stepFC (stepN rfl fun σ w1 hC h => ?_)
    have hC : Ext w3 w1 := hC
    have e9 := eqo (h 9 (by decide))
    exact Yk.move e9 ⟨rfl, rfl⟩
   ·refine stepFC (stepN rfl fun σ w1 hC h => ?_)
    have hC : Ext w3 w1 := hC
    have e5 := eqo (h 5 (by decide))
    exact Yk.extract (vs := [.agg (partsC dParts).toArray, .bool (false)]) e5 (show _ = some (.agg (partsC dParts).toArray : Value) from rfl) ⟨rfl, rfl⟩
   ·refine stepFC (stepN rfl fun σ w1 hC h => ?_)
    have hC : Ext w3 w1 := hC
    have e5 := eqo (h 5 (by decide))
    exact Yk.extract (vs := [.agg (partsC dParts).toArray, .bool (false)]) e5 (show _ = some (.bool (false) : Value) from rfl) ⟨rfl, rfl⟩
   ·refine stepFC (stepN rfl fun σ w1 hC h => ?_)
    have hC : NoCells w3 w1 := hC
    exact Yk.allocX wr4_al92 ⟨⟨hC, rfl⟩, w1.heap.size, _, rfl, hC.1.size, heap_alloc_new _ _, rfl⟩
   ·refine stepFC (stepN rfl fun σ w1 hC h => ?_)
    have hC : OneCells w3 w1 := hC
    have e3 : (RowK w3 92 8) (σ 3) w1 := h 3 (by decide)
    have e10 := eqo (h 10 (by decide))
    obtain ⟨g, cs, h1, h2, h3, h4⟩ := e3
    exact Yk.storeAll h1 e10 (show _ = some (Obj.cells cs.toList.toArray 92 (0, 0)) by simpa using h3) (by rw [show cs.toList.toArray = cs by simp, h4]; rfl) (show (Tryd.prog.info? 92).map (·.size) = some 8 from wr4_isz92) (parts_one) fun w2 a b c => ⟨⟨hC, g, cs, h2, h3, (by rw [h4]; rfl), a, b, c⟩, trivial⟩
   ·exact trivial
  intro ρ15 w16 hx17 hun18 he hf
  obtain ⟨-, -, -, -, -, -, k11, k3, -⟩ := hf
  obtain ⟨T0, T1, T2, -⟩ := he.hold [(0, _), (1, PQ n2 0), (2, .bool (false))] ⟨T0, rfl, rfl, trivial⟩ rfl
  clear he
  have hE := hE.trans hx17
  have hb8 := eb hx17 hb8
  have hA11 := hA11.trans hx17
  obtain ⟨n19, cs_, T3, hn21, hb22, hz23⟩ := (show (RowK w3 92 8) (ρ15 3) w16 from k3)
  obtain rfl := hun18 n19 cs_ _ _ hn21 hb22
  clear k3
  have hl24 := bl hb22
  have T11 : ρ15 11 = .bool (false) := k11
  clear k11
  refine oA rfl (oZ (tN (hK10 _ _ (sk fun K25 hK25 => (sk fun K26 hK26 => (wt (oM rfl (oS rfl (Yk.notB T11 (oM rfl (oN (d := 14) rfl rfl rfl (vr (.bool (true)) rfl) rfl (oN (d := 14) rfl rfl rfl (vr (.bool (true)) rfl) rfl (oN (d := 14) rfl rfl rfl (vr (.bool (true)) rfl) rfl (oN (d := 14) rfl rfl rfl (vr (.bool (true)) rfl) rfl (oS rfl (Yk.pickT (vr (.bool (true)) rfl) (vr (.bool (true)) rfl) (oM rfl (oN (d := 20) rfl rfl rfl (vr (.bool (true)) rfl) rfl ?_))))))))))))))))))
  refine oN (d := 20) rfl rfl rfl (vr (.bool (true)) rfl) rfl (oN (d := 20) rfl rfl rfl (vr (.bool (true)) rfl) rfl (oN (d := 20) rfl rfl rfl (vr (.bool (true)) rfl) rfl (oS rfl (Yk.pickT (vr (.bool (true)) rfl) (vr (.bool (true)) rfl) (oM rfl (oN (d := 26) rfl rfl rfl (vr (.bool (true)) rfl) rfl (oN (d := 26) rfl rfl rfl (vr (.bool (true)) rfl) rfl (oN (d := 26) rfl rfl rfl (vr (.bool (true)) rfl) rfl (oN (d := 26) rfl rfl rfl (vr (.bool (true)) rfl) rfl (oS rfl (Yk.pickT (vr (.bool (true)) rfl) (vr (.bool (true)) rfl) (oM rfl (oN (d := 32) rfl rfl rfl (vr (.bool (true)) rfl) rfl (oN (d := 32) rfl rfl rfl (vr (.bool (true)) rfl) rfl (oN (d := 32) rfl rfl rfl (vr (.bool (true)) rfl) rfl (oN (d := 32) rfl rfl rfl (vr (.bool (true)) rfl) rfl (oS rfl (Yk.pickT (vr (.bool (true)) rfl) (vr (.bool (true)) rfl) ?_))))))))))))))))))
  refine oM rfl (oN (d := 38) rfl rfl rfl (vr (.bool (true)) rfl) rfl (oN (d := 38) rfl rfl rfl (vr (.bool (true)) rfl) rfl (oN (d := 38) rfl rfl rfl (vr (.bool (true)) rfl) rfl (oN (d := 38) rfl rfl rfl (vr (.bool (true)) rfl) rfl (oS rfl (Yk.pickT (vr (.bool (true)) rfl) (vr (.bool (true)) rfl) (oL_ [(0, .agg (msgC x).toArray), (1, PQ n2 0), (2, .bool (false)), (3, PQ n19 0), (4, .bool (false)), (43, .bool (true))] ⟨T0, T1, T2, T3, T11, rfl, trivial⟩ fun ρ27 ⟨T0, T1, T2, T3, T4, T43, _⟩ => (tN (hK26 _ _ (wpF_true T43 (sk fun K28 hK28 => (wt (oA rfl (oZ (tN (hK28 _ _ (wpF_ret (thenF_ret (postF_ret (fn := Tryd.f19) _ rfl [.bool (false)] (.bool (false)) rfl ⟨rfl, trivial⟩ ?_)))))))))))))))))))
  exact ⟨by rw [rightB_none hK], hE⟩
 refine tN (hK1 _ _ (sk fun K29 hK29 => ?_))
 have hA30 := Ext.refl w3
 have hea31 := hE
 have hz32 := hE.size
 have hlt33 : n2 < w3.heap.size := (bl hb8)
 refine wpF_draw_newK 0 7 8 9 92 (partsC (⟨false, false, false, false, false, false, false, false⟩ : Parts)).toArray (partsC p).toArray [fun x w' => ∃ b, x = .map (some b) ∧ MapF B8 partsV (fun _ : UInt8 => True) w' b kindsG, Is (PQ n2 0), Is (B8 (x.1.kind)), Is (.tuple #[.agg (partsC p).toArray, .bool (true)]), Is (.tuple #[.agg (partsC p).toArray, .bool (true)]), Is (.agg (partsC p).toArray), Is (.bool (true)), RowK w3 92 8, (fun _ _ => True)] (by kernel_rfl) [6, 7, 8, 9, 5, 10, 11, 3, 4] (by kernel_rfl) (by kernel_rfl) (by kernel_rfl) (by kernel_rfl) rfl rfl (by kernel_rfl) rfl rfl rfl rfl rfl rfl rfl ⟨(fun _ _ _ ⟨b, h1, h2⟩ k => ⟨b, h1, MapF.stabK h2 k⟩), Stab.is _, Stab.is _, Stab.is _, Stab.is _, Stab.is _, Stab.is _, RowK.stab _ _ _, Stab.any, trivial⟩ rfl ?hs2001 ?hQ2001
 case hs2001 =>
  refine ⟨?_, ?_, ?_, ?_, ?_, ?_, ?_, ?_, ?_, ?_, trivial⟩
  ·refine stepFC (stepN rfl fun σ w1 hC h => ?_)
   have hC : Ext w3 w1 := hC
   refine Yk.callA0 wr4_pl50  ((kinds_any _).mono ?_)
   rintro e w2 ⟨b, rfl, hmk, hx, hom⟩
   exact ⟨_, rfl, ⟨hx, hom⟩, ⟨b, rfl, hmk⟩⟩
  ·refine stepFC (stepN rfl fun σ w1 hC h => ?_)
   have hC : Ext w3 w1 := hC
   have e1 : σ 1 = PQ n2 0 := (eqo (h 1 (by decide))).trans rfl
   exact Yk.fieldAt wr4_fo29_0 e1 ⟨rfl, rfl⟩
  ·refine stepFC (stepN rfl fun σ w1 hC h => ?_)
   have hC : Ext w3 w1 := hC
   have e7 := eqo (h 7 (by decide))
   exact Yk.cell1 wr4_ty5 rfl e7 (cellAt (eb hC hb8) (show (msgC x)[0]? = some (B8 (x.1.kind) : Value) from msg_g0 x)) ⟨rfl, rfl⟩
  ·refine stepFC (stepN rfl fun σ w1 hC h => ?_)
   have hC : Ext w3 w1 := hC
   have e6 : (fun x w' => ∃ b, x = .map (some b) ∧ MapF B8 partsV (fun _ : UInt8 => True) w' b kindsG) (σ 6) w1 := h 6 (by decide)
   have e8 := eqo (h 8 (by decide))
   obtain ⟨b6, k6, m6⟩ := (show ∃ b, σ 6 = .map (some b) ∧ MapF B8 partsV (fun _ : UInt8 => True) w1 b kindsG from e6)
   exact Yk.lookOkS (ek := B8) (ev := partsV) (D := fun _ : UInt8 => True) u8Law u8_ok (fun _ _ => b8_inj) wr4_ty93 (z := partsV dParts) zeroParts k6 e8 m6 trivial hK ⟨rfl, rfl⟩
  ·refine stepFC (stepN rfl fun σ w1 hC h => ?_)
   have hC : Ext w3 w1 := hC
   have e9 := eqo (h 9 (by decide))
   exact Yk.move e9 ⟨rfl, rfl⟩
  ·refine stepFC (stepN rfl fun σ w1 hC h => ?_)
   have hC : Ext w3 w1 := hC
   have e5 := eqo (h 5 (by decide))
   exact Yk.extract (vs := [.agg (partsC p).toArray, .bool (true)]) e5 (show _ = some (.agg (partsC p).toArray : Value) from rfl) ⟨rfl, rfl⟩
  ·refine stepFC (stepN rfl fun σ w1 hC h => ?_)
   have hC : Ext w3 w1 := hC
   have e5 := eqo (h 5 (by decide))
   exact Yk.extract (vs := [.agg (partsC p).toArray, .bool (true)]) e5 (show _ = some (.bool (true) : Value) from rfl) ⟨rfl, rfl⟩
  ·refine stepFC (stepN rfl fun σ w1 hC h => ?_)
   have hC : NoCells w3 w1 := hC
   exact Yk.allocX wr4_al92 ⟨⟨hC, rfl⟩, w1.heap.size, _, rfl, hC.1.size, heap_alloc_new _ _, rfl⟩
  ·refine stepFC (stepN rfl fun σ w1 hC h => ?_)
   have hC : OneCells w3 w1 := hC
   have e3 : (RowK w3 92 8) (σ 3) w1 := h 3 (by decide)
   have e10 := eqo (h 10 (by decide))
   obtain ⟨g, cs, h1, h2, h3, h4⟩ := e3
   exact Yk.storeAll h1 e10 (show _ = some (Obj.cells cs.toList.toArray 92 (0, 0)) by simpa using h3) (by rw [show cs.toList.toArray = cs by simp, h4]; rfl) (show (Tryd.prog.info? 92).map (·.size) = some 8 from wr4_isz92) (parts_one) fun w2 a b c => ⟨⟨hC, g, cs, h2, h3, (by rw [h4]; rfl), a, b, c⟩, trivial⟩
  ·exact trivial
 intro ρ34 w35 hx36 hun37 he hf
 obtain ⟨-, -, -, -, -, -, k11, k3, -⟩ := hf
 obtain ⟨T0, T1, T2, -⟩ := he.hold [(0, _), (1, PQ n2 0), (2, .bool (false))] ⟨T0, rfl, rfl, trivial⟩ rfl
 clear he
 have hE := hE.trans hx36
 have hb8 := eb hx36 hb8
 have hA30 := hA30.trans hx36
 obtain ⟨n38, cs_, T3, hn40, hb41, hz42⟩ := (show (RowK w3 92 8) (ρ34 3) w35 from k3)
 obtain rfl := hun37 n38 cs_ _ _ hn40 hb41
 clear k3
 have hl43 := bl hb41
 have T11 : ρ34 11 = .bool (true) := k11
 clear k11
 refine oA rfl (oZ (tN (hK29 _ _ (sk fun K44 hK44 => (sk fun K45 hK45 => (wt (oM rfl (oS rfl (Yk.notB T11 (oM rfl (oY (d := 14) rfl rfl (vr (.bool (false)) rfl) (Yk.fieldAt wr4_fo29_1 T1 (oY (d := 14) rfl rfl (vr (.bool (false)) rfl) (Yk.cell1 wr4_ty3 rfl (vr (PQ n2 1) rfl) (cellAt hb8 (show (msgC x)[1]? = some (.int .i64 (x.1.session : Int) : Value) from msg_g1 x)) (oY (d := 14) rfl rfl (vr (.bool (false)) rfl) (Yk.callA2 wr4_pl55 (vr (.int .i64 (x.1.session : Int)) rfl) (vr (NI 2147483647) rfl) ((bound_any _ x.1.session ((2147483647 : Nat) : Int)).mono ?_)))))))))))))))))
 rintro e w47 ⟨rfl, hx46⟩
 refine ⟨_, rfl, ?_⟩
 have hE := hE.trans hx46
 have hb8 := eb hx46 hb8
 have hA30 := hA30.trans hx46
 have hb41 := eb hx46 hb41
 refine oY (d := 14) rfl rfl (vr (.bool (false)) rfl) (Yk.notB (vr (.bool (boundB x.1.session ((2147483647 : Nat) : Int))) rfl) (oS rfl (Yk.pickF (vr (.bool (false)) rfl) (vr (.bool (!(boundB x.1.session ((2147483647 : Nat) : Int)))) rfl) (oM rfl (opsF_mayV (.agg (msgC x).toArray) rfl rfl (gF (vr (.bool (!(boundB x.1.session ((2147483647 : Nat) : Int)))) rfl)) (fun hG48 => Yk.loadAll T1 hb8 (wr4_ty29).choose_spec rfl (st_isz (msg_len x) wr4_isz29) ⟨rfl, rfl⟩) (opsF_mayV (.agg (partsC p).toArray) rfl rfl (gF (vr (.bool (!(boundB x.1.session ((2147483647 : Nat) : Int)))) rfl)) (fun hG49 => Yk.loadAll T3 hb41 (wr4_ty92).choose_spec rfl (st_isz (parts_len p) wr4_isz92) ⟨rfl, rfl⟩) (opsF_mayC (.bool (absentB x.1 p)) rfl rfl (gF (vr (.bool (!(boundB x.1.session ((2147483647 : Nat) : Int)))) rfl)) (fun hG50 => Yk.callA2 wr4_pl56 (mayT (vr (cond (!(!(boundB x.1.session ((2147483647 : Nat) : Int)))) (.agg (msgC x).toArray) undef) rfl) hG50) (mayT (vr (cond (!(!(boundB x.1.session ((2147483647 : Nat) : Int)))) (.agg (partsC p).toArray) undef) rfl) hG50) ((absent_any _ x (MsgAt.mk (hmr.keep hE) (hmw.keep hE) (hmh.keep hE) (hmb.keep hE)) p).mono (by rintro e w2 ⟨rfl, hx⟩; exact ⟨_, rfl, rfl, hx⟩))) fun w52 hx53 => ?_)))))))
 have hE := hE.trans hx53
 have hb8 := eb hx53 hb8
 have hA30 := hA30.trans hx53
 have hb41 := eb hx53 hb41
 refine opsF_mayV (.bool (!(absentB x.1 p))) rfl rfl (gF (vr (.bool (!(boundB x.1.session ((2147483647 : Nat) : Int)))) rfl)) (fun hG54 => Yk.notB (mayT (vr (cond (!(!(boundB x.1.session ((2147483647 : Nat) : Int)))) (.bool (absentB x.1 p)) undef) rfl) hG54) ⟨rfl, rfl⟩) (oS rfl (Yk.pickOrN (vr (.bool (!(boundB x.1.session ((2147483647 : Nat) : Int)))) rfl) (vr (.bool (true)) rfl) (fun hA => (mayT (vr (cond (!(!(boundB x.1.session ((2147483647 : Nat) : Int)))) (.bool (!(absentB x.1 p))) undef) rfl) (not_i hA))) fun bb55 hbb56 => (oM rfl (opsF_mayV (PQ n2 2) rfl rfl (gF (vr (.bool (bb55)) rfl)) (fun hG57 => Yk.fieldAt wr4_fo29_2 T1 ⟨rfl, rfl⟩) (opsF_mayV (x.2.refs) rfl rfl (gF (vr (.bool (bb55)) rfl)) (fun hG58 => Yk.cell1 wr4_ty22 rfl (mayT (vr (cond (!bb55) (PQ n2 2) undef) rfl) hG58) (cellAt hb8 (show (msgC x)[2]? = some (x.2.refs : Value) from msg_g2 x)) ⟨rfl, rfl⟩) (opsF_mayC (.bool (listB x.1.refs)) rfl rfl (gF (vr (.bool (bb55)) rfl)) (fun hG59 => Yk.callA1 wr4_pl57 (mayT (vr (cond (!bb55) (x.2.refs) undef) rfl) hG59) ((wlist_any _ _ x.1.refs (hmr.keep hE) (by have := hL.refs; omega) hL.names).mono (by rintro e w2 ⟨rfl, hx⟩; exact ⟨_, rfl, rfl, hx⟩))) fun w61 hx62 => ?_))))))
 have hE := hE.trans hx62
 have hb8 := eb hx62 hb8
 have hA30 := hA30.trans hx62
 have hb41 := eb hx62 hb41
 refine opsF_mayV (.bool (!(listB x.1.refs))) rfl rfl (gF (vr (.bool (bb55)) rfl)) (fun hG63 => Yk.notB (mayT (vr (cond (!bb55) (.bool (listB x.1.refs)) undef) rfl) hG63) ⟨rfl, rfl⟩) (oS rfl (Yk.pickOrN (vr (.bool (bb55)) rfl) (vr (.bool (true)) rfl) (fun hA => (mayT (vr (cond (!bb55) (.bool (!(listB x.1.refs))) undef) rfl) (not_i hA))) fun bb64 hbb65 => (oM rfl (opsF_mayV (PQ n2 3) rfl rfl (gF (vr (.bool (bb64)) rfl)) (fun hG66 => Yk.fieldAt wr4_fo29_3 T1 ⟨rfl, rfl⟩) (opsF_mayV (x.2.wants) rfl rfl (gF (vr (.bool (bb64)) rfl)) (fun hG67 => Yk.cell1 wr4_ty23 rfl (mayT (vr (cond (!bb64) (PQ n2 3) undef) rfl) hG67) (cellAt hb8 (show (msgC x)[3]? = some (x.2.wants : Value) from msg_g3 x)) ⟨rfl, rfl⟩) (opsF_mayC (.bool (setW x.1.wants)) rfl rfl (gF (vr (.bool (bb64)) rfl)) (fun hG68 => Yk.callA1 wr4_pl58 (mayT (vr (cond (!bb64) (x.2.wants) undef) rfl) hG68) ((wset_any _ _ x.1.wants (hmw.keep hE) (by have := hL.wants; omega)).mono (by rintro e w2 ⟨rfl, hx⟩; exact ⟨_, rfl, rfl, hx⟩))) fun w70 hx71 => ?_))))))
 have hE := hE.trans hx71
 have hb8 := eb hx71 hb8
 have hA30 := hA30.trans hx71
 have hb41 := eb hx71 hb41
 refine opsF_mayV (.bool (!(setW x.1.wants))) rfl rfl (gF (vr (.bool (bb64)) rfl)) (fun hG72 => Yk.notB (mayT (vr (cond (!bb64) (.bool (setW x.1.wants)) undef) rfl) hG72) ⟨rfl, rfl⟩) (oS rfl (Yk.pickOrN (vr (.bool (bb64)) rfl) (vr (.bool (true)) rfl) (fun hA => (mayT (vr (cond (!bb64) (.bool (!(setW x.1.wants))) undef) rfl) (not_i hA))) fun bb73 hbb74 => (oM rfl (opsF_mayV (PQ n2 4) rfl rfl (gF (vr (.bool (bb73)) rfl)) (fun hG75 => Yk.fieldAt wr4_fo29_4 T1 ⟨rfl, rfl⟩) (opsF_mayV (x.2.haves) rfl rfl (gF (vr (.bool (bb73)) rfl)) (fun hG76 => Yk.cell1 wr4_ty23 rfl (mayT (vr (cond (!bb73) (PQ n2 4) undef) rfl) hG76) (cellAt hb8 (show (msgC x)[4]? = some (x.2.haves : Value) from msg_g4 x)) ⟨rfl, rfl⟩) (opsF_mayC (.bool (setW x.1.haves)) rfl rfl (gF (vr (.bool (bb73)) rfl)) (fun hG77 => Yk.callA1 wr4_pl58 (mayT (vr (cond (!bb73) (x.2.haves) undef) rfl) hG77) ((wset_any _ _ x.1.haves (hmh.keep hE) (by have := hL.haves; omega)).mono (by rintro e w2 ⟨rfl, hx⟩; exact ⟨_, rfl, rfl, hx⟩))) fun w79 hx80 => ?_))))))
 have hE := hE.trans hx80
 have hb8 := eb hx80 hb8
 have hA30 := hA30.trans hx80
 have hb41 := eb hx80 hb41
 refine opsF_mayV (.bool (!(setW x.1.haves))) rfl rfl (gF (vr (.bool (bb73)) rfl)) (fun hG81 => Yk.notB (mayT (vr (cond (!bb73) (.bool (setW x.1.haves)) undef) rfl) hG81) ⟨rfl, rfl⟩) (oS rfl (Yk.pickOrN (vr (.bool (bb73)) rfl) (vr (.bool (true)) rfl) (fun hA => (mayT (vr (cond (!bb73) (.bool (!(setW x.1.haves))) undef) rfl) (not_i hA))) fun bb82 hbb83 => (oL_ [(0, .agg (msgC x).toArray), (1, PQ n2 0), (2, .bool (false)), (3, PQ n38 0), (4, .bool (true)), (43, .bool (bb82))] ⟨T0, T1, T2, T3, T11, rfl, trivial⟩ fun ρ84 ⟨T0, T1, T2, T3, T4, T43, _⟩ => (tN (hK45 _ _ ?_)))))
 refine wpF_condB (bb82) T43 (fun hc0 => ?_) (fun hc0 => ?_)
 ·subst hbb56 hbb65 hbb74 hbb83
  have h1c : ((((!boundB x.1.session 2147483647 || !absentB x.1 p) || !listB x.1.refs) || !setW x.1.wants) || !setW x.1.haves) = true := hc0
  refine sk fun K85 hK85 => (wt (oA rfl (oZ (tN (hK85 _ _ (wpF_ret (thenF_ret (postF_ret (fn := Tryd.f19) _ rfl [.bool (false)] (.bool (false)) rfl ⟨rfl, trivial⟩ ?_))))))))
  refine ⟨?_, hE⟩
  rw [rightB_some hK]; unfold rightP; rw [h1c]; rfl
 subst hbb56 hbb65 hbb74 hbb83
 have h1c : ((((!boundB x.1.session 2147483647 || !absentB x.1 p) || !listB x.1.refs) || !setW x.1.wants) || !setW x.1.haves) = false := hc0
 refine wpF_skip (tN (hK44 _ _ (sk fun K86 hK86 => (sk fun K87 hK87 => (wt (oS rfl (Yk.fieldAt wr4_fo29_5 T1 (oS rfl (Yk.cell1 wr4_ty3 rfl (vr (PQ n2 5) rfl) (cellAt hb8 (show (msgC x)[5]? = some (.int .i64 (x.1.size : Int) : Value) from msg_g5 x)) (oS rfl (Yk.callA2 wr4_pl55 (vr (.int .i64 (x.1.size : Int)) rfl) (vr (NI 1048576) rfl) ((bound_any _ x.1.size ((1048576 : Nat) : Int)).mono ?_))))))))))))
 rintro e w89 ⟨rfl, hx88⟩
 refine ⟨_, rfl, ?_⟩
 have hE := hE.trans hx88
 have hb8 := eb hx88 hb8
 have hA30 := hA30.trans hx88
 have hb41 := eb hx88 hb41
 refine oS rfl (Yk.notB (vr (.bool (boundB x.1.size ((1048576 : Nat) : Int))) rfl) (oM rfl (opsF_mayV (PQ n2 6) rfl rfl (gF (vr (.bool (!(boundB x.1.size ((1048576 : Nat) : Int)))) rfl)) (fun hG90 => Yk.fieldAt wr4_fo29_6 T1 ⟨rfl, rfl⟩) (opsF_mayV (.int .i64 (x.1.at_ : Int)) rfl rfl (gF (vr (.bool (!(boundB x.1.size ((1048576 : Nat) : Int)))) rfl)) (fun hG91 => Yk.cell1 wr4_ty3 rfl (mayT (vr (cond (!(!(boundB x.1.size ((1048576 : Nat) : Int)))) (PQ n2 6) undef) rfl) hG91) (cellAt hb8 (show (msgC x)[6]? = some (.int .i64 (x.1.at_ : Int) : Value) from msg_g6 x)) ⟨rfl, rfl⟩) (opsF_mayC (.bool (boundB x.1.at_ ((1048576 : Nat) : Int))) rfl rfl (gF (vr (.bool (!(boundB x.1.size ((1048576 : Nat) : Int)))) rfl)) (fun hG92 => Yk.callA2 wr4_pl55 (mayT (vr (cond (!(!(boundB x.1.size ((1048576 : Nat) : Int)))) (.int .i64 (x.1.at_ : Int)) undef) rfl) hG92) (vr (NI 1048576) rfl) ((bound_any _ x.1.at_ ((1048576 : Nat) : Int)).mono (by rintro e w2 ⟨rfl, hx⟩; exact ⟨_, rfl, rfl, hx⟩))) fun w94 hx95 => ?_)))))
 have hE := hE.trans hx95
 have hb8 := eb hx95 hb8
 have hA30 := hA30.trans hx95
 have hb41 := eb hx95 hb41
 refine opsF_mayV (.bool (!(boundB x.1.at_ ((1048576 : Nat) : Int)))) rfl rfl (gF (vr (.bool (!(boundB x.1.size ((1048576 : Nat) : Int)))) rfl)) (fun hG96 => Yk.notB (mayT (vr (cond (!(!(boundB x.1.size ((1048576 : Nat) : Int)))) (.bool (boundB x.1.at_ ((1048576 : Nat) : Int))) undef) rfl) hG96) ⟨rfl, rfl⟩) (oS rfl (Yk.pickOrN (vr (.bool (!(boundB x.1.size ((1048576 : Nat) : Int)))) rfl) (vr (.bool (true)) rfl) (fun hA => (mayT (vr (cond (!(!(boundB x.1.size ((1048576 : Nat) : Int)))) (.bool (!(boundB x.1.at_ ((1048576 : Nat) : Int)))) undef) rfl) (not_i hA))) fun bb97 hbb98 => (oM rfl (opsF_mayV (PQ n2 106) rfl rfl (gF (vr (.bool (bb97)) rfl)) (fun hG99 => Yk.fieldAt wr4_fo29_13 T1 ⟨rfl, rfl⟩) (opsF_mayV (.int .i64 (x.1.code : Int)) rfl rfl (gF (vr (.bool (bb97)) rfl)) (fun hG100 => Yk.cell1 wr4_ty27 rfl (mayT (vr (cond (!bb97) (PQ n2 106) undef) rfl) hG100) (cellAt hb8 (show (msgC x)[106]? = some (.int .i64 (x.1.code : Int) : Value) from msg_g13 x)) ⟨rfl, rfl⟩) (opsF_mayC (.bool (boundB x.1.code ((22 : Nat) : Int))) rfl rfl (gF (vr (.bool (bb97)) rfl)) (fun hG101 => Yk.callA2 wr4_pl55 (mayT (vr (cond (!bb97) (.int .i64 (x.1.code : Int)) undef) rfl) hG101) (vr (NI 22) rfl) ((bound_any _ x.1.code ((22 : Nat) : Int)).mono (by rintro e w2 ⟨rfl, hx⟩; exact ⟨_, rfl, rfl, hx⟩))) fun w103 hx104 => ?_))))))
 have hE := hE.trans hx104
 have hb8 := eb hx104 hb8
 have hA30 := hA30.trans hx104
 have hb41 := eb hx104 hb41
 refine opsF_mayV (.bool (!(boundB x.1.code ((22 : Nat) : Int)))) rfl rfl (gF (vr (.bool (bb97)) rfl)) (fun hG105 => Yk.notB (mayT (vr (cond (!bb97) (.bool (boundB x.1.code ((22 : Nat) : Int))) undef) rfl) hG105) ⟨rfl, rfl⟩) (oS rfl (Yk.pickOrN (vr (.bool (bb97)) rfl) (vr (.bool (true)) rfl) (fun hA => (mayT (vr (cond (!bb97) (.bool (!(boundB x.1.code ((22 : Nat) : Int)))) undef) rfl) (not_i hA))) fun bb106 hbb107 => (oZ (tN (hK87 _ _ ?_)))))
 refine wpF_condB (bb106) (vr (.bool (bb106)) rfl) (fun hc1 => ?_) (fun hc1 => ?_)
 ·subst hbb98 hbb107
  have h2c : ((!boundB x.1.size 1048576 || !boundB x.1.at_ 1048576) || !boundB x.1.code 22) = true := hc1
  refine sk fun K108 hK108 => (wt (oA rfl (oZ (tN (hK108 _ _ (wpF_ret (thenF_ret (postF_ret (fn := Tryd.f19) _ rfl [.bool (false)] (.bool (false)) rfl ⟨rfl, trivial⟩ ?_))))))))
  refine ⟨?_, hE⟩
  rw [rightB_some hK]; unfold rightP; rw [h1c, h2c]; rfl
 subst hbb98 hbb107
 have h2c : ((!boundB x.1.size 1048576 || !boundB x.1.at_ 1048576) || !boundB x.1.code 22) = false := hc1
 refine wpF_skip (tN (hK86 _ _ (sk fun K109 hK109 => (sk fun K110 hK110 => (wt (oS rfl (Yk.fieldAt wr4_fo92_5 T3 (oS rfl (Yk.cell1 wr4_ty4 rfl (vr (PQ n38 5) rfl) (cellAt hb41 (show (partsC p)[5]? = some (.bool (p.bytes) : Value) from parts_g5 p)) (oM rfl (opsF_mayV (PQ n2 39) rfl rfl (gT (vr (.bool (p.bytes)) rfl)) (fun hG111 => Yk.fieldAt wr4_fo29_8 T1 ⟨rfl, rfl⟩) (opsF_mayV (x.2.bytes) rfl rfl (gT (vr (.bool (p.bytes)) rfl)) (fun hG112 => Yk.cell1 wr4_ty26 rfl (mayT (vr (cond (p.bytes) (PQ n2 39) undef) rfl) hG112) (cellAt hb8 (show (msgC x)[39]? = some (x.2.bytes : Value) from msg_g8 x)) ⟨rfl, rfl⟩) (opsF_mayV (NI ((x.1.bytes : List UInt8).length)) rfl rfl (gT (vr (.bool (p.bytes)) rfl)) (fun hG113 => Yk.lenRB wr4_ty26 (RB.of (hmb.keep hE) (mayT (vr (cond (p.bytes) (x.2.bytes) undef) rfl) hG113)) ⟨rfl, rfl⟩) (opsF_mayV (.bool (decide (((x.1.bytes : List UInt8).length) < (1)))) rfl rfl (gT (vr (.bool (p.bytes)) rfl)) (fun hG114 => Yk.eqI (a := (((x.1.bytes : List UInt8).length : Nat) : Int)) (b := ((1 : Nat) : Int)) (mayT (vr (cond (p.bytes) (NI ((x.1.bytes : List UInt8).length)) undef) rfl) hG114) (vr (NI 1) rfl) (k_lss _ .i64 ((x.1.bytes : List UInt8).length) (1)) ⟨rfl, rfl⟩) (opsF_mayV (.bool (decide (((x.1.bytes : List UInt8).length) < (1)))) rfl rfl (gT (vr (.bool (p.bytes)) rfl)) (fun hG115 => Yk.move (mayT (vr (cond (p.bytes) (.bool (decide (((x.1.bytes : List UInt8).length) < (1)))) undef) rfl) hG115) ⟨rfl, rfl⟩) (opsF_mayV (PQ n2 39) rfl rfl (geF (vr (cond (p.bytes) (.bool (decide (((x.1.bytes : List UInt8).length) < (1)))) undef) rfl)) (fun hG116 => Yk.fieldAt wr4_fo29_8 T1 ⟨rfl, rfl⟩) (opsF_mayV (x.2.bytes) rfl rfl (geF (vr (cond (p.bytes) (.bool (decide (((x.1.bytes : List UInt8).length) < (1)))) undef) rfl)) (fun hG117 => Yk.cell1 wr4_ty26 rfl (mayT (vr (cond (p.bytes && !(decide (((x.1.bytes : List UInt8).length) < (1)))) (PQ n2 39) undef) rfl) hG117) (cellAt hb8 (show (msgC x)[39]? = some (x.2.bytes : Value) from msg_g8 x)) ⟨rfl, rfl⟩) (opsF_mayV (NI ((x.1.bytes : List UInt8).length)) rfl rfl (geF (vr (cond (p.bytes) (.bool (decide (((x.1.bytes : List UInt8).length) < (1)))) undef) rfl)) (fun hG118 => Yk.lenRB wr4_ty26 (RB.of (hmb.keep hE) (mayT (vr (cond (p.bytes && !(decide (((x.1.bytes : List UInt8).length) < (1)))) (x.2.bytes) undef) rfl) hG118)) ⟨rfl, rfl⟩) ?_))))))))))))))))))
 refine opsF_mayV (.bool (decide ((256) < ((x.1.bytes : List UInt8).length)))) rfl rfl (geF (vr (cond (p.bytes) (.bool (decide (((x.1.bytes : List UInt8).length) < (1)))) undef) rfl)) (fun hG119 => Yk.eqI (a := (((x.1.bytes : List UInt8).length : Nat) : Int)) (b := ((256 : Nat) : Int)) (mayT (vr (cond (p.bytes && !(decide (((x.1.bytes : List UInt8).length) < (1)))) (NI ((x.1.bytes : List UInt8).length)) undef) rfl) hG119) (vr (NI 256) rfl) (k_gtr _ .i64 ((x.1.bytes : List UInt8).length) (256)) ⟨rfl, rfl⟩) (opsF_mayB ((decide (((x.1.bytes : List UInt8).length) < (1))) || (decide ((256) < ((x.1.bytes : List UInt8).length)))) rfl rfl (gT (vr (.bool (p.bytes)) rfl)) (fun hG120 => Yk.pickOr (mayT (vr (cond (p.bytes) (.bool (decide (((x.1.bytes : List UInt8).length) < (1)))) undef) rfl) hG120) (vr (.bool (true)) rfl) (fun hA => (mayT (vr (cond (p.bytes && !(decide (((x.1.bytes : List UInt8).length) < (1)))) (.bool (decide ((256) < ((x.1.bytes : List UInt8).length)))) undef) rfl) (and_i hG120 (not_i hA)))) ⟨rfl, rfl⟩) fun bb121 hbb122 => (oS rfl (Yk.pickAndN (vr (.bool (p.bytes)) rfl) (fun hA => (mayT (vr (cond (p.bytes) (.bool (bb121)) undef) rfl) hA)) (vr (.bool (false)) rfl) fun bb123 hbb124 => (oZ (tN (hK110 _ _ ?_))))))
 refine wpF_condB (bb123) (vr (.bool (bb123)) rfl) (fun hc2 => ?_) (fun hc2 => ?_)
 ·subst hbb122 hbb124
  have h3c : (p.bytes && (decide (x.1.bytes.length < 1) || decide (256 < x.1.bytes.length))) = true := hc2
  refine sk fun K125 hK125 => (wt (oA rfl (oZ (tN (hK125 _ _ (wpF_ret (thenF_ret (postF_ret (fn := Tryd.f19) _ rfl [.bool (false)] (.bool (false)) rfl ⟨rfl, trivial⟩ ?_))))))))
  refine ⟨?_, hE⟩
  rw [rightB_some hK]; unfold rightP; rw [h1c, h2c, h3c]; rfl
 subst hbb122 hbb124
 have h3c : (p.bytes && (decide (x.1.bytes.length < 1) || decide (256 < x.1.bytes.length))) = false := hc2
 refine wpF_skip (tN (hK109 _ _ (sk fun K126 hK126 => (wt (oS rfl (Yk.fieldAt wr4_fo92_6 T3 (oS rfl (Yk.cell1 wr4_ty4 rfl (vr (PQ n38 6) rfl) (cellAt hb41 (show (partsC p)[6]? = some (.bool (p.push) : Value) from parts_g6 p)) (oS rfl (Yk.notB (vr (.bool (p.push)) rfl) (oM rfl (opsF_mayV (PQ n2 40) rfl rfl (gF (vr (.bool (!(p.push))) rfl)) (fun hG127 => Yk.fieldAt wr4_fo29_9 T1 ⟨rfl, rfl⟩) (opsF_mayV (St (x.1.name)) rfl rfl (gF (vr (.bool (!(p.push))) rfl)) (fun hG128 => Yk.cell1 wr4_ty9 rfl (mayT (vr (cond (!(!(p.push))) (PQ n2 40) undef) rfl) hG128) (cellAt hb8 (show (msgC x)[40]? = some (St (x.1.name) : Value) from msg_g9 x)) ⟨rfl, rfl⟩) (opsF_mayC (.bool (nameB x.1.name)) rfl rfl (gF (vr (.bool (!(p.push))) rfl)) (fun hG129 => Yk.callA1 wr4_pl59 (mayT (vr (cond (!(!(p.push))) (St (x.1.name)) undef) rfl) hG129) ((name_any _ x.1.name (by have := hL.name; omega)).mono (by rintro e w2 ⟨rfl, hx⟩; exact ⟨_, rfl, rfl, hx⟩))) fun w131 hx132 => ?_))))))))))))))
 have hE := hE.trans hx132
 have hb8 := eb hx132 hb8
 have hA30 := hA30.trans hx132
 have hb41 := eb hx132 hb41
 refine opsF_mayV (.bool (nameB x.1.name)) rfl rfl (gF (vr (.bool (!(p.push))) rfl)) (fun hG133 => Yk.move (mayT (vr (cond (!(!(p.push))) (.bool (nameB x.1.name)) undef) rfl) hG133) ⟨rfl, rfl⟩) (opsF_mayV (PQ n2 73) rfl rfl (geT (vr (cond (!(!(p.push))) (.bool (nameB x.1.name)) undef) rfl)) (fun hG134 => Yk.fieldAt wr4_fo29_11 T1 ⟨rfl, rfl⟩) (opsF_mayV (AB x.1.new.1) rfl rfl (geT (vr (cond (!(!(p.push))) (.bool (nameB x.1.name)) undef) rfl)) (fun hG135 => Yk.loadPR (PR.blk hb8 (msg_m11 x) (msg_n11 x) (mayT (vr (cond ((!(!(p.push))) && (nameB x.1.name)) (PQ n2 73) undef) rfl) hG135)) wr4_ty25 rfl (sizeId_of x.1.new.2) ⟨rfl, rfl⟩) (opsF_mayC (.bool (zeroB x.1.new)) rfl rfl (geT (vr (cond (!(!(p.push))) (.bool (nameB x.1.name)) undef) rfl)) (fun hG136 => Yk.callA1 wr4_pl60 (mayT (vr (cond ((!(!(p.push))) && (nameB x.1.name)) (AB x.1.new.1) undef) rfl) hG136) ((wzero_any _ x.1.new).mono (by rintro e w2 ⟨rfl, hx⟩; exact ⟨_, rfl, rfl, hx⟩))) fun w138 hx139 => ?_)))
 have hE := hE.trans hx139
 have hb8 := eb hx139 hb8
 have hA30 := hA30.trans hx139
 have hb41 := eb hx139 hb41
 refine opsF_mayV (.bool (!(zeroB x.1.new))) rfl rfl (geT (vr (cond (!(!(p.push))) (.bool (nameB x.1.name)) undef) rfl)) (fun hG140 => Yk.notB (mayT (vr (cond ((!(!(p.push))) && (nameB x.1.name)) (.bool (zeroB x.1.new)) undef) rfl) hG140) ⟨rfl, rfl⟩) (opsF_mayB ((nameB x.1.name) && (!(zeroB x.1.new))) rfl rfl (gF (vr (.bool (!(p.push))) rfl)) (fun hG141 => Yk.pickAnd (mayT (vr (cond (!(!(p.push))) (.bool (nameB x.1.name)) undef) rfl) hG141) (fun hA => (mayT (vr (cond ((!(!(p.push))) && (nameB x.1.name)) (.bool (!(zeroB x.1.new))) undef) rfl) (and_i hG141 hA))) (vr (.bool (false)) rfl) ⟨rfl, rfl⟩) fun bb142 hbb143 => (oS rfl (Yk.pickOrN (vr (.bool (!(p.push))) rfl) (vr (.bool (true)) rfl) (fun hA => (mayT (vr (cond (!(!(p.push))) (.bool (bb142)) undef) rfl) (not_i hA))) fun bb144 hbb145 => (oA rfl (oL_ [(0, .agg (msgC x).toArray), (1, PQ n2 0), (2, .bool (bb144)), (3, PQ n38 0), (4, .bool (true))] ⟨T0, T1, rfl, T3, T4, trivial⟩ fun ρ146 ⟨T0, T1, T2, T3, T4, _⟩ => (tN (hK126 _ _ (wpF_ret (postF_ret (fn := Tryd.f19) _ rfl [.bool (bb144)] (.bool (bb144)) rfl ⟨T2, trivial⟩ ?_)))))))))
 subst hbb143 hbb145
 refine ⟨?_, hE⟩
 rw [rightB_some hK]; unfold rightP; rw [h1c, h2c, h3c]; rfl
open Go.RowKit
def dstOf (l : List Oper) (i : Nat) : Option Tmp := l[i]?.bind (·.dst)
def pairB (m : List Nat) : List Nat → Bool
  | [] => true
  | a :: r => r.all (fun b => (m.getD b 0).testBit a) && pairB m r
def ndB : List Tmp → Bool
  | [] => true
  | a :: r => !r.contains a && ndB r
def floatB (l : List Oper) (fs : List (Nat × Tmp)) (cs : List Nat) : Bool :=
  (List.range l.length).all (fun i => (fs.map Prod.fst).contains i || cs.contains i) &&
  ((match cs.getLast? with | some c => fs.all (fun p => ((masks l []).getD c 0).testBit p.1) | none => false) && (ndB (fs.map Prod.snd) && (pairB (masks l []) cs &&
  (fs.all (fun p => match l[p.1]? with
    | some o => (o.guard.isNone && !cs.contains p.1) && (o.dst == some p.2 && (((List.range (p.1 + 1)).all (fun j => match l[j]? with | some q => !(q.looksAt l.toArray).contains p.2 | none => true)) && ((List.range l.length).all (fun j => Nat.beq j p.1 || dstOf l j != some p.2) && cs.all (fun c => match dstOf l c with | some d => !(o.looksAt l.toArray).contains d | none => true))))
    | none => false) &&
  (cs.all (fun c => match l[c]? with | some o => o.guard.isNone | none => false) &&
   l.all (fun o => match o.op with | .select .. => false | _ => true))))))
def chainF (P : Program) (l : List Oper) (I : World → Prop) (K : Slots → World → Prop) : List Nat → Slots → World → Prop
  | [], ρ, w => K ρ w
  | i :: r, ρ, w => match l[i]? with
    | none => False
    | some o => Yk P (fun v w' => (r = [] ∨ I w') ∧ chainF P l I K r (updO ρ o.dst v) w') ((execOp (evalR ρ) o).run P w)
def floatsF : List (Nat × Tmp × Value) → Slots → Slots
  | [], ρ => ρ
  | p :: r, ρ => floatsF r (upd ρ p.2.1 p.2.2)
def chainX (P : Program) (l : List Oper) (X : World → World → Prop) (I : World → Prop) (J : List PanicEntry → World → Prop) (K : Slots → World → Prop) : List Nat → Slots → World → Prop
  | [], ρ, w => K ρ w
  | i :: r, ρ, w => match l[i]? with
    | none => False
    | some o => ∀ w0, X w w0 → Yp P (fun v w' => (r = [] ∨ I w') ∧ chainX P l X I J K r (updO ρ o.dst v) w') J ((execOp (evalR ρ) o).run P w0)
def FloatsX (P : Program) (l : List Oper) (X : World → World → Prop) (I : World → Prop) (ρ : Slots) : List (Nat × Tmp × Value) → Prop
  | [] => True
  | p :: r => (match l[p.1]? with
    | none => False
    | some o => ∀ w, I w → Yk P (fun x w' => x = p.2.2 ∧ X w w') ((execOp (evalR ρ) o).run P w)) ∧ FloatsX P l X I ρ r
section
variable {P : Program} {l : List Oper} {X : World → World → Prop} {I : World → Prop} {J : List PanicEntry → World → Prop} {K : Slots → World → Prop} {ρ : Slots} {w : World}
theorem chX_step {i : Nat} {r : List Nat} {o : Oper} (ho : l[i]? = some o)
    (h : ∀ w0, X w w0 → Yp P (fun v w' => (r = [] ∨ I w') ∧ chainX P l X I J K r (updO ρ o.dst v) w') J ((execOp (evalR ρ) o).run P w0)) : chainX P l X I J K (i :: r) ρ w := by
  unfold chainX
  rw [ho]
  exact h
theorem chX_go {K' : Value → World → Prop} {r : Result Next} (h : Yk P K' r) : Yp P K' J r := Yp.ofK h
theorem chX_p {p : Prop} (h : p) : p := h
theorem chX_nil (h : K ρ w) : chainX P l X I J K [] ρ w := h
end
def FloatsO (P : Program) (l : List Oper) (I : World → Prop) (ρ : Slots) : List (Nat × Tmp × Value) → Prop
  | [] => True
  | p :: r => (match l[p.1]? with
    | none => False
    | some o => ∀ w, I w → Yk P (fun x w' => x = p.2.2 ∧ w' = w) ((execOp (evalR ρ) o).run P w)) ∧ FloatsO P l I ρ r
theorem chF_step {P : Program} {l : List Oper} {I : World → Prop} {K : Slots → World → Prop} {i : Nat} {r : List Nat} {ρ : Slots} {w : World} {o : Oper} (ho : l[i]? = some o)
    (h : Yk P (fun v w' => (r = [] ∨ I w') ∧ chainF P l I K r (updO ρ o.dst v) w') ((execOp (evalR ρ) o).run P w)) : chainF P l I K (i :: r) ρ w := by
  unfold chainF
  rw [ho]
  exact h
theorem chF_nil {P : Program} {l : List Oper} {I : World → Prop} {K : Slots → World → Prop} {ρ : Slots} {w : World} (h : K ρ w) : chainF P l I K [] ρ w := h
theorem updO_some {ρ : Slots} {d : Tmp} {v : Value} : updO ρ (some d) v = upd ρ d v := rfl
theorem upd_eq {ρ : Slots} {d : Tmp} {v : Value} : upd ρ d v d = v := by simp [upd]
theorem upd_ne {ρ : Slots} {d t : Tmp} {v : Value} (h : t ≠ d) : upd ρ d v t = ρ t := by
  have : Nat.beq t d = false := by rw [← Bool.not_eq_true, Nat.beq_eq]; exact h
  simp [upd, this]
theorem floatsF_old : ∀ (fs : List (Nat × Tmp × Value)) (ρ : Slots) (t : Tmp), (∀ p ∈ fs, p.2.1 ≠ t) → floatsF fs ρ t = ρ t
  | [], _, _, _ => rfl
  | p :: r, ρ, t, h => by
    show floatsF r (upd ρ p.2.1 p.2.2) t = _
    rw [floatsF_old r _ t (fun q hq => h q (by simp [hq])), upd_ne (fun e => h p (by simp) e.symm)]
theorem floatsF_new : ∀ (fs : List (Nat × Tmp × Value)) (ρ : Slots), (fs.map fun p => p.2.1).Nodup → ∀ p ∈ fs, floatsF fs ρ p.2.1 = p.2.2
  | q :: r, ρ, h, p, hp => by
    have hn := List.nodup_cons.1 h
    show floatsF r (upd ρ q.2.1 q.2.2) p.2.1 = _
    rcases List.mem_cons.1 hp with rfl | hp
    · rw [floatsF_old r _ _ (fun x hx e => hn.1 (List.mem_map.2 ⟨x, hx, e⟩)), upd_eq]
    · exact floatsF_new r _ hn.2 p hp
theorem FloatsX.get {P : Program} {l : List Oper} {X : World → World → Prop} {I : World → Prop} {ρ : Slots} : ∀ {fs : List (Nat × Tmp × Value)}, FloatsX P l X I ρ fs → ∀ p ∈ fs, ∀ o, l[p.1]? = some o → ∀ w, I w → Yk P (fun x w' => x = p.2.2 ∧ X w w') ((execOp (evalR ρ) o).run P w)
  | q :: r, h, p, hp, o, ho, w, hI => by
    rcases List.mem_cons.1 hp with rfl | hp
    · have h1 := h.1
      rw [ho] at h1
      exact h1 w hI
    · exact FloatsX.get h.2 p hp o ho w hI
theorem FloatsO.toX {P : Program} {l : List Oper} {I : World → Prop} {ρ : Slots} : ∀ {fs : List (Nat × Tmp × Value)}, FloatsO P l I ρ fs → FloatsX P l Eq I ρ fs
  | [], _ => trivial
  | q :: r, h => by
    refine ⟨?_, FloatsO.toX h.2⟩
    have h1 := h.1
    cases ho : l[q.1]? with
    | none => rw [ho] at h1; exact h1
    | some o => rw [ho] at h1; exact fun w hw => Yk.mono (h1 w hw) fun _ _ h => ⟨h.1, h.2.symm⟩
theorem chainF.toX {P : Program} {l : List Oper} {I : World → Prop} {J : List PanicEntry → World → Prop} {K : Slots → World → Prop} : ∀ {cs : List Nat} {ρ : Slots} {w : World}, chainF P l I K cs ρ w → chainX P l Eq I J K cs ρ w
  | [], _, _, h => h
  | i :: r, ρ, w, h => by
    unfold chainF at h
    unfold chainX
    cases ho : l[i]? with
    | none => rw [ho] at h; exact h
    | some o => rw [ho] at h; exact fun w0 e => by subst e; exact .ofK (Yk.mono h fun _ _ h => ⟨h.1, chainF.toX h.2⟩)
theorem pairB_get {m : List Nat} : ∀ {cs : List Nat}, pairB m cs = true → ∀ a b (u v : List Nat), cs = u ++ a :: v → b ∈ v → (m.getD b 0).testBit a = true
  | [], _, a, b, u, v, e, _ => by simp at e
  | x :: r, h, a, b, u, v, e, hb => by
    unfold pairB at h
    rw [Bool.and_eq_true] at h
    cases u with
    | nil =>
      simp at e
      obtain ⟨rfl, rfl⟩ := e
      exact List.all_eq_true.1 h.1 b hb
    | cons y u =>
      simp at e
      exact pairB_get h.2 a b u v e.2 hb
theorem exec_agree {ρ σ : Slots} {o : Oper} {ops : Array Oper} (hs : ∀ cs b, o.op ≠ .select cs b) (h : ∀ t ∈ o.looksAt ops, σ t = ρ t) : execOp (evalR σ) o = execOp (evalR ρ) o :=
  execOp_congr o hs fun x hx => by
    cases x with
    | tmp t => exact h t (List.mem_append_left _ (List.mem_filterMap.2 ⟨.tmp t, by simpa using hx, rfl⟩))
    | _ => rfl
section
variable {P : Program} {n : Nat} {ρ : Slots} {w : World} {Q : PostF} {l : List Oper} {fs : List (Nat × Tmp × Value)} {cs : List Nat} {I : World → Prop}
structure FInv (l : List Oper) (fs : List (Nat × Tmp × Value)) (cs : List Nat) (X : World → World → Prop) (I : World → Prop) (n : Nat) (ρf ρc : Slots) (wc : World) (rest : List Nat) (listed : Array Bool) (a : Act) (w : World) : Prop where
  size : listed.size = l.length
  closed : ∀ i o, l[i]? = some o → On listed i → ∀ e ∈ o.after, Region.binds .any e = true → On listed e.on
  tmps : a.tmps.size = n
  defers : a.defers = []
  suffix : ∃ u, cs = u ++ rest ∧ (∀ c ∈ u, On listed c) ∧ ∀ c ∈ rest, ¬ On listed c
  agree : ∀ t, (∀ p ∈ fs, ¬ On listed p.1 → p.2.1 ≠ t) → a.tmps.getD t undef = ρc t
  ghost : ∀ t, (∀ c ∈ cs, dstOf l c ≠ some t) → ρc t = ρf t
  inv : rest = [] ∨ I w
  turn : X wc w
  same : rest = [] → wc = w
theorem wp_of_yields {a : Act} {o : Oper} {K : Act → World → Prop} {Q' : Exit → Act → World → Prop} (h : Yk P (fun v w' => K (a.put o.dst v) w') ((execOp a.eval o).run P w)) : o.wp P a w K Q' := by
  unfold Oper.wp Oper.upon
  revert h
  generalize (execOp a.eval o).run P w = r
  intro h
  match r, h with
  | .ok (.value v) w', h => exact h
  | .ok .skip w', h => exact h
  | .ok (.enter f args) w', h =>
    refine Calls.mono h ?_
    rintro e w'' ⟨v, rfl, hk⟩
    exact hk
theorem wp_of_yieldsP {a : Act} {o : Oper} {K : Act → World → Prop} {Q' : Exit → Act → World → Prop} {J : List PanicEntry → World → Prop} (h : Yp P (fun v w' => K (a.put o.dst v) w') J ((execOp a.eval o).run P w)) (hJ : ∀ ch w', J ch w' → Q' (.panic ch) a w') : o.wp P a w K Q' := by
  unfold Oper.wp Oper.upon
  revert h
  generalize (execOp a.eval o).run P w = r
  intro h
  match r, h with
  | .ok (.value v) w', h => exact h
  | .ok .skip w', h => exact h
  | .halt (.panic v) w', h => exact hJ _ _ h
  | .ok (.enter f args) w', h =>
    refine Calls.mono h ?_
    intro e w'' hx
    match e, hx with
    | .returned v, hx => exact hx
    | .panicked ch, hx => exact hJ _ _ hx
theorem ndB_nodup : ∀ {l : List Tmp}, ndB l = true → l.Nodup
  | [], _ => List.nodup_nil
  | a :: r, h => by
    unfold ndB at h
    rw [Bool.and_eq_true] at h
    refine List.nodup_cons.2 ⟨fun hm => ?_, ndB_nodup h.2⟩
    have := h.1
    rw [List.contains_iff_mem.2 hm] at this
    cases this
theorem float_any {X : World → World → Prop} (hX : ∀ a, X a a) (hXt : ∀ a b c, X a b → X b c → X a c) (hIX : ∀ a b, I a → X a b → I b) (hg : goodB l n = true) (hb : floatB l (fs.map fun p => (p.1, p.2.1)) cs = true) (hf : FloatsX P l X I (floatsF fs ρ) fs) :
    ∀ (fuel : Nat) (listed : Array Bool) (a : Act) (w : World) (ρc : Slots) (wc : World) (rest : List Nat), (listed.toList.filter (!·)).length = fuel → FInv l fs cs X I n (floatsF fs ρ) ρc wc rest listed a w → chainX P l X I (fun ch w' => ∀ ρ', Q (.panic ch) ρ' w') (fun ρ w => Q .normal ρ w) rest ρc wc →
      wpAny P .any l.toArray (fun e a' w' => ∃ ρ', Fits n ρ' a' ∧ Q e ρ' w') fuel listed a w := by
  have g := good_of hg
  unfold floatB at hb
  simp only [Bool.and_eq_true] at hb
  obtain ⟨hcov, hlast, hnd, hpair, hfl, hcg, hsel⟩ := hb
  have hcov' : ∀ i, i < l.length → (∃ p ∈ fs, p.1 = i) ∨ i ∈ cs := fun i hi => by
    have := List.all_eq_true.1 hcov i (by simpa using hi)
    rw [Bool.or_eq_true] at this
    rcases this with h | h
    · left
      have := List.contains_iff_mem.1 h
      simp at this
      obtain ⟨d, v, h⟩ := this
      exact ⟨_, h, rfl⟩
    · exact .inr (List.contains_iff_mem.1 h)
  have hfl' : ∀ p ∈ fs, ∃ o, l[p.1]? = some o ∧ o.guard = none ∧ p.1 ∉ cs ∧ o.dst = some p.2.1 ∧ (∀ j q, j ≤ p.1 → l[j]? = some q → p.2.1 ∉ q.looksAt l.toArray) ∧ (∀ j, j < l.length → j ≠ p.1 → dstOf l j ≠ some p.2.1) ∧ ∀ c ∈ cs, ∀ d, dstOf l c = some d → d ∉ o.looksAt l.toArray := fun p hp => by
    have := List.all_eq_true.1 hfl (p.1, p.2.1) (List.mem_map.2 ⟨p, hp, rfl⟩)
    dsimp only at this
    cases ho : l[p.1]? with
    | none => rw [ho] at this; cases this
    | some o =>
      rw [ho] at this
      simp only [Bool.and_eq_true] at this
      obtain ⟨⟨h1, h1c⟩, h2, h5, h3, h4⟩ := this
      refine ⟨o, rfl, by simpa using h1, fun hc => ?_, by simpa using h2, fun j q hj hq hx => ?_, fun j hj hne e => ?_, fun c hc d hd hx => ?_⟩
      · rw [List.contains_iff_mem.2 hc] at h1c; cases h1c
      · have := List.all_eq_true.1 h5 j (by simp; omega)
        rw [hq] at this
        simp only at this
        rw [List.contains_iff_mem.2 hx] at this
        cases this
      · have := List.all_eq_true.1 h3 j (by simpa using hj)
        rw [Bool.or_eq_true] at this
        rcases this with h | h
        · exact hne (Nat.eq_of_beq_eq_true h)
        · rw [e] at h; simp at h
      · have := List.all_eq_true.1 h4 c hc
        rw [hd] at this
        simp only at this
        rw [List.contains_iff_mem.2 hx] at this
        cases this
  have hcg' : ∀ c ∈ cs, ∃ o, l[c]? = some o ∧ o.guard = none := fun c hc => by
    have := List.all_eq_true.1 hcg c hc
    cases ho : l[c]? with
    | none => rw [ho] at this; cases this
    | some o => rw [ho] at this; exact ⟨o, rfl, by simpa using this⟩
  have hsel' : ∀ (i : Nat) (o : Oper), l[i]? = some o → ∀ cs b, o.op ≠ Op.select cs b := fun i o ho cs b e => by
    have := List.all_eq_true.1 hsel o (List.mem_of_getElem? ho)
    rw [e] at this
    cases this
  have hnew : ∀ p ∈ fs, floatsF fs ρ p.2.1 = p.2.2 := floatsF_new fs ρ (by
    have := ndB_nodup hnd
    rw [List.map_map] at this
    exact this)
  have hlt : ∀ (i : Nat) (o : Oper), l[i]? = some o → i < l.length := fun i o ho => (List.getElem?_eq_some_iff.1 ho).1
  -- all are done
  have fin : ∀ (listed : Array Bool) (a : Act) (w : World) (ρc : Slots) (wc : World) (rest : List Nat), FInv l fs cs X I n (floatsF fs ρ) ρc wc rest listed a w → chainX P l X I (fun ch w' => ∀ ρ', Q (.panic ch) ρ' w') (fun ρ w => Q .normal ρ w) rest ρc wc → (∀ i, i < l.length → On listed i) → ∃ ρ', Fits n ρ' a ∧ Q .normal ρ' w := fun listed a w ρc wc rest h hc hall => by
    obtain ⟨u, hu, hu1, hu2⟩ := h.suffix
    cases rest with
    | nil => exact ⟨ρc, ⟨h.tmps, h.defers, fun t => h.agree t (fun p hp hno => by
        obtain ⟨o, ho, -⟩ := hfl' p hp
        exact absurd (hall p.1 (hlt _ _ ho)) hno)⟩, by have e := h.same rfl; subst e; exact hc⟩
    | cons c r =>
      obtain ⟨o, ho, -⟩ := hcg' c (by rw [hu]; simp)
      exact absurd (hall c (hlt _ _ ho)) (hu2 c (by simp))
  intro fuel
  induction fuel with
  | zero =>
    intro listed a w ρc wc rest hfu h hc
    have full : ∀ i, i < l.length → On listed i := fun i hi => by
      have := count_zero _ hfu i (by rw [Array.length_toList, h.size]; omega)
      unfold On
      simp at this
      simp [this]
    refine ⟨?_, fin listed a w ρc wc rest h hc full⟩
    cases hr : Region.ready .any l.toArray listed with
    | nil => rfl
    | cons x xs =>
      exfalso
      have hmem : x ∈ Region.ready .any l.toArray listed := by rw [hr]; simp
      obtain ⟨h1, o, ho, _⟩ := mem_ready.1 hmem
      have hx : x < l.length := by simpa using (Array.getElem?_eq_some_iff.1 ho).1
      have h2 := full x hx
      have hx' : x < listed.size := h2.lt
      unfold On at h2
      simp [hx'] at h1 h2
      rw [h1] at h2
      cases h2
  | succ fuel ih =>
    intro listed a w ρc wc rest hfu h hc
    refine ⟨fun hr => fin listed a w ρc wc rest h hc fun i => ?_, fun i hi => ?_⟩
    · induction i using Nat.strongRecOn with
      | _ i ih2 =>
        intro hi
        refine Classical.byContradiction fun hno => ?_
        have ho : l[i]? = some l[i] := List.getElem?_eq_getElem hi
        have : i ∈ Region.ready .any l.toArray listed := by
          refine mem_ready.2 ⟨?_, l[i], by rw [List.getElem?_toArray]; exact ho, fun e he hb => ?_⟩
          · have hi' : i < listed.size := by rw [h.size]; exact hi
            unfold On at hno
            simp [hi'] at hno ⊢
            exact hno
          · have hlt := g.back i _ ho e he hb
            exact ih2 e.on hlt (by omega)
        rw [hr] at this
        cases this
    · obtain ⟨h1, o, ho, hall0⟩ := mem_ready.1 hi
      have ho' : l[i]? = some o := by simpa using ho
      have hilt : i < l.length := hlt i o ho'
      have hil : i < listed.size := by rw [h.size]; exact hilt
      have hno : ¬ On listed i := by
        unfold On
        simp [hil] at h1 ⊢
        exact h1
      have hall : ∀ e ∈ o.after, Region.binds .any e = true → On listed e.on := fun e he hb => hall0 e he hb
      have hI : Inv l (fun _ => []) (fun _ _ => True) (fun _ _ => True) (fun _ _ _ => True) a listed a w :=
        ⟨h.size, h.closed, rfl, rfl, fun _ _ _ => trivial, trivial, fun _ _ => rfl, fun _ _ _ _ _ _ _ _ => trivial⟩
      have hmr : ∀ k, ((masks l []).getD i 0).testBit k = true → On listed k := fun k hk => hI.maskReady ho' hall hk
      have hcnt : ((listed.setIfInBounds i true).toList.filter (!·)).length = fuel := by
        rw [Array.toList_setIfInBounds]
        have := count_set listed.toList i (by
          simp [hil] at h1
          simp [hil, h1])
        omega
      have hcl : ∀ j oj, l[j]? = some oj → On (listed.setIfInBounds i true) j → ∀ e ∈ oj.after, Region.binds .any e = true → On (listed.setIfInBounds i true) e.on := fun j oj hj hon e he hb => by
        rcases (on_set hil).1 hon with rfl | hon
        · obtain rfl : o = oj := by rw [ho'] at hj; exact Option.some.inj hj
          exact (on_set hil).2 (.inr (hall e he hb))
        · exact (on_set hil).2 (.inr (h.closed j oj hj hon e he hb))
      have hF : Fits n (fun t => a.tmps.getD t undef) a := ⟨h.tmps, h.defers, fun t => rfl⟩
      have hroom : ∀ t, o.dst = some t → t < n := fun t ht => g.room i o t ho' ht
      -- what it looks at is as in the frame in order
      have hlook : ∀ t ∈ o.looksAt l.toArray, a.tmps.getD t undef = ρc t := fun t ht => h.agree t fun q hq hnq e => by
        subst e
        obtain ⟨oq, hoq, -, -, hdq, hearly, -⟩ := hfl' q hq
        by_cases hqi : i ≤ q.1
        · exact hearly i o hqi ho' ht
        · exact hnq (hmr q.1 (g.tied i o q.1 oq q.2.1 ho' hoq (by omega) (.inl ⟨hdq, List.mem_append_right _ ht⟩)))
      unfold wpOp
      simp only [List.getElem?_toArray, ho']
      obtain ⟨u, hu, hu1, hu2⟩ := h.suffix
      have hguard : o.guard = none := by
        rcases hcov' i hilt with ⟨p, hp, rfl⟩ | hic
        · obtain ⟨o2, ho2, h2, -⟩ := hfl' p hp
          rw [ho'] at ho2
          cases ho2
          exact h2
        · obtain ⟨o2, ho2, h2⟩ := hcg' i hic
          rw [ho'] at ho2
          cases ho2
          exact h2
      have hw : Region.wanted o (yielded l.toArray a.tmps) = true := by unfold Region.wanted; rw [hguard]
      rw [if_pos hw]
      rcases hcov' i hilt with ⟨p, hp, rfl⟩ | hic
      · refine .inl (wp_of_yields ?_)
        rw [hF.eval]
        obtain ⟨o2, ho2, h2, hpc, hpd, hearly, huniq, hpl⟩ := hfl' p hp
        rw [ho'] at ho2
        cases ho2
        have hghost : ∀ t ∈ o.looksAt l.toArray, a.tmps.getD t undef = floatsF fs ρ t := fun t ht => (hlook t ht).trans (h.ghost t fun c hc e => hpl c hc t e ht)
        rw [exec_agree (ρ := floatsF fs ρ) (hsel' _ _ ho') hghost]
        have hrn : rest ≠ [] := fun e => by
          subst e
          rw [List.append_nil] at hu
          cases hgl : cs.getLast? with
          | none => rw [hgl] at hlast; cases hlast
          | some c =>
            rw [hgl] at hlast
            have hcm : c ∈ cs := List.mem_of_getLast? hgl
            have hb1 := List.all_eq_true.1 hlast (p.1, p.2.1) (List.mem_map.2 ⟨p, hp, rfl⟩)
            exact absurd (hI.mask c p.1 (hu1 c (hu ▸ hcm)) hb1) hno
        have hIw : I w := h.inv.elim (fun e => absurd e hrn) (fun x => x)
        refine Yk.mono (hf.get p hp o ho' w hIw) ?_
        rintro v w' ⟨rfl, hxw⟩
        refine ih _ _ _ ρc wc rest hcnt ⟨by simpa using h.size, hcl, (hF.put o.dst hroom _).size, (hF.put o.dst hroom _).defers, ⟨u, hu, fun c hc => (on_set hil).2 (.inr (hu1 c hc)), fun c hc hx => ?_⟩, fun t ht => ?_, h.ghost, .inr (hIX _ _ hIw hxw), hXt _ _ _ h.turn hxw, fun e => absurd e hrn⟩ hc
        · rcases (on_set hil).1 hx with rfl | hx
          · exact hpc (by rw [hu]; exact List.mem_append_right _ hc)
          · exact hu2 c hc hx
        · rw [(hF.put o.dst hroom _).get t, hpd]
          by_cases e : t = p.2.1
          · subst e
            rw [updO_some, upd_eq, h.ghost _ (fun c hc e => ?_), hnew p hp]
            obtain ⟨oc, hoc, -⟩ := hcg' c hc
            exact huniq c (hlt _ _ hoc) (fun x => hpc (x ▸ hc)) e
          · rw [updO_some, upd_ne e]
            refine h.agree t fun q hq hnq => ?_
            by_cases hqi : q.1 = p.1
            · obtain ⟨oq, hoq, -, -, hdq, -⟩ := hfl' q hq
              rw [hqi, ho'] at hoq
              cases hoq
              rw [hpd] at hdq
              exact fun x => e (x.symm.trans (Option.some.inj hdq).symm)
            · exact ht q hq (fun x => by
                rcases (on_set hil).1 x with x | x
                · exact hqi x
                · exact hnq x)
      · have hir : i ∈ rest := by
          rw [hu] at hic
          rcases List.mem_append.1 hic with x | x
          · exact absurd (hu1 i x) hno
          · exact x
        cases rest with
        | nil => cases hir
        | cons b r =>
          have hib : i = b := by
            refine Classical.byContradiction fun hne => ?_
            rcases List.mem_cons.1 hir with x | x
            · exact hne x
            · exact hu2 b (by simp) (hmr b (pairB_get hpair b i u r hu x))
          subst hib
          have hc' : Yp P (fun v w' => (r = [] ∨ I w') ∧ chainX P l X I (fun ch w' => ∀ ρ', Q (.panic ch) ρ' w') (fun ρ w => Q .normal ρ w) r (updO ρc o.dst v) w') (fun ch w' => ∀ ρ', Q (.panic ch) ρ' w') ((execOp (evalR ρc) o).run P w) := by
            unfold chainX at hc
            rw [ho'] at hc
            exact hc w h.turn
          refine .inl (wp_of_yieldsP (J := fun ch w' => ∀ ρ', Q (.panic ch) ρ' w') ?_ fun ch w' h => ⟨_, hF, h _⟩)
          rw [hF.eval]
          rw [exec_agree (ρ := ρc) (hsel' _ _ ho') hlook]
          refine Yp.mono' hc' ?_ fun _ _ h => h
          rintro v w' ⟨hIw, hcr⟩
          refine ih _ _ _ _ w' r hcnt ⟨by simpa using h.size, hcl, (hF.put o.dst hroom _).size, (hF.put o.dst hroom _).defers, ⟨u ++ [i], by rw [hu]; simp, fun c hcm => ?_, fun c hcm hx => ?_⟩, fun t ht => ?_, fun t ht => ?_, hIw, hX _, fun _ => rfl⟩ hcr
          · rcases List.mem_append.1 hcm with x | x
            · exact (on_set hil).2 (.inr (hu1 c x))
            · exact (on_set hil).2 (.inl (List.mem_singleton.1 x))
          · rcases (on_set hil).1 hx with rfl | hx
            · exact hno (hmr c (pairB_get hpair c c u r hu hcm))
            · exact hu2 c (by simp [hcm]) hx
          · rw [(hF.put o.dst hroom _).get t]
            cases hd : o.dst with
            | none =>
              exact h.agree t fun q hq hnq => ht q hq (fun x => by
                rcases (on_set hil).1 x with x | x
                · obtain ⟨_, _, _, hpc, _⟩ := hfl' q hq
                  exact hpc (x ▸ hic)
                · exact hnq x)
            | some d =>
              rw [updO_some, updO_some]
              by_cases e : t = d
              · subst e; rw [upd_eq, upd_eq]
              · rw [upd_ne e, upd_ne e]
                exact h.agree t fun q hq hnq => ht q hq (fun x => by
                  rcases (on_set hil).1 x with x | x
                  · obtain ⟨_, _, _, hpc, _⟩ := hfl' q hq
                    exact hpc (x ▸ hic)
                  · exact hnq x)
          · have hne := ht i hic
            unfold dstOf at hne
            rw [ho'] at hne
            simp only [Option.bind_some] at hne
            cases hd : o.dst with
            | none => exact h.ghost t ht
            | some d =>
              rw [hd] at hne
              rw [updO_some, upd_ne (fun e => hne (by rw [e]))]
              exact h.ghost t ht
theorem wpF_floatX {X : World → World → Prop} (hX : ∀ a, X a a) (hXt : ∀ a b c, X a b → X b c → X a c) (fs : List (Nat × Tmp × Value)) (cs : List Nat) (I : World → Prop) (hIX : ∀ a b, I a → X a b → I b) {id : Nat} (hm : P.follows .mixedOrders = true) (hg : goodB l n = true) (hb : floatB l (fs.map fun p => (p.1, p.2.1)) cs = true) (hI : I w.drew) (hf : FloatsX P l X I (floatsF fs ρ) fs)
    (hc : chainX P l X I (fun ch w' => ∀ ρ', Q (.panic ch) ρ' w') (fun ρ w => Q .normal ρ w) cs (floatsF fs ρ) w.drew) : wpF P n (.region id l.toArray true) Q ρ w := by
  intro a ha
  exact wp_region_any hm (float_any hX hXt hIX (ρ := ρ) hg hb hf _ _ _ _ (floatsF fs ρ) w.drew cs (by simp) ⟨by simp, fun i o _ h => absurd h On.not_replicate, ha.size, ha.defers, ⟨[], rfl, (fun c hc => by cases hc), fun c _ h => On.not_replicate h⟩, fun t ht => (ha.get t).trans (floatsF_old fs ρ t (fun p hp => ht p hp On.not_replicate)).symm, fun t _ => rfl, .inr hI, hX _, fun _ => rfl⟩ hc)
theorem wpF_float (fs : List (Nat × Tmp × Value)) (cs : List Nat) (I : World → Prop) {id : Nat} (hm : P.follows .mixedOrders = true) (hg : goodB l n = true) (hb : floatB l (fs.map fun p => (p.1, p.2.1)) cs = true) (hI : I w.drew) (hf : FloatsO P l I (floatsF fs ρ) fs)
    (hc : chainF P l I (fun ρ w => Q .normal ρ w) cs (floatsF fs ρ) w.drew) : wpF P n (.region id l.toArray true) Q ρ w :=
  wpF_floatX (X := Eq) (fun _ => rfl) (fun _ _ _ h1 h2 => h1.trans h2) fs cs I (fun _ _ h e => e ▸ h) hm hg hb hI hf.toX hc.toX
theorem wpF_floatE (fs : List (Nat × Tmp × Value)) (cs : List Nat) (I : World → Prop) (hIX : ∀ a b, I a → Ext a b → I b) {id : Nat} (hm : P.follows .mixedOrders = true) (hg : goodB l n = true) (hb : floatB l (fs.map fun p => (p.1, p.2.1)) cs = true) (hI : I w.drew) (hf : FloatsX P l Ext I (floatsF fs ρ) fs)
    (hc : chainX P l Ext I (fun ch w' => ∀ ρ', Q (.panic ch) ρ' w') (fun ρ w => Q .normal ρ w) cs (floatsF fs ρ) w.drew) : wpF P n (.region id l.toArray true) Q ρ w :=
  wpF_floatX Ext.refl (fun _ _ _ h1 h2 => h1.trans h2) fs cs I hIX hm hg hb hI hf hc
end
open Go.RowKit
set_option maxHeartbeats 400000 in
theorem putText_any (w : World) (v : Value) (l : List UInt8) (hr : RB w v l) (s : ByteArray) (hl : l.length + s.size + 16 ≤ 140737488355328) :
    Calls Tryd.prog 52 #[v, .string s] w fun e w' => ∃ v', e = .returned v' ∧ NewB 5 w w' v' (l ++ Lib.uvarint s.size ++ s.data.toList) := by
  obtain ⟨i0, hi, hz0, hz1, hz2⟩ := info_parts infoB
  have h9 := uvarint_len63 s.size (by omega)
  have hss : s.data.toList.length = s.size := by simp
  have HSS := Lib.hid hss
  clear hss
  go_enter Tryd.func52, Tryd.ntmps52
  go_wp2_with fail
  refine (own_any _ _ l hr (by omega)).mono ?_
  rintro e w1 ⟨v1, rfl, h1⟩
  go_wp2_with fail
  refine (number_any w.heap.size l.length s.size (by omega) v1 _ w1 h1.own h1.by_.size (by omega)).mono ?_
  rintro e w2 ⟨v2, rfl, ho, g⟩
  have h2 := h1.more g ho
  go_wp2_with (at_builtin; refine wpList_append_src _ rfl _ _ 26 9 rfl w.heap.size 5 i0 (.int .u8 0) 1 1 u22 hi hz0 hz1 hz2 rfl _ _ _ rfl h2.own (.string s) _ _ rfl (srcString uStr _ s) ?c1 ?c2 ?c3 ?_)
  case c1 => have := HSS.out; rw [this, List.length_append]; unfold maxLen; omega
  case c2 => have := HSS.out; rw [this, List.length_append]; omega
  case c3 => exact h2.by_.size
  intro v' w3 hown' hgrow
  go_wp2
  go_ret
  exact ⟨v', rfl, h2.more hgrow (by rw [HSS.out, List.length_append]; exact hown')⟩

open Go.RowKit
def textB (s : Bs) : Bs := Lib.uvarint s.length ++ s
def updB (u : Upd) : Bs := [u.kind] ++ textB u.name ++ u.new.1
def idsB (l : List Bs) : Bs := Lib.uvarint l.length ++ l.flatMap fun x => x
def forceB (b : Bool) : UInt8 := bif b then 1 else 0
def tailM (m : Msg) : Bs :=
  if m.kind = 2 then Lib.uvarint m.refs.length ++ m.refs.flatMap updB
  else if m.kind = 3 then idsB m.wants ++ idsB m.haves
  else if m.kind = 4 then Lib.uvarint m.size.toNat ++ m.id.1
  else if m.kind = 5 then Lib.uvarint m.at_.toNat
  else if m.kind = 6 then Lib.uvarint m.at_.toNat ++ textB m.bytes
  else if m.kind = 7 then Lib.uvarint m.size.toNat ++ (m.id.1 ++ (textB m.name ++ (m.old.1 ++ (m.new.1 ++ [forceB m.force]))))
  else if m.kind = 8 then Lib.uvarint m.code.toNat
  else []
def encB (m : Msg) : Bs := m.kind :: (Lib.uvarint m.session.toNat ++ tailM m)
theorem rightB_get {m : Msg} (h : rightB m = true) : ∃ p, kindsG m.kind = some p ∧ rightP m p = true := by
  unfold rightB at h
  split at h
  · cases h
  · rename_i p hp
    exact ⟨p, hp, h⟩
theorem kindsG_cases {k : UInt8} {p : Parts} (h : kindsG k = some p) :
    (k = 1 ∧ p = ⟨false, false, false, false, false, false, false, false⟩) ∨ (k = 2 ∧ p = ⟨true, false, false, false, false, false, false, false⟩) ∨ (k = 3 ∧ p = ⟨false, true, false, false, false, false, false, false⟩) ∨ (k = 4 ∧ p = ⟨false, false, true, false, true, false, false, false⟩) ∨ (k = 5 ∧ p = ⟨false, false, false, true, false, false, false, false⟩) ∨ (k = 6 ∧ p = ⟨false, false, false, true, false, true, false, false⟩) ∨ (k = 7 ∧ p = ⟨false, false, true, false, true, false, true, false⟩) ∨ (k = 8 ∧ p = ⟨false, false, false, false, false, false, false, true⟩) := by
  unfold kindsG updM at h
  split at h
  · cases h; rename_i e; simp [e]
  · split at h
    · cases h; rename_i e; simp [e]
    · split at h
      · cases h; rename_i e; simp [e]
      · split at h
        · cases h; rename_i e; simp [e]
        · split at h
          · cases h; rename_i e; simp [e]
          · split at h
            · cases h; rename_i e; simp [e]
            · split at h
              · cases h; rename_i e; simp [e]
              · split at h
                · cases h; rename_i e; simp [e, dParts]
                · cases h
structure RightF (m : Msg) (p : Parts) : Prop where
  session : 0 ≤ m.session ∧ m.session ≤ 2147483647
  size : 0 ≤ m.size ∧ m.size ≤ 1048576
  at_ : 0 ≤ m.at_ ∧ m.at_ ≤ 1048576
  code : 0 ≤ m.code ∧ m.code ≤ 22
  refs : m.refs.length ≤ 128 ∧ ∀ u ∈ m.refs, u.name.length ≤ 32
  wants : m.wants.length ≤ 65536
  haves : m.haves.length ≤ 65536
  bytes : p.bytes = true → m.bytes.length ≤ 256
  name : p.push = true → m.name.length ≤ 32
theorem boundB_iff {n m : Int} (h : boundB n m = true) : 0 ≤ n ∧ n ≤ m := by
  unfold boundB at h
  simp only [Bool.and_eq_true, decide_eq_true_eq] at h
  omega
theorem badB_name {u : Upd} (h : badB u = false) : u.name.length ≤ 32 := by
  unfold badB at h
  simp only [Bool.or_eq_false_iff] at h
  have h1 := h.1.1.2
  exact (nameB_len (by simpa using h1)).2
theorem listB_facts {l : List Upd} (h : listB l = true) : l.length ≤ 128 ∧ ∀ u ∈ l, u.name.length ≤ 32 := by
  classical
  unfold listB at h
  have h1 := of_decide_eq_true h
  refine ⟨h1.2, fun u hu => ?_⟩
  obtain ⟨i, hi, rfl⟩ := List.getElem_of_mem hu
  have := (h1.1 i hi).1
  rw [List.getD_eq_getElem?_getD, List.getElem?_eq_getElem hi] at this
  exact badB_name this
theorem setW_len {l : List Bs} (h : setW l = true) : l.length ≤ 65536 := by
  unfold setW at h
  simp only [Bool.and_eq_true, decide_eq_true_eq] at h
  exact h.1.1
theorem rightP_facts {m : Msg} {p : Parts} (h : rightP m p = true) : RightF m p := by
  unfold rightP at h
  simp only [Bool.and_eq_true, Bool.not_eq_true', Bool.or_eq_false_iff, Bool.not_eq_false'] at h
  obtain ⟨⟨⟨⟨⟨h1, h2⟩, h3⟩, h4⟩, h5⟩, ⟨⟨h6, h7⟩, h8⟩, h9, h10⟩ := h
  refine ⟨boundB_iff h1, boundB_iff h6, boundB_iff h7, boundB_iff h8, listB_facts h3, setW_len h4, setW_len h5, fun hp => ?_, fun hp => ?_⟩
  · rw [hp] at h9
    simp at h9
    omega
  · rw [hp] at h10
    simp at h10
    exact (nameB_len h10.1).2
theorem updB_len {u : Upd} (h : u.name.length ≤ 32) : (updB u).length ≤ 74 := by
  unfold updB textB
  have := uvarint_len63 u.name.length (by omega)
  simp only [List.length_append, List.length_singleton, u.new.2]
  omega
theorem updsB_len : ∀ {l : List Upd}, (∀ u ∈ l, u.name.length ≤ 32) → (l.flatMap updB).length ≤ 74 * l.length
  | [], _ => Nat.le_refl _
  | u :: r, h => by
    have h1 := updB_len (h u (by simp))
    have h2 := updsB_len (l := r) (fun x hx => h x (by simp [hx]))
    rw [List.flatMap_cons, List.length_append, List.length_cons]
    omega
theorem upds_snoc {l : List Upd} {i : Nat} (h : i < l.length) : ((l.take (i + 1)).flatMap updB) = ((l.take i).flatMap updB) ++ updB (l.getD i dUpd) := by
  rw [List.take_succ_eq_append_getElem h, List.flatMap_append, List.flatMap_singleton, List.getD_eq_getElem?_getD, List.getElem?_eq_getElem h]
  rfl
theorem putTextL (w : World) (v : Value) (l : Bs) (hr : RB w v l) (s : Bs) (hl : l.length + s.length + 16 ≤ 140737488355328) :
    Calls Tryd.prog 52 #[v, St s] w fun e w' => ∃ v', e = .returned v' ∧ NewB 5 w w' v' (l ++ textB s) := by
  have hs : (⟨s.toArray⟩ : ByteArray).size = s.length := by show s.toArray.size = _; rw [List.size_toArray]
  have h := putText_any w v l hr ⟨s.toArray⟩ (by rw [hs]; omega)
  have e : l ++ Lib.uvarint (⟨s.toArray⟩ : ByteArray).size ++ (⟨s.toArray⟩ : ByteArray).data.toList = l ++ textB s := by
    unfold textB
    rw [hs, List.append_assoc]
  rw [e] at h
  exact h
theorem flat_snoc {l : List Bs} {i : Nat} (h : i < l.length) : ((l.take (i + 1)).flatMap fun x => x) = ((l.take i).flatMap fun x => x) ++ l.getD i [] := by
  rw [List.take_succ_eq_append_getElem h, List.flatMap_append, List.flatMap_singleton, List.getD_eq_getElem?_getD, List.getElem?_eq_getElem h]
  rfl
theorem RG.lens {w : World} {v : Value} {l : List Bs} (h : RG 32 Lib.byteCells w v l) : ∀ x ∈ l, x.length = 32 := fun x hx => bytes_len32 (h.1 x hx)
theorem flat_len32 : ∀ {l : List Bs}, (∀ x ∈ l, x.length = 32) → (l.flatMap fun x => x).length = 32 * l.length
  | [], _ => rfl
  | a :: r, h => by rw [List.flatMap_cons, List.length_append, h a (by simp), flat_len32 (fun x hx => h x (by simp [hx])), List.length_cons]; omega
theorem flat_take_len {l : List Bs} (h : ∀ x ∈ l, x.length = 32) (i : Nat) (hi : i ≤ l.length) : ((l.take i).flatMap fun x => x).length = 32 * i := by
  rw [flat_len32 (fun x hx => h x (List.mem_of_mem_take hx)), List.length_take]
  omega
theorem uvarint_len9 {n : Nat} (h : n ≤ 9223372036854775807) : (Lib.uvarint n).length ≤ 9 := uvarint_len63 n (by omega)
theorem idsB_len {l : List Bs} (h : ∀ x ∈ l, x.length = 32) (hl : l.length ≤ 65536) : (idsB l).length ≤ 2097200 := by
  unfold idsB
  have h1 := uvarint_len63 l.length (by omega)
  rw [List.length_append, flat_len32 h]
  omega
end Go.Proofs.YtmonlobfofkbdaaDoor
