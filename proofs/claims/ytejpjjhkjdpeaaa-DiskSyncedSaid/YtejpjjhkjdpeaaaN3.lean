/- Part 3 of what stands behind these statements: laws and walks of the functions that are reached. Conditions: those that each theorem names. -/
import Derived.Test.YtejpjjhkjdpeaaaN2
set_option linter.unusedVariables false
set_option linter.unusedSimpArgs false
namespace Go.Proofs.Ytejpjjhkjdpeaaa
open Go.RowKit
set_option linter.unusedVariables false
def kindA (k : Int) : Nat := (Int.emod k ((6 + 1 : Nat) : Int)).toNat
def actP (D : Dsk) (a : Xact) : Dsk :=
  if kindA a.kind = 0 then (appendD D a.name a.bytes).1
  else if kindA a.kind = 1 then (syncD D a.name).1
  else if kindA a.kind = 2 then (moveD D a.name a.to).1
  else if kindA a.kind = 3 then (dropD D a.name).1
  else if kindA a.kind = 5 then { D with arm := a.n.toNat }
  else if kindA a.kind = 6 then crashD D a.fates else D
structure XactAt (w : World) (x : XactV) : Prop where
  bytes : RB w x.2.bytes x.1.bytes
  fates : RG 1 enI w x.2.fates x.1.fates
  n : x.1.n ≤ 9223372036854775807
theorem XactAt.keep {w w' : World} {x : XactV} (h : XactAt w x) (k : Ext w w') : XactAt w' x := ⟨h.bytes.keep k, h.fates.keep k, h.n⟩
structure KptAt (w : World) (x : KptV) : Prop where
  ahead : RG 6 xacC w x.2.ahead x.1.ahead
  acts : ∀ u ∈ x.1.ahead, XactAt w u
  behind : RBs w x.2.behind x.1.behind
  bytes : RB w x.2.bytes x.1.bytes
  fates : RG 1 enI w x.2.fates x.1.fates
structure DBd (n : Nat) (D : Dsk) : Prop where
  quota : D.quota ≤ 1073741824
  refused : D.refused ≤ n
  arm : D.arm ≤ 9223372036854775807
  acts : D.kept.length + D.acts.length ≤ n
  now : D.now.length ≤ n
  files : ∀ x ∈ D.files, x.1.length ≤ 300 * n
theorem DBd.file {n : Nat} {D : Dsk} (h : DBd n D) (k : Nat) : (fileD D k).1.length ≤ 300 * n := by
  by_cases hk : k < D.files.length
  · exact h.files _ (fileD_mem hk)
  · unfold fileD
    rw [List.getD_eq_getElem?_getD, List.getElem?_eq_none (by omega)]
    exact Nat.zero_le _
theorem sum_le_mul {l : List Nat} {m : Nat} (h : ∀ x ∈ l, x ≤ m) : l.sum ≤ l.length * m := by
  induction l with
  | nil => simp
  | cons a r ih =>
    have h1 := h a List.mem_cons_self
    have h2 := ih fun x hx => h x (List.mem_cons_of_mem _ hx)
    rw [List.sum_cons, List.length_cons, Nat.succ_mul]
    omega
theorem DBd.used {n : Nat} {D : Dsk} (h : DBd n D) : usedD D ≤ n * (300 * n) := by
  unfold usedD
  have h1 := sum_le_mul (l := D.now.map fun e => (fileD D e.2).1.length) (m := 300 * n) fun x hx => by
    obtain ⟨e, _, rfl⟩ := List.mem_map.1 hx
    exact h.file e.2
  rw [List.length_map] at h1
  exact Nat.le_trans h1 (Nat.mul_le_mul_right _ h.now)
theorem DBd.lt {n : Nat} {D : Dsk} (h : DBd n D) (hn : n ≤ 100000) : DLt D := by
  have h1 := h.used
  have h2 : n * (300 * n) ≤ 100000 * (300 * 100000) := Nat.mul_le_mul hn (Nat.mul_le_mul_left _ hn)
  have h3 := h.acts
  have h4 := h.now
  have h5 := h.refused
  have h6 := h.arm
  exact ⟨h.quota, by omega, by omega, by omega, by omega, by omega, by omega, fun x hx => by have := h.files x hx; omega⟩
theorem DBd.mono {n m : Nat} {D : Dsk} (h : DBd n D) (hn : n ≤ m) : DBd m D :=
  ⟨h.quota, Nat.le_trans h.refused hn, h.arm, Nat.le_trans h.acts hn, Nat.le_trans h.now hn, fun x hx => Nat.le_trans (h.files x hx) (Nat.mul_le_mul_left _ hn)⟩
theorem DBd.new {q : Nat} (hq : q ≤ 1073741824) : DBd 0 (newD q) := ⟨hq, Nat.le_refl _, Nat.zero_le _, Nat.le_refl _, Nat.le_refl _, fun x h => by cases h⟩
theorem DBd.armed {n : Nat} {D : Dsk} (h : DBd n D) : DBd n (armD D).1 := by
  unfold armD
  split
  · exact h
  · have := h.arm
    exact ⟨h.quota, h.refused, by show D.arm - 1 ≤ _; omega, h.acts, h.now, h.files⟩
theorem DBd.turned {n : Nat} {D : Dsk} (h : DBd n D) (a : ActD) : DBd (n + 1) (turnedD D a) := by
  have h1 := turn_len D.now a
  have h2 := h.acts
  have h3 := h.now
  refine ⟨h.quota, Nat.le_succ_of_le h.refused, h.arm, ?_, ?_, fun x hx => Nat.le_trans (h.files x hx) (Nat.mul_le_mul_left _ (Nat.le_succ n))⟩
  · show D.kept.length + (D.acts ++ [a]).length ≤ n + 1
    rw [List.length_append, List.length_singleton]
    omega
  · show (turnD D.now a).length ≤ n + 1
    omega
theorem DBd.add {n : Nat} {D : Dsk} (h : DBd n D) (s : List UInt8) {b : List UInt8} (hb : b.length ≤ 300) : DBd (n + 1) (addD D s b) := by
  unfold addD
  split
  · rename_i k _
    refine ⟨h.quota, Nat.le_succ_of_le h.refused, h.arm, Nat.le_succ_of_le h.acts, Nat.le_succ_of_le h.now, fun x hx => ?_⟩
    rcases List.mem_or_eq_of_mem_set hx with hx | rfl
    · have := h.files x hx
      omega
    · have := h.file k
      show ((fileD D k).1 ++ b).length ≤ _
      rw [List.length_append]
      omega
  · have h1 := h.turned ⟨[], s, D.files.length⟩
    refine ⟨h1.quota, h1.refused, h1.arm, h1.acts, h1.now, fun x hx => ?_⟩
    rcases List.mem_append.1 hx with hx | hx
    · have := h.files x hx
      omega
    · rw [List.mem_singleton.1 hx]
      show b.length ≤ _
      omega
theorem DBd.did {n : Nat} {D : Dsk} (h : DBd n D) {f : Dsk → Dsk} (hf : ∀ E, DBd n E → DBd (n + 1) (f E)) : DBd (n + 1) (doD D f).1 := by
  unfold doD
  split
  · exact h.armed.mono (Nat.le_succ n)
  · exact hf _ h.armed
theorem DBd.append {n : Nat} {D : Dsk} (h : DBd n D) (s : List UInt8) {b : List UInt8} (hb : b.length ≤ 300) : DBd (n + 1) (appendD D s b).1 := by
  unfold appendD
  split
  · exact h.mono (Nat.le_succ n)
  · split
    · exact ⟨h.quota, Nat.succ_le_succ h.refused, h.arm, Nat.le_succ_of_le h.acts, Nat.le_succ_of_le h.now, fun x hx => Nat.le_trans (h.files x hx) (Nat.mul_le_mul_left _ (Nat.le_succ n))⟩
    · exact h.did (f := fun d => addD d s b) fun E hE => hE.add s hb
theorem DBd.sync {n : Nat} {D : Dsk} (h : DBd n D) (s : List UInt8) : DBd (n + 1) (syncD D s).1 := by
  unfold syncD
  split
  · exact h.mono (Nat.le_succ n)
  · rename_i k _
    refine h.did fun E hE => ⟨hE.quota, Nat.le_succ_of_le hE.refused, hE.arm, ?_, Nat.le_succ_of_le hE.now, fun x hx => ?_⟩
    · have := hE.now
      show E.now.length + 0 ≤ _
      omega
    · rcases List.mem_or_eq_of_mem_set hx with hx | rfl
      · have := hE.files x hx
        omega
      · have := hE.file k
        show (fileD E k).1.length ≤ _
        omega
theorem DBd.move {n : Nat} {D : Dsk} (h : DBd n D) (s t : List UInt8) : DBd (n + 1) (moveD D s t).1 := by
  unfold moveD
  split
  · exact h.mono (Nat.le_succ n)
  · exact h.did fun E hE => hE.turned _
theorem DBd.drop {n : Nat} {D : Dsk} (h : DBd n D) (s : List UInt8) : DBd (n + 1) (dropD D s).1 := by
  unfold dropD
  split
  · exact h.mono (Nat.le_succ n)
  · exact h.did fun E hE => hE.turned _
theorem DBd.crash {n : Nat} {D : Dsk} (h : DBd n D) (l : List Int) : DBd n (crashD D l) := by
  have h1 := left_len D l
  have h2 := h.acts
  have h3 : (numD (leftD D l)).length = (leftD D l).length := by unfold numD; rw [List.length_mapIdx]
  refine ⟨h.quota, h.refused, Nat.zero_le _, ?_, ?_, fun x hx => ?_⟩
  · show (numD (leftD D l)).length + 0 ≤ n
    omega
  · show (numD (leftD D l)).length ≤ n
    omega
  · obtain ⟨i, hi, rfl⟩ := List.mem_mapIdx.1 hx
    have h4 := h.file ((leftD D l)[i]'hi).2
    unfold cutD
    simp only [List.length_take]
    omega
theorem DBd.act {n : Nat} {D : Dsk} (h : DBd n D) {a : Xact} (hb : a.bytes.length ≤ 300) (ha : a.n ≤ 9223372036854775807) : DBd (n + 1) (actP D a) := by
  unfold actP
  split
  · exact h.append _ hb
  split
  · exact h.sync _
  split
  · exact h.move _ _
  split
  · exact h.drop _
  split
  · have h1 := h.mono (Nat.le_succ n)
    exact ⟨h1.quota, h1.refused, by show a.n.toNat ≤ _; omega, h1.acts, h1.now, h1.files⟩
  split
  · exact (h.crash _).mono (Nat.le_succ n)
  · exact h.mono (Nat.le_succ n)
def playN (D : Dsk) (l : List XactV) (n : Nat) : Dsk := (l.take n).foldl (fun d x => actP d x.1) D
theorem playN_succ {D : Dsk} {l : List XactV} {n : Nat} (h : n < l.length) : playN D l (n + 1) = actP (playN D l n) (l.getD n dXac).1 := by
  unfold playN
  rw [List.take_succ_eq_append_getElem h, List.foldl_append, List.getD_eq_getElem?_getD, List.getElem?_eq_getElem h]
  rfl
def lightB (l : List XactV) (most : Nat) : Bool := !decide (most < l.length) && l.all fun x => !(decide (300 < x.1.bytes.length) || decide (100 < x.1.fates.length))
theorem lightB_get {l : List XactV} {most : Nat} (h : lightB l most = true) : l.length ≤ most ∧ ∀ x ∈ l, x.1.bytes.length ≤ 300 ∧ x.1.fates.length ≤ 100 := by
  unfold lightB at h
  obtain ⟨h1, h2⟩ := Bool.and_eq_true_iff.1 h
  refine ⟨by simpa using h1, fun x hx => ?_⟩
  have := List.all_eq_true.1 h2 x hx
  simpa using this
theorem DBd.play {q : Nat} {l : List XactV} {most : Nat} (hq : q ≤ 1073741824) (h : lightB l most = true) (hn : ∀ x ∈ l, x.1.n ≤ 9223372036854775807) : ∀ {n : Nat}, n ≤ l.length → DBd n (playN (newD q) l n)
  | 0, _ => DBd.new hq
  | n + 1, hl => by
    have hm : l.getD n dXac ∈ l := getD_mem_ (by omega)
    rw [playN_succ (by omega)]
    exact (DBd.play hq h hn (by omega)).act ((lightB_get h).2 _ hm).1 (hn _ hm)
section
variable {base : Nat} {w w' wb : World} {g : Nat} {H H' : Dk} {D D' : Dsk}
theorem DkS.low (h : DkS base w H D) {b' : Nat} (hb : b' ≤ base) : DkS b' w H D := by
  obtain ⟨vs, hv⟩ := h.acts
  exact ⟨h.blk, h.now, h.kept, h.ne, ⟨vs, ownsRow_base hv.row hb, hv.len, hv.at_⟩, h.files.low hb, h.ok, ⟨Nat.le_trans hb h.lo.1, Nat.le_trans hb h.lo.2.1, Nat.le_trans hb h.lo.2.2⟩⟩
structure DkG (wb w : World) (g : Nat) (H : Dk) (D : Dsk) : Prop where
  ext : Ext wb w
  st : DkS wb.heap.size w H D
  hg : H.g = g
theorem DkG.keep (h : DkG wb w g H D) (k : Ext w w') : DkG wb w' g H D := ⟨h.ext.trans k, h.st.keep k, h.hg⟩
theorem DkG.step (h : DkG wb w g H D) (k : DkT wb.heap.size w H D w' H' D') : DkG wb w' g H' D' := ⟨k.chg.ext h.ext (fun i q => (h.st.foot q).2.2), k.st, k.g.trans h.hg⟩
theorem rb_own {v : Value} {l : List UInt8} (h : RB w v l) : l = [] ∨ ∃ b, v.ownBlock = some b ∧ b < w.heap.size := by
  cases l with
  | nil => exact .inl rfl
  | cons x r =>
    obtain ⟨h1, ao, cap, rfl, h2, h3, h4, h5⟩ := id h
    cases ao with
    | none => exact absurd (h4 rfl).1 (by simp)
    | some a =>
      have hc := h5 a rfl 0 _ (show _ = some (B8 x) from rfl)
      have hl := World.block_lt_of_cell? w _ hc
      refine .inr ⟨a.block, rfl, ?_⟩
      have e : (a.add 0).block = a.block := by unfold Addr.add; split <;> rfl
      rwa [e] at hl
theorem DkG.off (h : DkG wb w g H D) {v : Value} {l : List UInt8} (hr : RB wb v l) : l = [] ∨ ∀ i, v.ownBlock = some i → ¬ Foot H D.files.length i := by
  refine (rb_own hr).imp id fun ⟨b, hb, hl⟩ i hi q => ?_
  have := (h.st.foot q).2.2
  rw [hb] at hi
  cases hi
  omega
theorem DkG.box (h : DkG wb w g H D) (hc : Chg (Foot H D.files.length) w w') {b : Nat} {cs : Array Value} {t : TypeId} {fr : Nat × Nat} (hb : w.heap[b]? = some (.cells cs t fr)) (h1 : t ≠ 63) (h2 : t ≠ 74) (h3 : t ≠ 5) (h4 : t ≠ 68) : w'.heap[b]? = some (.cells cs t fr) :=
  (hc.blk b (bl hb) (h.st.offT hb h1 h2 h3 h4)).trans hb
theorem DkG.append (h : DkG wb w g H D) (s : List UInt8) (vb : Value) (b : List UInt8) (hrb : RB w vb b) (hoff : b = [] ∨ ∀ i, vb.ownBlock = some i → ¬ Foot H D.files.length i) (hbl : b.length < 1099511627776) (hL : DLt D) :
    Calls Try.prog 13 #[PQ g 0, St s, vb] w fun e w' => ∃ H', e = .returned (NI (appendD D s b).2) ∧ DkG wb w' g H' (appendD D s b).1 ∧ Chg (Foot H D.files.length) w w' := by
  rw [← h.hg]
  exact (append_at wb w h.ext H D h.st s vb b hrb hoff hbl hL).mono fun e w' ⟨H', he, hT⟩ => ⟨H', he, by rw [h.hg]; exact h.step hT, hT.chg⟩
theorem DkG.sync (h : DkG wb w g H D) (s : List UInt8) (hL : DLt D) :
    Calls Try.prog 14 #[PQ g 0, St s] w fun e w' => ∃ H', e = .returned (NI (syncD D s).2) ∧ DkG wb w' g H' (syncD D s).1 ∧ Chg (Foot H D.files.length) w w' := by
  rw [← h.hg]
  exact (sync_at wb w h.ext H D h.st s hL).mono fun e w' ⟨H', he, hT⟩ => ⟨H', he, by rw [h.hg]; exact h.step hT, hT.chg⟩
theorem DkG.move (h : DkG wb w g H D) (s t : List UInt8) (hL : DLt D) :
    Calls Try.prog 25 #[PQ g 0, St s, St t] w fun e w' => ∃ H', e = .returned (NI (moveD D s t).2) ∧ DkG wb w' g H' (moveD D s t).1 ∧ Chg (Foot H D.files.length) w w' := by
  rw [← h.hg]
  exact (move_at wb w h.ext H D h.st s t hL).mono fun e w' ⟨H', he, hT⟩ => ⟨H', he, by rw [h.hg]; exact h.step hT, hT.chg⟩
theorem DkG.drop (h : DkG wb w g H D) (s : List UInt8) (hL : DLt D) :
    Calls Try.prog 26 #[PQ g 0, St s] w fun e w' => ∃ H', e = .returned (NI (dropD D s).2) ∧ DkG wb w' g H' (dropD D s).1 ∧ Chg (Foot H D.files.length) w w' := by
  rw [← h.hg]
  exact (drop_at wb w h.ext H D h.st s hL).mono fun e w' ⟨H', he, hT⟩ => ⟨H', he, by rw [h.hg]; exact h.step hT, hT.chg⟩
theorem DkG.arm (h : DkG wb w g H D) (n : Int) :
    Calls Try.prog 12 #[PQ g 0, .int .i64 n] w fun e w' => ∃ H', e = .returned (.tuple #[]) ∧ DkG wb w' g H' { D with arm := n.toNat } ∧ Chg (Foot H D.files.length) w w' := by
  rw [← h.hg]
  exact (arm_at wb w h.ext H D h.st n).mono fun e w' ⟨he, hT⟩ => ⟨H, he, by rw [h.hg]; exact h.step hT, hT.chg⟩
theorem DkG.crash (h : DkG wb w g H D) (vf : Value) (fs : List Int) (hrf : RG 1 enI w vf fs) (hL : DLt D) :
    Calls Try.prog 11 #[PQ g 0, vf] w fun e w' => ∃ H', e = .returned (.tuple #[]) ∧ DkG wb w' g H' (crashD D fs) ∧ Chg (Foot H D.files.length) w w' := by
  rw [← h.hg]
  exact (crash_at wb w h.ext H D h.st vf fs hrf hL).mono fun e w' ⟨H', he, hT⟩ => ⟨H', he, by rw [h.hg]; exact h.step hT, hT.chg⟩
theorem DkG.read (h : DkG wb w g H D) (s : List UInt8) (hL : DLt D) :
    Calls Try.prog 15 #[PQ g 0, St s] w fun e w' => ∃ v, e = .returned (.tuple #[v, NI (readD D s).2]) ∧ w'.ownsRow w.heap.size 5 1 v (readD D s).1.length (Lib.byteCells (readD D s).1) ∧ Ext w w' := by
  rw [← h.hg]
  exact read_at wb w H D h.st s hL
theorem DkG.down (h : DkG wb w g H D) :
    Calls Try.prog 10 #[PQ g 0] w fun e w' => e = .returned (.bool D.down) ∧ Ext w w' := by
  rw [← h.hg]
  exact tdown_at _ w H D h.st
theorem Calls.res {P : Program} {F : FuncId} {args : Array Value} {n m : Nat} {Q : Dk → World → Prop} (h : Calls P F args w fun e w' => ∃ H', e = .returned (NI n) ∧ Q H' w') (hn : n = m) : Calls P F args w fun e w' => ∃ H', e = .returned (NI m) ∧ Q H' w' := by
  subst hn
  exact h
theorem Calls.resR {P : Program} {F : FuncId} {args : Array Value} {p q : List UInt8 × Nat} {b : Nat} (h : Calls P F args w fun e w' => ∃ v, e = .returned (.tuple #[v, NI p.2]) ∧ w'.ownsRow b 5 1 v p.1.length (Lib.byteCells p.1) ∧ Ext w w') (hq : p = q) :
    Calls P F args w fun e w' => ∃ v, e = .returned (.tuple #[v, NI q.2]) ∧ RB w' v q.1 ∧ Ext w w' := by
  subst hq
  exact h.mono fun e w2 ⟨v, he, hr, hx⟩ => ⟨v, he, RB.ofOwn hr, hx⟩
theorem new_g (wb w : World) (hE : Ext wb w) (q : Nat) (hq : q ≤ 1073741824) :
    Calls Try.prog 8 #[NI q] w fun e w' => ∃ g H, e = .returned (PQ g 0) ∧ DkG wb w' g H (newD q) ∧ Ext w w' :=
  (new_ok w q hq).mono fun e w' ⟨H, he, hS, hx⟩ => ⟨H.g, H, he, ⟨hE.trans hx, hS.low hE.size, rfl⟩, hx⟩
end
open Go.RowKit
set_option maxRecDepth 100000
open Go.ChangeShapes Go.WideShapes Go.ChangeAt Go.Deep
set_option linter.unusedVariables false
set_option linter.unusedSimpArgs false
instance : Inhabited XactV := ⟨dXac⟩
theorem enI1_len (a : Int) : (enI a).length = 1 := rfl
theorem open_xac_33 {H : Type} {enc : TypeId × Value → H} {W : World} : Opn enc Try.prog W 33 xacC (fun x : XactV => RB W x.2.bytes x.1.bytes ∧ -9223372036854775808 ≤ x.1.n ∧ x.1.n ≤ 9223372036854775807 ∧ RG 1 enI W x.2.fates x.1.fates) := fun fuel cs x h => by
 have ht : Try.prog.underlying 33 = some (.struct (Try.prog.fieldsOf 33)) := by kernel_rfl
 obtain ⟨a0, e0, k0⟩ := field_open (i := 0) (ty := 3) (o := 0) (k := 1) ht h (by kernel_rfl) (by kernel_rfl) (Opn.i64 (by kernel_rfl))
 obtain ⟨a1, e1, k1⟩ := field_open (i := 1) (ty := 9) (o := 1) (k := 1) ht h (by kernel_rfl) (by kernel_rfl) (Opn.str (by kernel_rfl))
 obtain ⟨a2, e2, k2⟩ := field_open (i := 2) (ty := 9) (o := 2) (k := 1) ht h (by kernel_rfl) (by kernel_rfl) (Opn.str (by kernel_rfl))
 obtain ⟨a3, e3, k3⟩ := field_open (i := 3) (ty := 24) (o := 3) (k := 1) ht h (by kernel_rfl) (by kernel_rfl) (Opn.bytes (e := 5) (by kernel_rfl) (by kernel_rfl) (by kernel_rfl))
 obtain ⟨a4, e4, k4⟩ := field_open (i := 4) (ty := 3) (o := 4) (k := 1) ht h (by kernel_rfl) (by kernel_rfl) (Opn.i64 (by kernel_rfl))
 obtain ⟨a5, e5, k5⟩ := field_open (i := 5) (ty := 25) (o := 5) (k := 1) ht h (by kernel_rfl) (by kernel_rfl) (Opn.slice (by kernel_rfl) (by kernel_rfl) (by decide) (Opn.i64 (t := 3) (by kernel_rfl)) (fun a _ => enI1_len a))
 have hl : cs.drop 6 = [] := List.drop_of_length_le (Nat.le_of_eq ((struct_len ht h).trans (by kernel_rfl)))
 refine ⟨(⟨a0, a1, a2, a3.2, a4, a5.2⟩, ⟨a3.1, a5.1⟩), ?_, ⟨k3, k4.1, k4.2, k5.1⟩⟩
 rw [show cs = cs.drop 0 from rfl]
 rw [e0]
 rw [show cs.drop (0 + 1) = _ from e1]
 rw [show cs.drop (1 + 1) = _ from e2]
 rw [show cs.drop (2 + 1) = _ from e3]
 rw [show cs.drop (3 + 1) = _ from e4]
 rw [show cs.drop (4 + 1) = _ from e5]
 rw [show cs.drop (5 + 1) = [] from hl]
 simp [xacC]
theorem opn_act {H : Type} {enc : TypeId × Value → H} {W : World} : Opn enc Try.prog W 33 xacC (fun x : XactV => XactAt W x) := fun fuel cs y h => by
 obtain ⟨x, h1, h2, h3, h4, h5⟩ := open_xac_33 fuel cs y h
 exact ⟨x, h1, h2, h5, h4⟩
theorem Opn.rows {H : Type} {enc : TypeId × Value → H} {P : Program} {W : World} {t e e2 : TypeId} (ht : P.underlying t = some (.slice e)) (he : P.underlying e = some (.slice e2)) (he2 : P.underlying e2 = some (.int .u8)) (hc : P.cellsOf e = 1) (hc2 : P.cellsOf e2 = 1) : Opn enc P W t (fun v : Value × List Bs => [v.1]) (fun v => RBs W v.1 v.2) := fun fuel cs x h => by
 obtain ⟨a, h1, ⟨r1, r2, ao, cap, r3, r4, r5, r6, r7⟩, h3⟩ := Opn.slice (f := fun v : Value × Bs => [v.1]) (OK := fun v => RB W v.1 v.2) ht hc (by decide) (Opn.bytes he he2 hc2) (fun a _ => rfl) fuel cs x h
 have hf : ∀ l : List (Value × Bs), l.flatMap (fun v : Value × Bs => [v.1]) = l.map Prod.fst := fun l => by
  induction l with
  | nil => rfl
  | cons a l ih => rw [List.flatMap_cons, ih]; rfl
 rw [hf] at r7
 exact ⟨(a.1, a.2.map Prod.snd), h1, a.2.map Prod.fst, by simp, ⟨by simp, ao, cap, by rw [r3]; simp, by simpa using r4, r5, (fun q => by simpa using r6 q), fun q hq j u hu => r7 q hq j u hu⟩, fun i hi => by
  have hi' : i < a.2.length := by simpa using hi
  have := h3 _ (List.getElem_mem hi')
  simpa [List.getD_eq_getElem?_getD, hi'] using this⟩
theorem open_kpt_27 {H : Type} {enc : TypeId × Value → H} {W : World} : Opn enc Try.prog W 27 kptC (fun x : KptV => RG 6 xacC W x.2.ahead x.1.ahead ∧ (∀ u ∈ x.1.ahead, XactAt W u) ∧ RBs W x.2.behind x.1.behind ∧ RB W x.2.bytes x.1.bytes ∧ RG 1 enI W x.2.fates x.1.fates) := fun fuel cs x h => by
 have ht : Try.prog.underlying 27 = some (.struct (Try.prog.fieldsOf 27)) := by kernel_rfl
 obtain ⟨a0, e0, k0⟩ := field_open (i := 0) (ty := 22) (o := 0) (k := 1) ht h (by kernel_rfl) (by kernel_rfl) (Opn.slice (by kernel_rfl) (by kernel_rfl) (by decide) opn_act (fun a _ => xac_len a))
 obtain ⟨a1, e1, k1⟩ := field_open (i := 1) (ty := 23) (o := 1) (k := 1) ht h (by kernel_rfl) (by kernel_rfl) (Opn.rows (e := 24) (e2 := 5) (by kernel_rfl) (by kernel_rfl) (by kernel_rfl) (by kernel_rfl) (by kernel_rfl))
 obtain ⟨a2, e2, k2⟩ := field_open (i := 2) (ty := 9) (o := 2) (k := 1) ht h (by kernel_rfl) (by kernel_rfl) (Opn.str (by kernel_rfl))
 obtain ⟨a3, e3, k3⟩ := field_open (i := 3) (ty := 24) (o := 3) (k := 1) ht h (by kernel_rfl) (by kernel_rfl) (Opn.bytes (e := 5) (by kernel_rfl) (by kernel_rfl) (by kernel_rfl))
 obtain ⟨a4, e4, k4⟩ := field_open (i := 4) (ty := 25) (o := 4) (k := 1) ht h (by kernel_rfl) (by kernel_rfl) (Opn.slice (by kernel_rfl) (by kernel_rfl) (by decide) (Opn.i64 (t := 3) (by kernel_rfl)) (fun a _ => enI1_len a))
 have hl : cs.drop 5 = [] := List.drop_of_length_le (Nat.le_of_eq ((struct_len ht h).trans (by kernel_rfl)))
 refine ⟨(⟨a0.2, a1.2, a2, a3.2, a4.2⟩, ⟨a0.1, a1.1, a3.1, a4.1⟩), ?_, ⟨k0.1, k0.2, k1, k3, k4.1⟩⟩
 rw [show cs = cs.drop 0 from rfl]
 rw [e0]
 rw [show cs.drop (0 + 1) = _ from e1]
 rw [show cs.drop (1 + 1) = _ from e2]
 rw [show cs.drop (2 + 1) = _ from e3]
 rw [show cs.drop (3 + 1) = _ from e4]
 rw [show cs.drop (4 + 1) = [] from hl]
 simp [kptC]
theorem open_kept {H : Type} {enc : TypeId × Value → H} {W : World} {r : Reach} {b0 : Nat} {v : Value} {d : DataW H} {ps : List MemPlace} (hval : Value.okWide Try.prog W r b0 27 v) (hd : DataW.Trod enc Try.prog W 0 (fun _ => true) true 27 v d ps) :
  ∃ x : KptV, v = .agg (kptC x).toArray ∧ KptAt W x ∧ ∀ p ∈ ps, p.block < W.heap.size := by
 obtain ⟨fuel, hf⟩ := hd
 have hlt := DataW.trod_lt fuel _ _ _ hf
 obtain ⟨cs, rfl, -⟩ := okWide_struct (fs := Try.prog.fieldsOf 27) (by kernel_rfl) hval
 obtain ⟨x, h1, h2, h3, h4, h5, h6⟩ := open_kpt_27 _ _ _ hf
 have h1 : cs.toList = kptC x := h1
 exact ⟨x, by rw [← h1], ⟨h2, h3, h4, h5, h6⟩, hlt⟩
open Go.RowKit
set_option maxRecDepth 100000
set_option linter.unusedVariables false
set_option linter.unusedSimpArgs false
theorem enI_len (l : List Int) : (l.flatMap enI).length = l.length * 1 := by
 induction l with
 | nil => rfl
 | cons a r ih => rw [List.flatMap_cons, List.length_append, ih, List.length_cons]; simp; omega
theorem rg_ints {w : World} {g : Nat} {e : TypeId} {fr : Nat × Nat} {l : List Int} (hl : l.length ≤ 1024) (h : w.heap[g]? = some (.cells (l.flatMap enI).toArray e fr)) : RG 1 enI w (.slice (some ⟨g, 0, none⟩) l.length l.length) l := by
 refine ⟨fun x hx => rfl, enI_len l, _, l.length, rfl, Nat.le_refl _, by simp [maxLen]; omega, (fun h => by cases h), fun q hq j u hu => ?_⟩
 cases hq
 rw [Addr.add_lit, Nat.zero_add]
 exact cellAt (l := l.flatMap enI) (t := e) (fr := fr) h hu
theorem all_stepX {α : Type} {f : α → Bool} {l : List α} {i : Nat} (d : α) (h : i < l.length) (hq : (l.take i).all f = true) (hn : f (l.getD i d) = true) : (l.take (i + 1)).all f = true := by
 rw [List.take_succ_eq_append_getElem h, List.all_append, hq, List.all_cons, List.all_nil]
 rw [List.getD_eq_getElem?_getD, List.getElem?_eq_getElem h] at hn
 simpa using hn
theorem lightB_no {l : List XactV} {most i : Nat} (h : i < l.length) (hn : (decide (300 < (l.getD i dXac).1.bytes.length) || decide (100 < (l.getD i dXac).1.fates.length)) = true) : lightB l most = false := by
 cases hb : lightB l most
 ·rfl
 ·have := (lightB_get hb).2 _ (getD_mem_ (d := dXac) h)
  rcases (Bool.or_eq_true _ _).mp hn with h | h
  ·have := of_decide_eq_true h
   omega
  ·have := of_decide_eq_true h
   omega
def awA : Dsk := (appendD (newD 100) [97] [120, 121]).1
def awB : Dsk := (syncD awA [97]).1
def awC : Dsk := (appendD awB [97] [122]).1
def awD : Dsk := crashD awC [0, 0]
def awE : Dsk := (appendD (newD 100) [97] [120]).1
def awF : Dsk := crashD awE [0]
theorem aw_b0 : DBd 0 (newD 100) := DBd.new (by decide)
theorem aw_b1 : DBd 1 awA := aw_b0.append _ (by decide)
theorem aw_b2 : DBd 2 awB := aw_b1.sync _
theorem aw_b3 : DBd 3 awC := aw_b2.append _ (by decide)
theorem aw_b4 : DBd 3 awD := aw_b3.crash _
theorem aw_b5 : DBd 1 awE := aw_b0.append _ (by decide)
theorem aw_b6 : DBd 1 awF := aw_b5.crash _
theorem aw_l0 : DLt (newD 100) := aw_b0.lt (by decide)
theorem aw_l1 : DLt awA := aw_b1.lt (by decide)
theorem aw_l2 : DLt awB := aw_b2.lt (by decide)
theorem aw_l3 : DLt awC := aw_b3.lt (by decide)
theorem aw_l4 : DLt awD := aw_b4.lt (by decide)
theorem aw_l5 : DLt awE := aw_b5.lt (by decide)
theorem aw_l6 : DLt awF := aw_b6.lt (by decide)
theorem dwc_ty22 : Try.prog.underlying 22 = some (.slice 33) := by kernel_rfl
theorem dwc_szg33 : ∀ w' : World, (sizeOf 33).run Try.prog w' = .ok 6 w' := fun _ => by kernel_rfl
theorem dwc_fo33_3 : FieldOff Try.prog 33 3 3 := fun b o w => by simp [go_sem]
theorem dwc_ty24 : Try.prog.underlying 24 = some (.slice 5) := by kernel_rfl
theorem dwc_fo33_5 : FieldOff Try.prog 33 5 5 := fun b o w => by simp [go_sem]
theorem dwc_ty25 : Try.prog.underlying 25 = some (.slice 3) := by kernel_rfl
theorem dwc_fo33_0 : FieldOff Try.prog 33 0 0 := fun b o w => by simp [go_sem]
theorem dwc_ty3 : Try.prog.underlying 3 = some (.int .i64) := by kernel_rfl
theorem dwc_fo33_1 : FieldOff Try.prog 33 1 1 := fun b o w => by simp [go_sem]
theorem dwc_ty9 : Try.prog.underlying 9 = some (.string) := by kernel_rfl
theorem dwc_pl13 : Plain Try.prog 13 := fun _ _ => by kernel_rfl
theorem dwc_pl14 : Plain Try.prog 14 := fun _ _ => by kernel_rfl
theorem dwc_fo33_2 : FieldOff Try.prog 33 2 2 := fun b o w => by simp [go_sem]
theorem dwc_pl25 : Plain Try.prog 25 := fun _ _ => by kernel_rfl
theorem dwc_pl26 : Plain Try.prog 26 := fun _ _ => by kernel_rfl
theorem dwc_fo33_4 : FieldOff Try.prog 33 4 4 := fun b o w => by simp [go_sem]
theorem dwc_pl12 : Plain Try.prog 12 := fun _ _ => by kernel_rfl
theorem dwc_pl11 : Plain Try.prog 11 := fun _ _ => by kernel_rfl
theorem dwc_pl8 : Plain Try.prog 8 := fun _ _ => by kernel_rfl
theorem dwc_ty5 : Try.prog.underlying 5 = some (.int .u8) := by kernel_rfl
theorem dwc_l1_24 (z : Int) (w : World) : (Instr.buildSlice 24 1 #[(0, .int .u8 z)]).run Try.prog w = .ok (.slice (some ⟨w.heap.size, 0, none⟩) 1 1) (w.alloc (.cells #[.int .u8 z] 5)) := by kernel_rfl
theorem dwc_pl15 : Plain Try.prog 15 := fun _ _ => by kernel_rfl
theorem dwc_lk25 (z : Int) (w : World) : (Instr.buildSlice 25 1 #[(0, .int .i64 z)]).run Try.prog w = .ok (.slice (some ⟨w.heap.size, 0, none⟩) 1 1) (w.alloc (.cells #[.int .i64 z] 3)) := by kernel_rfl
set_option maxHeartbeats 1600000
theorem light_any (w : World) (v : Value) (l : List XactV) (hl : RG 6 xacC w v l) (hk : ∀ x ∈ l, XactAt w x) (most : Nat) (hmost : most ≤ 1000) :
  Calls Try.prog 7 #[v, NI most] w fun e w' => e = .returned (.bool (lightB l most)) ∧ Ext w w' := by
 refine calls_of_wpF (args := [v, NI most]) Try.func7 rfl 32 rfl (Nat.le_of_ble_eq_true rfl) ?_
 intro ρ0 hb
 have T0 : ρ0 0 = (v : Value) := hb.get 0
 have T1 : ρ0 1 = (NI most : Value) := hb.get 1
 clear hb
 have hE := Ext.refl w
 refine sk fun K1 hK1 => (wt (oA rfl (oZ (tN (hK1 _ _ (sk fun K2 hK2 => (sk fun K3 hK3 => (wt (oM rfl (oS rfl (Yk.lenRG dwc_ty22 (RG.of (hl.keep hE) T0) (oM rfl (oS rfl (Yk.eqI (a := (l.length : Nat)) (b := (most : Nat)) rfl T1 (k_gtr _ _ _ _) (oZ (tN (hK3 _ _ ?_)))))))))))))))))
 refine wpF_cond ((most) < (l.length)) (vr (.bool (decide ((most) < (l.length)))) rfl) (fun hc0 => ?_) (fun hc0 => ?_)
 ·have hV : lightB l most = false := by unfold lightB; rw [decide_eq_true (show most < l.length from hc0)]; rfl
  refine sk fun K4 hK4 => (wt (oA rfl (oZ (tN (hK4 _ _ (wpF_ret (thenF_ret (postF_ret (fn := Try.f7) _ rfl [.bool (false)] (.bool (false)) rfl ⟨rfl, trivial⟩ ?_))))))))
  exact ⟨by rw [hV], hE⟩
 refine wpF_skip (tN (hK2 _ _ (sk fun K5 hK5 => (sk fun K6 hK6 => (wt (oA rfl (oL_ [(0, v), (1, NI most), (4, .bool (false)), (5, NI 0)] ⟨T0, T1, rfl, rfl, trivial⟩ fun ρ7 ⟨T0, T1, T4, T5, _⟩ => (tN (hK6 _ _ (wpF_block (wpF_loop (fun (ρ : Slots) (wz : World) => ∃ i : Nat, ρ 0 = (v : Value) ∧ ρ 1 = (NI most : Value) ∧ ρ 5 = (NI i : Value) ∧ Ext w wz ∧ (i ≤ l.length) ∧ ((l.take i).all (fun x => !(decide (300 < x.1.bytes.length) || decide (100 < x.1.fates.length))) = true) ∧ True) (fun ρ _ => l.length - (intOf (ρ 5)).toNat) ⟨0, T0, T1, T5, hE, Nat.zero_le _, rfl, trivial⟩ ?_)))))))))))
 clear hE
 rintro ρ8 w9 ⟨i, T0, T1, T5, hE, hi, hq, -⟩
 have q5 := T5
 refine sk fun K10 hK10 => (sk fun K11 hK11 => (wt (oM rfl (oM rfl (oS rfl (Yk.lenRG dwc_ty22 (RG.of (hl.keep hE) T0) (oS rfl (Yk.eqI (a := (i : Nat)) (b := (l.length : Nat)) T5 rfl (k_lss _ _ _ _) (oZ (tN (hK11 _ _ ?_)))))))))))
 refine wpF_cond ((i) < (l.length)) (vr (.bool (decide ((i) < (l.length)))) rfl) (fun hc1 => ?_) (fun hc1 => ?_)
 ·have hlt : i < l.length := hc1
  have hx := hk _ (getD_mem_ (d := dXac) hlt)
  have hxb := (hx.keep hE).bytes
  have hxf := (hx.keep hE).fates
  refine wpF_skip (tN (hK10 _ _ (sk fun K12 hK12 => (wpF_block (sk fun K13 hK13 => (wt (oM rfl (oM rfl ?_))))))))
  have hl16 : (xacC (l.getD (i) dXac)).length = 6 := (RG.elem (hl.keep hE) dXac (by omega))
  refine oS rfl (Yk.atRG dwc_ty22 dwc_szg33 (by decide) dXac (RG.of (hl.keep hE) T0) T5 (by omega) fun v14 hp15 => (oS rfl (Yk.fieldPR (n := 1) dwc_fo33_3 (PR.of hp15 (vr v14 rfl)) fun v17 hp18 => ?_)))
  have hp18 : PCell ((l.getD (i) dXac).2.bytes) v17 w9 := PR.pcell ((xac_f3 (l.getD (i) dXac)) ▸ hp18)
  refine oS rfl (Yk.loadC dwc_ty24 rfl (PCell.of hp18 (vr v17 rfl)) (oS rfl (Yk.lenRB dwc_ty24 (RB.of hxb (vr ((l.getD (i) dXac).2.bytes) rfl)) (oS rfl (Yk.eqI (a := (((l.getD (i) dXac).1.bytes : List UInt8).length : Nat)) (b := (300 : Nat)) rfl rfl (k_gtr _ _ _ _) (oM rfl (opsF_mayV (v) rfl rfl (gF (vr (.bool (decide ((300) < (((l.getD (i) dXac).1.bytes : List UInt8).length)))) rfl)) (fun hG19 => Yk.move T0 ⟨rfl, rfl⟩) (opsF_mayV (NI i) rfl rfl (gF (vr (.bool (decide ((300) < (((l.getD (i) dXac).1.bytes : List UInt8).length)))) rfl)) (fun hG20 => Yk.move T5 ⟨rfl, rfl⟩) ?_))))))))
  have hl24 : (!(decide ((300) < (((l.getD (i) dXac).1.bytes : List UInt8).length)))) = true → (xacC (l.getD (i) dXac)).length = 6 := fun hG21 => (RG.elem (hl.keep hE) dXac (by first | omega | (simp only [gA, gB, gC, gD, gE] at hG21; omega)))
  refine opsF_mayX (fun v22 => PR (xacC (l.getD (i) dXac)) v22 w9) rfl rfl (gF (vr (.bool (decide ((300) < (((l.getD (i) dXac).1.bytes : List UInt8).length)))) rfl)) (fun hG21 => Yk.atRG dwc_ty22 dwc_szg33 (by decide) dXac (RG.of (hl.keep hE) (mayT (vr (cond (!(decide ((300) < (((l.getD (i) dXac).1.bytes : List UInt8).length)))) (v) undef) rfl) hG21)) (mayT (vr (cond (!(decide ((300) < (((l.getD (i) dXac).1.bytes : List UInt8).length)))) (NI i) undef) rfl) hG21) (by first | omega | (simp only [gA, gB, gC, gD, gE] at hG21; omega)) fun _ h => ⟨h, rfl⟩) fun v22 hp23 => ?_
  refine opsF_mayX (fun v26 => PCell ((l.getD (i) dXac).2.fates) v26 w9) rfl rfl (gF (vr (.bool (decide ((300) < (((l.getD (i) dXac).1.bytes : List UInt8).length)))) rfl)) (fun hG25 => ?_) fun v26 hp27 => ?_
  ·refine Yk.fieldPR (n := 1) dwc_fo33_5 (PR.of (hp23 hG25) (vr v22 rfl)) fun v26 hp27 => ?_
   have hp27 : PCell ((l.getD (i) dXac).2.fates) v26 w9 := PR.pcell ((xac_f5 (l.getD (i) dXac)) ▸ hp27)
   exact ⟨hp27, rfl⟩
  refine opsF_mayV ((l.getD (i) dXac).2.fates) rfl rfl (gF (vr (.bool (decide ((300) < (((l.getD (i) dXac).1.bytes : List UInt8).length)))) rfl)) (fun hG28 => Yk.loadC dwc_ty25 rfl (PCell.of (hp27 hG28) (vr v26 rfl)) ⟨rfl, rfl⟩) (opsF_mayV (NI (((l.getD (i) dXac).1.fates).length)) rfl rfl (gF (vr (.bool (decide ((300) < (((l.getD (i) dXac).1.bytes : List UInt8).length)))) rfl)) (fun hG29 => Yk.lenRG dwc_ty25 (RG.of hxf (mayT (vr (cond (!(decide ((300) < (((l.getD (i) dXac).1.bytes : List UInt8).length)))) ((l.getD (i) dXac).2.fates) undef) rfl) hG29)) ⟨rfl, rfl⟩) (opsF_mayV (.bool (decide ((100) < (((l.getD (i) dXac).1.fates).length)))) rfl rfl (gF (vr (.bool (decide ((300) < (((l.getD (i) dXac).1.bytes : List UInt8).length)))) rfl)) (fun hG30 => Yk.eqI (a := ((((l.getD (i) dXac).1.fates).length : Nat) : Int)) (b := ((100 : Nat) : Int)) (mayT (vr (cond (!(decide ((300) < (((l.getD (i) dXac).1.bytes : List UInt8).length)))) (NI (((l.getD (i) dXac).1.fates).length)) undef) rfl) hG30) (vr (NI 100) rfl) (k_gtr _ .i64 (((l.getD (i) dXac).1.fates).length) (100)) ⟨rfl, rfl⟩) (oS rfl (Yk.pickOrN (vr (.bool (decide ((300) < (((l.getD (i) dXac).1.bytes : List UInt8).length)))) rfl) (vr (.bool (true)) rfl) (fun hA => (mayT (vr (cond (!(decide ((300) < (((l.getD (i) dXac).1.bytes : List UInt8).length)))) (.bool (decide ((100) < (((l.getD (i) dXac).1.fates).length)))) undef) rfl) (not_i hA))) fun bb31 hbb32 => (oZ ?_)))))
  clear hp15
  clear hp18
  clear hp23
  clear hp27
  refine tN (hK13 _ _ ?_)
  refine wpF_condB (bb31) (vr (.bool (bb31)) rfl) (fun hc2 => ?_) (fun hc2 => ?_)
  ·subst hbb32
   refine sk fun K33 hK33 => (wt (oA rfl (oZ (tN (hK33 _ _ (wpF_ret (inBlockF_ret (thenF_ret (thenF_ret (inBlockF_ret (thenF_ret (postF_ret (fn := Try.f7) _ rfl [.bool (false)] (.bool (false)) rfl ⟨rfl, trivial⟩ ?_))))))))))))
   exact ⟨by rw [show lightB l most = false from lightB_no hlt hc2], hE⟩
  subst hbb32
  refine wpF_skip (bN (tN (hK12 _ _ (wt (oM rfl (oS rfl (Yk.bin (xv := NI i) (yv := NI 1) T5 rfl rfl (i64_add _ _ _ (by omega)) (oA rfl (oL_ [(0, v), (1, NI most), (5, NI ((i) + (1)))] ⟨T0, T1, rfl, trivial⟩ fun ρ34 ⟨T0, T1, T5, _⟩ => (tN (And.intro ⟨i + 1, T0, T1, T5, hE, by omega, all_stepX dXac hlt hq (by show (!(_ || _)) = true; exact (congrArg not hc2)), trivial⟩ ?_)))))))))))
  show l.length - (intOf (ρ34 5)).toNat < l.length - (intOf (ρ8 5)).toNat
  rw [T5, q5]
  simp only [intOf, Int.toNat_natCast]; omega
 refine wpF_exit (thenF_exit (thenF_exit (inBlockF_hit (tN (hK5 _ _ (sk fun K35 hK35 => (wt (oA rfl (oZ (tN (hK35 _ _ (wpF_ret (postF_ret (fn := Try.f7) _ rfl [.bool (true)] (.bool (true)) rfl ⟨rfl, trivial⟩ ?_)))))))))))))
 have hie : i = l.length := by have h := hc1; omega
 rw [hie, List.take_length] at hq
 exact ⟨by rw [show lightB l most = true from by unfold lightB; rw [decide_eq_false hc0, hq]; rfl], hE⟩

theorem do_at (wb w : World) (g : Nat) (H : Dk) (D : Dsk) (hD : DkG wb w g H D) (x : XactV) (hx : XactAt wb x) (hbl : x.1.bytes.length < 1099511627776) (hL : DLt D) :
  Calls Try.prog 9 #[PQ g 0, .agg (xacC x).toArray] w fun e w' => ∃ H', e = .returned (.tuple #[]) ∧ DkG wb w' g H' (actP D x.1) ∧ Chg (Foot H D.files.length) w w' := by
 have hE0 := hD.ext
 have hxb := (hx.keep hE0).bytes
 have hxf := (hx.keep hE0).fates
 refine calls_of_wpF (args := [PQ g 0, .agg (xacC x).toArray]) Try.func9 rfl 49 rfl (Nat.le_of_ble_eq_true rfl) ?_
 intro ρ0 hb
 have T0 : ρ0 0 = (PQ g 0 : Value) := hb.get 0
 have T1 : ρ0 1 = (.agg (xacC x).toArray : Value) := hb.get 1
 clear hb
 have hE := Ext.refl w
 refine sk fun K1 hK1 => (wt (oS rfl (Yk.box (cs := (xacC x : List Value).toArray) T1 fun n2 w3 hn4 hb5 hx6 hs7 => ?_)))
 have hA8 := Ext.refl w
 have hea9 := hE
 have hea10 := hE0
 have hz11 := hE.size
 have hz12 := hE0.size
 have hE := hE.trans hx6
 have hA8 := hA8.trans hx6
 have hb13 := hb5; clear hb5
 have hl14 : n2 < w3.heap.size := by omega
 refine oZ ?_
 have hbd := tmod_bd x.1.kind 6
 refine tN (hK1 _ _ (sk fun K15 hK15 => (wt (oS rfl (Yk.fieldAt dwc_fo33_0 (vr (PQ n2 0) rfl) (oS rfl (Yk.cell1 dwc_ty3 rfl (vr (PQ n2 0) rfl) (cellAt hb13 (show (xacC x)[0]? = some (.int .i64 (x.1.kind : Int) : Value) from xac_g0 x)) (oS rfl (Yk.bin (xv := .int .i64 (x.1.kind)) (yv := NI 7) rfl rfl rfl (zi_rem _ (x.1.kind) _ (by decide)) (oS rfl (Yk.bin (xv := .int .i64 ((Int.tmod (x.1.kind) ((6 + 1 : Nat) : Int)))) (yv := .int .i64 (((7 : Nat) : Int))) rfl rfl rfl (zi_add _ ((Int.tmod (x.1.kind) ((6 + 1 : Nat) : Int))) (((7 : Nat) : Int)) (by omega)) (oS rfl (Yk.bin (xv := .int .i64 ((((Int.tmod (x.1.kind) ((6 + 1 : Nat) : Int))) + (((7 : Nat) : Int))))) (yv := NI 7) rfl rfl rfl (zi_fate _ (x.1.kind) 6 _ (by omega)) (oZ (tN (hK15 _ _ (wpF_block (sk fun K16 hK16 => (wt (oS rfl (Yk.eqI (a := ((kindA x.1.kind) : Nat)) (b := (0 : Nat)) rfl rfl (k_eql _ _ _ _) (oA rfl (oZ ?_)))))))))))))))))))))))
 refine tN (hK16 _ _ ?_)
 refine wpF_cond (((kindA x.1.kind) : Nat) = (0)) (vr (.bool (decide (((kindA x.1.kind) : Nat) = (0)))) rfl) (fun hc0 => ?_) (fun hc0 => ?_)
 ·have hV : actP D x.1 = (appendD D x.1.name x.1.bytes).1 := by unfold actP; rw [if_pos hc0]
  refine wt (oM rfl (oS rfl (Yk.fieldAt dwc_fo33_1 (vr (PQ n2 0) rfl) (oS rfl (Yk.cell1 dwc_ty9 rfl (vr (PQ n2 1) rfl) (cellAt hb13 (show (xacC x)[1]? = some (St (x.1.name) : Value) from xac_g1 x)) (oS rfl (Yk.fieldAt dwc_fo33_3 (vr (PQ n2 0) rfl) (oS rfl (Yk.cell1 dwc_ty24 rfl (vr (PQ n2 3) rfl) (cellAt hb13 (show (xacC x)[3]? = some (x.2.bytes : Value) from xac_g3 x)) ?_)))))))))
  have hEc := hE
  have hDc := (hD.keep hE)
  refine oS rfl (Yk.callA3 dwc_pl13 T0 (vr (St (x.1.name)) rfl) (vr x.2.bytes rfl) ((hDc.append x.1.name x.2.bytes x.1.bytes (hxb.keep hE) (hDc.off hx.bytes) hbl hL).mono ?_))
  rintro e w17 ⟨H2, rfl, hD2, hC2⟩
  refine ⟨_, rfl, ?_⟩
  have hC3 : Chg (Foot H D.files.length) w _ := (Chg.ofExt hEc : Chg (Foot H D.files.length) w _).trans hC2 (fun i e => .inl e)
  refine oZ (bN (postF_end (fn := Try.f9) [] rfl [] (.tuple #[]) rfl trivial ?_))
  exact ⟨H2, rfl, by rw [hV]; exact hD2, hC3⟩
 refine sk fun K18 hK18 => (wt (oS rfl (Yk.eqI (a := ((kindA x.1.kind) : Nat)) (b := (1 : Nat)) rfl rfl (k_eql _ _ _ _) (oA rfl (oZ (tN (hK18 _ _ ?_)))))))
 refine wpF_cond (((kindA x.1.kind) : Nat) = (1)) (vr (.bool (decide (((kindA x.1.kind) : Nat) = (1)))) rfl) (fun hc1 => ?_) (fun hc1 => ?_)
 ·have hV : actP D x.1 = (syncD D x.1.name).1 := by unfold actP; rw [if_neg hc0, if_pos hc1]
  refine wt (oM rfl (oS rfl (Yk.fieldAt dwc_fo33_1 (vr (PQ n2 0) rfl) (oS rfl (Yk.cell1 dwc_ty9 rfl (vr (PQ n2 1) rfl) (cellAt hb13 (show (xacC x)[1]? = some (St (x.1.name) : Value) from xac_g1 x)) ?_)))))
  have hEc := hE
  have hDc := (hD.keep hE)
  refine oS rfl (Yk.callA2 dwc_pl14 T0 (vr (St (x.1.name)) rfl) ((hDc.sync x.1.name hL).mono ?_))
  rintro e w19 ⟨H2, rfl, hD2, hC2⟩
  refine ⟨_, rfl, ?_⟩
  have hC3 : Chg (Foot H D.files.length) w _ := (Chg.ofExt hEc : Chg (Foot H D.files.length) w _).trans hC2 (fun i e => .inl e)
  refine oZ (bN (postF_end (fn := Try.f9) [] rfl [] (.tuple #[]) rfl trivial ?_))
  exact ⟨H2, rfl, by rw [hV]; exact hD2, hC3⟩
 refine sk fun K20 hK20 => (wt (oS rfl (Yk.eqI (a := ((kindA x.1.kind) : Nat)) (b := (2 : Nat)) rfl rfl (k_eql _ _ _ _) (oA rfl (oZ (tN (hK20 _ _ ?_)))))))
 refine wpF_cond (((kindA x.1.kind) : Nat) = (2)) (vr (.bool (decide (((kindA x.1.kind) : Nat) = (2)))) rfl) (fun hc2 => ?_) (fun hc2 => ?_)
 ·have hV : actP D x.1 = (moveD D x.1.name x.1.to).1 := by unfold actP; rw [if_neg hc0, if_neg hc1, if_pos hc2]
  refine wt (oM rfl (oS rfl (Yk.fieldAt dwc_fo33_1 (vr (PQ n2 0) rfl) (oS rfl (Yk.cell1 dwc_ty9 rfl (vr (PQ n2 1) rfl) (cellAt hb13 (show (xacC x)[1]? = some (St (x.1.name) : Value) from xac_g1 x)) (oS rfl (Yk.fieldAt dwc_fo33_2 (vr (PQ n2 0) rfl) (oS rfl (Yk.cell1 dwc_ty9 rfl (vr (PQ n2 2) rfl) (cellAt hb13 (show (xacC x)[2]? = some (St (x.1.to) : Value) from xac_g2 x)) ?_)))))))))
  have hEc := hE
  have hDc := (hD.keep hE)
  refine oS rfl (Yk.callA3 dwc_pl25 T0 (vr (St (x.1.name)) rfl) (vr (St (x.1.to)) rfl) ((hDc.move x.1.name x.1.to hL).mono ?_))
  rintro e w21 ⟨H2, rfl, hD2, hC2⟩
  refine ⟨_, rfl, ?_⟩
  have hC3 : Chg (Foot H D.files.length) w _ := (Chg.ofExt hEc : Chg (Foot H D.files.length) w _).trans hC2 (fun i e => .inl e)
  refine oZ (bN (postF_end (fn := Try.f9) [] rfl [] (.tuple #[]) rfl trivial ?_))
  exact ⟨H2, rfl, by rw [hV]; exact hD2, hC3⟩
 refine sk fun K22 hK22 => (wt (oS rfl (Yk.eqI (a := ((kindA x.1.kind) : Nat)) (b := (3 : Nat)) rfl rfl (k_eql _ _ _ _) (oA rfl (oZ (tN (hK22 _ _ ?_)))))))
 refine wpF_cond (((kindA x.1.kind) : Nat) = (3)) (vr (.bool (decide (((kindA x.1.kind) : Nat) = (3)))) rfl) (fun hc3 => ?_) (fun hc3 => ?_)
 ·have hV : actP D x.1 = (dropD D x.1.name).1 := by unfold actP; rw [if_neg hc0, if_neg hc1, if_neg hc2, if_pos hc3]
  refine wt (oM rfl (oS rfl (Yk.fieldAt dwc_fo33_1 (vr (PQ n2 0) rfl) (oS rfl (Yk.cell1 dwc_ty9 rfl (vr (PQ n2 1) rfl) (cellAt hb13 (show (xacC x)[1]? = some (St (x.1.name) : Value) from xac_g1 x)) ?_)))))
  have hEc := hE
  have hDc := (hD.keep hE)
  refine oS rfl (Yk.callA2 dwc_pl26 T0 (vr (St (x.1.name)) rfl) ((hDc.drop x.1.name hL).mono ?_))
  rintro e w23 ⟨H2, rfl, hD2, hC2⟩
  refine ⟨_, rfl, ?_⟩
  have hC3 : Chg (Foot H D.files.length) w _ := (Chg.ofExt hEc : Chg (Foot H D.files.length) w _).trans hC2 (fun i e => .inl e)
  refine oZ (bN (postF_end (fn := Try.f9) [] rfl [] (.tuple #[]) rfl trivial ?_))
  exact ⟨H2, rfl, by rw [hV]; exact hD2, hC3⟩
 refine sk fun K24 hK24 => (wt (oS rfl (Yk.eqI (a := ((kindA x.1.kind) : Nat)) (b := (5 : Nat)) rfl rfl (k_eql _ _ _ _) (oA rfl (oZ (tN (hK24 _ _ ?_)))))))
 refine wpF_cond (((kindA x.1.kind) : Nat) = (5)) (vr (.bool (decide (((kindA x.1.kind) : Nat) = (5)))) rfl) (fun hc4 => ?_) (fun hc4 => ?_)
 ·have hV : actP D x.1 = { D with arm := x.1.n.toNat } := by unfold actP; rw [if_neg hc0, if_neg hc1, if_neg hc2, if_neg hc3, if_pos hc4]
  refine wt (oM rfl (oS rfl (Yk.fieldAt dwc_fo33_4 (vr (PQ n2 0) rfl) (oS rfl (Yk.cell1 dwc_ty3 rfl (vr (PQ n2 4) rfl) (cellAt hb13 (show (xacC x)[4]? = some (.int .i64 (x.1.n : Int) : Value) from xac_g4 x)) ?_)))))
  have hEc := hE
  have hDc := (hD.keep hE)
  refine oS rfl (Yk.callA2 dwc_pl12 T0 (vr (.int .i64 (x.1.n : Int)) rfl) ((hDc.arm x.1.n).mono ?_))
  rintro e w25 ⟨H2, rfl, hD2, hC2⟩
  refine ⟨_, rfl, ?_⟩
  have hC3 : Chg (Foot H D.files.length) w _ := (Chg.ofExt hEc : Chg (Foot H D.files.length) w _).trans hC2 (fun i e => .inl e)
  refine oZ (bN (postF_end (fn := Try.f9) [] rfl [] (.tuple #[]) rfl trivial ?_))
  exact ⟨H2, rfl, by rw [hV]; exact hD2, hC3⟩
 refine sk fun K26 hK26 => (wt (oS rfl (Yk.eqI (a := ((kindA x.1.kind) : Nat)) (b := (6 : Nat)) rfl rfl (k_eql _ _ _ _) (oA rfl (oZ (tN (hK26 _ _ ?_)))))))
 refine wpF_cond (((kindA x.1.kind) : Nat) = (6)) (vr (.bool (decide (((kindA x.1.kind) : Nat) = (6)))) rfl) (fun hc5 => ?_) (fun hc5 => ?_)
 ·have hV : actP D x.1 = crashD D x.1.fates := by unfold actP; rw [if_neg hc0, if_neg hc1, if_neg hc2, if_neg hc3, if_neg hc4, if_pos hc5]
  refine wt (oM rfl (oS rfl (Yk.fieldAt dwc_fo33_5 (vr (PQ n2 0) rfl) (oS rfl (Yk.cell1 dwc_ty25 rfl (vr (PQ n2 5) rfl) (cellAt hb13 (show (xacC x)[5]? = some (x.2.fates : Value) from xac_g5 x)) ?_)))))
  have hEc := hE
  have hDc := (hD.keep hE)
  refine oS rfl (Yk.callA2 dwc_pl11 T0 (vr x.2.fates rfl) ((hDc.crash x.2.fates x.1.fates (hxf.keep hE) hL).mono ?_))
  rintro e w27 ⟨H2, rfl, hD2, hC2⟩
  refine ⟨_, rfl, ?_⟩
  have hC3 : Chg (Foot H D.files.length) w _ := (Chg.ofExt hEc : Chg (Foot H D.files.length) w _).trans hC2 (fun i e => .inl e)
  refine oZ (bN (postF_end (fn := Try.f9) [] rfl [] (.tuple #[]) rfl trivial ?_))
  exact ⟨H2, rfl, by rw [hV]; exact hD2, hC3⟩
 have hV : actP D x.1 = D := by unfold actP; rw [if_neg hc0, if_neg hc1, if_neg hc2, if_neg hc3, if_neg hc4, if_neg hc5]
 refine wpF_skip (bN (postF_end (fn := Try.f9) [] rfl [] (.tuple #[]) rfl trivial ?_))
 exact ⟨H, rfl, by rw [hV]; exact (hD.keep hE), Chg.ofExt hE⟩

theorem awake06 (w : World) :
  Calls Try.prog 16 #[] w fun e w' => e = .returned (.bool true) ∧ Ext w w' := by
 refine calls_of_wpF (args := []) Try.func16 rfl 62 rfl (Nat.le_of_ble_eq_true rfl) ?_
 intro ρ0 hb
 clear hb
 have hE := Ext.refl w
 refine sk fun K1 hK1 => (wt (oA rfl (oZ (tN (hK1 _ _ (sk fun K2 hK2 => (wt (oS rfl (Yk.callA1 dwc_pl8 (vr (NI 100) rfl) ((new_g w _ hE 100 (by decide)).mono ?_))))))))))
 rintro e w4 ⟨g1, H1, rfl, hD1, hx3⟩
 refine ⟨_, rfl, ?_⟩
 have hE := hE.trans hx3
 refine oA rfl (oZ ?_)
 have hDb := hD1
 refine tN (hK2 _ _ (sk fun K5 hK5 => (sk fun K6 hK6 => (wt (oM rfl (oS rfl (Yk.litN (e := 5) ([120, 121] : List UInt8) (by decide) (fun _ _ => by kernel_rfl) fun v7 w8 hN9 => ?_)))))))
 have hA10 := Ext.refl w4
 have hea11 := hE
 have hz12 := hE.size
 have hE := hE.trans hN9.ext
 have hA10 := hA10.trans hN9.ext
 have ho13 := hN9.own; clear hN9
 have hoB := ho13
 have hoB := ho13
 refine oS rfl (Yk.convMark dwc_ty24 dwc_ty5 (vr v7 rfl) ho13 (by decide) fun w14 hr15 hg16 => ?_)
 have hE := ext_grew hE hg16 ho13 hz12
 have hA10 := ext_grew hA10 hg16 ho13 (Nat.le_refl _)
 clear ho13
 have hDc := (hD1.keep hA10)
 refine oS rfl (Yk.callA3 dwc_pl13 (vr (PQ g1 0) rfl) (vr (St (([97] : List UInt8))) rfl) (vr v7 rfl) ((Calls.res (hDc.append [97] v7 [120, 121] hr15 (.inr (fun i hi q => by have h1 := (hDb.st.foot q).2.1; have h2 := (hoB.lt i hi).1; omega)) (by decide) aw_l0) (show (appendD (newD 100) [97] [120, 121]).2 = 0 from by kernel_rfl)).mono ?_))
 rintro e w20 ⟨H17, rfl, hD18, hC19⟩
 refine ⟨_, rfl, ?_⟩
 have hE : Ext w w20 := hD18.ext
 clear hA10
 clear hr15
 have hD1 := hD18
 refine oS rfl (Yk.eqI (a := (0 : Nat)) (b := (0 : Nat)) rfl rfl (k_neq _ _ _ _) (oM rfl (oY (d := 13) rfl rfl (vr (.bool (false)) (congrArg Value.bool (decide_eq_false (by decide)))) (Yk.move (vr (PQ g1 0) rfl) ?_))))
 have hDc := hD1
 refine oY (d := 13) rfl rfl (vr (.bool (false)) (congrArg Value.bool (decide_eq_false (by decide)))) (Yk.callA2 dwc_pl14 (vr (PQ g1 0) rfl) (vr (St (([97] : List UInt8))) rfl) ((Calls.res (hDc.sync [97] aw_l1) (show (syncD awA [97]).2 = 0 from by kernel_rfl)).mono ?_))
 rintro e w24 ⟨H21, rfl, hD22, hC23⟩
 refine ⟨_, rfl, ?_⟩
 have hE : Ext w w24 := hD22.ext
 clear hD1
 have hD1 := hD22
 have hDb := hD1
 refine oY (d := 13) rfl rfl (vr (.bool (false)) (congrArg Value.bool (decide_eq_false (by decide)))) (Yk.eqI (a := (0 : Nat)) (b := (0 : Nat)) rfl rfl (k_neq _ _ _ _) (oS rfl (Yk.pickF (vr (.bool (false)) (congrArg Value.bool (decide_eq_false (by decide)))) (vr (.bool (false)) (congrArg Value.bool (decide_eq_false (by decide)))) (oM rfl (oY (d := 18) rfl rfl (vr (.bool (false)) rfl) (Yk.move (vr (PQ g1 0) rfl) (oY (d := 18) rfl rfl (vr (.bool (false)) rfl) (Yk.lit1 (b := 122) dwc_l1_24 (vr (B8 (122)) rfl) fun v25 w26 hN27 => ?_))))))))
 have hA28 := Ext.refl w24
 have hea29 := hE
 have hz30 := hE.size
 have hE := hE.trans hN27.ext
 have hA28 := hA28.trans hN27.ext
 have ho31 := hN27.own; clear hN27
 have hoB := ho31
 have hoB := ho31
 refine oY (d := 18) rfl rfl (vr (.bool (false)) rfl) (Yk.convMark dwc_ty24 dwc_ty5 (vr v25 rfl) ho31 (by decide) fun w32 hr33 hg34 => ?_)
 have hE := ext_grew hE hg34 ho31 hz30
 have hA28 := ext_grew hA28 hg34 ho31 (Nat.le_refl _)
 clear ho31
 have hDc := (hD1.keep hA28)
 refine oY (d := 18) rfl rfl (vr (.bool (false)) rfl) (Yk.callA3 dwc_pl13 (vr (PQ g1 0) rfl) (vr (St (([97] : List UInt8))) rfl) (vr v25 rfl) ((Calls.res (hDc.append [97] v25 [122] hr33 (.inr (fun i hi q => by have h1 := (hDb.st.foot q).2.1; have h2 := (hoB.lt i hi).1; omega)) (by decide) aw_l2) (show (appendD (awB) [97] [122]).2 = 0 from by kernel_rfl)).mono ?_))
 rintro e w38 ⟨H35, rfl, hD36, hC37⟩
 refine ⟨_, rfl, ?_⟩
 have hE : Ext w w38 := hD36.ext
 clear hA28
 clear hr33
 have hD1 := hD36
 refine oY (d := 18) rfl rfl (vr (.bool (false)) rfl) (Yk.eqI (a := (0 : Nat)) (b := (0 : Nat)) rfl rfl (k_neq _ _ _ _) (oS rfl (Yk.pickF (vr (.bool (false)) rfl) (vr (.bool (false)) (congrArg Value.bool (decide_eq_false (by decide)))) (oZ (tN (hK6 _ _ (wpF_false (vr (.bool (false)) rfl) (wpF_skip (tN (hK5 _ _ (sk fun K39 hK39 => (wt (oM rfl (oS rfl (Yk.lits (e := 3) (cs := #[.int .i64 0, .int .i64 0]) (fun w => by kernel_rfl) fun b40 w41 hn42 hb43 hx44 hs45 => ?_)))))))))))))))
 have hE := hE.trans hx44
 have hD1 := hD1.keep hx44
 have hr46 : RG 1 enI w41 (.slice (some ⟨b40, 0, none⟩) 2 2) [0, 0] := rg_ints (l := [0, 0]) (by decide) hb43
 have hDc := hD1
 refine oS rfl (Yk.callA2 dwc_pl11 (vr (PQ g1 0) rfl) (vr (.slice (some ⟨b40, 0, none⟩) 2 2) rfl) ((hDc.crash (.slice (some ⟨b40, 0, none⟩) 2 2) [0, 0] hr46 aw_l3).mono ?_))
 rintro e w50 ⟨H47, rfl, hD48, hC49⟩
 refine ⟨_, rfl, ?_⟩
 have hE : Ext w w50 := hD48.ext
 clear hD1
 clear hr46
 have hD1 := hD48
 refine oZ (tN (hK39 _ _ (sk fun K51 hK51 => (wt (oM rfl ?_)))))
 have hDc := hD1
 refine oS rfl (Yk.callA2 dwc_pl15 (vr (PQ g1 0) rfl) (vr (St (([97] : List UInt8))) rfl) ((Calls.resR (hDc.read [97] aw_l4) (show readD (awD) [97] = ([120, 121], 0) from by kernel_rfl)).mono ?_))
 rintro e w55 ⟨v52, rfl, hr53, hx54⟩
 refine ⟨_, rfl, ?_⟩
 have hE := hE.trans hx54
 have hD1 := hD1.keep hx54
 refine oM rfl (oS rfl (Yk.extract (vs := [v52, NI 0]) (vr (.tuple #[v52, NI 0]) rfl) (show _ = some (v52 : Value) from rfl) (oS rfl (Yk.extract (vs := [v52, NI 0]) (vr (.tuple #[v52, NI 0]) rfl) (show _ = some (NI 0 : Value) from rfl) (oA rfl (oA rfl (oZ (tN (hK51 _ _ (sk fun K56 hK56 => (wt ?_)))))))))))
 have hA57 := Ext.refl w55
 have hea58 := hE
 have hz59 := hE.size
 have hwb2 := hE
 refine oS rfl (Yk.callA1 dwc_pl8 (vr (NI 100) rfl) ((new_g w55 _ hA57 100 (by decide)).mono ?_))
 rintro e w61 ⟨g2, H2, rfl, hD2, hx60⟩
 refine ⟨_, rfl, ?_⟩
 have hE := hE.trans hx60
 have hA57 := hA57.trans hx60
 refine oA rfl (oZ ?_)
 have hDb := hD2
 refine tN (hK56 _ _ (sk fun K62 hK62 => (wt (oM rfl (oS rfl (Yk.lit1 (b := 120) dwc_l1_24 (vr (B8 (120)) rfl) fun v63 w64 hN65 => ?_))))))
 have hA66 := Ext.refl w61
 have hea67 := hE
 have hea68 := hA57
 have hz69 := hE.size
 have hz70 := hA57.size
 have hE := hE.trans hN65.ext
 have hA57 := hA57.trans hN65.ext
 have hA66 := hA66.trans hN65.ext
 have ho71 := hN65.own; clear hN65
 have hoB := ho71
 have hoB := ho71
 refine oS rfl (Yk.convMark dwc_ty24 dwc_ty5 (vr v63 rfl) ho71 (by decide) fun w72 hr73 hg74 => ?_)
 have hE := ext_grew hE hg74 ho71 hz69
 have hA57 := ext_grew hA57 hg74 ho71 hz70
 have hA66 := ext_grew hA66 hg74 ho71 (Nat.le_refl _)
 clear ho71
 have hDc := (hD2.keep hA66)
 refine oS rfl (Yk.callA3 dwc_pl13 (vr (PQ g2 0) rfl) (vr (St (([97] : List UInt8))) rfl) (vr v63 rfl) ((Calls.res (hDc.append [97] v63 [120] hr73 (.inr (fun i hi q => by have h1 := (hDb.st.foot q).2.1; have h2 := (hoB.lt i hi).1; omega)) (by decide) aw_l0) (show (appendD (newD 100) [97] [120]).2 = 0 from by kernel_rfl)).mono ?_))
 rintro e w78 ⟨H75, rfl, hD76, hC77⟩
 refine ⟨_, rfl, ?_⟩
 have hE : Ext w w78 := hwb2.trans hD76.ext
 have hA57 : Ext w55 w78 := hD76.ext
 clear hA66
 clear hr73
 have hD2 := hD76
 refine oZ (tN (hK62 _ _ (sk fun K79 hK79 => (wt (oM rfl (oS rfl (Yk.lit1S (a := 0) (enc := enI) (vr (NI 0) rfl) rfl (fun w => dwc_lk25 _ w) fun v80 w81 hr82 hx83 => ?_)))))))
 have hE := hE.trans hx83
 have hA57 := hA57.trans hx83
 have hD2 := hD2.keep hx83
 have hDc := hD2
 refine oS rfl (Yk.callA2 dwc_pl11 (vr (PQ g2 0) rfl) (vr v80 rfl) ((hDc.crash v80 [0] hr82 aw_l5).mono ?_))
 rintro e w87 ⟨H84, rfl, hD85, hC86⟩
 refine ⟨_, rfl, ?_⟩
 have hE : Ext w w87 := hwb2.trans hD85.ext
 have hA57 : Ext w55 w87 := hD85.ext
 clear hD2
 clear hr82
 have hD2 := hD85
 refine oZ (tN (hK79 _ _ (sk fun K88 hK88 => (wt (oM rfl ?_)))))
 have hDc := hD2
 refine oS rfl (Yk.callA2 dwc_pl15 (vr (PQ g2 0) rfl) (vr (St (([97] : List UInt8))) rfl) ((Calls.resR (hDc.read [97] aw_l6) (show readD (awF) [97] = ([], 4) from by kernel_rfl)).mono ?_))
 rintro e w92 ⟨v89, rfl, hr90, hx91⟩
 refine ⟨_, rfl, ?_⟩
 have hE := hE.trans hx91
 have hA57 := hA57.trans hx91
 have hD2 := hD2.keep hx91
 refine oM rfl (oS rfl (Yk.extract (vs := [v89, NI 4]) (vr (.tuple #[v89, NI 4]) rfl) (show _ = some (v89 : Value) from rfl) (oS rfl (Yk.extract (vs := [v89, NI 4]) (vr (.tuple #[v89, NI 4]) rfl) (show _ = some (NI 4 : Value) from rfl) (oA rfl (oA rfl (oL_ [(0, .bool (false)), (1, PQ g1 0), (2, v52), (3, NI 0), (4, PQ g2 0), (6, NI 4), (24, .bool (false))] ⟨rfl, rfl, rfl, rfl, rfl, rfl, rfl, trivial⟩ fun ρ93 ⟨T0, T1, T2, T3, T4, T6, T24, _⟩ => (tN (hK88 _ _ (sk fun K94 hK94 => (wt (oM rfl (oS rfl (Yk.eqI (a := (0 : Nat)) (b := (0 : Nat)) T3 rfl (k_eql _ _ _ _) (oM rfl (oY (d := 48) rfl rfl (vr (.bool (true)) (congrArg Value.bool (decide_eq_true (rfl)))) (Yk.move T2 (oY (d := 48) rfl rfl (vr (.bool (true)) (congrArg Value.bool (decide_eq_true (rfl)))) (Yk.convRB dwc_ty24 dwc_ty5 dwc_ty9 (RB.of (hr53.keep hA57) (vr v52 rfl)) (oY (d := 48) rfl rfl (vr (.bool (true)) (congrArg Value.bool (decide_eq_true (rfl)))) (Yk.eqSt (l := [120, 121]) (m := ([120, 121] : List UInt8)) (.inl rfl) (vr (St ([120, 121])) rfl) (vr (St (([120, 121] : List UInt8))) rfl) (decide (([120, 121] : List UInt8) = (([120, 121] : List UInt8) : List UInt8))) rfl (oS rfl (Yk.pickT (vr (.bool (true)) (congrArg Value.bool (decide_eq_true (rfl)))) (vr (.bool (true)) (congrArg Value.bool (decide_eq_true (rfl)))) ?_)))))))))))))))))))))))
 refine oM rfl (oY (d := 53) rfl rfl (vr (.bool (true)) rfl) (Yk.move T6 (oY (d := 53) rfl rfl (vr (.bool (true)) rfl) (Yk.eqI (a := (4 : Nat)) (b := (4 : Nat)) rfl rfl (k_eql _ _ _ _) (oS rfl (Yk.pickT (vr (.bool (true)) rfl) (vr (.bool (true)) (congrArg Value.bool (decide_eq_true (rfl)))) (oM rfl (oY (d := 57) rfl rfl (vr (.bool (true)) rfl) (Yk.move T4 ?_)))))))))
 have hDc := hD2
 refine oY (d := 57) rfl rfl (vr (.bool (true)) rfl) (Yk.callA3 dwc_pl13 (vr (PQ g2 0) rfl) (vr (St (([] : List UInt8))) rfl) (vr (Value.slice none 0 0) rfl) ((Calls.res (hDc.append [] ((Value.slice none 0 0)) [] (RB.nil _) (.inl rfl) (by decide) aw_l6) (show (appendD (awF) [] []).2 = 10 from by kernel_rfl)).mono ?_))
 rintro e w98 ⟨H95, rfl, hD96, hC97⟩
 refine ⟨_, rfl, ?_⟩
 have hE : Ext w w98 := hwb2.trans hD96.ext
 have hA57 : Ext w55 w98 := hD96.ext
 clear hD2
 clear hr90
 have hD2 := hD96
 refine oY (d := 57) rfl rfl (vr (.bool (true)) rfl) (Yk.eqI (a := (10 : Nat)) (b := (10 : Nat)) rfl rfl (k_eql _ _ _ _) (oS rfl (Yk.pickT (vr (.bool (true)) rfl) (vr (.bool (true)) (congrArg Value.bool (decide_eq_true (rfl)))) (oA rfl (oZ (tN (hK94 _ _ (wpF_ret (postF_ret (fn := Try.f16) _ rfl [.bool (true)] (.bool (true)) rfl ⟨rfl, trivial⟩ ?_)))))))))
 exact ⟨rfl, hE⟩

open Go.RowKit
set_option linter.unusedVariables false
theorem read_ok {D : Dsk} {s : List UInt8} {k : Nat} (hd : D.down = false) (hm : mayD s = true) (h : lookD D.now s = some k) : readD D s = ((fileD D k).1, 0) := by
  have h0 : readyD D s s = 0 := by
    unfold readyD
    rw [if_neg (by rw [hd]; decide), if_pos ⟨hm, hm⟩]
  unfold readD hasD
  rw [if_neg (by rw [h0]; exact fun q => q rfl), h]
open Go.RowKit
set_option linter.unusedVariables false
def Bnd (n : Nat) (D : Dsk) : Prop := ∃ c M, 1 ≤ M ∧ c + M ≤ n + 1 ∧ D.quota = 1048576 ∧ D.refused ≤ n ∧ D.arm ≤ 9223372036854775807 ∧ D.kept.length + D.acts.length ≤ c ∧ D.now.length ≤ c ∧ ∀ x ∈ D.files, x.1.length ≤ 300 * M
theorem Bnd.mono {n m : Nat} {D : Dsk} (h : Bnd n D) (hn : n ≤ m) : Bnd m D := by
  obtain ⟨c, M, h1, h2, h3, h4, h5, h6, h7, h8⟩ := h
  exact ⟨c, M, h1, by omega, h3, by omega, h5, h6, h7, h8⟩
theorem Bnd.new : Bnd 0 (newD 1048576) := ⟨0, 1, Nat.le_refl _, Nat.le_refl _, rfl, Nat.le_refl _, Nat.zero_le _, Nat.le_refl _, Nat.le_refl _, fun x h => by cases h⟩
theorem file_le {D : Dsk} {m : Nat} (h : ∀ x ∈ D.files, x.1.length ≤ m) (k : Nat) : (fileD D k).1.length ≤ m := by
  by_cases hk : k < D.files.length
  · exact h _ (fileD_mem hk)
  · unfold fileD
    rw [List.getD_eq_getElem?_getD, List.getElem?_eq_none (by omega)]
    exact Nat.zero_le _
theorem used_le {D : Dsk} {c m : Nat} (h1 : D.now.length ≤ c) (h2 : ∀ x ∈ D.files, x.1.length ≤ m) : usedD D ≤ c * m := by
  have h3 := sum_le_mul (l := D.now.map fun e => (fileD D e.2).1.length) (m := m) fun x hx => by
    obtain ⟨e, _, rfl⟩ := List.mem_map.1 hx
    exact file_le h2 e.2
  rw [List.length_map] at h3
  exact Nat.le_trans h3 (Nat.mul_le_mul_right _ h1)
theorem prod_le {c M : Nat} (h : c + M ≤ 90) : c * M ≤ 2025 := by
  have key : ∀ a, a ≤ 45 → (45 - a) * (45 + a) ≤ 2025 := by decide
  rcases Nat.le_total c 45 with hc | hc
  · have := key (45 - c) (by omega)
    rw [show 45 - (45 - c) = c by omega] at this
    exact Nat.le_trans (Nat.mul_le_mul_left _ (by omega)) this
  · by_cases hM : 45 ≤ M
    · have hc' : c = 45 := by omega
      have hM' : M = 45 := by omega
      subst hc' hM'
      decide
    · have := key (45 - M) (by omega)
      rw [show 45 - (45 - M) = M by omega] at this
      rw [Nat.mul_comm]
      exact Nat.le_trans (Nat.mul_le_mul_left _ (by omega)) this
theorem Bnd.used {n : Nat} {D : Dsk} (h : Bnd n D) (hn : n ≤ 89) : usedD D + 300 ≤ D.quota := by
  obtain ⟨c, M, h1, h2, h3, h4, h5, h6, h7, h8⟩ := h
  have h9 := used_le h7 h8
  have h10 := prod_le (c := c) (M := M) (by omega)
  have h11 : c * (300 * M) = 300 * (c * M) := by rw [Nat.mul_left_comm]
  omega
theorem Bnd.lt {n : Nat} {D : Dsk} (h : Bnd n D) (hn : n ≤ 89) : DLt D := by
  have hu := h.used hn
  obtain ⟨c, M, h1, h2, h3, h4, h5, h6, h7, h8⟩ := h
  exact ⟨by omega, by omega, by omega, by omega, by omega, by omega, by omega, fun x hx => by have := h8 x hx; omega⟩
theorem Bnd.armed {n : Nat} {D : Dsk} (h : Bnd n D) : Bnd n (armD D).1 := by
  unfold armD
  split
  · exact h
  · obtain ⟨c, M, h1, h2, h3, h4, h5, h6, h7, h8⟩ := h
    exact ⟨c, M, h1, h2, h3, h4, by show D.arm - 1 ≤ _; omega, h6, h7, h8⟩
theorem Bnd.turned {n : Nat} {D : Dsk} (h : Bnd n D) (a : ActD) : Bnd (n + 1) (turnedD D a) := by
  obtain ⟨c, M, h1, h2, h3, h4, h5, h6, h7, h8⟩ := h
  have h9 := turn_len D.now a
  refine ⟨c + 1, M, h1, by omega, h3, Nat.le_succ_of_le h4, h5, ?_, ?_, h8⟩
  · show D.kept.length + (D.acts ++ [a]).length ≤ c + 1
    rw [List.length_append, List.length_singleton]
    omega
  · show (turnD D.now a).length ≤ c + 1
    omega
theorem Bnd.add {n : Nat} {D : Dsk} (h : Bnd n D) (s : List UInt8) {b : List UInt8} (hb : b.length ≤ 300) : Bnd (n + 1) (addD D s b) := by
  unfold addD
  split
  · rename_i k _
    obtain ⟨c, M, h1, h2, h3, h4, h5, h6, h7, h8⟩ := h
    refine ⟨c, M + 1, by omega, by omega, h3, Nat.le_succ_of_le h4, h5, h6, h7, fun x hx => ?_⟩
    rcases List.mem_or_eq_of_mem_set hx with hx | rfl
    · have := h8 x hx
      omega
    · have := file_le h8 k
      show ((fileD D k).1 ++ b).length ≤ _
      rw [List.length_append]
      omega
  · obtain ⟨c, M, h1, h2, h3, h4, h5, h6, h7, h8⟩ := h.turned ⟨[], s, D.files.length⟩
    refine ⟨c, M, h1, h2, h3, h4, h5, h6, h7, fun x hx => ?_⟩
    rcases List.mem_append.1 hx with hx | hx
    · exact h8 x hx
    · rw [List.mem_singleton.1 hx]
      show b.length ≤ _
      omega
theorem Bnd.did {n : Nat} {D : Dsk} (h : Bnd n D) {f : Dsk → Dsk} (hf : ∀ E, Bnd n E → Bnd (n + 1) (f E)) : Bnd (n + 1) (doD D f).1 := by
  unfold doD
  split
  · exact h.armed.mono (Nat.le_succ n)
  · exact hf _ h.armed
theorem Bnd.append {n : Nat} {D : Dsk} (h : Bnd n D) (s : List UInt8) {b : List UInt8} (hb : b.length ≤ 300) : Bnd (n + 1) (appendD D s b).1 := by
  unfold appendD
  split
  · exact h.mono (Nat.le_succ n)
  · split
    · obtain ⟨c, M, h1, h2, h3, h4, h5, h6, h7, h8⟩ := h
      exact ⟨c, M, h1, by omega, h3, Nat.succ_le_succ h4, h5, h6, h7, h8⟩
    · exact h.did (f := fun d => addD d s b) fun E hE => hE.add s hb
theorem Bnd.sync {n : Nat} {D : Dsk} (h : Bnd n D) (s : List UInt8) : Bnd (n + 1) (syncD D s).1 := by
  unfold syncD
  split
  · exact h.mono (Nat.le_succ n)
  · rename_i k _
    refine h.did fun E hE => ?_
    obtain ⟨c, M, h1, h2, h3, h4, h5, h6, h7, h8⟩ := hE
    refine ⟨c, M, h1, by omega, h3, Nat.le_succ_of_le h4, h5, by show E.now.length + 0 ≤ _; omega, h7, fun x hx => ?_⟩
    rcases List.mem_or_eq_of_mem_set hx with hx | rfl
    · exact h8 x hx
    · exact file_le h8 k
theorem Bnd.move {n : Nat} {D : Dsk} (h : Bnd n D) (s t : List UInt8) : Bnd (n + 1) (moveD D s t).1 := by
  unfold moveD
  split
  · exact h.mono (Nat.le_succ n)
  · exact h.did fun E hE => hE.turned _
theorem Bnd.drop {n : Nat} {D : Dsk} (h : Bnd n D) (s : List UInt8) : Bnd (n + 1) (dropD D s).1 := by
  unfold dropD
  split
  · exact h.mono (Nat.le_succ n)
  · exact h.did fun E hE => hE.turned _
theorem Bnd.crash {n : Nat} {D : Dsk} (h : Bnd n D) (l : List Int) : Bnd n (crashD D l) := by
  obtain ⟨c, M, h1, h2, h3, h4, h5, h6, h7, h8⟩ := h
  have h9 := left_len D l
  have h10 : (numD (leftD D l)).length = (leftD D l).length := by unfold numD; rw [List.length_mapIdx]
  refine ⟨c, M, h1, h2, h3, h4, Nat.zero_le _, ?_, ?_, fun x hx => ?_⟩
  · show (numD (leftD D l)).length + 0 ≤ c
    omega
  · show (numD (leftD D l)).length ≤ c
    omega
  · obtain ⟨i, hi, rfl⟩ := List.mem_mapIdx.1 hx
    have h4 := file_le h8 ((leftD D l)[i]'hi).2
    unfold cutD
    simp only [List.length_take]
    omega
theorem Bnd.disarm {n : Nat} {D : Dsk} (h : Bnd n D) {m : Nat} (hm : m ≤ 9223372036854775807) : Bnd n { D with arm := m } := by
  obtain ⟨c, M, h1, h2, h3, h4, h5, h6, h7, h8⟩ := h
  exact ⟨c, M, h1, h2, h3, h4, hm, h6, h7, h8⟩
theorem Bnd.act {n : Nat} {D : Dsk} (h : Bnd n D) {a : Xact} (hb : a.bytes.length ≤ 300) (ha : a.n ≤ 9223372036854775807) : Bnd (n + 1) (actP D a) := by
  unfold actP
  split
  · exact h.append _ hb
  split
  · exact h.sync _
  split
  · exact h.move _ _
  split
  · exact h.drop _
  split
  · exact (h.disarm (by omega)).mono (Nat.le_succ n)
  split
  · exact (h.crash _).mono (Nat.le_succ n)
  · exact h.mono (Nat.le_succ n)
def InjD (l : Dir) : Prop := l.Pairwise fun a b => a.2 ≠ b.2
theorem InjD.eq {l : Dir} (h : InjD l) {e f : List UInt8 × Nat} (he : e ∈ l) (hf : f ∈ l) (q : e.2 = f.2) : e = f := by
  obtain ⟨i, hi, rfl⟩ := List.mem_iff_getElem.1 he
  obtain ⟨j, hj, rfl⟩ := List.mem_iff_getElem.1 hf
  rcases Nat.lt_trichotomy i j with hij | rfl | hij
  · exact absurd q (List.pairwise_iff_getElem.1 h i j hi hj hij)
  · rfl
  · exact absurd q.symm (List.pairwise_iff_getElem.1 h j i hj hi hij)
theorem InjD.wo {l : Dir} (h : InjD l) (s : List UInt8) : InjD (woD l s) := List.Pairwise.sublist List.filter_sublist h
theorem InjD.ins {l : Dir} (h : InjD l) (s : List UInt8) {k : Nat} (hk : ∀ e ∈ l, e.2 ≠ k) : InjD (insD l s k) := by
  unfold insD InjD
  rw [List.pairwise_append]
  refine ⟨h.sublist (List.takeWhile_sublist _), List.pairwise_cons.2 ⟨fun e he => (hk e ((List.dropWhile_sublist _).subset he)).symm, h.sublist (List.dropWhile_sublist _)⟩, fun a ha b hb => ?_⟩
  rcases List.mem_cons.1 hb with rfl | hb
  · exact hk a ((List.takeWhile_sublist _).subset ha)
  · have h2 : (l.takeWhile (fun e => Op.bytesLess e.1 s) ++ l.dropWhile (fun e => Op.bytesLess e.1 s)).Pairwise fun a b => a.2 ≠ b.2 := by rw [List.takeWhile_append_dropWhile]; exact h
    exact (List.pairwise_append.1 h2).2.2 a ha b hb
theorem InjD.turn {l : Dir} (h : InjD l) (a : ActD) (hk : a.to.length ≠ 0 → ∀ e ∈ l, e.2 = a.file → e.1 = a.frm) : InjD (turnD l a) := by
  unfold turnD
  split
  · exact h.wo _
  · rename_i hn
    refine ((h.wo _).wo _).ins _ fun e he q => ?_
    have h1 := wo_mem he
    have h2 := hk hn e (wo_mem h1) q
    have h3 := (List.mem_filter.1 h1).2
    simp [h2] at h3
theorem InjD.num (l : Dir) : InjD (numD l) := by
  unfold InjD numD
  rw [List.pairwise_iff_getElem]
  intro i j hi hj hij
  rw [List.getElem_mapIdx, List.getElem_mapIdx]
  exact Nat.ne_of_lt hij
theorem InjD.add {D : Dsk} (h : InjD D.now) (hok : DOk D) (s b : List UInt8) : InjD (addD D s b).now := by
  unfold addD
  split
  · exact h
  · exact h.turn _ fun _ e he q => absurd (hok.now.num e he) (by rw [q]; exact Nat.lt_irrefl _)
theorem armD_now (D : Dsk) : (armD D).1.now = D.now := by unfold armD; split <;> rfl
theorem InjD.act {D : Dsk} (h : InjD D.now) (hok : DOk D) (a : Xact) : InjD (actP D a).now := by
  have ha : InjD (armD D).1.now := by rw [armD_now]; exact h
  have look : ∀ {s t : List UInt8} {k : Nat}, hasD D s t = .ok k → lookD D.now s = some k := fun {s t k} q => by
    unfold hasD at q
    split at q
    · cases q
    · split at q
      · rename_i j hj
        cases q
        exact hj
      · cases q
  unfold actP
  split
  · unfold appendD
    split
    · exact h
    · split
      · exact h
      · split
        · exact ha
        · exact ha.add hok.arm _ _
  split
  · unfold syncD
    split
    · exact h
    · unfold doD
      split
      · exact ha
      · exact ha
  split
  · unfold moveD
    split
    · exact h
    · rename_i k hk
      unfold doD
      split
      · exact ha
      · refine ha.turn _ fun _ e he q => ?_
        have := ha.eq he (by rw [armD_now]; exact look_mem (look hk)) q
        rw [this]
  split
  · unfold dropD
    split
    · exact h
    · unfold doD
      split
      · exact ha
      · exact ha.turn ⟨_, [], _⟩ fun q => (q rfl).elim
  split
  · exact h
  split
  · exact InjD.num _
  · exact h
open Go.RowKit
set_option linter.unusedVariables false
theorem ready_yes {D : Dsk} {s t : List UInt8} (hd : D.down = false) (hs : mayD s = true) (ht : mayD t = true) : readyD D s t = 0 := by
  unfold readyD
  rw [if_neg (by rw [hd]; decide), if_pos ⟨hs, ht⟩]
theorem arm_no {D : Dsk} (ha : D.arm = 0) : armD D = (D, false) := by
  unfold armD
  exact if_pos ha
theorem append_ok {D : Dsk} {s b : List UInt8} (hd : D.down = false) (ha : D.arm = 0) (hm : mayD s = true) (hq : usedD D + b.length ≤ D.quota) : appendD D s b = (addD D s b, 0) := by
  unfold appendD
  rw [if_neg (by rw [ready_yes hd hm hm]; exact fun q => q rfl), if_neg (by omega), arm_no ha]
  rfl
theorem append_may {D : Dsk} {s b : List UInt8} (hd : D.down = false) (hm : mayD s = false) : appendD D s b = (D, 10) := by
  have h : readyD D s s = 10 := by
    unfold readyD
    rw [if_neg (by rw [hd]; decide), if_neg (by rw [hm]; decide)]
  unfold appendD
  rw [if_pos (by rw [h]; decide), h]
theorem sync_ok {D : Dsk} {s : List UInt8} {k : Nat} (hd : D.down = false) (ha : D.arm = 0) (hm : mayD s = true) (hk : lookD D.now s = some k) :
    syncD D s = ({ D with files := D.files.set k ((fileD D k).1, (fileD D k).1.length), kept := D.now, acts := [] }, 0) := by
  have h : hasD D s s = .ok k := by
    unfold hasD
    rw [if_neg (by rw [ready_yes hd hm hm]; exact fun q => q rfl), hk]
  unfold syncD
  rw [h]
  show doD D _ = _
  unfold doD
  rw [arm_no ha]
  rfl
theorem getD_set_eq {l : List (List UInt8 × Nat)} {k : Nat} {x : List UInt8 × Nat} (h : k < l.length) : (l.set k x).getD k ([], 0) = x := by
  rw [List.getD_eq_getElem?_getD, List.getElem?_set_self h]
  rfl
theorem getD_set_ne {l : List (List UInt8 × Nat)} {k j : Nat} {x : List UInt8 × Nat} (h : k ≠ j) : (l.set k x).getD j ([], 0) = l.getD j ([], 0) := by
  rw [List.getD_eq_getElem?_getD, List.getElem?_set_ne h, ← List.getD_eq_getElem?_getD]
structure Sy (D : Dsk) (s : List UInt8) (k n0 : Nat) (al : List UInt8) : Prop where
  down : D.down = false
  arm : D.arm = 0
  ok : DOk D
  may : mayD s = true
  inj : InjD D.now
  now : lookD D.now s = some k
  kept : lookD D.kept s = some k
  acts : ∀ a ∈ D.acts, a.to ≠ s ∧ a.frm ≠ s
  file : fileD D k = (al, n0)
theorem add_arm (D : Dsk) (s b : List UInt8) : (addD D s b).arm = D.arm ∧ (addD D s b).down = D.down := by
  unfold addD
  split <;> exact ⟨rfl, rfl⟩
theorem look_add {D : Dsk} {s b : List UInt8} (hm : mayD s = true) : ∃ k, lookD (addD D s b).now s = some k := by
  unfold addD
  split
  · rename_i k hk
    exact ⟨k, hk⟩
  · refine ⟨D.files.length, ?_⟩
    have h0 := (mayD_pos hm).1
    show lookD (turnD D.now ⟨[], s, D.files.length⟩) s = _
    rw [look_turn, if_neg (show ¬ s.length = 0 by omega), if_pos rfl]
theorem Sy.start {D : Dsk} {s : List UInt8} (hd : D.down = false) (ha : D.arm = 0) (hok : DOk D) (hi : InjD D.now) (hm : mayD s = true) (b : List UInt8) :
    ∃ k B0, (syncD (addD D s b) s).2 = 0 ∧ Sy (syncD (addD D s b) s).1 s k B0.length B0 := by
  obtain ⟨k, hk⟩ := look_add (D := D) (b := b) hm
  have h1 := add_arm D s b
  have hok1 : DOk (addD D s b) := hok.add b hm
  have hd1 := h1.2.trans hd
  have ha1 := h1.1.trans ha
  have hi1 := InjD.add hi hok s b
  have e := sync_ok hd1 ha1 hm hk
  have hkl := (hok1.now.look hk).1
  refine ⟨k, (fileD (addD D s b) k).1, by rw [e], ?_⟩
  rw [e]
  exact ⟨hd1, ha1, hok1.synced k, hm, hi1, hk, hk, (fun a h => by cases h), getD_set_eq hkl⟩
theorem Sy.same {D : Dsk} {s al : List UInt8} {k n0 : Nat} (h : Sy D s k n0 al) (p : List UInt8) : Sy (addD D s p) s k n0 (al ++ p) := by
  have hkl := (h.ok.now.look h.now).1
  have e : addD D s p = { D with files := D.files.set k (al ++ p, n0) } := by
    unfold addD
    rw [h.now]
    show { D with files := D.files.set k ((fileD D k).1 ++ p, (fileD D k).2) } = _
    rw [h.file]
  have hok := h.ok.add (s := s) p h.may
  rw [e] at hok ⊢
  exact ⟨h.down, h.arm, hok, h.may, h.inj, h.now, h.kept, h.acts, getD_set_eq hkl⟩
theorem Sy.other {D : Dsk} {s al : List UInt8} {k n0 : Nat} (h : Sy D s k n0 al) {t : List UInt8} (ht : t ≠ s) (hmt : mayD t = true) (p : List UInt8) : Sy (addD D t p) s k n0 al := by
  have hkl := (h.ok.now.look h.now).1
  have hok := h.ok.add (s := t) p hmt
  have hinj := InjD.add h.inj h.ok t p
  have ha := add_arm D t p
  cases hl : lookD D.now t with
  | some k2 =>
    have hne : k2 ≠ k := fun q => by
      have := h.inj.eq (look_mem hl) (look_mem h.now) q
      exact ht (congrArg Prod.fst this)
    have e : addD D t p = { D with files := D.files.set k2 ((fileD D k2).1 ++ p, (fileD D k2).2) } := by
      unfold addD
      rw [hl]
    rw [e] at hok hinj ⊢
    exact ⟨h.down, h.arm, hok, h.may, hinj, h.now, h.kept, h.acts, (getD_set_ne hne).trans h.file⟩
  | none =>
    have e : addD D t p = { turnedD D ⟨[], t, D.files.length⟩ with files := D.files ++ [(p, 0)] } := by
      unfold addD
      rw [hl]
    have h0 := (mayD_pos hmt).1
    have h1 := (mayD_pos h.may).1
    have hs0 : ([] : List UInt8) ≠ s := fun q => by rw [← q] at h1; simp at h1
    rw [e] at hok hinj ⊢
    refine ⟨h.down, h.arm, hok, h.may, hinj, ?_, h.kept, fun a hq => ?_, ?_⟩
    · show lookD (turnD D.now ⟨[], t, D.files.length⟩) s = _
      rw [look_turn, if_neg (show ¬ t.length = 0 by omega), if_neg (fun q => ht q.symm), if_neg (fun q => hs0 q.symm)]
      exact h.now
    · rcases List.mem_append.1 hq with hq | hq
      · exact h.acts a hq
      · rw [List.mem_singleton.1 hq]
        exact ⟨ht, hs0⟩
    · show (D.files ++ [(p, 0)]).getD k ([], 0) = _
      rw [List.getD_eq_getElem?_getD, List.getElem?_append_left hkl, ← List.getD_eq_getElem?_getD]
      exact h.file
theorem look_fold {s : List UInt8} {k : Nat} : ∀ (acs : List ActD) (l : Dir), (∀ a ∈ acs, a.to ≠ s ∧ a.frm ≠ s) → lookD l s = some k → lookD (acs.foldl turnD l) s = some k
  | [], _, _, h => h
  | a :: r, l, ha, h => look_fold r (turnD l a) (fun b hb => ha b (List.mem_cons_of_mem _ hb)) (by
      have h1 := ha a List.mem_cons_self
      rw [look_turn]
      split
      · rw [if_neg (fun q => h1.2 q.symm)]
        exact h
      · rw [if_neg (fun q => h1.1 q.symm), if_neg (fun q => h1.2 q.symm)]
        exact h)
theorem Sy.crash {D : Dsk} {s al : List UInt8} {k n0 : Nat} (h : Sy D s k n0 al) (l : List Int) : ∃ n, n0 ≤ n ∧ n ≤ al.length ∧ readD (crashD D l) s = (al.take n, 0) := by
  have hL : lookD (leftD D l) s = some k := look_fold _ _ (fun a ha => h.acts a ((List.take_sublist _ _).subset ha)) h.kept
  obtain ⟨i, hi, he⟩ := List.mem_iff_getElem.1 (look_mem hL)
  have hok := h.ok.crash l
  have hm : (s, i) ∈ numD (leftD D l) := by
    unfold numD
    rw [List.mem_mapIdx]
    exact ⟨i, hi, by rw [he]⟩
  have hlk : lookD (crashD D l).now s = some i := look_of hok.now.sort hm
  have hf : fileD (crashD D l) i = cutD D l i k := by
    show ((leftD D l).mapIdx fun i e => cutD D l i e.2).getD i ([], 0) = _
    rw [List.getD_eq_getElem?_getD, List.getElem?_mapIdx, List.getElem?_eq_getElem hi, he]
    rfl
  have hc := cutD_len h.ok l i k
  have hc2 : (cutD D l i k).1 = (fileD D k).1.take (cutD D l i k).2 := rfl
  refine ⟨(cutD D l i k).2, ?_, ?_, ?_⟩
  · unfold cutD
    show n0 ≤ (fileD D k).2 + _
    rw [h.file]
    exact Nat.le_add_right _ _
  · have := hc.2
    rw [h.file] at this
    exact this
  · rw [read_ok (show (crashD D l).down = false from rfl) h.may hlk, hf, hc2, h.file]
open Go.RowKit
set_option maxRecDepth 100000
set_option linter.unusedVariables false
set_option linter.unusedSimpArgs false
theorem Bnd.len {m : Nat} {D : Dsk} (h : Bnd m D) {k n0 : Nat} {al : List UInt8} (hf : fileD D k = (al, n0)) : al.length ≤ 300 * (m + 1) := by
 obtain ⟨c, M, h1, h2, h3, h4, h5, h6, h7, h8⟩ := h
 have := file_le h8 k
 rw [hf] at this
 have : al.length ≤ 300 * M := this
 omega
theorem RBs.rg {w : World} {v : Value} {ls : List (List UInt8)} (h : RBs w v ls) : ∃ vs : List Value, vs.length = ls.length ∧ RG 1 enV w v vs ∧ ∀ i, i < ls.length → RB w (vs.getD i undef) (ls.getD i []) := by
 obtain ⟨vs, h1, ⟨h2, ao, cap, h3, h4, h5, h6, h7⟩, h8⟩ := h
 refine ⟨vs, h1, ⟨fun _ _ => rfl, by rw [enV_flat]; omega, ao, cap, by rw [h1]; exact h3, by rw [h1]; exact h4, h5, fun q => by rw [h1]; exact h6 q, fun a ha j u hu => h7 a ha j u (by rwa [enV_flat] at hu)⟩, h8⟩
theorem dwe_fo27_0 : FieldOff Try.prog 27 0 0 := fun b o w => by simp [go_sem]
theorem dwe_ty22 : Try.prog.underlying 22 = some (.slice 33) := by kernel_rfl
theorem dwe_pl7 : Plain Try.prog 7 := fun _ _ => by kernel_rfl
theorem dwe_fo27_3 : FieldOff Try.prog 27 3 3 := fun b o w => by simp [go_sem]
theorem dwe_ty24 : Try.prog.underlying 24 = some (.slice 5) := by kernel_rfl
theorem dwe_fo27_1 : FieldOff Try.prog 27 1 1 := fun b o w => by simp [go_sem]
theorem dwe_ty23 : Try.prog.underlying 23 = some (.slice 24) := by kernel_rfl
theorem dwe_fo27_4 : FieldOff Try.prog 27 4 4 := fun b o w => by simp [go_sem]
theorem dwe_ty25 : Try.prog.underlying 25 = some (.slice 3) := by kernel_rfl
theorem dwe_pl8 : Plain Try.prog 8 := fun _ _ => by kernel_rfl
theorem dwe_szg33 : ∀ w' : World, (sizeOf 33).run Try.prog w' = .ok 6 w' := fun _ => by kernel_rfl
theorem dwe_ty33 : ∃ fs, Try.prog.underlying 33 = some (.struct fs) := struct_of (by kernel_rfl)
theorem dwe_isz33 : (Try.prog.info? 33).map (·.size) = some 6 := by kernel_rfl
theorem dwe_pl9 : Plain Try.prog 9 := fun _ _ => by kernel_rfl
theorem dwe_pl12 : Plain Try.prog 12 := fun _ _ => by kernel_rfl
theorem dwe_fo27_2 : FieldOff Try.prog 27 2 2 := fun b o w => by simp [go_sem]
theorem dwe_ty9 : Try.prog.underlying 9 = some (.string) := by kernel_rfl
theorem dwe_pl13 : Plain Try.prog 13 := fun _ _ => by kernel_rfl
theorem dwe_pl14 : Plain Try.prog 14 := fun _ _ => by kernel_rfl
theorem dwe_pl15 : Plain Try.prog 15 := fun _ _ => by kernel_rfl
theorem dwe_ty5 : Try.prog.underlying 5 = some (.int .u8) := by kernel_rfl
theorem dwe_szg24 : ∀ w' : World, (sizeOf 24).run Try.prog w' = .ok 1 w' := fun _ => by kernel_rfl
theorem dwe_pl11 : Plain Try.prog 11 := fun _ _ => by kernel_rfl
theorem dwe_pl16 : Plain Try.prog 16 := fun _ _ => by kernel_rfl
theorem dwe_pl10 : Plain Try.prog 10 := fun _ _ => by kernel_rfl
set_option maxHeartbeats 1600000
theorem diskSynced_walk (w : World) (x : KptV) (hK : KptAt w x) :
  Calls Try.prog 3 #[.agg (kptC x).toArray] w fun e w' => e = .returned (.bool true) ∧ Ext w w' := by
 obtain ⟨l, hlq⟩ : ∃ l, l = x.1.ahead := ⟨_, rfl⟩
 have hl : RG 6 xacC w x.2.ahead l := by rw [hlq]; exact hK.ahead
 have hk : ∀ u ∈ l, XactAt w u := by rw [hlq]; exact hK.acts
 have hby := hK.bytes
 have hfa := hK.fates
 obtain ⟨vs, hvl, hbh, hve⟩ := hK.behind.rg
 refine calls_of_wpF (args := [.agg (kptC x).toArray]) Try.func3 rfl 179 rfl (Nat.le_of_ble_eq_true rfl) ?_
 intro ρ0 hb
 have T0 : ρ0 0 = (.agg (kptC x).toArray : Value) := hb.get 0
 clear hb
 have hE := Ext.refl w
 refine sk fun K1 hK1 => (wt (oS rfl (Yk.box (cs := (kptC x : List Value).toArray) T0 fun n2 w3 hn4 hb5 hx6 hs7 => ?_)))
 have hE := hE.trans hx6
 have hb8 := hb5; clear hb5
 have hl9 : n2 < w3.heap.size := by omega
 refine oA rfl (oZ (tN (hK1 _ _ (sk fun K10 hK10 => (sk fun K11 hK11 => (wt (oS rfl (Yk.fieldAt dwe_fo27_0 (vr (PQ n2 0) rfl) (oS rfl (Yk.cell1 dwe_ty22 rfl (vr (PQ n2 0) rfl) (cellAt hb8 (show (kptC x)[0]? = some (x.2.ahead : Value) from kpt_g0 x)) (oS rfl (Yk.callA2 dwe_pl7 (vr x.2.ahead rfl) (vr (NI 40) rfl) ((light_any _ x.2.ahead l (hl.keep hE) (fun x hx => (hk x hx).keep hE) 40 (by decide)).mono ?_)))))))))))))
 rintro e w13 ⟨rfl, hx12⟩
 refine ⟨_, rfl, ?_⟩
 have hE := hE.trans hx12
 have hb8 := eb hx12 hb8
 refine oS rfl (Yk.notB (vr (.bool ((lightB l 40))) rfl) (oM rfl (opsF_mayV (PQ n2 3) rfl rfl (gF (vr (.bool (!((lightB l 40)))) rfl)) (fun hG14 => Yk.fieldAt dwe_fo27_3 (vr (PQ n2 0) rfl) ⟨rfl, rfl⟩) (opsF_mayV (x.2.bytes) rfl rfl (gF (vr (.bool (!((lightB l 40)))) rfl)) (fun hG15 => Yk.cell1 dwe_ty24 rfl (mayT (vr (cond (!(!((lightB l 40)))) (PQ n2 3) undef) rfl) hG15) (cellAt hb8 (show (kptC x)[3]? = some (x.2.bytes : Value) from kpt_g3 x)) ⟨rfl, rfl⟩) (opsF_mayV (NI ((x.1.bytes : List UInt8).length)) rfl rfl (gF (vr (.bool (!((lightB l 40)))) rfl)) (fun hG16 => Yk.lenRB dwe_ty24 (RB.of (hby.keep hE) (mayT (vr (cond (!(!((lightB l 40)))) (x.2.bytes) undef) rfl) hG16)) ⟨rfl, rfl⟩) (opsF_mayV (.bool (decide ((300) < ((x.1.bytes : List UInt8).length)))) rfl rfl (gF (vr (.bool (!((lightB l 40)))) rfl)) (fun hG17 => Yk.eqI (a := (((x.1.bytes : List UInt8).length : Nat) : Int)) (b := ((300 : Nat) : Int)) (mayT (vr (cond (!(!((lightB l 40)))) (NI ((x.1.bytes : List UInt8).length)) undef) rfl) hG17) (vr (NI 300) rfl) (k_gtr _ .i64 ((x.1.bytes : List UInt8).length) (300)) ⟨rfl, rfl⟩) (oS rfl (Yk.pickOrN (vr (.bool (!((lightB l 40)))) rfl) (vr (.bool (true)) rfl) (fun hA => (mayT (vr (cond (!(!((lightB l 40)))) (.bool (decide ((300) < ((x.1.bytes : List UInt8).length)))) undef) rfl) (not_i hA))) fun bb18 hbb19 => (oM rfl (opsF_mayV (PQ n2 1) rfl rfl (gF (vr (.bool (bb18)) rfl)) (fun hG20 => Yk.fieldAt dwe_fo27_1 (vr (PQ n2 0) rfl) ⟨rfl, rfl⟩) (opsF_mayV (x.2.behind) rfl rfl (gF (vr (.bool (bb18)) rfl)) (fun hG21 => Yk.cell1 dwe_ty23 rfl (mayT (vr (cond (!bb18) (PQ n2 1) undef) rfl) hG21) (cellAt hb8 (show (kptC x)[1]? = some (x.2.behind : Value) from kpt_g1 x)) ⟨rfl, rfl⟩) (opsF_mayV (NI vs.length) rfl rfl (gF (vr (.bool (bb18)) rfl)) (fun hG22 => Yk.lenRG dwe_ty23 (RG.of (hbh.keep hE) (mayT (vr (cond (!bb18) (x.2.behind) undef) rfl) hG22)) ⟨rfl, rfl⟩) (opsF_mayV (.bool (decide ((20) < (vs.length)))) rfl rfl (gF (vr (.bool (bb18)) rfl)) (fun hG23 => Yk.eqI (a := ((vs.length : Nat) : Int)) (b := ((20 : Nat) : Int)) (mayT (vr (cond (!bb18) (NI vs.length) undef) rfl) hG23) (vr (NI 20) rfl) (k_gtr _ .i64 (vs.length) (20)) ⟨rfl, rfl⟩) (oS rfl (Yk.pickOrN (vr (.bool (bb18)) rfl) (vr (.bool (true)) rfl) (fun hA => (mayT (vr (cond (!bb18) (.bool (decide ((20) < (vs.length)))) undef) rfl) (not_i hA))) fun bb24 hbb25 => (oM rfl (opsF_mayV (PQ n2 4) rfl rfl (gF (vr (.bool (bb24)) rfl)) (fun hG26 => Yk.fieldAt dwe_fo27_4 (vr (PQ n2 0) rfl) ⟨rfl, rfl⟩) (opsF_mayV (x.2.fates) rfl rfl (gF (vr (.bool (bb24)) rfl)) (fun hG27 => Yk.cell1 dwe_ty25 rfl (mayT (vr (cond (!bb24) (PQ n2 4) undef) rfl) hG27) (cellAt hb8 (show (kptC x)[4]? = some (x.2.fates : Value) from kpt_g4 x)) ⟨rfl, rfl⟩) ?_))))))))))))))))))
 refine opsF_mayV (NI ((x.1.fates).length)) rfl rfl (gF (vr (.bool (bb24)) rfl)) (fun hG28 => Yk.lenRG dwe_ty25 (RG.of (hfa.keep hE) (mayT (vr (cond (!bb24) (x.2.fates) undef) rfl) hG28)) ⟨rfl, rfl⟩) (opsF_mayV (.bool (decide ((100) < ((x.1.fates).length)))) rfl rfl (gF (vr (.bool (bb24)) rfl)) (fun hG29 => Yk.eqI (a := (((x.1.fates).length : Nat) : Int)) (b := ((100 : Nat) : Int)) (mayT (vr (cond (!bb24) (NI ((x.1.fates).length)) undef) rfl) hG29) (vr (NI 100) rfl) (k_gtr _ .i64 ((x.1.fates).length) (100)) ⟨rfl, rfl⟩) (oS rfl (Yk.pickOrN (vr (.bool (bb24)) rfl) (vr (.bool (true)) rfl) (fun hA => (mayT (vr (cond (!bb24) (.bool (decide ((100) < ((x.1.fates).length)))) undef) rfl) (not_i hA))) fun bb30 hbb31 => (oZ (tN (hK11 _ _ ?_))))))
 refine wpF_condB (bb30) (vr (.bool (bb30)) rfl) (fun hc0 => ?_) (fun hc0 => ?_)
 ·refine sk fun K32 hK32 => (wt (oA rfl (oZ (tN (hK32 _ _ (wpF_ret (thenF_ret (postF_ret (fn := Try.f3) _ rfl [.bool (true)] (.bool (true)) rfl ⟨rfl, trivial⟩ ?_))))))))
  exact ⟨rfl, hE⟩
 subst hbb19 hbb25 hbb31
 have hq := Bool.or_eq_false_iff.1 hc0
 have hq2 := Bool.or_eq_false_iff.1 hq.1
 have hq3 := Bool.or_eq_false_iff.1 hq2.1
 have hL : lightB l 40 = true := by have := hq3.1; simpa using this
 have hbl0 := of_decide_eq_false hq3.2
 have hbh0 := of_decide_eq_false hq2.2
 have hln := (lightB_get hL).1
 have hl0 : DLt (newD 1048576) := (DBd.new (by decide)).lt (by decide)
 refine wpF_skip (tN (hK10 _ _ (sk fun K33 hK33 => (wt (oS rfl (Yk.callA1 dwe_pl8 (vr (NI 1048576) rfl) ((new_g w _ hE 1048576 (by decide)).mono ?_)))))))
 rintro e w35 ⟨g1, H1, rfl, hD, hx34⟩
 refine ⟨_, rfl, ?_⟩
 have hE := hE.trans hx34
 have hb8 := eb hx34 hb8
 refine oA rfl (oZ (tN (hK33 _ _ (sk fun K36 hK36 => (sk fun K37 hK37 => (wt (oA rfl (oL_ [(0, .agg (kptC x).toArray), (1, PQ n2 0), (2, .bool (false)), (3, PQ g1 0), (4, NI 0)] ⟨T0, rfl, rfl, rfl, rfl, trivial⟩ fun ρ38 ⟨T0, T1, T2, T3, T4, _⟩ => (tN (hK37 _ _ (wpF_block (wpF_loop (fun (ρ : Slots) (wz : World) => ∃ i : Nat, ∃ Hi : Dk, ρ 0 = (.agg (kptC x).toArray : Value) ∧ ρ 1 = (PQ n2 0 : Value) ∧ ρ 2 = (.bool (false) : Value) ∧ ρ 3 = (PQ g1 0 : Value) ∧ ρ 4 = (NI i : Value) ∧ Ext w wz ∧ wz.heap[n2]? = some (.cells (kptC x).toArray 27 (0, 0)) ∧ DkG w wz g1 Hi (playN (newD 1048576) l i) ∧ (i ≤ l.length) ∧ (Bnd i (playN (newD 1048576) l i)) ∧ (InjD (playN (newD 1048576) l i).now) ∧ True) (fun ρ _ => l.length - (intOf (ρ 4)).toNat) ⟨0, H1, T0, T1, T2, T3, T4, hE, hb8, hD, Nat.zero_le _, Bnd.new, List.Pairwise.nil, trivial⟩ ?_))))))))))))
 clear hD
 clear hE hb8
 rintro ρ39 w40 ⟨i, Hi, T0, T1, T2, T3, T4, hE, hb8, hD, hi, hbn, hij, -⟩
 have q4 := T4
 refine sk fun K41 hK41 => (sk fun K42 hK42 => (wt (oM rfl (oS rfl (Yk.fieldAt dwe_fo27_0 T1 (oS rfl (Yk.cell1 dwe_ty22 rfl (vr (PQ n2 0) rfl) (cellAt hb8 (show (kptC x)[0]? = some (x.2.ahead : Value) from kpt_g0 x)) (oS rfl (Yk.lenRG dwe_ty22 (RG.of (hl.keep hE) (vr x.2.ahead rfl)) (oS rfl (Yk.eqI (a := (i : Nat)) (b := (l.length : Nat)) T4 rfl (k_lss _ _ _ _) (oZ (tN (hK42 _ _ ?_))))))))))))))
 refine wpF_cond ((i) < (l.length)) (vr (.bool (decide ((i) < (l.length)))) rfl) (fun hc1 => ?_) (fun hc1 => ?_)
 ·have hlt : i < l.length := hc1
  have hmem := getD_mem_ (d := dXac) hlt
  have hBi := DBd.play (q := 1048576) (by decide) hL (fun x hx => (hk x hx).n) hi
  have hbl := ((lightB_get hL).2 _ hmem).1
  have hbn2 : Bnd (i + 1) (playN (newD 1048576) l (i + 1)) := by rw [playN_succ hlt]; exact hbn.act hbl (hk _ hmem).n
  refine wpF_skip (tN (hK41 _ _ (sk fun K43 hK43 => (wpF_block (wt (oM rfl (oS rfl (Yk.fieldAt dwe_fo27_0 T1 (oS rfl (Yk.cell1 dwe_ty22 rfl (vr (PQ n2 0) rfl) (cellAt hb8 (show (kptC x)[0]? = some (x.2.ahead : Value) from kpt_g0 x)) (oM rfl ?_)))))))))))
  have hl46 : (xacC (l.getD (i) dXac)).length = 6 := (RG.elem (hl.keep hE) dXac (by omega))
  refine oS rfl (Yk.atRG dwe_ty22 dwe_szg33 (by decide) dXac (RG.of (hl.keep hE) (vr x.2.ahead rfl)) T4 (by omega) fun v44 hp45 => (oS rfl (Yk.loadPR (PR.of hp45 (vr v44 rfl)) (dwe_ty33).choose_spec rfl (by rw [xac_len]; exact dwe_isz33) ?_)))
  have hDc := hD
  refine oS rfl (Yk.callA2 dwe_pl9 T3 (vr (.agg (xacC (l.getD (i) dXac)).toArray) rfl) ((do_at _ _ _ _ _ hDc (l.getD (i) dXac) (hk _ hmem) (by omega) (hbn.lt (by omega))).mono ?_))
  rintro e w50 ⟨H47, rfl, hD48, hC49⟩
  refine ⟨_, rfl, ?_⟩
  have hij2 : InjD (playN (newD 1048576) l (i + 1)).now := by rw [playN_succ hlt]; exact hij.act hDc.st.ok _
  rw [← playN_succ hlt] at hD48
  have hE : Ext w w50 := hD48.ext
  have hb8 : w50.heap[n2]? = some (.cells (kptC x).toArray 27 (0, 0)) := DkG.box hDc hC49 hb8 (by decide) (by decide) (by decide) (by decide)
  clear hD
  clear hp45
  have hD := hD48
  refine oZ (bN (tN (hK43 _ _ (wt (oM rfl (oS rfl (Yk.bin (xv := NI i) (yv := NI 1) T4 rfl rfl (i64_add _ _ _ (by omega)) (oA rfl (oL_ [(0, .agg (kptC x).toArray), (1, PQ n2 0), (2, .bool (false)), (3, PQ g1 0), (4, NI ((i) + (1)))] ⟨T0, T1, T2, T3, rfl, trivial⟩ fun ρ51 ⟨T0, T1, T2, T3, T4, _⟩ => (tN (And.intro ⟨i + 1, H47, T0, T1, T2, T3, T4, hE, hb8, hD, by omega, hbn2, hij2, trivial⟩ ?_)))))))))))
  show l.length - (intOf (ρ51 4)).toNat < l.length - (intOf (ρ39 4)).toNat
  rw [T4, q4]
  simp only [intOf, Int.toNat_natCast]; omega
 have hie : i = l.length := by have h := hc1; omega
 have hDe := hD
 have hbe := hbn.mono (show i ≤ 40 by omega)
 have hije := hij
 obtain ⟨D0, hD0⟩ : ∃ D, D = playN (newD 1048576) l i := ⟨_, rfl⟩
 rw [← hD0] at hDe hbe hije
 have hD := hDe
 refine wpF_exit (thenF_exit (thenF_exit (inBlockF_hit (tN (hK36 _ _ (sk fun K52 hK52 => ?_))))))
 have hJK52 : ∀ (ρ : Slots) (wz : World), (∃ Hd : Dk, ∃ D1 : Dsk, ρ 0 = (.agg (kptC x).toArray : Value) ∧ ρ 1 = (PQ n2 0 : Value) ∧ ρ 2 = (.bool (false) : Value) ∧ ρ 3 = (PQ g1 0 : Value) ∧ ρ 4 = (NI i : Value) ∧ Ext w wz ∧ wz.heap[n2]? = some (.cells (kptC x).toArray 27 (0, 0)) ∧ DkG w wz g1 Hd D1 ∧ (D1.down = false) ∧ (Bnd 40 D1) ∧ (InjD D1.now) ∧ True) → K52 ρ wz := by
  clear hE hb8
  rintro ρ54 w55 ⟨Hd, D1, T0, T1, T2, T3, T4, hE, hb8, hD, hdd, hbd, hid, -⟩
  refine hK52 _ _ (sk fun K56 hK56 => (wt (oM rfl ?_)))
  have hDc := hD
  refine oS rfl (Yk.callA2 dwe_pl12 T3 (vr (NI 0) rfl) ((hDc.arm 0).mono ?_))
  rintro e w60 ⟨H57, rfl, hD58, hC59⟩
  refine ⟨_, rfl, ?_⟩
  change DkG w _ g1 _ { D1 with arm := 0 } at hD58
  have hb2 : Bnd 40 { D1 with arm := 0 } := hbd.disarm (by decide)
  have hok2 := hD58.st.ok
  have hu2 := hb2.used (by decide)
  have hE : Ext w w60 := hD58.ext
  have hb8 : w60.heap[n2]? = some (.cells (kptC x).toArray 27 (0, 0)) := DkG.box hDc hC59 hb8 (by decide) (by decide) (by decide) (by decide)
  clear hD
  have hD := hD58
  refine oZ ?_
  have hld : D1.down = false := hdd
  by_cases hm : mayD x.1.name = true
  ·refine tN (hK56 _ _ (sk fun K61 hK61 => (sk fun K62 hK62 => (wt (oM rfl (oS rfl (Yk.fieldAt dwe_fo27_2 T1 (oS rfl (Yk.cell1 dwe_ty9 rfl (vr (PQ n2 2) rfl) (cellAt hb8 (show (kptC x)[2]? = some (St (x.1.name) : Value) from kpt_g2 x)) (oS rfl (Yk.fieldAt dwe_fo27_3 T1 (oS rfl (Yk.cell1 dwe_ty24 rfl (vr (PQ n2 3) rfl) (cellAt hb8 (show (kptC x)[3]? = some (x.2.bytes : Value) from kpt_g3 x)) ?_)))))))))))))
   have hap : appendD { D1 with arm := 0 } x.1.name x.1.bytes = ((addD { D1 with arm := 0 } x.1.name x.1.bytes), 0) := append_ok hdd rfl hm (by omega)
   have hDc := hD
   refine oS rfl (Yk.callA3 dwe_pl13 T3 (vr (St (x.1.name)) rfl) (vr x.2.bytes rfl) ((Calls.res (hDc.append x.1.name x.2.bytes x.1.bytes (hby.keep hE) (hDc.off hK.bytes) (by omega) (hb2.lt (by decide))) (show (appendD ({ D1 with arm := 0 }) x.1.name x.1.bytes).2 = 0 from congrArg Prod.snd hap)).mono ?_))
   rintro e w66 ⟨H63, rfl, hD64, hC65⟩
   refine ⟨_, rfl, ?_⟩
   rw [hap] at hD64
   have hb3 := hb2.add x.1.name (show x.1.bytes.length ≤ 300 by omega)
   have hE : Ext w w66 := hD64.ext
   have hb8 : w66.heap[n2]? = some (.cells (kptC x).toArray 27 (0, 0)) := DkG.box hDc hC65 hb8 (by decide) (by decide) (by decide) (by decide)
   clear hD
   have hD := hD64
   refine oS rfl (Yk.eqI (a := (0 : Nat)) (b := (0 : Nat)) rfl rfl (k_neq _ _ _ _) (oM rfl (oY (d := 61) rfl rfl (vr (.bool (false)) (congrArg Value.bool (decide_eq_false (by decide)))) (Yk.move T3 (oY (d := 61) rfl rfl (vr (.bool (false)) (congrArg Value.bool (decide_eq_false (by decide)))) (Yk.fieldAt dwe_fo27_2 T1 (oY (d := 61) rfl rfl (vr (.bool (false)) (congrArg Value.bool (decide_eq_false (by decide)))) (Yk.cell1 dwe_ty9 rfl (vr (PQ n2 2) rfl) (cellAt hb8 (show (kptC x)[2]? = some (St (x.1.name) : Value) from kpt_g2 x)) ?_))))))))
   obtain ⟨k, B0, hs0, hSy0⟩ := Sy.start (D := { D1 with arm := 0 }) hdd rfl hok2 hid hm x.1.bytes
   have hDc := hD
   refine oY (d := 61) rfl rfl (vr (.bool (false)) (congrArg Value.bool (decide_eq_false (by decide)))) (Yk.callA2 dwe_pl14 (vr (PQ g1 0) rfl) (vr (St (x.1.name)) rfl) ((Calls.res (hDc.sync x.1.name (hb3.lt (by decide))) (show (syncD (addD { D1 with arm := 0 } x.1.name x.1.bytes) x.1.name).2 = 0 from hs0)).mono ?_))
   rintro e w70 ⟨H67, rfl, hD68, hC69⟩
   refine ⟨_, rfl, ?_⟩
   have hb4 : Bnd 42 _ := hb3.sync x.1.name
   obtain ⟨D4, hD4⟩ : ∃ D, D = (syncD (addD { D1 with arm := 0 } x.1.name x.1.bytes) x.1.name).1 := ⟨_, rfl⟩
   rw [← hD4] at hD68 hSy0 hb4
   have hrd0 : readD D4 x.1.name = (B0, 0) := by rw [read_ok hSy0.down hSy0.may hSy0.now, hSy0.file]
   have hE : Ext w w70 := hD68.ext
   have hb8 : w70.heap[n2]? = some (.cells (kptC x).toArray 27 (0, 0)) := DkG.box hDc hC69 hb8 (by decide) (by decide) (by decide) (by decide)
   clear hD
   have hD := hD68
   refine oY (d := 61) rfl rfl (vr (.bool (false)) (congrArg Value.bool (decide_eq_false (by decide)))) (Yk.eqI (a := (0 : Nat)) (b := (0 : Nat)) rfl rfl (k_neq _ _ _ _) (oS rfl (Yk.pickF (vr (.bool (false)) (congrArg Value.bool (decide_eq_false (by decide)))) (vr (.bool (false)) (congrArg Value.bool (decide_eq_false (by decide)))) (oZ (tN (hK62 _ _ (wpF_false (vr (.bool (false)) rfl) (wpF_skip (tN (hK61 _ _ (sk fun K71 hK71 => (wt (oM rfl (oS rfl (Yk.fieldAt dwe_fo27_2 T1 (oS rfl (Yk.cell1 dwe_ty9 rfl (vr (PQ n2 2) rfl) (cellAt hb8 (show (kptC x)[2]? = some (St (x.1.name) : Value) from kpt_g2 x)) ?_)))))))))))))))))
   have hDc := hD
   refine oS rfl (Yk.callA2 dwe_pl15 T3 (vr (St (x.1.name)) rfl) ((Calls.resR (hDc.read x.1.name (hb4.lt (by decide))) (show readD (D4) x.1.name = (B0, 0) from hrd0)).mono ?_))
   rintro e w75 ⟨v72, rfl, hr73, hx74⟩
   refine ⟨_, rfl, ?_⟩
   obtain ⟨-, aoB, cB, hvB, -⟩ := id hr73
   subst hvB
   have hE := hE.trans hx74
   have hb8 := eb hx74 hb8
   have hD := hD.keep hx74
   refine oM rfl (oS rfl (Yk.extract (vs := [.slice aoB B0.length cB, NI 0]) (vr (.tuple #[.slice aoB B0.length cB, NI 0]) rfl) (show _ = some (.slice aoB B0.length cB : Value) from rfl) (oS rfl (Yk.extract (vs := [.slice aoB B0.length cB, NI 0]) (vr (.tuple #[.slice aoB B0.length cB, NI 0]) rfl) (show _ = some (NI 0 : Value) from rfl) (oA rfl (oA rfl (oZ (tN (hK71 _ _ (sk fun K76 hK76 => (wt (oM rfl (oS rfl (Yk.convRB dwe_ty24 dwe_ty5 dwe_ty9 (RB.of hr73 (vr (.slice aoB B0.length cB) rfl)) (oA rfl (oZ (tN (hK76 _ _ (sk fun K77 hK77 => (sk fun K78 hK78 => ?_))))))))))))))))))))
   refine wt (oA rfl (oL_ [(0, .agg (kptC x).toArray), (1, PQ n2 0), (2, .bool (false)), (3, PQ g1 0), (4, NI i), (5, .slice aoB B0.length cB), (6, NI 0), (7, St (B0)), (8, NI 0), (67, .bool (false))] ⟨T0, T1, T2, T3, T4, rfl, rfl, rfl, rfl, rfl, trivial⟩ fun ρ79 ⟨T0, T1, T2, T3, T4, T5, T6, T7, T8, T67, _⟩ => (tN (hK78 _ _ (wpF_block (wpF_loop (fun (ρ : Slots) (wz : World) => ∃ j : Nat, ∃ Hj : Dk, ∃ Dj : Dsk, ∃ al : List UInt8, ρ 0 = (.agg (kptC x).toArray : Value) ∧ ρ 1 = (PQ n2 0 : Value) ∧ ρ 3 = (PQ g1 0 : Value) ∧ ρ 4 = (NI i : Value) ∧ ρ 5 = (.slice aoB B0.length cB : Value) ∧ ρ 6 = (NI 0 : Value) ∧ ρ 67 = (.bool (false) : Value) ∧ ρ 8 = (NI j : Value) ∧ ρ 7 = (St (al) : Value) ∧ Ext w wz ∧ wz.heap[n2]? = some (.cells (kptC x).toArray 27 (0, 0)) ∧ DkG w wz g1 Hj Dj ∧ (j ≤ vs.length) ∧ (Sy Dj x.1.name k B0.length al) ∧ (Bnd (42 + 2 * j) Dj) ∧ True) (fun ρ _ => vs.length - (intOf (ρ 8)).toNat) ⟨0, H67, D4, B0, T0, T1, T3, T4, T5, T6, T67, T8, T7, hE, hb8, hD, Nat.zero_le _, hSy0, hb4, trivial⟩ ?_))))))
   clear hD
   clear hr73
   clear hE hb8
   rintro ρ80 w81 ⟨j, Hj, Dj, al, T0, T1, T3, T4, T5, T6, T67, T8, T7, hE, hb8, hD, hj, hSy, hbj, -⟩
   have q8 := T8
   refine sk fun K82 hK82 => (sk fun K83 hK83 => (wt (oM rfl (oS rfl (Yk.fieldAt dwe_fo27_1 T1 (oS rfl (Yk.cell1 dwe_ty23 rfl (vr (PQ n2 1) rfl) (cellAt hb8 (show (kptC x)[1]? = some (x.2.behind : Value) from kpt_g1 x)) (oS rfl (Yk.lenRG dwe_ty23 (RG.of (hbh.keep hE) (vr x.2.behind rfl)) (oS rfl (Yk.eqI (a := (j : Nat)) (b := (vs.length : Nat)) T8 rfl (k_lss _ _ _ _) (oZ (tN (hK83 _ _ ?_))))))))))))))
   refine wpF_cond ((j) < (vs.length)) (vr (.bool (decide ((j) < (vs.length)))) rfl) (fun hc4 => ?_) (fun hc4 => ?_)
   ·have hlj : j < vs.length := hc4
    have hpj := hve j (by omega)
    have hbj20 : j < 20 := by omega
    have hal := hbj.len hSy.file
    refine wpF_skip (tN (hK82 _ _ (sk fun K84 hK84 => (wpF_block (sk fun K85 hK85 => (sk fun K86 hK86 => (wt (oS rfl (Yk.fieldAt dwe_fo27_1 T1 (oS rfl (Yk.cell1 dwe_ty23 rfl (vr (PQ n2 1) rfl) (cellAt hb8 (show (kptC x)[1]? = some (x.2.behind : Value) from kpt_g1 x)) (oM rfl ?_))))))))))))
    have hl89 : (enV (vs.getD (j) undef)).length = 1 := (RG.elem (hbh.keep hE) undef (by omega))
    refine oS rfl (Yk.atRG dwe_ty23 dwe_szg24 (by decide) undef (RG.of (hbh.keep hE) (vr x.2.behind rfl)) T8 (by omega) fun v87 hp88 => (oS rfl (Yk.loadC dwe_ty24 rfl (PR.cell (PR.of hp88 (vr v87 rfl)) (show _ = some (vs.getD (j) undef : Value) from rfl)) (oS rfl (Yk.lenRB dwe_ty24 (RB.of (hpj.keep hE) (vr (vs.getD (j) undef) rfl)) (oS rfl (Yk.eqI (a := (((x.1.behind.getD j []) : List UInt8).length : Nat)) (b := (300 : Nat)) rfl rfl (k_gtr _ _ _ _) (oZ ?_))))))))
    clear hp88
    refine tN (hK86 _ _ ?_)
    refine wpF_cond ((300) < (((x.1.behind.getD j []) : List UInt8).length)) (vr (.bool (decide ((300) < (((x.1.behind.getD j []) : List UInt8).length)))) rfl) (fun hc5 => ?_) (fun hc5 => ?_)
    ·refine sk fun K90 hK90 => (wt (oA rfl (oZ (tN (hK90 _ _ (wpF_ret (thenF_ret (inBlockF_ret (thenF_ret (thenF_ret (inBlockF_ret (thenF_ret (postF_ret (fn := Try.f3) _ rfl [.bool (true)] (.bool (true)) rfl ⟨rfl, trivial⟩ ?_)))))))))))))
     exact ⟨rfl, hE⟩
    have hpl : (x.1.behind.getD j []).length ≤ 300 := by have h := hc5; omega
    refine wpF_skip (tN (hK85 _ _ (sk fun K91 hK91 => ?_)))
    refine wpF_draw_cut 8 [Is (PQ g1 0), Is (PQ n2 2), Is (St (x.1.name)), Is (PQ n2 1), Is (x.2.behind), Is (NI j), fun x w' => PR (enV (vs.getD (j) undef)) x w', Is (vs.getD (j) undef)] (by kernel_rfl) [101, 102, 103, 104, 105, 106, 107, 108, 109] (by kernel_rfl) (by kernel_rfl) (by kernel_rfl) (by kernel_rfl) rfl rfl (si6 ⟨(fun _ _ _ h k => PR.keep h k), Stab.is _, trivial⟩) ?hs2020 ?hQ2020
    case hs2020 =>
     refine ⟨?_, ?_, ?_, ?_, ?_, ?_, ?_, ?_, ?_, trivial⟩
     ·refine stepFC (stepN rfl fun σ w1 hC h => ?_)
      have e3 := (eqo (h 3 (by decide))).trans T3
      exact Yk.move e3 ⟨Ext.refl _, rfl⟩
     ·refine stepFC (stepN rfl fun σ w1 hC h => ?_)
      have e1 := (eqo (h 1 (by decide))).trans T1
      exact Yk.fieldAt dwe_fo27_2 e1 ⟨Ext.refl _, rfl⟩
     ·refine stepFC (stepN rfl fun σ w1 hC h => ?_)
      have e102 := eqo (h 102 (by decide))
      exact Yk.cell1 dwe_ty9 rfl e102 (cellAt (eb hC hb8) (show (kptC x)[2]? = some (St (x.1.name) : Value) from kpt_g2 x)) ⟨Ext.refl _, rfl⟩
     ·refine stepFC (stepN rfl fun σ w1 hC h => ?_)
      have e1 := (eqo (h 1 (by decide))).trans T1
      exact Yk.fieldAt dwe_fo27_1 e1 ⟨Ext.refl _, rfl⟩
     ·refine stepFC (stepN rfl fun σ w1 hC h => ?_)
      have e104 := eqo (h 104 (by decide))
      exact Yk.cell1 dwe_ty23 rfl e104 (cellAt (eb hC hb8) (show (kptC x)[1]? = some (x.2.behind : Value) from kpt_g1 x)) ⟨Ext.refl _, rfl⟩
     ·refine stepFC (stepN rfl fun σ w1 hC h => ?_)
      have e8 := (eqo (h 8 (by decide))).trans T8
      exact Yk.move e8 ⟨Ext.refl _, rfl⟩
     ·refine stepFC (stepN rfl fun σ w1 hC h => ?_)
      have e105 := eqo (h 105 (by decide))
      have e106 := eqo (h 106 (by decide))
      exact Yk.atRG dwe_ty23 dwe_szg24 (by decide) undef (RG.of (hbh.keep (hE.trans hC)) e105) e106 (by omega) fun v h => ⟨Ext.refl _, h⟩
     ·refine stepFC (stepN rfl fun σ w1 hC h => ?_)
      have e107 : (fun x w' => PR (enV (vs.getD (j) undef)) x w') (σ 107) w1 := h 107 (by decide)
      exact Yk.loadC dwe_ty24 rfl (PR.cell e107 (show _ = some (vs.getD (j) undef : Value) from rfl)) ⟨Ext.refl _, rfl⟩
     ·exact trivial
    intro ρ92 w93 hx94 he hf
    obtain ⟨k101, -, k103, -, -, -, -, k108, -⟩ := hf
    obtain ⟨T0, T1, T3, T4, T5, T6, T7, T8, T67, -⟩ := he.hold [(0, _), (1, _), (3, _), (4, _), (5, _), (6, _), (7, _), (8, _), (67, _)] ⟨T0, T1, T3, T4, T5, T6, T7, T8, T67, trivial⟩ rfl
    clear he
    have hE := hE.trans hx94
    have hb8 := eb hx94 hb8
    have hD := hD.keep hx94
    have T101 : ρ92 101 = PQ g1 0 := k101
    have T103 : ρ92 103 = St (x.1.name) := k103
    have T108 : ρ92 108 = vs.getD (j) undef := k108
    clear k101 k103 k108
    have hu := hbj.used (by omega)
    have hap : appendD Dj x.1.name (x.1.behind.getD j []) = (addD Dj x.1.name (x.1.behind.getD j []), 0) := append_ok hSy.down hSy.arm hSy.may (by omega)
    have hDc := hD
    refine oS rfl (Yk.callA3 dwe_pl13 T101 T103 T108 ((Calls.res (hDc.append x.1.name (vs.getD (j) undef) (x.1.behind.getD j []) (hpj.keep hE) (hDc.off hpj) (by omega) (hbj.lt (by omega))) (show (appendD (Dj) x.1.name (x.1.behind.getD j [])).2 = 0 from congrArg Prod.snd hap)).mono ?_))
    rintro e w98 ⟨H95, rfl, hD96, hC97⟩
    refine ⟨_, rfl, ?_⟩
    rw [hap] at hD96
    have hSy1 := hSy.same (x.1.behind.getD j [])
    have hbk := hbj.add x.1.name (show (x.1.behind.getD j []).length ≤ 300 by omega)
    have hE : Ext w w98 := hD96.ext
    have hb8 : w98.heap[n2]? = some (.cells (kptC x).toArray 27 (0, 0)) := DkG.box hDc hC97 hb8 (by decide) (by decide) (by decide) (by decide)
    clear hD
    have hD := hD96
    refine oZ ?_
    by_cases hsb : x.1.name = [98, 101, 115, 105, 100, 101]
    ·refine tN (hK91 _ _ (sk fun K99 hK99 => (wt (oM rfl (oS rfl (Yk.fieldAt dwe_fo27_1 T1 (oS rfl (Yk.cell1 dwe_ty23 rfl (vr (PQ n2 1) rfl) (cellAt hb8 (show (kptC x)[1]? = some (x.2.behind : Value) from kpt_g1 x)) (oM rfl ?_)))))))))
     have hl102 : (enV (vs.getD (j) undef)).length = 1 := (RG.elem (hbh.keep hE) undef (by omega))
     refine oS rfl (Yk.atRG dwe_ty23 dwe_szg24 (by decide) undef (RG.of (hbh.keep hE) (vr x.2.behind rfl)) T8 (by omega) fun v100 hp101 => (oS rfl (Yk.loadC dwe_ty24 rfl (PR.cell (PR.of hp101 (vr v100 rfl)) (show _ = some (vs.getD (j) undef : Value) from rfl)) ?_)))
     have hu1 := hbk.used (by omega)
     have hap1 : appendD (addD Dj x.1.name (x.1.behind.getD j [])) [98, 101, 115, 105, 100, 101] (x.1.behind.getD j []) = (addD (addD Dj x.1.name (x.1.behind.getD j [])) [98, 101, 115, 105, 100, 101] (x.1.behind.getD j []), 0) := append_ok hSy1.down hSy1.arm (by decide) (by omega)
     have hDc := hD
     refine oS rfl (Yk.callA3 dwe_pl13 T3 (vr (St (([98, 101, 115, 105, 100, 101] : List UInt8))) rfl) (vr (vs.getD (j) undef) rfl) ((Calls.res (hDc.append [98, 101, 115, 105, 100, 101] (vs.getD (j) undef) (x.1.behind.getD j []) (hpj.keep hE) (hDc.off hpj) (by omega) (hbk.lt (by omega))) (show (appendD ((addD Dj x.1.name (x.1.behind.getD j []))) [98, 101, 115, 105, 100, 101] (x.1.behind.getD j [])).2 = 0 from congrArg Prod.snd hap1)).mono ?_))
     rintro e w106 ⟨H103, rfl, hD104, hC105⟩
     refine ⟨_, rfl, ?_⟩
     rw [hap1] at hD104
     have hbk2 := hbk.add [98, 101, 115, 105, 100, 101] (show (x.1.behind.getD j []).length ≤ 300 by omega)
     have hSy2 : Sy (addD (addD Dj x.1.name (x.1.behind.getD j [])) [98, 101, 115, 105, 100, 101] (x.1.behind.getD j [])) x.1.name k B0.length ((al ++ (x.1.behind.getD j [])) ++ (x.1.behind.getD j [])) := by have h := hSy1.same (x.1.behind.getD j []); rw [hsb] at h ⊢; exact h
     have hE : Ext w w106 := hD104.ext
     have hb8 : w106.heap[n2]? = some (.cells (kptC x).toArray 27 (0, 0)) := DkG.box hDc hC105 hb8 (by decide) (by decide) (by decide) (by decide)
     clear hD
     clear hp101
     have hD := hD104
     refine oZ (tN (hK99 _ _ (sk fun K107 hK107 => (sk fun K108 hK108 => (wt (oS rfl (Yk.fieldAt dwe_fo27_2 T1 (oS rfl (Yk.cell1 dwe_ty9 rfl (vr (PQ n2 2) rfl) (cellAt hb8 (show (kptC x)[2]? = some (St (x.1.name) : Value) from kpt_g2 x)) (oS rfl (Yk.eqSt (l := x.1.name) (m := ([98, 101, 115, 105, 100, 101] : List UInt8)) (.inl rfl) (vr (St (x.1.name)) rfl) (vr (St (([98, 101, 115, 105, 100, 101] : List UInt8))) rfl) (decide ((x.1.name : List UInt8) = (([98, 101, 115, 105, 100, 101] : List UInt8) : List UInt8))) rfl (oZ (tN (hK108 _ _ (wpF_true (vr (.bool (true)) (congrArg Value.bool (decide_eq_true (hsb)))) (wt (oM rfl (oS rfl (Yk.fieldAt dwe_fo27_1 T1 (oS rfl (Yk.cell1 dwe_ty23 rfl (vr (PQ n2 1) rfl) (cellAt hb8 (show (kptC x)[1]? = some (x.2.behind : Value) from kpt_g1 x)) (oM rfl ?_))))))))))))))))))))))
     have hl111 : (enV (vs.getD (j) undef)).length = 1 := (RG.elem (hbh.keep hE) undef (by omega))
     refine oS rfl (Yk.atRG dwe_ty23 dwe_szg24 (by decide) undef (RG.of (hbh.keep hE) (vr x.2.behind rfl)) T8 (by omega) fun v109 hp110 => (oS rfl (Yk.loadC dwe_ty24 rfl (PR.cell (PR.of hp110 (vr v109 rfl)) (show _ = some (vs.getD (j) undef : Value) from rfl)) (oS rfl (Yk.convRB dwe_ty24 dwe_ty5 dwe_ty9 (RB.of (hpj.keep hE) (vr (vs.getD (j) undef) rfl)) (oS rfl (Yk.catSt (l := al) (m := (x.1.behind.getD j [])) T7 (vr (St ((x.1.behind.getD j []))) rfl) (by omega) (oA rfl (oZ ?_)))))))))
     clear hp110
     refine tN (hK107 _ _ (wt (oM rfl (oS rfl (Yk.fieldAt dwe_fo27_1 T1 (oS rfl (Yk.cell1 dwe_ty23 rfl (vr (PQ n2 1) rfl) (cellAt hb8 (show (kptC x)[1]? = some (x.2.behind : Value) from kpt_g1 x)) (oM rfl ?_))))))))
     have hl114 : (enV (vs.getD (j) undef)).length = 1 := (RG.elem (hbh.keep hE) undef (by omega))
     refine oS rfl (Yk.atRG dwe_ty23 dwe_szg24 (by decide) undef (RG.of (hbh.keep hE) (vr x.2.behind rfl)) T8 (by omega) fun v112 hp113 => (oS rfl (Yk.loadC dwe_ty24 rfl (PR.cell (PR.of hp113 (vr v112 rfl)) (show _ = some (vs.getD (j) undef : Value) from rfl)) (oS rfl (Yk.convRB dwe_ty24 dwe_ty5 dwe_ty9 (RB.of (hpj.keep hE) (vr (vs.getD (j) undef) rfl)) (oS rfl (Yk.catSt (l := al ++ ((x.1.behind.getD j []) : List UInt8)) (m := (x.1.behind.getD j [])) (vr (St (al ++ ((x.1.behind.getD j []) : List UInt8))) rfl) (vr (St ((x.1.behind.getD j []))) rfl) (by first | omega | (simp only [List.length_append]; omega)) (oA rfl (oZ ?_)))))))))
     clear hp113
     refine bN (tN (hK84 _ _ (wt (oM rfl (oS rfl (Yk.bin (xv := NI j) (yv := NI 1) T8 rfl rfl (i64_add _ _ _ (by omega)) (oA rfl (oL_ [(0, .agg (kptC x).toArray), (1, PQ n2 0), (3, PQ g1 0), (4, NI i), (5, .slice aoB B0.length cB), (6, NI 0), (7, St ((al ++ ((x.1.behind.getD j []) : List UInt8) : List UInt8) ++ ((x.1.behind.getD j []) : List UInt8))), (8, NI ((j) + (1))), (67, .bool (false)), (119, .bool (true))] ⟨T0, T1, T3, T4, T5, T6, rfl, rfl, T67, (congrArg Value.bool (decide_eq_true (hsb))), trivial⟩ fun ρ115 ⟨T0, T1, T3, T4, T5, T6, T7, T8, T67, T119, _⟩ => (tN (And.intro ⟨j + 1, H103, (addD (addD Dj x.1.name (x.1.behind.getD j [])) [98, 101, 115, 105, 100, 101] (x.1.behind.getD j [])), ((al ++ (x.1.behind.getD j [])) ++ (x.1.behind.getD j [])), T0, T1, T3, T4, T5, T6, T67, T8, T7, hE, hb8, hD, by omega, hSy2, hbk2, trivial⟩ ?_))))))))))
     show vs.length - (intOf (ρ115 8)).toNat < vs.length - (intOf (ρ80 8)).toNat
     rw [T8, q8]
     simp only [intOf, Int.toNat_natCast]; omega
    refine tN (hK91 _ _ (sk fun K116 hK116 => (wt (oM rfl (oS rfl (Yk.fieldAt dwe_fo27_1 T1 (oS rfl (Yk.cell1 dwe_ty23 rfl (vr (PQ n2 1) rfl) (cellAt hb8 (show (kptC x)[1]? = some (x.2.behind : Value) from kpt_g1 x)) (oM rfl ?_)))))))))
    have hl119 : (enV (vs.getD (j) undef)).length = 1 := (RG.elem (hbh.keep hE) undef (by omega))
    refine oS rfl (Yk.atRG dwe_ty23 dwe_szg24 (by decide) undef (RG.of (hbh.keep hE) (vr x.2.behind rfl)) T8 (by omega) fun v117 hp118 => (oS rfl (Yk.loadC dwe_ty24 rfl (PR.cell (PR.of hp118 (vr v117 rfl)) (show _ = some (vs.getD (j) undef : Value) from rfl)) ?_)))
    have hu1 := hbk.used (by omega)
    have hap1 : appendD (addD Dj x.1.name (x.1.behind.getD j [])) [98, 101, 115, 105, 100, 101] (x.1.behind.getD j []) = (addD (addD Dj x.1.name (x.1.behind.getD j [])) [98, 101, 115, 105, 100, 101] (x.1.behind.getD j []), 0) := append_ok hSy1.down hSy1.arm (by decide) (by omega)
    have hDc := hD
    refine oS rfl (Yk.callA3 dwe_pl13 T3 (vr (St (([98, 101, 115, 105, 100, 101] : List UInt8))) rfl) (vr (vs.getD (j) undef) rfl) ((Calls.res (hDc.append [98, 101, 115, 105, 100, 101] (vs.getD (j) undef) (x.1.behind.getD j []) (hpj.keep hE) (hDc.off hpj) (by omega) (hbk.lt (by omega))) (show (appendD ((addD Dj x.1.name (x.1.behind.getD j []))) [98, 101, 115, 105, 100, 101] (x.1.behind.getD j [])).2 = 0 from congrArg Prod.snd hap1)).mono ?_))
    rintro e w123 ⟨H120, rfl, hD121, hC122⟩
    refine ⟨_, rfl, ?_⟩
    rw [hap1] at hD121
    have hbk2 := hbk.add [98, 101, 115, 105, 100, 101] (show (x.1.behind.getD j []).length ≤ 300 by omega)
    have hSy2 : Sy (addD (addD Dj x.1.name (x.1.behind.getD j [])) [98, 101, 115, 105, 100, 101] (x.1.behind.getD j [])) x.1.name k B0.length (al ++ (x.1.behind.getD j [])) := hSy1.other (fun q => hsb q.symm) (by decide) (x.1.behind.getD j [])
    have hE : Ext w w123 := hD121.ext
    have hb8 : w123.heap[n2]? = some (.cells (kptC x).toArray 27 (0, 0)) := DkG.box hDc hC122 hb8 (by decide) (by decide) (by decide) (by decide)
    clear hD
    clear hp118
    have hD := hD121
    refine oZ (tN (hK116 _ _ (sk fun K124 hK124 => (sk fun K125 hK125 => (wt (oS rfl (Yk.fieldAt dwe_fo27_2 T1 (oS rfl (Yk.cell1 dwe_ty9 rfl (vr (PQ n2 2) rfl) (cellAt hb8 (show (kptC x)[2]? = some (St (x.1.name) : Value) from kpt_g2 x)) (oS rfl (Yk.eqSt (l := x.1.name) (m := ([98, 101, 115, 105, 100, 101] : List UInt8)) (.inl rfl) (vr (St (x.1.name)) rfl) (vr (St (([98, 101, 115, 105, 100, 101] : List UInt8))) rfl) (decide ((x.1.name : List UInt8) = (([98, 101, 115, 105, 100, 101] : List UInt8) : List UInt8))) rfl (oZ (tN (hK125 _ _ (wpF_false (vr (.bool (false)) (congrArg Value.bool (decide_eq_false (hsb)))) (wpF_skip (tN (hK124 _ _ (wt (oM rfl (oS rfl (Yk.fieldAt dwe_fo27_1 T1 ?_))))))))))))))))))))))
    refine oS rfl (Yk.cell1 dwe_ty23 rfl (vr (PQ n2 1) rfl) (cellAt hb8 (show (kptC x)[1]? = some (x.2.behind : Value) from kpt_g1 x)) (oM rfl ?_))
    have hl128 : (enV (vs.getD (j) undef)).length = 1 := (RG.elem (hbh.keep hE) undef (by omega))
    refine oS rfl (Yk.atRG dwe_ty23 dwe_szg24 (by decide) undef (RG.of (hbh.keep hE) (vr x.2.behind rfl)) T8 (by omega) fun v126 hp127 => (oS rfl (Yk.loadC dwe_ty24 rfl (PR.cell (PR.of hp127 (vr v126 rfl)) (show _ = some (vs.getD (j) undef : Value) from rfl)) (oS rfl (Yk.convRB dwe_ty24 dwe_ty5 dwe_ty9 (RB.of (hpj.keep hE) (vr (vs.getD (j) undef) rfl)) (oS rfl (Yk.catSt (l := al) (m := (x.1.behind.getD j [])) T7 (vr (St ((x.1.behind.getD j []))) rfl) (by first | omega | (simp only [List.length_append]; omega)) (oA rfl (oZ ?_)))))))))
    clear hp127
    refine bN (tN (hK84 _ _ (wt (oM rfl (oS rfl (Yk.bin (xv := NI j) (yv := NI 1) T8 rfl rfl (i64_add _ _ _ (by omega)) (oA rfl (oL_ [(0, .agg (kptC x).toArray), (1, PQ n2 0), (3, PQ g1 0), (4, NI i), (5, .slice aoB B0.length cB), (6, NI 0), (7, St (al ++ ((x.1.behind.getD j []) : List UInt8))), (8, NI ((j) + (1))), (67, .bool (false)), (119, .bool (false))] ⟨T0, T1, T3, T4, T5, T6, rfl, rfl, T67, (congrArg Value.bool (decide_eq_false (hsb))), trivial⟩ fun ρ129 ⟨T0, T1, T3, T4, T5, T6, T7, T8, T67, T119, _⟩ => (tN (And.intro ⟨j + 1, H120, (addD (addD Dj x.1.name (x.1.behind.getD j [])) [98, 101, 115, 105, 100, 101] (x.1.behind.getD j [])), (al ++ (x.1.behind.getD j [])), T0, T1, T3, T4, T5, T6, T67, T8, T7, hE, hb8, hD, by omega, hSy2, hbk2, trivial⟩ ?_))))))))))
    show vs.length - (intOf (ρ129 8)).toNat < vs.length - (intOf (ρ80 8)).toNat
    rw [T8, q8]
    simp only [intOf, Int.toNat_natCast]; omega
   have hje : j = vs.length := by have h := hc4; omega
   have hj20 : j ≤ 20 := by omega
   have hal := hbj.len hSy.file
   refine wpF_exit (thenF_exit (thenF_exit (inBlockF_hit (tN (hK77 _ _ (sk fun K130 hK130 => (wt (oM rfl (oS rfl (Yk.fieldAt dwe_fo27_4 T1 (oS rfl (Yk.cell1 dwe_ty25 rfl (vr (PQ n2 4) rfl) (cellAt hb8 (show (kptC x)[4]? = some (x.2.fates : Value) from kpt_g4 x)) ?_))))))))))))
   have hDc := hD
   refine oS rfl (Yk.callA2 dwe_pl11 T3 (vr x.2.fates rfl) ((hDc.crash x.2.fates x.1.fates (hfa.keep hE) (hbj.lt (by omega))).mono ?_))
   rintro e w134 ⟨H131, rfl, hD132, hC133⟩
   refine ⟨_, rfl, ?_⟩
   have hb5 := hbj.crash x.1.fates
   obtain ⟨n, hn1, hn2, hrd⟩ := hSy.crash x.1.fates
   have hE : Ext w w134 := hD132.ext
   have hb8 : w134.heap[n2]? = some (.cells (kptC x).toArray 27 (0, 0)) := DkG.box hDc hC133 hb8 (by decide) (by decide) (by decide) (by decide)
   clear hD
   have hD := hD132
   refine oZ (tN (hK130 _ _ (sk fun K135 hK135 => (wt (oM rfl (oS rfl (Yk.fieldAt dwe_fo27_2 T1 (oS rfl (Yk.cell1 dwe_ty9 rfl (vr (PQ n2 2) rfl) (cellAt hb8 (show (kptC x)[2]? = some (St (x.1.name) : Value) from kpt_g2 x)) ?_)))))))))
   have hDc := hD
   refine oS rfl (Yk.callA2 dwe_pl15 T3 (vr (St (x.1.name)) rfl) ((Calls.resR (hDc.read x.1.name (hb5.lt (by omega))) (show readD (crashD Dj x.1.fates) x.1.name = ((al.take n), 0) from hrd)).mono ?_))
   rintro e w139 ⟨v136, rfl, hr137, hx138⟩
   refine ⟨_, rfl, ?_⟩
   have hE := hE.trans hx138
   have hb8 := eb hx138 hb8
   have hD := hD.keep hx138
   refine oM rfl (oS rfl (Yk.extract (vs := [v136, NI 0]) (vr (.tuple #[v136, NI 0]) rfl) (show _ = some (v136 : Value) from rfl) (oS rfl (Yk.extract (vs := [v136, NI 0]) (vr (.tuple #[v136, NI 0]) rfl) (show _ = some (NI 0 : Value) from rfl) (oA rfl (oA rfl (oZ (tN (hK135 _ _ (sk fun K140 hK140 => ?_))))))))))
   refine wpF_draw [Is (NI 0), Is (.bool (true)), Is (.bool (true)), Is (NI 0), Is (.bool (true)), Is (.bool (true)), Is (.bool (true)), Is (v136), Is (NI (((al.take n) : List UInt8).length)), Is (.slice aoB B0.length cB), Is (NI B0.length), Is (.bool (true)), Is (.bool (true)), Is (.bool (true)), Is (v136), Is (NI (((al.take n) : List UInt8).length)), Is (St (al)), Is (NI al.length), Is (.bool (true)), Is (.bool (true)), Is (.bool (true)), Is (St (al)), Is (v136), Is (NI (((al.take n) : List UInt8).length)), Is (St ((al.drop (0)).take ((((al.take n) : List UInt8).length) - (0)))), Is (v136), Is (St ((al.take n))), Is (.bool (true)), Is (.bool (true)), Is (.bool (true)), Is (.bool (true)), Is (.bool (true)), Is (.bool (true))] (by kernel_rfl) [147, 148, 149, 150, 151, 152, 153, 154, 155, 156, 157, 158, 159, 160, 161, 162, 163, 164, 165, 166, 167, 168, 169, 170, 171, 172, 173, 174, 175, 176, 177, 178, 2] (by kernel_rfl) (by kernel_rfl) (si9 (si12 (si12 trivial))) ?hs3027 ?hQ3027
   case hs3027 =>
    refine ⟨?_, ?_, ?_, ?_, ?_, ?_, ?_, ?_, ?_, ?_, ?_, ?_, ?_, ?_, ?_, ?_, ?_, ?_, ?_, ?_, ?_, ?_, ?_, ?_, ?_, ?_, ?_, ?_, ?_, ?_, ?_, ?_, ?_, trivial⟩
    ·refine stepN rfl fun σ w1 hC h => ?_
     have e6 := (eqo (h 6 (by decide))).trans T6
     exact Yk.move e6 ⟨Ext.refl _, rfl⟩
    ·refine stepN rfl fun σ w1 hC h => ?_
     have e147 := eqo (h 147 (by decide))
     exact Yk.eqI (a := (0 : Nat)) (b := (0 : Nat)) e147 rfl (k_eql _ _ _ _) ⟨Ext.refl _, (congrArg Value.bool (decide_eq_true (rfl)))⟩
    ·refine stepN rfl fun σ w1 hC h => ?_
     have e148 := eqo (h 148 (by decide))
     exact Yk.move e148 ⟨Ext.refl _, rfl⟩
    ·refine stepY 2 true 149 rfl rfl (fun _ _ h => h) fun σ w1 hC h => ?_
     have e10 : σ 10 = NI 0 := (eqo (h 10 (by decide))).trans rfl
     exact Yk.move e10 ⟨Ext.refl _, rfl⟩
    ·refine stepY 2 true 149 rfl rfl (fun _ _ h => h) fun σ w1 hC h => ?_
     have e150 := eqo (h 150 (by decide))
     exact Yk.eqI (a := (0 : Nat)) (b := (0 : Nat)) e150 rfl (k_eql _ _ _ _) ⟨Ext.refl _, (congrArg Value.bool (decide_eq_true (rfl)))⟩
    ·refine stepN rfl fun σ w1 hC h => ?_
     have e149 := eqo (h 149 (by decide))
     have e151 := eqo (h 151 (by decide))
     exact Yk.pickT e149 e151 ⟨Ext.refl _, rfl⟩
    ·refine stepN rfl fun σ w1 hC h => ?_
     have e152 := eqo (h 152 (by decide))
     exact Yk.move e152 ⟨Ext.refl _, rfl⟩
    ·refine stepY 6 true 153 rfl rfl (fun _ _ h => h) fun σ w1 hC h => ?_
     have e9 : σ 9 = v136 := (eqo (h 9 (by decide))).trans rfl
     exact Yk.move e9 ⟨Ext.refl _, rfl⟩
    ·refine stepY 6 true 153 rfl rfl (fun _ _ h => h) fun σ w1 hC h => ?_
     have e154 := eqo (h 154 (by decide))
     exact Yk.lenRB dwe_ty24 (RB.of (hr137.keep hC) e154) ⟨Ext.refl _, rfl⟩
    ·refine stepY 6 true 153 rfl rfl (fun _ _ h => h) fun σ w1 hC h => ?_
     have e5 := (eqo (h 5 (by decide))).trans T5
     exact Yk.move e5 ⟨Ext.refl _, rfl⟩
    ·refine stepY 6 true 153 rfl rfl (fun _ _ h => h) fun σ w1 hC h => ?_
     have e156 := eqo (h 156 (by decide))
     exact Yk.lenSl dwe_ty24 e156 ⟨Ext.refl _, rfl⟩
    ·refine stepY 6 true 153 rfl rfl (fun _ _ h => h) fun σ w1 hC h => ?_
     have e155 := eqo (h 155 (by decide))
     have e157 := eqo (h 157 (by decide))
     exact Yk.eqI (a := (((al.take n) : List UInt8).length : Nat)) (b := (B0.length : Nat)) e155 e157 (k_geq _ _ _ _) ⟨Ext.refl _, (congrArg Value.bool (decide_eq_true (by rw [List.length_take]; omega)))⟩
    ·refine stepN rfl fun σ w1 hC h => ?_
     have e153 := eqo (h 153 (by decide))
     have e158 := eqo (h 158 (by decide))
     exact Yk.pickT e153 e158 ⟨Ext.refl _, rfl⟩
    ·refine stepN rfl fun σ w1 hC h => ?_
     have e159 := eqo (h 159 (by decide))
     exact Yk.move e159 ⟨Ext.refl _, rfl⟩
    ·refine stepY 13 true 160 rfl rfl (fun _ _ h => h) fun σ w1 hC h => ?_
     have e9 : σ 9 = v136 := (eqo (h 9 (by decide))).trans rfl
     exact Yk.move e9 ⟨Ext.refl _, rfl⟩
    ·refine stepY 13 true 160 rfl rfl (fun _ _ h => h) fun σ w1 hC h => ?_
     have e161 := eqo (h 161 (by decide))
     exact Yk.lenRB dwe_ty24 (RB.of (hr137.keep hC) e161) ⟨Ext.refl _, rfl⟩
    ·refine stepY 13 true 160 rfl rfl (fun _ _ h => h) fun σ w1 hC h => ?_
     have e7 := (eqo (h 7 (by decide))).trans T7
     exact Yk.move e7 ⟨Ext.refl _, rfl⟩
    ·refine stepY 13 true 160 rfl rfl (fun _ _ h => h) fun σ w1 hC h => ?_
     have e163 := eqo (h 163 (by decide))
     exact Yk.lenSt (l := al) dwe_ty9 e163 ⟨Ext.refl _, rfl⟩
    ·refine stepY 13 true 160 rfl rfl (fun _ _ h => h) fun σ w1 hC h => ?_
     have e162 := eqo (h 162 (by decide))
     have e164 := eqo (h 164 (by decide))
     exact Yk.eqI (a := (((al.take n) : List UInt8).length : Nat)) (b := (al.length : Nat)) e162 e164 (k_leq _ _ _ _) ⟨Ext.refl _, (congrArg Value.bool (decide_eq_true (by rw [List.length_take]; omega)))⟩
    ·refine stepN rfl fun σ w1 hC h => ?_
     have e160 := eqo (h 160 (by decide))
     have e165 := eqo (h 165 (by decide))
     exact Yk.pickT e160 e165 ⟨Ext.refl _, rfl⟩
    ·refine stepN rfl fun σ w1 hC h => ?_
     have e166 := eqo (h 166 (by decide))
     exact Yk.move e166 ⟨Ext.refl _, rfl⟩
    ·refine stepY 20 true 167 rfl rfl (fun _ _ h => h) fun σ w1 hC h => ?_
     have e7 := (eqo (h 7 (by decide))).trans T7
     exact Yk.move e7 ⟨Ext.refl _, rfl⟩
    ·refine stepY 20 true 167 rfl rfl (fun _ _ h => h) fun σ w1 hC h => ?_
     have e9 : σ 9 = v136 := (eqo (h 9 (by decide))).trans rfl
     exact Yk.move e9 ⟨Ext.refl _, rfl⟩
    ·refine stepY 20 true 167 rfl rfl (fun _ _ h => h) fun σ w1 hC h => ?_
     have e169 := eqo (h 169 (by decide))
     exact Yk.lenRB dwe_ty24 (RB.of (hr137.keep hC) e169) ⟨Ext.refl _, rfl⟩
    ·refine stepY 20 true 167 rfl rfl (fun _ _ h => h) fun σ w1 hC h => ?_
     have e168 := eqo (h 168 (by decide))
     have e170 := eqo (h 170 (by decide))
     exact Yk.sliceSt (l := al) dwe_ty9 (0) (((al.take n) : List UInt8).length) e168 (.inl ⟨rfl, rfl⟩) (.inr ⟨.i64, congrArg some e170⟩) (by first | omega | (rw [List.length_take]; omega)) (by first | omega | (rw [List.length_take]; omega)) ⟨Ext.refl _, rfl⟩
    ·refine stepY 20 true 167 rfl rfl (fun _ _ h => h) fun σ w1 hC h => ?_
     have e9 : σ 9 = v136 := (eqo (h 9 (by decide))).trans rfl
     exact Yk.move e9 ⟨Ext.refl _, rfl⟩
    ·refine stepY 20 true 167 rfl rfl (fun _ _ h => h) fun σ w1 hC h => ?_
     have e172 := eqo (h 172 (by decide))
     exact Yk.convRB dwe_ty24 dwe_ty5 dwe_ty9 (RB.of (hr137.keep hC) e172) ⟨Ext.refl _, rfl⟩
    ·refine stepY 20 true 167 rfl rfl (fun _ _ h => h) fun σ w1 hC h => ?_
     have e171 := eqo (h 171 (by decide))
     have e173 := eqo (h 173 (by decide))
     exact Yk.eqSt (l := (al.drop (0)).take ((((al.take n) : List UInt8).length) - (0))) (m := (al.take n)) (.inl rfl) e171 e173 (decide ((al.drop (0)).take ((((al.take n) : List UInt8).length) - (0)) = ((al.take n) : List UInt8))) rfl ⟨Ext.refl _, (congrArg Value.bool (decide_eq_true (by rw [List.drop_zero, Nat.sub_zero, List.length_take, Nat.min_eq_left hn2])))⟩
    ·refine stepN rfl fun σ w1 hC h => ?_
     have e167 := eqo (h 167 (by decide))
     have e174 := eqo (h 174 (by decide))
     exact Yk.pickT e167 e174 ⟨Ext.refl _, rfl⟩
    ·refine stepN rfl fun σ w1 hC h => ?_
     have e175 := eqo (h 175 (by decide))
     exact Yk.move e175 ⟨Ext.refl _, rfl⟩
    ·refine stepY 29 true 176 rfl rfl (fun _ _ h => h) fun σ w1 hC h => (Yk.callA0 dwe_pl16  ((awake06 _).mono ?_))
     rintro e w2 ⟨rfl, hx⟩
     exact ⟨_, rfl, hx, rfl⟩
    ·refine stepN rfl fun σ w1 hC h => ?_
     have e176 := eqo (h 176 (by decide))
     have e177 := eqo (h 177 (by decide))
     exact Yk.pickT e176 e177 ⟨Ext.refl _, rfl⟩
    ·refine stepN rfl fun σ w1 hC h => ?_
     have e178 := eqo (h 178 (by decide))
     exact Yk.assign e178 ⟨Ext.refl _, rfl⟩
   intro ρ141 w142 hx143 he hf
   obtain ⟨-, -, -, -, -, -, -, -, -, -, -, -, -, -, -, -, -, -, -, -, -, -, -, -, -, -, -, -, -, -, -, -, k2, -⟩ := hf
   obtain ⟨T0, T1, T3, T4, T5, T6, T7, T8, T9, T10, T67, -⟩ := he.hold [(0, _), (1, _), (3, _), (4, _), (5, _), (6, _), (7, _), (8, _), (9, v136), (10, NI 0), (67, _)] ⟨T0, T1, T3, T4, T5, T6, T7, T8, rfl, rfl, T67, trivial⟩ rfl
   clear he
   have hE := hE.trans hx143
   have hb8 := eb hx143 hb8
   have hD := hD.keep hx143
   have hr137 := hr137.keep hx143
   have T2 : ρ141 2 = .bool (true) := k2
   clear k2
   refine tN (hK140 _ _ (wpF_ret (postF_ret (fn := Try.f3) _ rfl [.bool (true)] (.bool (true)) rfl ⟨T2, trivial⟩ ?_)))
   exact ⟨rfl, hE⟩
  have hm : mayD x.1.name = false := Bool.eq_false_iff.2 hm
  by_cases hlen : x.1.name.length < 1
  ·refine tN (hK56 _ _ (sk fun K144 hK144 => (sk fun K145 hK145 => (wt (oM rfl (oS rfl (Yk.fieldAt dwe_fo27_2 T1 (oS rfl (Yk.cell1 dwe_ty9 rfl (vr (PQ n2 2) rfl) (cellAt hb8 (show (kptC x)[2]? = some (St (x.1.name) : Value) from kpt_g2 x)) (oS rfl (Yk.fieldAt dwe_fo27_3 T1 (oS rfl (Yk.cell1 dwe_ty24 rfl (vr (PQ n2 3) rfl) (cellAt hb8 (show (kptC x)[3]? = some (x.2.bytes : Value) from kpt_g3 x)) ?_)))))))))))))
   have hap : appendD { D1 with arm := 0 } x.1.name x.1.bytes = ({ D1 with arm := 0 }, 10) := append_may hdd hm
   have hDc := hD
   refine oS rfl (Yk.callA3 dwe_pl13 T3 (vr (St (x.1.name)) rfl) (vr x.2.bytes rfl) ((Calls.res (hDc.append x.1.name x.2.bytes x.1.bytes (hby.keep hE) (hDc.off hK.bytes) (by omega) (hb2.lt (by decide))) (show (appendD ({ D1 with arm := 0 }) x.1.name x.1.bytes).2 = 10 from congrArg Prod.snd hap)).mono ?_))
   rintro e w149 ⟨H146, rfl, hD147, hC148⟩
   refine ⟨_, rfl, ?_⟩
   rw [hap] at hD147
   have hE : Ext w w149 := hD147.ext
   have hb8 : w149.heap[n2]? = some (.cells (kptC x).toArray 27 (0, 0)) := DkG.box hDc hC148 hb8 (by decide) (by decide) (by decide) (by decide)
   clear hD
   have hD := hD147
   refine oS rfl (Yk.eqI (a := (10 : Nat)) (b := (0 : Nat)) rfl rfl (k_neq _ _ _ _) (oM rfl (oN (d := 61) rfl rfl rfl (vr (.bool (true)) (congrArg Value.bool (decide_eq_true (by decide)))) rfl (oN (d := 61) rfl rfl rfl (vr (.bool (true)) (congrArg Value.bool (decide_eq_true (by decide)))) rfl (oN (d := 61) rfl rfl rfl (vr (.bool (true)) (congrArg Value.bool (decide_eq_true (by decide)))) rfl (oN (d := 61) rfl rfl rfl (vr (.bool (true)) (congrArg Value.bool (decide_eq_true (by decide)))) rfl (oN (d := 61) rfl rfl rfl (vr (.bool (true)) (congrArg Value.bool (decide_eq_true (by decide)))) rfl (oS rfl (Yk.pickT (vr (.bool (true)) (congrArg Value.bool (decide_eq_true (by decide)))) (vr (.bool (true)) rfl) (oZ (tN (hK145 _ _ (wpF_true (vr (.bool (true)) rfl) (sk fun K150 hK150 => (wt (oS rfl (Yk.fieldAt dwe_fo27_2 T1 (oS rfl (Yk.cell1 dwe_ty9 rfl (vr (PQ n2 2) rfl) (cellAt hb8 (show (kptC x)[2]? = some (St (x.1.name) : Value) from kpt_g2 x)) (oS rfl (Yk.lenSt (l := x.1.name) dwe_ty9 (vr (St (x.1.name)) rfl) ?_)))))))))))))))))))))
   refine oS rfl (Yk.eqI (a := ((x.1.name : List UInt8).length : Nat)) (b := (1 : Nat)) rfl rfl (k_lss _ _ _ _) (oM rfl (oN (d := 72) rfl rfl rfl (vr (.bool (true)) (congrArg Value.bool (decide_eq_true (hlen)))) rfl (oN (d := 72) rfl rfl rfl (vr (.bool (true)) (congrArg Value.bool (decide_eq_true (hlen)))) rfl (oN (d := 72) rfl rfl rfl (vr (.bool (true)) (congrArg Value.bool (decide_eq_true (hlen)))) rfl (oN (d := 72) rfl rfl rfl (vr (.bool (true)) (congrArg Value.bool (decide_eq_true (hlen)))) rfl (oS rfl (Yk.pickT (vr (.bool (true)) (congrArg Value.bool (decide_eq_true (hlen)))) (vr (.bool (true)) rfl) (oA rfl (oZ (tN (hK150 _ _ (wpF_ret (thenF_ret (postF_ret (fn := Try.f3) _ rfl [.bool (true)] (.bool (true)) rfl ⟨rfl, trivial⟩ ?_)))))))))))))))
   exact ⟨by rfl, hE⟩
  refine tN (hK56 _ _ (sk fun K151 hK151 => (sk fun K152 hK152 => (wt (oM rfl (oS rfl (Yk.fieldAt dwe_fo27_2 T1 (oS rfl (Yk.cell1 dwe_ty9 rfl (vr (PQ n2 2) rfl) (cellAt hb8 (show (kptC x)[2]? = some (St (x.1.name) : Value) from kpt_g2 x)) (oS rfl (Yk.fieldAt dwe_fo27_3 T1 (oS rfl (Yk.cell1 dwe_ty24 rfl (vr (PQ n2 3) rfl) (cellAt hb8 (show (kptC x)[3]? = some (x.2.bytes : Value) from kpt_g3 x)) ?_)))))))))))))
  have hap : appendD { D1 with arm := 0 } x.1.name x.1.bytes = ({ D1 with arm := 0 }, 10) := append_may hdd hm
  have hDc := hD
  refine oS rfl (Yk.callA3 dwe_pl13 T3 (vr (St (x.1.name)) rfl) (vr x.2.bytes rfl) ((Calls.res (hDc.append x.1.name x.2.bytes x.1.bytes (hby.keep hE) (hDc.off hK.bytes) (by omega) (hb2.lt (by decide))) (show (appendD ({ D1 with arm := 0 }) x.1.name x.1.bytes).2 = 10 from congrArg Prod.snd hap)).mono ?_))
  rintro e w156 ⟨H153, rfl, hD154, hC155⟩
  refine ⟨_, rfl, ?_⟩
  rw [hap] at hD154
  have hE : Ext w w156 := hD154.ext
  have hb8 : w156.heap[n2]? = some (.cells (kptC x).toArray 27 (0, 0)) := DkG.box hDc hC155 hb8 (by decide) (by decide) (by decide) (by decide)
  clear hD
  have hD := hD154
  refine oS rfl (Yk.eqI (a := (10 : Nat)) (b := (0 : Nat)) rfl rfl (k_neq _ _ _ _) (oM rfl (oN (d := 61) rfl rfl rfl (vr (.bool (true)) (congrArg Value.bool (decide_eq_true (by decide)))) rfl (oN (d := 61) rfl rfl rfl (vr (.bool (true)) (congrArg Value.bool (decide_eq_true (by decide)))) rfl (oN (d := 61) rfl rfl rfl (vr (.bool (true)) (congrArg Value.bool (decide_eq_true (by decide)))) rfl (oN (d := 61) rfl rfl rfl (vr (.bool (true)) (congrArg Value.bool (decide_eq_true (by decide)))) rfl (oN (d := 61) rfl rfl rfl (vr (.bool (true)) (congrArg Value.bool (decide_eq_true (by decide)))) rfl (oS rfl (Yk.pickT (vr (.bool (true)) (congrArg Value.bool (decide_eq_true (by decide)))) (vr (.bool (true)) rfl) (oZ (tN (hK152 _ _ (wpF_true (vr (.bool (true)) rfl) (sk fun K157 hK157 => (wt (oS rfl (Yk.fieldAt dwe_fo27_2 T1 (oS rfl (Yk.cell1 dwe_ty9 rfl (vr (PQ n2 2) rfl) (cellAt hb8 (show (kptC x)[2]? = some (St (x.1.name) : Value) from kpt_g2 x)) (oS rfl (Yk.lenSt (l := x.1.name) dwe_ty9 (vr (St (x.1.name)) rfl) ?_)))))))))))))))))))))
  refine oS rfl (Yk.eqI (a := ((x.1.name : List UInt8).length : Nat)) (b := (1 : Nat)) rfl rfl (k_lss _ _ _ _) (oM rfl (oY (d := 72) rfl rfl (vr (.bool (false)) (congrArg Value.bool (decide_eq_false (hlen)))) (Yk.fieldAt dwe_fo27_2 T1 (oY (d := 72) rfl rfl (vr (.bool (false)) (congrArg Value.bool (decide_eq_false (hlen)))) (Yk.cell1 dwe_ty9 rfl (vr (PQ n2 2) rfl) (cellAt hb8 (show (kptC x)[2]? = some (St (x.1.name) : Value) from kpt_g2 x)) (oY (d := 72) rfl rfl (vr (.bool (false)) (congrArg Value.bool (decide_eq_false (hlen)))) (Yk.lenSt (l := x.1.name) dwe_ty9 (vr (St (x.1.name)) rfl) (oY (d := 72) rfl rfl (vr (.bool (false)) (congrArg Value.bool (decide_eq_false (hlen)))) (Yk.eqI (a := ((x.1.name : List UInt8).length : Nat)) (b := (80 : Nat)) rfl rfl (k_gtr _ _ _ _) (oS rfl (Yk.pickF (vr (.bool (false)) (congrArg Value.bool (decide_eq_false (hlen)))) (vr (.bool (true)) (congrArg Value.bool (decide_eq_true (by unfold mayD at hm; simp at hm; omega)))) (oA rfl (oZ (tN (hK157 _ _ (wpF_ret (thenF_ret (postF_ret (fn := Try.f3) _ rfl [.bool (true)] (.bool (true)) rfl ⟨rfl, trivial⟩ ?_)))))))))))))))))))
  exact ⟨by rfl, hE⟩
 clear hK52
 refine sk fun K158 hK158 => (wt (oM rfl ?_))
 have hDc := hD
 refine oS rfl (Yk.callA1 dwe_pl10 T3 ((hDc.down).mono ?_))
 rintro e w160 ⟨rfl, hx159⟩
 refine ⟨_, rfl, ?_⟩
 have hE := hE.trans hx159
 have hb8 := eb hx159 hb8
 have hD := hD.keep hx159
 refine oZ (tN (hK158 _ _ ?_))
 refine wpF_condB (D0.down) (vr (.bool (D0.down)) rfl) (fun hc2 => ?_) (fun hc2 => ?_)
 ·refine wt (oM rfl ?_)
  have hDc := hD
  refine oS rfl (Yk.callA2 dwe_pl11 T3 (vr (Value.slice none 0 0) rfl) ((hDc.crash (.slice none 0 0) [] (RG.nil _ _ _) (hbe.lt (by decide))).mono ?_))
  rintro e w164 ⟨H161, rfl, hD162, hC163⟩
  refine ⟨_, rfl, ?_⟩
  have hE : Ext w w164 := hD162.ext
  have hb8 : w164.heap[n2]? = some (.cells (kptC x).toArray 27 (0, 0)) := DkG.box hDc hC163 hb8 (by decide) (by decide) (by decide) (by decide)
  clear hD
  have hD := hD162
  refine oL_ [(0, .agg (kptC x).toArray), (1, PQ n2 0), (2, .bool (false)), (3, PQ g1 0), (4, NI i)] ⟨T0, T1, T2, T3, T4, trivial⟩ fun ρ165 ⟨T0, T1, T2, T3, T4, _⟩ => ?_
  exact tN (hJK52 _ _ ⟨H161, (crashD D0 []), T0, T1, T2, T3, T4, hE, hb8, hD, rfl, hbe.crash [], InjD.num _, trivial⟩)
 refine wpF_skip ?_
 exact tN (hJK52 _ _ ⟨Hi, D0, T0, T1, T2, T3, T4, hE, hb8, hD, hc2, hbe, hije, trivial⟩)
end Go.Proofs.Ytejpjjhkjdpeaaa
