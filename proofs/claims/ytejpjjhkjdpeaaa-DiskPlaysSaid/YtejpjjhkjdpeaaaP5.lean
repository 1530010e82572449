/- Part 5 of what stands behind these statements: laws and walks of the functions that are reached. Conditions: those that each theorem names. -/
import Derived.Test.YtejpjjhkjdpeaaaP4
set_option linter.unusedVariables false
set_option linter.unusedSimpArgs false
namespace Go.Proofs.Ytejpjjhkjdpeaaa
open Go.RowKit
set_option linter.unusedVariables false
def OffQ (H : Dk) (n : Nat) (Q : Nat → Prop) (i : Nat) : Prop := ¬ Foot H n i ∧ ¬ Q i
section
variable {base : Nat} {w w' wb : World} {g : Nat} {H H' : Dk} {D D' : Dsk}
structure DkW (wb w : World) (g : Nat) (H : Dk) (D : Dsk) (w' : World) (H' : Dk) (D' : Dsk) : Prop where
  g : DkG wb w' g H' D'
  chg : Chg (Foot H D.files.length) w w'
  foot : ∀ i, Foot H' D'.files.length i → Foot H D.files.length i ∨ w.heap.size ≤ i
theorem DkG.stepW (h : DkG wb w g H D) (k : DkT wb.heap.size w H D w' H' D') : DkW wb w g H D w' H' D' := ⟨h.step k, k.chg, k.foot⟩
theorem DkG.appendW (h : DkG wb w g H D) (s : List UInt8) (vb : Value) (b : List UInt8) (hrb : RB w vb b) (hoff : b = [] ∨ ∀ i, vb.ownBlock = some i → ¬ Foot H D.files.length i) (hbl : b.length < 1099511627776) (hL : DLt D) :
    Calls Try.prog 13 #[PQ g 0, St s, vb] w fun e w' => ∃ H', e = .returned (NI (appendD D s b).2) ∧ DkW wb w g H D w' H' (appendD D s b).1 := by
  rw [← h.hg]
  exact (append_at wb w h.ext H D h.st s vb b hrb hoff hbl hL).mono fun e w' ⟨H', he, hT⟩ => ⟨H', he, by rw [h.hg]; exact h.stepW hT⟩
theorem DkG.syncW (h : DkG wb w g H D) (s : List UInt8) (hL : DLt D) :
    Calls Try.prog 14 #[PQ g 0, St s] w fun e w' => ∃ H', e = .returned (NI (syncD D s).2) ∧ DkW wb w g H D w' H' (syncD D s).1 := by
  rw [← h.hg]
  exact (sync_at wb w h.ext H D h.st s hL).mono fun e w' ⟨H', he, hT⟩ => ⟨H', he, by rw [h.hg]; exact h.stepW hT⟩
theorem DkG.moveW (h : DkG wb w g H D) (s t : List UInt8) (hL : DLt D) :
    Calls Try.prog 25 #[PQ g 0, St s, St t] w fun e w' => ∃ H', e = .returned (NI (moveD D s t).2) ∧ DkW wb w g H D w' H' (moveD D s t).1 := by
  rw [← h.hg]
  exact (move_at wb w h.ext H D h.st s t hL).mono fun e w' ⟨H', he, hT⟩ => ⟨H', he, by rw [h.hg]; exact h.stepW hT⟩
theorem DkG.dropW (h : DkG wb w g H D) (s : List UInt8) (hL : DLt D) :
    Calls Try.prog 26 #[PQ g 0, St s] w fun e w' => ∃ H', e = .returned (NI (dropD D s).2) ∧ DkW wb w g H D w' H' (dropD D s).1 := by
  rw [← h.hg]
  exact (drop_at wb w h.ext H D h.st s hL).mono fun e w' ⟨H', he, hT⟩ => ⟨H', he, by rw [h.hg]; exact h.stepW hT⟩
theorem DkG.armW (h : DkG wb w g H D) (n : Int) :
    Calls Try.prog 12 #[PQ g 0, .int .i64 n] w fun e w' => ∃ H', e = .returned (.tuple #[]) ∧ DkW wb w g H D w' H' { D with arm := n.toNat } := by
  rw [← h.hg]
  exact (arm_at wb w h.ext H D h.st n).mono fun e w' ⟨he, hT⟩ => ⟨H, he, by rw [h.hg]; exact h.stepW hT⟩
theorem DkG.crashW (h : DkG wb w g H D) (vf : Value) (fs : List Int) (hrf : RG 1 enI w vf fs) (hL : DLt D) :
    Calls Try.prog 11 #[PQ g 0, vf] w fun e w' => ∃ H', e = .returned (.tuple #[]) ∧ DkW wb w g H D w' H' (crashD D fs) := by
  rw [← h.hg]
  exact (crash_at wb w h.ext H D h.st vf fs hrf hL).mono fun e w' ⟨H', he, hT⟩ => ⟨H', he, by rw [h.hg]; exact h.stepW hT⟩
theorem ActAt.setT {F : Nat → Nat} {v : Value} {a : ActD} {g : Nat} {cs : Array Value} {t : TypeId} {fr : Nat × Nat} (h : ActAt w F v a) (hc : Chg (fun i => i = g) w w') (hb : w.heap[g]? = some (.cells cs t fr)) (h1 : t ≠ 67) (h2 : t ≠ 9) : ActAt w' F v a := by
  have k : ∀ {b : Nat} {cs' : Array Value} {t' : TypeId} {fr' : Nat × Nat}, w.heap[b]? = some (.cells cs' t' fr') → t' ≠ t → w'.heap[b]? = some (.cells cs' t' fr') := fun e hne => (hc.blk _ (bl e) fun q => by rw [q, hb] at e; cases e; exact hne rfl).trans e
  rcases h with ⟨bf, bn, e, q1, q2, q3, q4⟩ | ⟨bs, bf, bn, e, q1, q2, q3, q4⟩ | ⟨bn, e, q1, q2⟩
  · exact .inl ⟨bf, bn, e, k q1 (Ne.symm h1), k q2 (Ne.symm h2), q3, q4⟩
  · exact .inr (.inl ⟨bs, bf, bn, e, k q1 (Ne.symm h2), k q2 (Ne.symm h1), k q3 (Ne.symm h2), q4⟩)
  · exact .inr (.inr ⟨bn, e, k q1 (Ne.symm h2), q2⟩)
theorem DkS.setT (h : DkS base w H D) {g : Nat} {cs : Array Value} {t : TypeId} {fr : Nat × Nat} (hg : w.grownBy w' (some g)) (hb : w.heap[g]? = some (.cells cs t fr)) (h1 : t ≠ 63) (h2 : t ≠ 74) (h3 : t ≠ 5) (h4 : t ≠ 68) (h5 : t ≠ 67) (h6 : t ≠ 9) : DkS base w' H D := by
  have hc : Chg (fun i => i = g) w w' := Chg.ofGrown hg fun i e => .inl (Option.some.inj e).symm
  have hB : ∀ i, Foot H D.files.length i → ¬ i = g := fun i q e => h.offT hb h1 h2 h3 h4 (e ▸ q)
  obtain ⟨vs, hv⟩ := h.acts
  exact ⟨(hc.blk _ (bl h.blk) (hB _ (.inl rfl))).trans h.blk, h.now.chg hc (hB _ (.inr (.inl rfl))), h.kept.chg hc (hB _ (.inr (.inr (.inl rfl)))), h.ne,
    ⟨vs, ownsRow_chg hc hv.row (fun i hi => hB i (.inr (.inr (.inr (.inl hi))))), hv.len, fun i hi => (hv.at_ i hi).setT hc hb h5 h6⟩,
    h.files.chg hc (fun k hk => ⟨hB _ (.inr (.inr (.inr (.inr ⟨k, hk, .inl rfl⟩)))), fun i hi => hB i (.inr (.inr (.inr (.inr ⟨k, hk, .inr hi⟩))))⟩), h.ok, h.lo⟩
theorem DkG.setT (h : DkG wb w g H D) {b : Nat} {cs : Array Value} {t : TypeId} {fr : Nat × Nat} (hg : w.grownBy w' (some b)) (hb : w.heap[b]? = some (.cells cs t fr)) (hw : wb.heap.size ≤ b) (h1 : t ≠ 63) (h2 : t ≠ 74) (h3 : t ≠ 5) (h4 : t ≠ 68) (h5 : t ≠ 67) (h6 : t ≠ 9) : DkG wb w' g H D :=
  ⟨(show Chg (fun i => i = b) w w' from Chg.ofGrown hg fun i e => .inl (Option.some.inj e).symm).ext h.ext (fun i q => by have q : i = b := q; omega), h.st.setT hg hb h1 h2 h3 h4 h5 h6, h.hg⟩
theorem DkG.offq (h : DkG wb w g H D) {Q : Nat → Prop} (hQ : ∀ i, Q i → i < w.heap.size) : ∀ b, w.heap.size ≤ b → OffQ H D.files.length Q b := fun b hb =>
  ⟨fun q => by have := (h.st.foot q).2.1; omega, fun q => by have := hQ b q; omega⟩
section
variable {P P' Q Q' : Nat → Prop} {n : Nat} {V : RdkW} {D1 D1' : Dsk}
theorem RdAt.mono (h : RdAt P w D V) (hP : ∀ b, b < w.heap.size → P b → P' b) : RdAt P' w D V := h.chg (Chg.refl (fun _ => False) w) fun b hb hp => ⟨id, hP b hb hp⟩
theorem RdAt.stepQ (h : RdAt (OffQ H D1.files.length Q) w D V) (hW : DkW wb w g H D1 w' H' D1') : RdAt (OffQ H' D1'.files.length Q) w' D V :=
  h.chg hW.chg fun b hb hp => ⟨hp.1, fun q => (hW.foot b q).elim hp.1 fun r => by omega, hp.2⟩
theorem RdAt.setQ (h : RdAt (OffQ H n Q) w D V) {b : Nat} (hg : w.grownBy w' (some b)) (hq : Q b) : RdAt (OffQ H n Q) w' D V :=
  h.chg (B := fun i => i = b) (Chg.ofGrown hg fun i e => .inl (Option.some.inj e).symm) fun i hi hp => ⟨fun e => hp.2 (e ▸ hq), hp⟩
theorem RdAt.addQ (h : RdAt (OffQ H n Q) w D V) (hE : Ext w w') {a b : Nat} (ha : w.heap.size ≤ a) (hb : w.heap.size ≤ b) : RdAt (OffQ H n fun i => Q i ∨ i = a ∨ i = b) w' D V :=
  (h.mono fun i hi hp => ⟨hp.1, fun q => by rcases q with q | q | q; exact hp.2 q; omega; omega⟩).keep hE
theorem RdAt.subQ (h : RdAt (OffQ H n Q) w D V) (hq : ∀ i, Q' i → Q i) : RdAt (OffQ H n Q') w D V := h.mono fun i _ hp => ⟨hp.1, fun q => hp.2 (hq i q)⟩
end
end
open Go.RowKit
set_option maxRecDepth 100000
set_option linter.unusedVariables false
set_option linter.unusedSimpArgs false
theorem rd6_al50 {d : Option Tmp} {ty : TypeId} {pos : String} {af : Array Edge} {gd : Option (Nat × Bool)} (σ : Operand → Value) (w : World) : (execOp σ ⟨d, .alloc 50, ty, pos, af, gd⟩).run Try.prog w = .ok (.value (PQ w.heap.size 0)) (w.alloc (.cells (rdkC ((⟨false, 0, [], [], [], [], [], 0, 0, false⟩, ⟨.slice none 0 0, .slice none 0 0, .slice none 0 0, .slice none 0 0, .slice none 0 0⟩) : RdkV)).toArray 50)) := by kernel_rfl
theorem rd6_fo33_0 : FieldOff Try.prog 33 0 0 := fun b o w => by simp [go_sem]
theorem rd6_ty3 : Try.prog.underlying 3 = some (.int .i64) := by kernel_rfl
theorem rd6_fo33_1 : FieldOff Try.prog 33 1 1 := fun b o w => by simp [go_sem]
theorem rd6_ty9 : Try.prog.underlying 9 = some (.string) := by kernel_rfl
theorem rd6_fo33_3 : FieldOff Try.prog 33 3 3 := fun b o w => by simp [go_sem]
theorem rd6_ty24 : Try.prog.underlying 24 = some (.slice 5) := by kernel_rfl
theorem rd6_l0_24 (w : World) : (Instr.buildSlice 24 0 #[]).run Try.prog w = .ok (.slice (some ⟨w.heap.size, 0, none⟩) 0 0) (w.alloc (.cells #[] 5)) := by kernel_rfl
theorem rd6_inf5 : (Try.prog.info? 5).map (fun i => (i.zero, i.size, i.bytes)) = some (some (.int .u8 0), 1, 1) := by kernel_rfl
theorem rd6_pl13 : Plain Try.prog 13 := fun _ _ => by kernel_rfl
theorem rd6_ty50 : ∃ fs, Try.prog.underlying 50 = some (.struct fs) := struct_of (by kernel_rfl)
theorem rd6_isz50 : (Try.prog.info? 50).map (·.size) = some 10 := by kernel_rfl
theorem rd6_pl40 : Plain Try.prog 40 := fun _ _ => by kernel_rfl
theorem rd6_pl14 : Plain Try.prog 14 := fun _ _ => by kernel_rfl
theorem rd6_pl41 : Plain Try.prog 41 := fun _ _ => by kernel_rfl
theorem rd6_fo33_2 : FieldOff Try.prog 33 2 2 := fun b o w => by simp [go_sem]
theorem rd6_pl25 : Plain Try.prog 25 := fun _ _ => by kernel_rfl
theorem rd6_pl42 : Plain Try.prog 42 := fun _ _ => by kernel_rfl
theorem rd6_pl26 : Plain Try.prog 26 := fun _ _ => by kernel_rfl
theorem rd6_pl15 : Plain Try.prog 15 := fun _ _ => by kernel_rfl
theorem rd6_pl43 : Plain Try.prog 43 := fun _ _ => by kernel_rfl
theorem rd6_ty5 : Try.prog.underlying 5 = some (.int .u8) := by kernel_rfl
theorem rd6_fo33_4 : FieldOff Try.prog 33 4 4 := fun b o w => by simp [go_sem]
theorem rd6_pl12 : Plain Try.prog 12 := fun _ _ => by kernel_rfl
theorem rd6_fo50_0 : FieldOff Try.prog 50 0 0 := fun b o w => by simp [go_sem]
theorem rd6_ty4 : Try.prog.underlying 4 = some (.bool) := by kernel_rfl
theorem rd6_l0_25 (w : World) : (Instr.buildSlice 25 0 #[]).run Try.prog w = .ok (.slice (some ⟨w.heap.size, 0, none⟩) 0 0) (w.alloc (.cells #[] 3)) := by kernel_rfl
theorem rd6_fo33_5 : FieldOff Try.prog 33 5 5 := fun b o w => by simp [go_sem]
theorem rd6_ty25 : Try.prog.underlying 25 = some (.slice 3) := by kernel_rfl
theorem rd6_ig3 : ∃ z, (Try.prog.info? 3).map (fun i => (i.zero, i.size, i.bytes)) = some (some z, 1, 8) ∧ z.cells.size = 1 := info_ex (by kernel_rfl)
theorem rd6_pl11 : Plain Try.prog 11 := fun _ _ => by kernel_rfl
theorem rd6_pl44 : Plain Try.prog 44 := fun _ _ => by kernel_rfl
theorem rd6_fo50_8 : FieldOff Try.prog 50 8 8 := fun b o w => by simp [go_sem]
theorem rd6_isz3 : (Try.prog.info? 3).map (·.size) = some 1 := by kernel_rfl
set_option maxHeartbeats 1600000
theorem played_nil (w : World) (q : Int) (x : XactV) (hx : XactAt w x) (hbl : x.1.bytes.length ≤ 300) (hfs : x.1.fates.length ≤ 100) :
  Calls Try.prog 20 #[.pointer none, .agg (rdkC (noR q)).toArray, .agg (xacC x).toArray] w fun e w' => e = .returned (.tuple #[.agg (rdkC (noR q)).toArray, .bool true]) ∧ Ext w w' := by
 have hxb := hx.bytes
 have hxf := hx.fates
 refine calls_of_wpF (args := [.pointer none, .agg (rdkC (noR q)).toArray, .agg (xacC x).toArray]) Try.func20 rfl 133 rfl (Nat.le_of_ble_eq_true rfl) ?_
 intro ρ0 hb
 have T0 : ρ0 0 = (.pointer none : Value) := hb.get 0
 have T1 : ρ0 1 = (.agg (rdkC (noR q)).toArray : Value) := hb.get 1
 have T2 : ρ0 2 = (.agg (xacC x).toArray : Value) := hb.get 2
 clear hb
 have hE := Ext.refl w
 refine sk fun K1 hK1 => (wt (oS rfl (Yk.box (cs := (rdkC (noR q) : List Value).toArray) T1 fun n2 w3 hn4 hb5 hx6 hs7 => ?_)))
 have hE := hE.trans hx6
 have hb8 := hb5; clear hb5
 have hl9 : n2 < w3.heap.size := by omega
 refine oS rfl (Yk.box (cs := (xacC x : List Value).toArray) T2 fun n10 w11 hn12 hb13 hx14 hs15 => ?_)
 have hA16 := Ext.refl w3
 have hea17 := hE
 have hz18 := hE.size
 have hlt19 := lte (bl hb8) hn12
 have hE := hE.trans hx14
 have hb8 := eb hx14 hb8
 have hA16 := hA16.trans hx14
 have hb20 := hb13; clear hb13
 have hl21 : n10 < w11.heap.size := by omega
 refine oS rfl (Yk.alloc (cs := (rdkC ((⟨false, 0, [], [], [], [], [], 0, 0, false⟩, ⟨.slice none 0 0, .slice none 0 0, .slice none 0 0, .slice none 0 0, .slice none 0 0⟩) : RdkV)).toArray) rd6_al50 fun n22 w23 hn24 hb25 hx26 hs27 => ?_)
 have hA28 := Ext.refl w11
 have hea29 := hE
 have hea30 := hA16
 have hz31 := hE.size
 have hz32 := hA16.size
 have hlt33 := lte (bl hb8) hn24
 have hlt34 := lte (bl hb20) hn24
 have hE := hE.trans hx26
 have hb8 := eb hx26 hb8
 have hA16 := hA16.trans hx26
 have hb20 := eb hx26 hb20
 have hA28 := hA28.trans hx26
 have hb35 := hb25; clear hb25
 have hl36 : n22 < w23.heap.size := by omega
 refine oA rfl (oZ (tN (hK1 _ _ (sk fun K37 hK37 => (wt (oA rfl (oZ (tN (hK37 _ _ (sk fun K38 hK38 => (wt (oA rfl (oZ ?_)))))))))))))
 have hbd := tmod_bd x.1.kind 6
 refine tN (hK38 _ _ (sk fun K39 hK39 => (sk fun K40 hK40 => (wt (oS rfl (Yk.fieldAt rd6_fo33_0 (vr (PQ n10 0) rfl) (oS rfl (Yk.cell1 rd6_ty3 rfl (vr (PQ n10 0) rfl) (cellAt hb20 (show (xacC x)[0]? = some (.int .i64 (x.1.kind : Int) : Value) from xac_g0 x)) (oS rfl (Yk.bin (xv := .int .i64 (x.1.kind)) (yv := NI 7) rfl rfl rfl (zi_rem _ (x.1.kind) _ (by decide)) (oS rfl (Yk.bin (xv := .int .i64 ((Int.tmod (x.1.kind) ((6 + 1 : Nat) : Int)))) (yv := .int .i64 (((7 : Nat) : Int))) rfl rfl rfl (zi_add _ ((Int.tmod (x.1.kind) ((6 + 1 : Nat) : Int))) (((7 : Nat) : Int)) (by omega)) (oS rfl (Yk.bin (xv := .int .i64 ((((Int.tmod (x.1.kind) ((6 + 1 : Nat) : Int))) + (((7 : Nat) : Int))))) (yv := NI 7) rfl rfl rfl (zi_fate _ (x.1.kind) 6 _ (by omega)) (oZ (tN (hK40 _ _ (wpF_block (sk fun K41 hK41 => (wt (oS rfl (Yk.eqI (a := ((kindA x.1.kind) : Nat)) (b := (0 : Nat)) rfl rfl (k_eql _ _ _ _) (oA rfl ?_)))))))))))))))))))))))
 refine oZ (tN (hK41 _ _ ?_))
 refine wpF_cond (((kindA x.1.kind) : Nat) = (0)) (vr (.bool (decide (((kindA x.1.kind) : Nat) = (0)))) rfl) (fun hc0 => ?_) (fun hc0 => ?_)
 ·refine sk fun K42 hK42 => ?_
  have hx43 : Ext w23 (World.drew w23) := (Below.refl _ _).drew
  have hE := hE.trans hx43
  have hb8 := eb hx43 hb8
  have hA16 := hA16.trans hx43
  have hb20 := eb hx43 hb20
  have hA28 := hA28.trans hx43
  have hb35 := eb hx43 hb35
  refine wpF_floatI [(0, 21, .pointer none), (1, 22, PQ n10 1), (2, 23, St (x.1.name)), (4, 25, PQ n10 3), (5, 26, x.2.bytes)] [3, 6, 7, 8] (fun wz => wz.heap[n2]? = some (.cells (rdkC (noR q)).toArray 50 (0, 0)) ∧ wz.heap[n10]? = some (.cells (xacC x).toArray 33 (0, 0)) ∧ wz.heap[n22]? = some (.cells (rdkC ((⟨false, 0, [], [], [], [], [], 0, 0, false⟩, ⟨.slice none 0 0, .slice none 0 0, .slice none 0 0, .slice none 0 0, .slice none 0 0⟩) : RdkV)).toArray 50 (0, 0)) ∧ True) (by kernel_rfl) (by kernel_rfl) (by kernel_rfl) ⟨hb8, hb20, hb35, trivial⟩ ⟨fun w44 ⟨hb8, hb20, hb35, _⟩ => Yk.move T0 ⟨rfl, rfl⟩, fun w44 ⟨hb8, hb20, hb35, _⟩ => Yk.fieldAt rd6_fo33_1 (vr (PQ n10 0) rfl) ⟨rfl, rfl⟩, fun w44 ⟨hb8, hb20, hb35, _⟩ => Yk.cell1 rd6_ty9 rfl (vr (PQ n10 1) rfl) (cellAt hb20 (show (xacC x)[1]? = some (St (x.1.name) : Value) from xac_g1 x)) ⟨rfl, rfl⟩, fun w44 ⟨hb8, hb20, hb35, _⟩ => Yk.fieldAt rd6_fo33_3 (vr (PQ n10 0) rfl) ⟨rfl, rfl⟩, fun w44 ⟨hb8, hb20, hb35, _⟩ => Yk.cell1 rd6_ty24 rfl (vr (PQ n10 3) rfl) (cellAt hb20 (show (xacC x)[3]? = some (x.2.bytes : Value) from xac_g3 x)) ⟨rfl, rfl⟩, trivial⟩ (chI_step rfl (Yk.lit0 rd6_l0_24 fun v45 w46 hN47 => ?_))
  have hA48 := Ext.refl (World.drew w23)
  have hea49 := hE
  have hea50 := hA16
  have hea51 := hA28
  have hz52 : w.heap.size ≤ (World.drew w23).heap.size := hE.size
  have hz53 : w3.heap.size ≤ (World.drew w23).heap.size := hA16.size
  have hz54 : w11.heap.size ≤ (World.drew w23).heap.size := hA28.size
  have hap55 : OB v45 n2 := own_older hN47.own (bl hb8)
  have hap56 : OB v45 n10 := own_older hN47.own (bl hb20)
  have hap57 : OB v45 n22 := own_older hN47.own (bl hb35)
  have hE := hE.trans hN47.ext
  have hb8 := eb hN47.ext hb8
  have hA16 := hA16.trans hN47.ext
  have hb20 := eb hN47.ext hb20
  have hA28 := hA28.trans hN47.ext
  have hb35 := eb hN47.ext hb35
  have hA48 := hA48.trans hN47.ext
  have ho58 := hN47.own; clear hN47
  refine ⟨⟨hb8, hb20, hb35, trivial⟩, ?_⟩
  refine chI_step rfl (Yk.appendRB _ _ (World.drew w23).heap.size (.int .u8 0) rd6_ty24 rd6_inf5 rfl rd6_ty24 (([] : List UInt8)) (x.1.bytes) (own_of ho58 (vr v45 rfl)) (RB.of (hxb.keep hE) (vr x.2.bytes rfl)) (by simp only [List.length_nil]; omega) hA48.size fun v59 w60 ho61 hg62 => ?_)
  have hg62 : Grew w46 w60 v45 v59 := hg62
  have hap63 : OB v59 n2 := apart_grew hg62 hap55 (bl hb8)
  have hap64 : OB v59 n10 := apart_grew hg62 hap56 (bl hb20)
  have hap65 : OB v59 n22 := apart_grew hg62 hap57 (bl hb35)
  have hE := ext_grew hE hg62 ho58 hz52
  have hb8 := blk_grew hb8 hg62 hap55
  have hA16 := ext_grew hA16 hg62 ho58 hz53
  have hb20 := blk_grew hb20 hg62 hap56
  have hA28 := ext_grew hA28 hg62 ho58 hz54
  have hb35 := blk_grew hb35 hg62 hap57
  have hA48 := ext_grew hA48 hg62 ho58 (Nat.le_refl _)
  clear ho58
  refine ⟨⟨hb8, hb20, hb35, trivial⟩, ?_⟩
  refine chI_step rfl (Yk.callA3 rd6_pl13 (vr (.pointer none) rfl) (vr (St (x.1.name)) rfl) (vr v59 rfl) ((append_nil _ x.1.name v59 (x.1.bytes) (RB.ofOwn (own_eq (l' := x.1.bytes) ho61 (List.nil_append _)))).mono ?_))
  rintro e w67 ⟨rfl, hx66⟩
  refine ⟨_, rfl, ?_⟩
  have hE := hE.trans hx66
  have hb8 := eb hx66 hb8
  have hA16 := hA16.trans hx66
  have hb20 := eb hx66 hb20
  have hA28 := hA28.trans hx66
  have hb35 := eb hx66 hb35
  have hA48 := hA48.trans hx66
  have ho61 := Stab.own _ _ _ _ _ _ _ _ ho61 hx66
  refine ⟨⟨hb8, hb20, hb35, trivial⟩, ?_⟩
  refine chI_step rfl (Yk.assign (vr (NI 1) rfl) ?_)
  refine ⟨⟨hb8, hb20, hb35, trivial⟩, ?_⟩
  refine chI_nil (tN (hK42 _ _ (wt (oS rfl (Yk.loadAll (vr (PQ n2 0) rfl) hb8 (rd6_ty50).choose_spec rfl (st_isz (rdk_len (noR q)) rd6_isz50) (oS rfl (Yk.fieldAt rd6_fo33_1 (vr (PQ n10 0) rfl) (oS rfl (Yk.cell1 rd6_ty9 rfl (vr (PQ n10 1) rfl) (cellAt hb20 (show (xacC x)[1]? = some (St (x.1.name) : Value) from xac_g1 x)) (oS rfl (Yk.fieldAt rd6_fo33_3 (vr (PQ n10 0) rfl) (oS rfl (Yk.cell1 rd6_ty24 rfl (vr (PQ n10 3) rfl) (cellAt hb20 (show (xacC x)[3]? = some (x.2.bytes : Value) from xac_g3 x)) (oS rfl (Yk.callA3 rd6_pl40 (vr (.agg (rdkC (noR q)).toArray) rfl) (vr (St (x.1.name)) rfl) (vr x.2.bytes rfl) ((rappend_no _ q x.1.name x.2.bytes).mono ?_))))))))))))))))
  rintro e w69 ⟨rfl, hx68⟩
  refine ⟨_, rfl, ?_⟩
  have hE := hE.trans hx68
  have hb8 := eb hx68 hb8
  have hA16 := hA16.trans hx68
  have hb20 := eb hx68 hb20
  have hA28 := hA28.trans hx68
  have hb35 := eb hx68 hb35
  have hA48 := hA48.trans hx68
  have ho61 := Stab.own _ _ _ _ _ _ _ _ ho61 hx68
  refine oM rfl (oS rfl (Yk.extract (vs := [.agg (rdkC (noR q)).toArray, NI 1]) (vr (.tuple #[.agg (rdkC (noR q)).toArray, NI 1]) rfl) (show _ = some (.agg (rdkC (noR q)).toArray : Value) from rfl) (oS rfl (Yk.extract (vs := [.agg (rdkC (noR q)).toArray, NI 1]) (vr (.tuple #[.agg (rdkC (noR q)).toArray, NI 1]) rfl) (show _ = some (NI 1 : Value) from rfl) (oS rfl (Yk.storeAll (vr (PQ n2 0) rfl) (vr (.agg (rdkC (noR q)).toArray) rfl) hb8 (by simp only [List.size_toArray, rdk_len]) (st_isz (rdk_len _) rd6_isz50) (rdk_one (x := (noR q)) rfl rfl rfl rfl rfl) fun w70 hb71 hg72 hs73 => ?_))))))
  have hE := row_fresh hE hg72 (Nat.le_trans (Nat.le_refl _) (by omega))
  clear hA16
  have hb20 := kb hg72 hb20 (by omega)
  clear hA28
  have hb35 := kb hg72 hb35 (by omega)
  clear hA48
  have ho61 := own_kept ho61 hg72 hap63
  clear hb8
  have hb8 : w70.heap[n2]? = some (.cells (rdkC (noR q)).toArray 50 (0, 0)) := hb71; clear hb71
  have hl74 := bl hb8
  refine oA rfl (oZ (bN (tN (hK39 _ _ (sk fun K75 hK75 => (wt (oS rfl (Yk.loadAll (vr (PQ n2 0) rfl) hb8 (rd6_ty50).choose_spec rfl (st_isz (rdk_len (noR q)) rd6_isz50) (oM rfl (oM rfl (oS rfl (Yk.eqI (a := (1 : Nat)) (b := (1 : Nat)) rfl rfl (k_eql _ _ _ _) (oS rfl (Yk.storeAll (vr (PQ n22 0) rfl) (vr (.agg (rdkC (noR q)).toArray) rfl) hb35 (by simp only [List.size_toArray, rdk_len]) (st_isz (rdk_len _) rd6_isz50) (rdk_one (x := (noR q)) rfl rfl rfl rfl rfl) fun w76 hb77 hg78 hs79 => ?_))))))))))))))
  have hE := row_fresh hE hg78 (Nat.le_trans hz31 (by omega))
  have hb20 := kb hg78 hb20 (by omega)
  have ho61 := own_kept ho61 hg78 hap65
  have hb8 := kb hg78 hb8 (by omega)
  clear hb35
  have hb35 : w76.heap[n22]? = some (.cells (rdkC (noR q)).toArray 50 (0, 0)) := hb77; clear hb77
  have hl80 := bl hb35
  refine oA rfl (oZ (tN (hK75 _ _ (wpF_ret (postF_ret (fn := Try.f20) _ rfl [.agg (rdkC (noR q)).toArray, .bool (true)] (.tuple #[.agg (rdkC (noR q)).toArray, .bool (true)]) rfl ⟨ResF.row rfl hb35 (rd6_ty50).choose_spec rfl (st_isz (rdk_len _) rd6_isz50), (congrArg Value.bool (decide_eq_true (rfl))), trivial⟩ ?_)))))
  exact ⟨rfl, hE⟩
 refine sk fun K81 hK81 => (wt (oS rfl (Yk.eqI (a := ((kindA x.1.kind) : Nat)) (b := (1 : Nat)) rfl rfl (k_eql _ _ _ _) (oA rfl (oZ (tN (hK81 _ _ ?_)))))))
 refine wpF_cond (((kindA x.1.kind) : Nat) = (1)) (vr (.bool (decide (((kindA x.1.kind) : Nat) = (1)))) rfl) (fun hc1 => ?_) (fun hc1 => ?_)
 ·refine sk fun K82 hK82 => (wt (oM rfl (oS rfl (Yk.fieldAt rd6_fo33_1 (vr (PQ n10 0) rfl) (oS rfl (Yk.cell1 rd6_ty9 rfl (vr (PQ n10 1) rfl) (cellAt hb20 (show (xacC x)[1]? = some (St (x.1.name) : Value) from xac_g1 x)) (oS rfl (Yk.callA2 rd6_pl14 T0 (vr (St (x.1.name)) rfl) ((sync_nil _ x.1.name).mono ?_)))))))))
  rintro e w84 ⟨rfl, hx83⟩
  refine ⟨_, rfl, ?_⟩
  have hE := hE.trans hx83
  have hb8 := eb hx83 hb8
  have hA16 := hA16.trans hx83
  have hb20 := eb hx83 hb20
  have hA28 := hA28.trans hx83
  have hb35 := eb hx83 hb35
  refine oA rfl (oZ (tN (hK82 _ _ (wt (oS rfl (Yk.loadAll (vr (PQ n2 0) rfl) hb8 (rd6_ty50).choose_spec rfl (st_isz (rdk_len (noR q)) rd6_isz50) (oS rfl (Yk.fieldAt rd6_fo33_1 (vr (PQ n10 0) rfl) (oS rfl (Yk.cell1 rd6_ty9 rfl (vr (PQ n10 1) rfl) (cellAt hb20 (show (xacC x)[1]? = some (St (x.1.name) : Value) from xac_g1 x)) (oS rfl (Yk.callA2 rd6_pl41 (vr (.agg (rdkC (noR q)).toArray) rfl) (vr (St (x.1.name)) rfl) ((rsync_no _ q x.1.name).mono ?_)))))))))))))
  rintro e w86 ⟨rfl, hx85⟩
  refine ⟨_, rfl, ?_⟩
  have hE := hE.trans hx85
  have hb8 := eb hx85 hb8
  have hA16 := hA16.trans hx85
  have hb20 := eb hx85 hb20
  have hA28 := hA28.trans hx85
  have hb35 := eb hx85 hb35
  refine oM rfl (oS rfl (Yk.extract (vs := [.agg (rdkC (noR q)).toArray, NI 1]) (vr (.tuple #[.agg (rdkC (noR q)).toArray, NI 1]) rfl) (show _ = some (.agg (rdkC (noR q)).toArray : Value) from rfl) (oS rfl (Yk.extract (vs := [.agg (rdkC (noR q)).toArray, NI 1]) (vr (.tuple #[.agg (rdkC (noR q)).toArray, NI 1]) rfl) (show _ = some (NI 1 : Value) from rfl) (oS rfl (Yk.storeAll (vr (PQ n2 0) rfl) (vr (.agg (rdkC (noR q)).toArray) rfl) hb8 (by simp only [List.size_toArray, rdk_len]) (st_isz (rdk_len _) rd6_isz50) (rdk_one (x := (noR q)) rfl rfl rfl rfl rfl) fun w87 hb88 hg89 hs90 => ?_))))))
  have hE := row_fresh hE hg89 (Nat.le_trans (Nat.le_refl _) (by omega))
  clear hA16
  have hb20 := kb hg89 hb20 (by omega)
  clear hA28
  have hb35 := kb hg89 hb35 (by omega)
  clear hb8
  have hb8 : w87.heap[n2]? = some (.cells (rdkC (noR q)).toArray 50 (0, 0)) := hb88; clear hb88
  have hl91 := bl hb8
  refine oA rfl (oZ (bN (tN (hK39 _ _ (sk fun K92 hK92 => (wt (oS rfl (Yk.loadAll (vr (PQ n2 0) rfl) hb8 (rd6_ty50).choose_spec rfl (st_isz (rdk_len (noR q)) rd6_isz50) (oM rfl (oM rfl (oS rfl (Yk.eqI (a := (1 : Nat)) (b := (1 : Nat)) rfl rfl (k_eql _ _ _ _) (oS rfl (Yk.storeAll (vr (PQ n22 0) rfl) (vr (.agg (rdkC (noR q)).toArray) rfl) hb35 (by simp only [List.size_toArray, rdk_len]) (st_isz (rdk_len _) rd6_isz50) (rdk_one (x := (noR q)) rfl rfl rfl rfl rfl) fun w93 hb94 hg95 hs96 => ?_))))))))))))))
  have hE := row_fresh hE hg95 (Nat.le_trans hz31 (by omega))
  have hb20 := kb hg95 hb20 (by omega)
  have hb8 := kb hg95 hb8 (by omega)
  clear hb35
  have hb35 : w93.heap[n22]? = some (.cells (rdkC (noR q)).toArray 50 (0, 0)) := hb94; clear hb94
  have hl97 := bl hb35
  refine oA rfl (oZ (tN (hK92 _ _ (wpF_ret (postF_ret (fn := Try.f20) _ rfl [.agg (rdkC (noR q)).toArray, .bool (true)] (.tuple #[.agg (rdkC (noR q)).toArray, .bool (true)]) rfl ⟨ResF.row rfl hb35 (rd6_ty50).choose_spec rfl (st_isz (rdk_len _) rd6_isz50), (congrArg Value.bool (decide_eq_true (rfl))), trivial⟩ ?_)))))
  exact ⟨rfl, hE⟩
 refine sk fun K98 hK98 => (wt (oS rfl (Yk.eqI (a := ((kindA x.1.kind) : Nat)) (b := (2 : Nat)) rfl rfl (k_eql _ _ _ _) (oA rfl (oZ (tN (hK98 _ _ ?_)))))))
 refine wpF_cond (((kindA x.1.kind) : Nat) = (2)) (vr (.bool (decide (((kindA x.1.kind) : Nat) = (2)))) rfl) (fun hc2 => ?_) (fun hc2 => ?_)
 ·refine sk fun K99 hK99 => (wt (oM rfl (oS rfl (Yk.fieldAt rd6_fo33_1 (vr (PQ n10 0) rfl) (oS rfl (Yk.cell1 rd6_ty9 rfl (vr (PQ n10 1) rfl) (cellAt hb20 (show (xacC x)[1]? = some (St (x.1.name) : Value) from xac_g1 x)) (oS rfl (Yk.fieldAt rd6_fo33_2 (vr (PQ n10 0) rfl) (oS rfl (Yk.cell1 rd6_ty9 rfl (vr (PQ n10 2) rfl) (cellAt hb20 (show (xacC x)[2]? = some (St (x.1.to) : Value) from xac_g2 x)) (oS rfl (Yk.callA3 rd6_pl25 T0 (vr (St (x.1.name)) rfl) (vr (St (x.1.to)) rfl) ((move_nil _ x.1.name x.1.to).mono ?_)))))))))))))
  rintro e w101 ⟨rfl, hx100⟩
  refine ⟨_, rfl, ?_⟩
  have hE := hE.trans hx100
  have hb8 := eb hx100 hb8
  have hA16 := hA16.trans hx100
  have hb20 := eb hx100 hb20
  have hA28 := hA28.trans hx100
  have hb35 := eb hx100 hb35
  refine oA rfl (oZ (tN (hK99 _ _ (wt (oS rfl (Yk.loadAll (vr (PQ n2 0) rfl) hb8 (rd6_ty50).choose_spec rfl (st_isz (rdk_len (noR q)) rd6_isz50) (oS rfl (Yk.fieldAt rd6_fo33_1 (vr (PQ n10 0) rfl) (oS rfl (Yk.cell1 rd6_ty9 rfl (vr (PQ n10 1) rfl) (cellAt hb20 (show (xacC x)[1]? = some (St (x.1.name) : Value) from xac_g1 x)) (oS rfl (Yk.fieldAt rd6_fo33_2 (vr (PQ n10 0) rfl) (oS rfl (Yk.cell1 rd6_ty9 rfl (vr (PQ n10 2) rfl) (cellAt hb20 (show (xacC x)[2]? = some (St (x.1.to) : Value) from xac_g2 x)) (oS rfl (Yk.callA4 rd6_pl42 (vr (.agg (rdkC (noR q)).toArray) rfl) (vr (St (x.1.name)) rfl) (vr (St (x.1.to)) rfl) (vr (.bool (false)) rfl) ((rturn_no _ q x.1.name x.1.to false).mono ?_)))))))))))))))))
  rintro e w103 ⟨rfl, hx102⟩
  refine ⟨_, rfl, ?_⟩
  have hE := hE.trans hx102
  have hb8 := eb hx102 hb8
  have hA16 := hA16.trans hx102
  have hb20 := eb hx102 hb20
  have hA28 := hA28.trans hx102
  have hb35 := eb hx102 hb35
  refine oM rfl (oS rfl (Yk.extract (vs := [.agg (rdkC (noR q)).toArray, NI 1]) (vr (.tuple #[.agg (rdkC (noR q)).toArray, NI 1]) rfl) (show _ = some (.agg (rdkC (noR q)).toArray : Value) from rfl) (oS rfl (Yk.extract (vs := [.agg (rdkC (noR q)).toArray, NI 1]) (vr (.tuple #[.agg (rdkC (noR q)).toArray, NI 1]) rfl) (show _ = some (NI 1 : Value) from rfl) (oS rfl (Yk.storeAll (vr (PQ n2 0) rfl) (vr (.agg (rdkC (noR q)).toArray) rfl) hb8 (by simp only [List.size_toArray, rdk_len]) (st_isz (rdk_len _) rd6_isz50) (rdk_one (x := (noR q)) rfl rfl rfl rfl rfl) fun w104 hb105 hg106 hs107 => ?_))))))
  have hE := row_fresh hE hg106 (Nat.le_trans (Nat.le_refl _) (by omega))
  clear hA16
  have hb20 := kb hg106 hb20 (by omega)
  clear hA28
  have hb35 := kb hg106 hb35 (by omega)
  clear hb8
  have hb8 : w104.heap[n2]? = some (.cells (rdkC (noR q)).toArray 50 (0, 0)) := hb105; clear hb105
  have hl108 := bl hb8
  refine oA rfl (oZ (bN (tN (hK39 _ _ (sk fun K109 hK109 => (wt (oS rfl (Yk.loadAll (vr (PQ n2 0) rfl) hb8 (rd6_ty50).choose_spec rfl (st_isz (rdk_len (noR q)) rd6_isz50) (oM rfl (oM rfl (oS rfl (Yk.eqI (a := (1 : Nat)) (b := (1 : Nat)) rfl rfl (k_eql _ _ _ _) (oS rfl (Yk.storeAll (vr (PQ n22 0) rfl) (vr (.agg (rdkC (noR q)).toArray) rfl) hb35 (by simp only [List.size_toArray, rdk_len]) (st_isz (rdk_len _) rd6_isz50) (rdk_one (x := (noR q)) rfl rfl rfl rfl rfl) fun w110 hb111 hg112 hs113 => ?_))))))))))))))
  have hE := row_fresh hE hg112 (Nat.le_trans hz31 (by omega))
  have hb20 := kb hg112 hb20 (by omega)
  have hb8 := kb hg112 hb8 (by omega)
  clear hb35
  have hb35 : w110.heap[n22]? = some (.cells (rdkC (noR q)).toArray 50 (0, 0)) := hb111; clear hb111
  have hl114 := bl hb35
  refine oA rfl (oZ (tN (hK109 _ _ (wpF_ret (postF_ret (fn := Try.f20) _ rfl [.agg (rdkC (noR q)).toArray, .bool (true)] (.tuple #[.agg (rdkC (noR q)).toArray, .bool (true)]) rfl ⟨ResF.row rfl hb35 (rd6_ty50).choose_spec rfl (st_isz (rdk_len _) rd6_isz50), (congrArg Value.bool (decide_eq_true (rfl))), trivial⟩ ?_)))))
  exact ⟨rfl, hE⟩
 refine sk fun K115 hK115 => (wt (oS rfl (Yk.eqI (a := ((kindA x.1.kind) : Nat)) (b := (3 : Nat)) rfl rfl (k_eql _ _ _ _) (oA rfl (oZ (tN (hK115 _ _ ?_)))))))
 refine wpF_cond (((kindA x.1.kind) : Nat) = (3)) (vr (.bool (decide (((kindA x.1.kind) : Nat) = (3)))) rfl) (fun hc3 => ?_) (fun hc3 => ?_)
 ·refine sk fun K116 hK116 => (wt (oM rfl (oS rfl (Yk.fieldAt rd6_fo33_1 (vr (PQ n10 0) rfl) (oS rfl (Yk.cell1 rd6_ty9 rfl (vr (PQ n10 1) rfl) (cellAt hb20 (show (xacC x)[1]? = some (St (x.1.name) : Value) from xac_g1 x)) (oS rfl (Yk.callA2 rd6_pl26 T0 (vr (St (x.1.name)) rfl) ((drop_nil _ x.1.name).mono ?_)))))))))
  rintro e w118 ⟨rfl, hx117⟩
  refine ⟨_, rfl, ?_⟩
  have hE := hE.trans hx117
  have hb8 := eb hx117 hb8
  have hA16 := hA16.trans hx117
  have hb20 := eb hx117 hb20
  have hA28 := hA28.trans hx117
  have hb35 := eb hx117 hb35
  refine oA rfl (oZ (tN (hK116 _ _ (wt (oS rfl (Yk.loadAll (vr (PQ n2 0) rfl) hb8 (rd6_ty50).choose_spec rfl (st_isz (rdk_len (noR q)) rd6_isz50) (oS rfl (Yk.fieldAt rd6_fo33_1 (vr (PQ n10 0) rfl) (oS rfl (Yk.cell1 rd6_ty9 rfl (vr (PQ n10 1) rfl) (cellAt hb20 (show (xacC x)[1]? = some (St (x.1.name) : Value) from xac_g1 x)) (oS rfl (Yk.callA4 rd6_pl42 (vr (.agg (rdkC (noR q)).toArray) rfl) (vr (St (x.1.name)) rfl) (vr (St (([] : List UInt8))) rfl) (vr (.bool (true)) rfl) ((rturn_no _ q x.1.name ([] : List UInt8) true).mono ?_)))))))))))))
  rintro e w120 ⟨rfl, hx119⟩
  refine ⟨_, rfl, ?_⟩
  have hE := hE.trans hx119
  have hb8 := eb hx119 hb8
  have hA16 := hA16.trans hx119
  have hb20 := eb hx119 hb20
  have hA28 := hA28.trans hx119
  have hb35 := eb hx119 hb35
  refine oM rfl (oS rfl (Yk.extract (vs := [.agg (rdkC (noR q)).toArray, NI 1]) (vr (.tuple #[.agg (rdkC (noR q)).toArray, NI 1]) rfl) (show _ = some (.agg (rdkC (noR q)).toArray : Value) from rfl) (oS rfl (Yk.extract (vs := [.agg (rdkC (noR q)).toArray, NI 1]) (vr (.tuple #[.agg (rdkC (noR q)).toArray, NI 1]) rfl) (show _ = some (NI 1 : Value) from rfl) (oS rfl (Yk.storeAll (vr (PQ n2 0) rfl) (vr (.agg (rdkC (noR q)).toArray) rfl) hb8 (by simp only [List.size_toArray, rdk_len]) (st_isz (rdk_len _) rd6_isz50) (rdk_one (x := (noR q)) rfl rfl rfl rfl rfl) fun w121 hb122 hg123 hs124 => ?_))))))
  have hE := row_fresh hE hg123 (Nat.le_trans (Nat.le_refl _) (by omega))
  clear hA16
  have hb20 := kb hg123 hb20 (by omega)
  clear hA28
  have hb35 := kb hg123 hb35 (by omega)
  clear hb8
  have hb8 : w121.heap[n2]? = some (.cells (rdkC (noR q)).toArray 50 (0, 0)) := hb122; clear hb122
  have hl125 := bl hb8
  refine oA rfl (oZ (bN (tN (hK39 _ _ (sk fun K126 hK126 => (wt (oS rfl (Yk.loadAll (vr (PQ n2 0) rfl) hb8 (rd6_ty50).choose_spec rfl (st_isz (rdk_len (noR q)) rd6_isz50) (oM rfl (oM rfl (oS rfl (Yk.eqI (a := (1 : Nat)) (b := (1 : Nat)) rfl rfl (k_eql _ _ _ _) (oS rfl (Yk.storeAll (vr (PQ n22 0) rfl) (vr (.agg (rdkC (noR q)).toArray) rfl) hb35 (by simp only [List.size_toArray, rdk_len]) (st_isz (rdk_len _) rd6_isz50) (rdk_one (x := (noR q)) rfl rfl rfl rfl rfl) fun w127 hb128 hg129 hs130 => ?_))))))))))))))
  have hE := row_fresh hE hg129 (Nat.le_trans hz31 (by omega))
  have hb20 := kb hg129 hb20 (by omega)
  have hb8 := kb hg129 hb8 (by omega)
  clear hb35
  have hb35 : w127.heap[n22]? = some (.cells (rdkC (noR q)).toArray 50 (0, 0)) := hb128; clear hb128
  have hl131 := bl hb35
  refine oA rfl (oZ (tN (hK126 _ _ (wpF_ret (postF_ret (fn := Try.f20) _ rfl [.agg (rdkC (noR q)).toArray, .bool (true)] (.tuple #[.agg (rdkC (noR q)).toArray, .bool (true)]) rfl ⟨ResF.row rfl hb35 (rd6_ty50).choose_spec rfl (st_isz (rdk_len _) rd6_isz50), (congrArg Value.bool (decide_eq_true (rfl))), trivial⟩ ?_)))))
  exact ⟨rfl, hE⟩
 refine sk fun K132 hK132 => (wt (oS rfl (Yk.eqI (a := ((kindA x.1.kind) : Nat)) (b := (4 : Nat)) rfl rfl (k_eql _ _ _ _) (oA rfl (oZ (tN (hK132 _ _ ?_)))))))
 refine wpF_cond (((kindA x.1.kind) : Nat) = (4)) (vr (.bool (decide (((kindA x.1.kind) : Nat) = (4)))) rfl) (fun hc4 => ?_) (fun hc4 => ?_)
 ·refine sk fun K133 hK133 => (wt (oM rfl (oS rfl (Yk.fieldAt rd6_fo33_1 (vr (PQ n10 0) rfl) (oS rfl (Yk.cell1 rd6_ty9 rfl (vr (PQ n10 1) rfl) (cellAt hb20 (show (xacC x)[1]? = some (St (x.1.name) : Value) from xac_g1 x)) (oS rfl (Yk.callA2 rd6_pl15 T0 (vr (St (x.1.name)) rfl) ((read_nil _ x.1.name).mono ?_)))))))))
  rintro e w135 ⟨rfl, hx134⟩
  refine ⟨_, rfl, ?_⟩
  have hE := hE.trans hx134
  have hb8 := eb hx134 hb8
  have hA16 := hA16.trans hx134
  have hb20 := eb hx134 hb20
  have hA28 := hA28.trans hx134
  have hb35 := eb hx134 hb35
  have hr136 : RB w135 (.slice none 0 0) [] := RB.nil _
  refine oM rfl (oS rfl (Yk.extract (vs := [(.slice none 0 0), NI 1]) (vr (.tuple #[(.slice none 0 0), NI 1]) rfl) (show _ = some ((.slice none 0 0) : Value) from rfl) (oS rfl (Yk.extract (vs := [(.slice none 0 0), NI 1]) (vr (.tuple #[(.slice none 0 0), NI 1]) rfl) (show _ = some (NI 1 : Value) from rfl) (oA rfl (oA rfl (oZ (tN (hK133 _ _ (sk fun K137 hK137 => (wt (oS rfl (Yk.loadAll (vr (PQ n2 0) rfl) hb8 (rd6_ty50).choose_spec rfl (st_isz (rdk_len (noR q)) rd6_isz50) (oS rfl (Yk.fieldAt rd6_fo33_1 (vr (PQ n10 0) rfl) (oS rfl (Yk.cell1 rd6_ty9 rfl (vr (PQ n10 1) rfl) (cellAt hb20 (show (xacC x)[1]? = some (St (x.1.name) : Value) from xac_g1 x)) (oS rfl (Yk.callA2 rd6_pl43 (vr (.agg (rdkC (noR q)).toArray) rfl) (vr (St (x.1.name)) rfl) ((rread_no _ q x.1.name).mono ?_))))))))))))))))))))
  rintro e w139 ⟨rfl, hx138⟩
  refine ⟨_, rfl, ?_⟩
  have hE := hE.trans hx138
  have hb8 := eb hx138 hb8
  have hA16 := hA16.trans hx138
  have hb20 := eb hx138 hb20
  have hA28 := hA28.trans hx138
  have hb35 := eb hx138 hb35
  have hr136 := hr136.keep hx138
  have hr140 : RB w139 (.slice none 0 0) [] := RB.nil _
  refine oM rfl (oS rfl (Yk.extract (vs := [(.slice none 0 0), NI 1]) (vr (.tuple #[(.slice none 0 0), NI 1]) rfl) (show _ = some ((.slice none 0 0) : Value) from rfl) (oS rfl (Yk.extract (vs := [(.slice none 0 0), NI 1]) (vr (.tuple #[(.slice none 0 0), NI 1]) rfl) (show _ = some (NI 1 : Value) from rfl) (oA rfl (oA rfl (oZ (tN (hK137 _ _ (sk fun K141 hK141 => (sk fun K142 hK142 => (wt (oM rfl (oS rfl (Yk.convRB rd6_ty24 rd6_ty5 rd6_ty9 (RB.of hr136 (vr (.slice none 0 0) rfl)) (oM rfl (oS rfl (Yk.convRB rd6_ty24 rd6_ty5 rd6_ty9 (RB.of hr140 (vr (.slice none 0 0) rfl)) (oS rfl (Yk.eqSt (l := ([] : List UInt8)) (m := ([] : List UInt8)) (.inr rfl) (vr (St (([] : List UInt8))) rfl) (vr (St (([] : List UInt8))) rfl) (decide (([] : List UInt8) ≠ (([] : List UInt8) : List UInt8))) rfl (oL_ [(0, .pointer none), (1, .agg (rdkC (noR q)).toArray), (2, .agg (xacC x).toArray), (4, PQ n2 0), (5, PQ n10 0), (6, PQ n22 0), (7, .bool (false)), (8, NI 0), (9, NI 0), (10, (.slice none 0 0)), (11, NI 1), (12, (.slice none 0 0)), (13, NI 1), (18, NI (kindA x.1.kind)), (101, .bool (false))] ⟨T0, T1, T2, rfl, rfl, rfl, rfl, rfl, rfl, rfl, rfl, rfl, rfl, rfl, (congrArg Value.bool (decide_eq_false (fun h => h rfl))), trivial⟩ fun ρ143 ⟨T0, T1, T2, T4, T5, T6, T7, T8, T9, T10, T11, T12, T13, T18, T101, _⟩ => ?_)))))))))))))))))))))
  refine tN (hK142 _ _ (wpF_false T101 (wpF_skip (tN (hK141 _ _ (wt (oM rfl (oM rfl (oA rfl (oA rfl (oZ (bN (tN (hK39 _ _ (sk fun K144 hK144 => (wt (oS rfl (Yk.loadAll T4 hb8 (rd6_ty50).choose_spec rfl (st_isz (rdk_len (noR q)) rd6_isz50) (oM rfl ?_)))))))))))))))))))
  refine oM rfl (oS rfl (Yk.eqI (a := (1 : Nat)) (b := (1 : Nat)) T11 T13 (k_eql _ _ _ _) (oS rfl (Yk.storeAll T6 (vr (.agg (rdkC (noR q)).toArray) rfl) hb35 (by simp only [List.size_toArray, rdk_len]) (st_isz (rdk_len _) rd6_isz50) (rdk_one (x := (noR q)) rfl rfl rfl rfl rfl) fun w145 hb146 hg147 hs148 => ?_))))
  have hE := row_fresh hE hg147 (Nat.le_trans hz31 (by omega))
  have hb8 := kb hg147 hb8 (by omega)
  have hA16 := row_fresh hA16 hg147 (Nat.le_trans hz32 (by omega))
  have hb20 := kb hg147 hb20 (by omega)
  have hA28 := row_fresh hA28 hg147 (Nat.le_trans (Nat.le_refl _) (by omega))
  clear hr136
  clear hr140
  clear hb35
  have hb35 : w145.heap[n22]? = some (.cells (rdkC (noR q)).toArray 50 (0, 0)) := hb146; clear hb146
  have hl149 := bl hb35
  refine oA rfl (oZ (tN (hK144 _ _ (wpF_ret (postF_ret (fn := Try.f20) _ rfl [.agg (rdkC (noR q)).toArray, .bool (true)] (.tuple #[.agg (rdkC (noR q)).toArray, .bool (true)]) rfl ⟨ResF.row T6 hb35 (rd6_ty50).choose_spec rfl (st_isz (rdk_len _) rd6_isz50), (congrArg Value.bool (decide_eq_true (rfl))), trivial⟩ ?_)))))
  exact ⟨rfl, hE⟩
 refine sk fun K150 hK150 => (wt (oS rfl (Yk.eqI (a := ((kindA x.1.kind) : Nat)) (b := (5 : Nat)) rfl rfl (k_eql _ _ _ _) (oA rfl (oZ (tN (hK150 _ _ ?_)))))))
 refine wpF_cond (((kindA x.1.kind) : Nat) = (5)) (vr (.bool (decide (((kindA x.1.kind) : Nat) = (5)))) rfl) (fun hc6 => ?_) (fun hc6 => ?_)
 ·refine sk fun K151 hK151 => (wt (oM rfl (oS rfl (Yk.fieldAt rd6_fo33_4 (vr (PQ n10 0) rfl) (oS rfl (Yk.cell1 rd6_ty3 rfl (vr (PQ n10 4) rfl) (cellAt hb20 (show (xacC x)[4]? = some (.int .i64 (x.1.n : Int) : Value) from xac_g4 x)) (oS rfl (Yk.callA2 rd6_pl12 T0 (vr (.int .i64 (x.1.n : Int)) rfl) ((arm_nil _ x.1.n).mono ?_)))))))))
  rintro e w153 ⟨rfl, hx152⟩
  refine ⟨_, rfl, ?_⟩
  have hE := hE.trans hx152
  have hb8 := eb hx152 hb8
  have hA16 := hA16.trans hx152
  have hb20 := eb hx152 hb20
  have hA28 := hA28.trans hx152
  have hb35 := eb hx152 hb35
  refine oZ (tN (hK151 _ _ (sk fun K154 hK154 => (wt (oS rfl (Yk.fieldAt rd6_fo50_0 (vr (PQ n2 0) rfl) (oS rfl (Yk.cell1 rd6_ty4 rfl (vr (PQ n2 0) rfl) (cellAt hb8 (show (rdkC (noR q))[0]? = some (.bool (false) : Value) from rdk_g0 (noR q))) (oZ (tN (hK154 _ _ (wpF_false (vr (.bool (false)) rfl) (wpF_skip (bN (tN (hK39 _ _ (sk fun K155 hK155 => (wt (oS rfl (Yk.loadAll (vr (PQ n2 0) rfl) hb8 (rd6_ty50).choose_spec rfl (st_isz (rdk_len (noR q)) rd6_isz50) (oM rfl ?_)))))))))))))))))))))
  refine oM rfl (oS rfl (Yk.eqI (a := (0 : Nat)) (b := (0 : Nat)) rfl rfl (k_eql _ _ _ _) (oS rfl (Yk.storeAll (vr (PQ n22 0) rfl) (vr (.agg (rdkC (noR q)).toArray) rfl) hb35 (by simp only [List.size_toArray, rdk_len]) (st_isz (rdk_len _) rd6_isz50) (rdk_one (x := (noR q)) rfl rfl rfl rfl rfl) fun w156 hb157 hg158 hs159 => ?_))))
  have hE := row_fresh hE hg158 (Nat.le_trans hz31 (by omega))
  have hb8 := kb hg158 hb8 (by omega)
  have hA16 := row_fresh hA16 hg158 (Nat.le_trans hz32 (by omega))
  have hb20 := kb hg158 hb20 (by omega)
  have hA28 := row_fresh hA28 hg158 (Nat.le_trans (Nat.le_refl _) (by omega))
  clear hb35
  have hb35 : w156.heap[n22]? = some (.cells (rdkC (noR q)).toArray 50 (0, 0)) := hb157; clear hb157
  have hl160 := bl hb35
  refine oA rfl (oZ (tN (hK155 _ _ (wpF_ret (postF_ret (fn := Try.f20) _ rfl [.agg (rdkC (noR q)).toArray, .bool (true)] (.tuple #[.agg (rdkC (noR q)).toArray, .bool (true)]) rfl ⟨ResF.row rfl hb35 (rd6_ty50).choose_spec rfl (st_isz (rdk_len _) rd6_isz50), (congrArg Value.bool (decide_eq_true (rfl))), trivial⟩ ?_)))))
  exact ⟨rfl, hE⟩
 refine sk fun K161 hK161 => (wt (oS rfl (Yk.eqI (a := ((kindA x.1.kind) : Nat)) (b := (6 : Nat)) rfl rfl (k_eql _ _ _ _) (oA rfl (oZ (tN (hK161 _ _ ?_)))))))
 refine wpF_cond (((kindA x.1.kind) : Nat) = (6)) (vr (.bool (decide (((kindA x.1.kind) : Nat) = (6)))) rfl) (fun hc8 => ?_) (fun hc8 => ?_)
 ·refine sk fun K162 hK162 => (wt (oM rfl ?_))
  have hA167 := Ext.refl w23
  have hea168 := hE
  have hea169 := hA16
  have hea170 := hA28
  have hz171 := hE.size
  have hz172 := hA16.size
  have hz173 := hA28.size
  refine oS rfl (Yk.lit0G (k := 1) (enc := enI) rd6_l0_25 fun v163 w164 ho165 hx166 => ?_)
  have hap174 : OB v163 n2 := own_older ho165.2 (bl hb8)
  have hap175 : OB v163 n10 := own_older ho165.2 (bl hb20)
  have hap176 : OB v163 n22 := own_older ho165.2 (bl hb35)
  have hE := hE.trans hx166
  have hb8 := eb hx166 hb8
  have hA16 := hA16.trans hx166
  have hb20 := eb hx166 hb20
  have hA28 := hA28.trans hx166
  have hb35 := eb hx166 hb35
  have hA167 := hA167.trans hx166
  refine oS rfl (Yk.fieldAt rd6_fo33_5 (vr (PQ n10 0) rfl) (oS rfl (Yk.cell1 rd6_ty25 rfl (vr (PQ n10 5) rfl) (cellAt hb20 (show (xacC x)[5]? = some (x.2.fates : Value) from xac_g5 x)) (oS rfl (Yk.appendRG _ _ w23.heap.size _ 8 rd6_ty25 rd6_ig3.choose_spec.1 rd6_ig3.choose_spec.2 rd6_ty25 ([]) (x.1.fates) (OG.of ho165 (vr v163 rfl)) (RG.of (hxf.keep hE) (vr x.2.fates rfl)) (fun y hy u hu => by rw [List.mem_singleton.1 hu]; rfl) (by simp only [List.length_nil]; omega) (by simp only [List.length_nil]; omega) hA167.size fun v177 w178 ho179 hg180 => ?_)))))
  have hg180 : Grew w164 w178 v163 v177 := hg180
  have hap181 : OB v177 n2 := apart_grew hg180 hap174 (bl hb8)
  have hap182 : OB v177 n10 := apart_grew hg180 hap175 (bl hb20)
  have hap183 : OB v177 n22 := apart_grew hg180 hap176 (bl hb35)
  have hE := ext_grew hE hg180 ho165.2 hz171
  have hb8 := blk_grew hb8 hg180 hap174
  have hA16 := ext_grew hA16 hg180 ho165.2 hz172
  have hb20 := blk_grew hb20 hg180 hap175
  have hA28 := ext_grew hA28 hg180 ho165.2 hz173
  have hb35 := blk_grew hb35 hg180 hap176
  have hA167 := ext_grew hA167 hg180 ho165.2 (Nat.le_refl _)
  clear ho165
  refine oS rfl (Yk.callA2 rd6_pl11 T0 (vr v177 rfl) ((crash_nil _ v177 x.1.fates (rg_eq (RG.ofOwn ho179) (List.nil_append _))).mono ?_))
  rintro e w185 ⟨rfl, hx184⟩
  refine ⟨_, rfl, ?_⟩
  have hE := hE.trans hx184
  have hb8 := eb hx184 hb8
  have hA16 := hA16.trans hx184
  have hb20 := eb hx184 hb20
  have hA28 := hA28.trans hx184
  have hb35 := eb hx184 hb35
  have hA167 := hA167.trans hx184
  have ho179 := ho179.keep hx184
  refine oZ (tN (hK162 _ _ (wt (oS rfl (Yk.loadAll (vr (PQ n2 0) rfl) hb8 (rd6_ty50).choose_spec rfl (st_isz (rdk_len (noR q)) rd6_isz50) (oS rfl (Yk.fieldAt rd6_fo33_5 (vr (PQ n10 0) rfl) (oS rfl (Yk.cell1 rd6_ty25 rfl (vr (PQ n10 5) rfl) (cellAt hb20 (show (xacC x)[5]? = some (x.2.fates : Value) from xac_g5 x)) (oS rfl (Yk.callA2 rd6_pl44 (vr (.agg (rdkC (noR q)).toArray) rfl) (vr x.2.fates rfl) ((rcrash_no _ q x.2.fates).mono ?_))))))))))))
  rintro e w187 ⟨rfl, hx186⟩
  refine ⟨_, rfl, ?_⟩
  have hE := hE.trans hx186
  have hb8 := eb hx186 hb8
  have hA16 := hA16.trans hx186
  have hb20 := eb hx186 hb20
  have hA28 := hA28.trans hx186
  have hb35 := eb hx186 hb35
  have hA167 := hA167.trans hx186
  have ho179 := ho179.keep hx186
  refine oS rfl (Yk.storeAll (vr (PQ n2 0) rfl) (vr (.agg (rdkC (noR q)).toArray) rfl) hb8 (by simp only [List.size_toArray, rdk_len]) (st_isz (rdk_len _) rd6_isz50) (rdk_one (x := (noR q)) rfl rfl rfl rfl rfl) fun w188 hb189 hg190 hs191 => ?_)
  have hE := row_fresh hE hg190 (Nat.le_trans (Nat.le_refl _) (by omega))
  clear hA16
  have hb20 := kb hg190 hb20 (by omega)
  clear hA28
  have hb35 := kb hg190 hb35 (by omega)
  clear hA167
  have ho179 := OG.kept ho179 hg190 hap181
  clear hb8
  have hb8 : w188.heap[n2]? = some (.cells (rdkC (noR q)).toArray 50 (0, 0)) := hb189; clear hb189
  have hl192 := bl hb8
  refine oZ (bN (tN (hK39 _ _ (sk fun K193 hK193 => (wt (oS rfl (Yk.loadAll (vr (PQ n2 0) rfl) hb8 (rd6_ty50).choose_spec rfl (st_isz (rdk_len (noR q)) rd6_isz50) (oM rfl (oM rfl (oS rfl (Yk.eqI (a := (0 : Nat)) (b := (0 : Nat)) rfl rfl (k_eql _ _ _ _) (oS rfl (Yk.storeAll (vr (PQ n22 0) rfl) (vr (.agg (rdkC (noR q)).toArray) rfl) hb35 (by simp only [List.size_toArray, rdk_len]) (st_isz (rdk_len _) rd6_isz50) (rdk_one (x := (noR q)) rfl rfl rfl rfl rfl) fun w194 hb195 hg196 hs197 => ?_)))))))))))))
  have hE := row_fresh hE hg196 (Nat.le_trans hz31 (by omega))
  have hb20 := kb hg196 hb20 (by omega)
  have ho179 := OG.kept ho179 hg196 hap183
  have hb8 := kb hg196 hb8 (by omega)
  clear hb35
  have hb35 : w194.heap[n22]? = some (.cells (rdkC (noR q)).toArray 50 (0, 0)) := hb195; clear hb195
  have hl198 := bl hb35
  refine oA rfl (oL_ [(0, .pointer none), (1, .agg (rdkC (noR q)).toArray), (2, .agg (xacC x).toArray), (4, PQ n2 0), (5, PQ n10 0), (6, PQ n22 0), (7, .bool (true)), (8, NI 0), (9, NI 0), (18, NI (kindA x.1.kind))] ⟨T0, T1, T2, rfl, rfl, rfl, (congrArg Value.bool (decide_eq_true (rfl))), rfl, rfl, rfl, trivial⟩ fun ρ199 ⟨T0, T1, T2, T4, T5, T6, T7, T8, T9, T18, _⟩ => (tN (hK193 _ _ (wpF_ret (postF_ret (fn := Try.f20) _ rfl [.agg (rdkC (noR q)).toArray, .bool (true)] (.tuple #[.agg (rdkC (noR q)).toArray, .bool (true)]) rfl ⟨ResF.row T6 hb35 (rd6_ty50).choose_spec rfl (st_isz (rdk_len _) rd6_isz50), T7, trivial⟩ ?_)))))
  exact ⟨rfl, hE⟩
 exact absurd (kindA_lt x.1.kind) (by omega)

theorem played_at (wb w : World) (g : Nat) (H : Dk) (D : Dsk) (hD : DkG wb w g H D) (V : RdkW) (Q : Nat → Prop) (hQ : ∀ i, Q i → i < w.heap.size) (hR : RdAt (OffQ H D.files.length Q) w D V) (x : XactV) (hx : XactAt wb x) (hbl : x.1.bytes.length ≤ 300) (hfs : x.1.fates.length ≤ 100) (hL : DLt D) (hfn : D.files.length < 1099511627776) (hn1 : D.now.length + 1 < 1099511627776) (ha1 : D.acts.length + 1 < 1099511627776) (hf1 : D.files.length + 1 < 1099511627776) :
  Calls Try.prog 20 #[PQ g 0, .agg (rdkC (refP D, V)).toArray, .agg (xacC x).toArray] w fun e w' => ∃ H' V', e = .returned (.tuple #[.agg (rdkC (refP (actP D x.1), V')).toArray, .bool true]) ∧ DkW wb w g H D w' H' (actP D x.1) ∧ RdAt (OffQ H' (actP D x.1).files.length Q) w' (actP D x.1) V' := by
 have hE0 := hD.ext
 have hxb := hx.bytes
 have hxf := hx.fates
 have hD0 := hD
 have hR0 := hR
 have hok := hD.st.ok
 obtain ⟨vsq, -, hfq⟩ := hR.files
 have hfiles := hfq.1
 have hsynced := hR.synced.1
 have hnow := hR.now.1
 have hkept := hR.kept.1
 have hacts := hR.acts.1
 refine calls_of_wpF (args := [PQ g 0, .agg (rdkC (refP D, V)).toArray, .agg (xacC x).toArray]) Try.func20 rfl 133 rfl (Nat.le_of_ble_eq_true rfl) ?_
 intro ρ0 hb
 have T0 : ρ0 0 = (PQ g 0 : Value) := hb.get 0
 have T1 : ρ0 1 = (.agg (rdkC (refP D, V)).toArray : Value) := hb.get 1
 have T2 : ρ0 2 = (.agg (xacC x).toArray : Value) := hb.get 2
 clear hb
 have hE := Ext.refl w
 refine sk fun K1 hK1 => (wt (oS rfl (Yk.box (cs := (rdkC (refP D, V) : List Value).toArray) T1 fun n2 w3 hn4 hb5 hx6 hs7 => ?_)))
 have hA8 := Ext.refl w
 have hea9 := hE
 have hea10 := hE0
 have hz11 := hE.size
 have hz12 := hE0.size
 have hD : DkG wb w3 g H (D) := (hD.keep hx6)
 have hR : RdAt (OffQ H (D).files.length (Q)) w3 (D) V := (hR.keep hx6)
 have hE := hE.trans hx6
 have hE0 := hE0.trans hx6
 have hA8 := hA8.trans hx6
 have hb13 := hb5; clear hb5
 have hl14 : n2 < w3.heap.size := by omega
 refine oS rfl (Yk.box (cs := (xacC x : List Value).toArray) T2 fun n15 w16 hn17 hb18 hx19 hs20 => ?_)
 have hA21 := Ext.refl w3
 have hea22 := hE
 have hea23 := hE0
 have hea24 := hA8
 have hz25 := hE.size
 have hz26 := hE0.size
 have hz27 := hA8.size
 have hlt28 := lte (bl hb13) hn17
 have hD : DkG wb w16 g H (D) := (hD.keep hx19)
 have hR : RdAt (OffQ H (D).files.length (Q)) w16 (D) V := (hR.keep hx19)
 have hE := hE.trans hx19
 have hE0 := hE0.trans hx19
 have hA8 := hA8.trans hx19
 have hb13 := eb hx19 hb13
 have hA21 := hA21.trans hx19
 have hb29 := hb18; clear hb18
 have hl30 : n15 < w16.heap.size := by omega
 refine oS rfl (Yk.alloc (cs := (rdkC ((⟨false, 0, [], [], [], [], [], 0, 0, false⟩, ⟨.slice none 0 0, .slice none 0 0, .slice none 0 0, .slice none 0 0, .slice none 0 0⟩) : RdkV)).toArray) rd6_al50 fun n31 w32 hn33 hb34 hx35 hs36 => ?_)
 have hA37 := Ext.refl w16
 have hea38 := hE
 have hea39 := hE0
 have hea40 := hA8
 have hea41 := hA21
 have hz42 := hE.size
 have hz43 := hE0.size
 have hz44 := hA8.size
 have hz45 := hA21.size
 have hlt46 := lte (bl hb13) hn33
 have hlt47 := lte (bl hb29) hn33
 have hD : DkG wb w32 g H (D) := (hD.keep hx35)
 have hR : RdAt (OffQ H (D).files.length (Q)) w32 (D) V := (hR.keep hx35)
 have hE := hE.trans hx35
 have hE0 := hE0.trans hx35
 have hA8 := hA8.trans hx35
 have hb13 := eb hx35 hb13
 have hA21 := hA21.trans hx35
 have hb29 := eb hx35 hb29
 have hA37 := hA37.trans hx35
 have hb48 := hb34; clear hb34
 have hl49 : n31 < w32.heap.size := by omega
 refine oA rfl (oZ ?_)
 have hR := RdAt.addQ hR0 hE (a := n2) (b := n31) (by omega) (by omega)
 have hD := hD0.keep hE
 have hwz := hE0.size
 have hQ2 : ∀ i, (Q i ∨ i = n2 ∨ i = n31) → i < w32.heap.size := fun i q => by rcases q with q | q | q; have := hQ i q; omega; omega; omega
 have hC : Chg (Foot H D.files.length) w w32 := Chg.ofExt hE
 have hF : ∀ i, Foot H D.files.length i → Foot H D.files.length i ∨ w.heap.size ≤ i := fun _ q => .inl q
 refine tN (hK1 _ _ (sk fun K50 hK50 => (wt (oA rfl (oZ (tN (hK50 _ _ (sk fun K51 hK51 => (wt (oA rfl (oZ ?_)))))))))))
 have hbd := tmod_bd x.1.kind 6
 refine tN (hK51 _ _ (sk fun K52 hK52 => (sk fun K53 hK53 => (wt (oS rfl (Yk.fieldAt rd6_fo33_0 (vr (PQ n15 0) rfl) (oS rfl (Yk.cell1 rd6_ty3 rfl (vr (PQ n15 0) rfl) (cellAt hb29 (show (xacC x)[0]? = some (.int .i64 (x.1.kind : Int) : Value) from xac_g0 x)) (oS rfl (Yk.bin (xv := .int .i64 (x.1.kind)) (yv := NI 7) rfl rfl rfl (zi_rem _ (x.1.kind) _ (by decide)) (oS rfl (Yk.bin (xv := .int .i64 ((Int.tmod (x.1.kind) ((6 + 1 : Nat) : Int)))) (yv := .int .i64 (((7 : Nat) : Int))) rfl rfl rfl (zi_add _ ((Int.tmod (x.1.kind) ((6 + 1 : Nat) : Int))) (((7 : Nat) : Int)) (by omega)) (oS rfl (Yk.bin (xv := .int .i64 ((((Int.tmod (x.1.kind) ((6 + 1 : Nat) : Int))) + (((7 : Nat) : Int))))) (yv := NI 7) rfl rfl rfl (zi_fate _ (x.1.kind) 6 _ (by omega)) (oZ (tN (hK53 _ _ (wpF_block (sk fun K54 hK54 => (wt (oS rfl (Yk.eqI (a := ((kindA x.1.kind) : Nat)) (b := (0 : Nat)) rfl rfl (k_eql _ _ _ _) (oA rfl ?_)))))))))))))))))))))))
 refine oZ (tN (hK54 _ _ ?_))
 refine wpF_cond (((kindA x.1.kind) : Nat) = (0)) (vr (.bool (decide (((kindA x.1.kind) : Nat) = (0)))) rfl) (fun hc0 => ?_) (fun hc0 => ?_)
 ·have hV : actP D x.1 = (appendD D x.1.name x.1.bytes).1 := by unfold actP; rw [if_pos hc0]
  have hA55 := Ext.refl w32
  have hea56 := hE
  have hea57 := hE0
  have hea58 := hA8
  have hea59 := hA21
  have hea60 := hA37
  have hz61 := hE.size
  have hz62 := hE0.size
  have hz63 := hA8.size
  have hz64 := hA21.size
  have hz65 := hA37.size
  have hcw : w.heap.size ≤ w32.heap.size := hE.size
  have hDb := hD
  refine sk fun K66 hK66 => ?_
  have hx67 : Ext w32 (World.drew w32) := (Below.refl _ _).drew
  have hE := hE.trans hx67
  have hE0 := hE0.trans hx67
  have hA8 := hA8.trans hx67
  have hb13 := eb hx67 hb13
  have hA21 := hA21.trans hx67
  have hb29 := eb hx67 hb29
  have hA37 := hA37.trans hx67
  have hb48 := eb hx67 hb48
  have hC : Chg (Foot H D.files.length) w (World.drew w32) := (hC.keep hx67)
  have hA55 := hA55.trans hx67
  refine wpF_floatI [(0, 21, PQ g 0), (1, 22, PQ n15 1), (2, 23, St (x.1.name)), (4, 25, PQ n15 3), (5, 26, x.2.bytes)] [3, 6, 7, 8] (fun wz => Ext wb wz ∧ wz.heap[n2]? = some (.cells (rdkC (refP D, V)).toArray 50 (0, 0)) ∧ wz.heap[n15]? = some (.cells (xacC x).toArray 33 (0, 0)) ∧ wz.heap[n31]? = some (.cells (rdkC ((⟨false, 0, [], [], [], [], [], 0, 0, false⟩, ⟨.slice none 0 0, .slice none 0 0, .slice none 0 0, .slice none 0 0, .slice none 0 0⟩) : RdkV)).toArray 50 (0, 0)) ∧ True) (by kernel_rfl) (by kernel_rfl) (by kernel_rfl) ⟨hE0, hb13, hb29, hb48, trivial⟩ ⟨fun w68 ⟨hE0, hb13, hb29, hb48, _⟩ => Yk.move T0 ⟨rfl, rfl⟩, fun w68 ⟨hE0, hb13, hb29, hb48, _⟩ => Yk.fieldAt rd6_fo33_1 (vr (PQ n15 0) rfl) ⟨rfl, rfl⟩, fun w68 ⟨hE0, hb13, hb29, hb48, _⟩ => Yk.cell1 rd6_ty9 rfl (vr (PQ n15 1) rfl) (cellAt hb29 (show (xacC x)[1]? = some (St (x.1.name) : Value) from xac_g1 x)) ⟨rfl, rfl⟩, fun w68 ⟨hE0, hb13, hb29, hb48, _⟩ => Yk.fieldAt rd6_fo33_3 (vr (PQ n15 0) rfl) ⟨rfl, rfl⟩, fun w68 ⟨hE0, hb13, hb29, hb48, _⟩ => Yk.cell1 rd6_ty24 rfl (vr (PQ n15 3) rfl) (cellAt hb29 (show (xacC x)[3]? = some (x.2.bytes : Value) from xac_g3 x)) ⟨rfl, rfl⟩, trivial⟩ (chI_step rfl (Yk.lit0 rd6_l0_24 fun v69 w70 hN71 => ?_))
  have hA72 := Ext.refl (World.drew w32)
  have hea73 := hE
  have hea74 := hE0
  have hea75 := hA8
  have hea76 := hA21
  have hea77 := hA37
  have hea78 := hA55
  have hz79 : w.heap.size ≤ (World.drew w32).heap.size := hE.size
  have hz80 : wb.heap.size ≤ (World.drew w32).heap.size := hE0.size
  have hz81 : w.heap.size ≤ (World.drew w32).heap.size := hA8.size
  have hz82 : w3.heap.size ≤ (World.drew w32).heap.size := hA21.size
  have hz83 : w16.heap.size ≤ (World.drew w32).heap.size := hA37.size
  have hz84 : w32.heap.size ≤ (World.drew w32).heap.size := hA55.size
  have hap85 : OB v69 n2 := own_older hN71.own (bl hb13)
  have hap86 : OB v69 n15 := own_older hN71.own (bl hb29)
  have hap87 : OB v69 n31 := own_older hN71.own (bl hb48)
  have hE := hE.trans hN71.ext
  have hE0 := hE0.trans hN71.ext
  have hA8 := hA8.trans hN71.ext
  have hb13 := eb hN71.ext hb13
  have hA21 := hA21.trans hN71.ext
  have hb29 := eb hN71.ext hb29
  have hA37 := hA37.trans hN71.ext
  have hb48 := eb hN71.ext hb48
  have hC : Chg (Foot H D.files.length) w w70 := (hC.keep hN71.ext)
  have hA55 := hA55.trans hN71.ext
  have hA72 := hA72.trans hN71.ext
  have ho88 := hN71.own; clear hN71
  have hbz : w32.heap.size ≤ (World.drew w32).heap.size := (show Ext w32 (World.drew w32) from (Below.refl _ _).drew).size
  refine ⟨⟨hE0, hb13, hb29, hb48, trivial⟩, ?_⟩
  refine chI_step rfl (Yk.appendRB _ _ (World.drew w32).heap.size (.int .u8 0) rd6_ty24 rd6_inf5 rfl rd6_ty24 (([] : List UInt8)) (x.1.bytes) (own_of ho88 (vr v69 rfl)) (RB.of (hxb.keep hE0) (vr x.2.bytes rfl)) (by simp only [List.length_nil]; omega) hA72.size fun v89 w90 ho91 hg92 => ?_)
  have hg92 : Grew w70 w90 v69 v89 := hg92
  have hap93 : OB v89 n2 := apart_grew hg92 hap85 (bl hb13)
  have hap94 : OB v89 n15 := apart_grew hg92 hap86 (bl hb29)
  have hap95 : OB v89 n31 := apart_grew hg92 hap87 (bl hb48)
  have hE := ext_grew hE hg92 ho88 hz81
  have hE0 := ext_grew hE0 hg92 ho88 hz80
  have hA8 := ext_grew hA8 hg92 ho88 hz81
  have hb13 := blk_grew hb13 hg92 hap85
  have hA21 := ext_grew hA21 hg92 ho88 hz82
  have hb29 := blk_grew hb29 hg92 hap86
  have hA37 := ext_grew hA37 hg92 ho88 hz83
  have hb48 := blk_grew hb48 hg92 hap87
  have hC : Chg (Foot H D.files.length) w w90 := Chg.grew hC hg92 (fun i e => .inr (by have h8 := (ho88.lt i e).1; omega))
  have hA55 := ext_grew hA55 hg92 ho88 hz84
  have hA72 := ext_grew hA72 hg92 ho88 (Nat.le_refl _)
  clear ho88
  refine ⟨⟨hE0, hb13, hb29, hb48, trivial⟩, ?_⟩
  have hrb_ := RB.ofOwn (own_eq (l' := x.1.bytes) ho91 (List.nil_append _))
  have hDold := hDb
  have hD := (hD.keep hA55)
  have hR := (hR.keep hA55)
  have hDc := hD
  have hRc := hR
  have hcs : w.heap.size ≤ w90.heap.size := hC.size
  refine chI_step rfl (Yk.callA3 rd6_pl13 (vr (PQ g 0) rfl) (vr (St (x.1.name)) rfl) (vr v89 rfl) ((hDc.appendW x.1.name v89 x.1.bytes hrb_ (.inr (fun i hi q => by have h1 := (hDb.st.foot q).2.1; have h2 := (ho91.lt i hi).1; have h3 := hbz; omega)) (by omega) hL).mono ?_))
  rintro e w98 ⟨H96, rfl, hW97⟩
  refine ⟨_, rfl, ?_⟩
  have hok_ := hDc.st.ok
  have hE0 : Ext wb w98 := hW97.g.ext
  have hb13 : w98.heap[n2]? = some (.cells (rdkC (refP D, V)).toArray 50 (0, 0)) := DkG.box hDc hW97.chg hb13 (by decide) (by decide) (by decide) (by decide)
  have hb29 : w98.heap[n15]? = some (.cells (xacC x).toArray 33 (0, 0)) := DkG.box hDc hW97.chg hb29 (by decide) (by decide) (by decide) (by decide)
  have hb48 : w98.heap[n31]? = some (.cells (rdkC ((⟨false, 0, [], [], [], [], [], 0, 0, false⟩, ⟨.slice none 0 0, .slice none 0 0, .slice none 0 0, .slice none 0 0, .slice none 0 0⟩) : RdkV)).toArray 50 (0, 0)) := DkG.box hDc hW97.chg hb48 (by decide) (by decide) (by decide) (by decide)
  have hC : Chg (Foot H D.files.length) w w98 := hC.trans hW97.chg hF
  clear hD
  clear hR
  clear hE
  clear hA8
  clear hA21
  clear hA37
  clear hA55
  clear hA72
  clear ho91
  have hD := hW97.g
  have hR := hRc.stepQ hW97
  have hFo := hW97.foot
  refine ⟨⟨hE0, hb13, hb29, hb48, trivial⟩, ?_⟩
  refine chI_step rfl (Yk.assign (vr (NI ((appendD D x.1.name x.1.bytes).2)) rfl) ?_)
  refine ⟨⟨hE0, hb13, hb29, hb48, trivial⟩, ?_⟩
  refine chI_nil (tN (hK66 _ _ (wt (oS rfl (Yk.loadAll (vr (PQ n2 0) rfl) hb13 (rd6_ty50).choose_spec rfl (st_isz (rdk_len (refP D, V)) rd6_isz50) (oS rfl (Yk.fieldAt rd6_fo33_1 (vr (PQ n15 0) rfl) (oS rfl (Yk.cell1 rd6_ty9 rfl (vr (PQ n15 1) rfl) (cellAt hb29 (show (xacC x)[1]? = some (St (x.1.name) : Value) from xac_g1 x)) (oS rfl (Yk.fieldAt rd6_fo33_3 (vr (PQ n15 0) rfl) (oS rfl (Yk.cell1 rd6_ty24 rfl (vr (PQ n15 3) rfl) (cellAt hb29 (show (xacC x)[3]? = some (x.2.bytes : Value) from xac_g3 x)) ?_)))))))))))))
  have h4l := (bl hb13)
  have h6l := (bl hb48)
  have hcl := (hC).size
  have hQ3 : ∀ i, (fun i => Q i ∨ i = n2 ∨ i = n31) i → i < w98.heap.size := fun i q => by rcases q with q | q | q; have := hQ i q; omega; omega; omega
  have hDc := hD
  have hRc := hR
  refine oS rfl (Yk.callA3 rd6_pl40 (vr (.agg (rdkC (refP D, V)).toArray) rfl) (vr (St (x.1.name)) rfl) (vr x.2.bytes rfl) ((rappend_any _ D V hR (hD.offq hQ3) hok hL hfn x.1.name x.2.bytes x.1.bytes (hxb.keep hE0) (by omega) hn1 ha1 hf1).mono ?_))
  rintro e w102 ⟨V99, rfl, hR100, hx101⟩
  refine ⟨_, rfl, ?_⟩
  have hE0 := hE0.trans hx101
  have hb13 := eb hx101 hb13
  have hb29 := eb hx101 hb29
  have hb48 := eb hx101 hb48
  have hC : Chg (Foot H D.files.length) w w102 := (hC.keep hx101)
  have hD : DkG wb w102 g H96 ((appendD D x.1.name x.1.bytes).1) := (hD.keep hx101)
  have hR : RdAt (OffQ H96 ((appendD D x.1.name x.1.bytes).1).files.length (fun i => Q i ∨ i = n2 ∨ i = n31)) w102 (D) V := (hR.keep hx101)
  have hR := hR100
  refine oM rfl (oS rfl (Yk.extract (vs := [.agg (rdkC (refP ((appendD D x.1.name x.1.bytes).1), V99)).toArray, NI ((appendD D x.1.name x.1.bytes).2)]) (vr (.tuple #[.agg (rdkC (refP ((appendD D x.1.name x.1.bytes).1), V99)).toArray, NI ((appendD D x.1.name x.1.bytes).2)]) rfl) (show _ = some (.agg (rdkC (refP ((appendD D x.1.name x.1.bytes).1), V99)).toArray : Value) from rfl) (oS rfl (Yk.extract (vs := [.agg (rdkC (refP ((appendD D x.1.name x.1.bytes).1), V99)).toArray, NI ((appendD D x.1.name x.1.bytes).2)]) (vr (.tuple #[.agg (rdkC (refP ((appendD D x.1.name x.1.bytes).1), V99)).toArray, NI ((appendD D x.1.name x.1.bytes).2)]) rfl) (show _ = some (NI ((appendD D x.1.name x.1.bytes).2) : Value) from rfl) ?_))))
  obtain ⟨lq_, -, hq108⟩ := hR.files
  have hq103 := hq108.1
  have hq104 := hR.synced.1
  have hq105 := hR.now.1
  have hq106 := hR.kept.1
  have hq107 := hR.acts.1
  refine oS rfl (Yk.storeAll (vr (PQ n2 0) rfl) (vr (.agg (rdkC (refP ((appendD D x.1.name x.1.bytes).1), V99)).toArray) rfl) hb13 (by simp only [List.size_toArray, rdk_len]) (st_isz (rdk_len _) rd6_isz50) (rdk_one (x := (refP ((appendD D x.1.name x.1.bytes).1), V99)) (RG.one hq103).2 (RG.one hq104).2 (RG.one hq105).2 (RG.one hq106).2 (RG.one hq107).2) fun w109 hb110 hg111 hs112 => ?_)
  have hE0 := row_fresh hE0 hg111 (Nat.le_trans hz12 (by omega))
  have hb29 := kb hg111 hb29 (by omega)
  have hb48 := kb hg111 hb48 (by omega)
  have hC : Chg (Foot H D.files.length) w w109 := Chg.set hC hg111 (.inr (by omega))
  have hD : DkG wb w109 g H96 ((appendD D x.1.name x.1.bytes).1) := DkG.setT hD hg111 hb13 (by omega) (by decide) (by decide) (by decide) (by decide) (by decide) (by decide)
  have hR : RdAt (OffQ H96 ((appendD D x.1.name x.1.bytes).1).files.length (fun i => Q i ∨ i = n2 ∨ i = n31)) w109 ((appendD D x.1.name x.1.bytes).1) V99 := RdAt.setQ hR hg111 (.inr (.inl rfl))
  clear hq103
  clear hq104
  clear hq105
  clear hq106
  clear hq107
  clear hb13
  have hb13 : w109.heap[n2]? = some (.cells (rdkC (refP ((appendD D x.1.name x.1.bytes).1), V99)).toArray 50 (0, 0)) := hb110; clear hb110
  have hl113 := bl hb13
  refine oA rfl (oZ (bN (tN (hK52 _ _ (sk fun K114 hK114 => (wt (oS rfl (Yk.loadAll (vr (PQ n2 0) rfl) hb13 (rd6_ty50).choose_spec rfl (st_isz (rdk_len (refP ((appendD D x.1.name x.1.bytes).1), V99)) rd6_isz50) (oM rfl (oM rfl (oS rfl (Yk.eqI (a := ((appendD D x.1.name x.1.bytes).2 : Nat)) (b := ((appendD D x.1.name x.1.bytes).2 : Nat)) rfl rfl (k_eql _ _ _ _) ?_))))))))))))
  obtain ⟨lq_, -, hq120⟩ := hR.files
  have hq115 := hq120.1
  have hq116 := hR.synced.1
  have hq117 := hR.now.1
  have hq118 := hR.kept.1
  have hq119 := hR.acts.1
  refine oS rfl (Yk.storeAll (vr (PQ n31 0) rfl) (vr (.agg (rdkC (refP ((appendD D x.1.name x.1.bytes).1), V99)).toArray) rfl) hb48 (by simp only [List.size_toArray, rdk_len]) (st_isz (rdk_len _) rd6_isz50) (rdk_one (x := (refP ((appendD D x.1.name x.1.bytes).1), V99)) (RG.one hq115).2 (RG.one hq116).2 (RG.one hq117).2 (RG.one hq118).2 (RG.one hq119).2) fun w121 hb122 hg123 hs124 => ?_)
  have hE0 := row_fresh hE0 hg123 (Nat.le_trans hz43 (by omega))
  have hb29 := kb hg123 hb29 (by omega)
  have hC : Chg (Foot H D.files.length) w w121 := Chg.set hC hg123 (.inr (by omega))
  have hD : DkG wb w121 g H96 ((appendD D x.1.name x.1.bytes).1) := DkG.setT hD hg123 hb48 (by omega) (by decide) (by decide) (by decide) (by decide) (by decide) (by decide)
  have hR : RdAt (OffQ H96 ((appendD D x.1.name x.1.bytes).1).files.length (fun i => Q i ∨ i = n2 ∨ i = n31)) w121 ((appendD D x.1.name x.1.bytes).1) V99 := RdAt.setQ hR hg123 (.inr (.inr rfl))
  have hb13 := kb hg123 hb13 (by omega)
  clear hq115
  clear hq116
  clear hq117
  clear hq118
  clear hq119
  clear hb48
  have hb48 : w121.heap[n31]? = some (.cells (rdkC (refP ((appendD D x.1.name x.1.bytes).1), V99)).toArray 50 (0, 0)) := hb122; clear hb122
  have hl125 := bl hb48
  refine oA rfl (oZ (tN (hK114 _ _ (wpF_ret (postF_ret (fn := Try.f20) _ rfl [.agg (rdkC (refP ((appendD D x.1.name x.1.bytes).1), V99)).toArray, .bool (true)] (.tuple #[.agg (rdkC (refP ((appendD D x.1.name x.1.bytes).1), V99)).toArray, .bool (true)]) rfl ⟨ResF.row rfl hb48 (rd6_ty50).choose_spec rfl (st_isz (rdk_len _) rd6_isz50), (congrArg Value.bool (decide_eq_true (rfl))), trivial⟩ ?_)))))
  have hCe : Chg (Foot H D.files.length) w w121 := hC
  exact ⟨H96, V99, by rw [hV], by rw [hV]; exact ⟨hD, hCe, fun i q => (hW97.foot i q).imp id fun r => Nat.le_trans hcs r⟩, by rw [hV]; exact hR.subQ (fun i q => .inl q)⟩
 refine sk fun K126 hK126 => (wt (oS rfl (Yk.eqI (a := ((kindA x.1.kind) : Nat)) (b := (1 : Nat)) rfl rfl (k_eql _ _ _ _) (oA rfl (oZ (tN (hK126 _ _ ?_)))))))
 refine wpF_cond (((kindA x.1.kind) : Nat) = (1)) (vr (.bool (decide (((kindA x.1.kind) : Nat) = (1)))) rfl) (fun hc1 => ?_) (fun hc1 => ?_)
 ·have hV : actP D x.1 = (syncD D x.1.name).1 := by unfold actP; rw [if_neg (by omega), if_pos hc1]
  refine sk fun K127 hK127 => (wt (oM rfl (oS rfl (Yk.fieldAt rd6_fo33_1 (vr (PQ n15 0) rfl) (oS rfl (Yk.cell1 rd6_ty9 rfl (vr (PQ n15 1) rfl) (cellAt hb29 (show (xacC x)[1]? = some (St (x.1.name) : Value) from xac_g1 x)) ?_))))))
  have hDc := hD
  have hRc := hR
  have hcs : w.heap.size ≤ w32.heap.size := hC.size
  refine oS rfl (Yk.callA2 rd6_pl14 T0 (vr (St (x.1.name)) rfl) ((hDc.syncW x.1.name hL).mono ?_))
  rintro e w130 ⟨H128, rfl, hW129⟩
  refine ⟨_, rfl, ?_⟩
  have hok_ := hDc.st.ok
  have hE0 : Ext wb w130 := hW129.g.ext
  have hb13 : w130.heap[n2]? = some (.cells (rdkC (refP D, V)).toArray 50 (0, 0)) := DkG.box hDc hW129.chg hb13 (by decide) (by decide) (by decide) (by decide)
  have hb29 : w130.heap[n15]? = some (.cells (xacC x).toArray 33 (0, 0)) := DkG.box hDc hW129.chg hb29 (by decide) (by decide) (by decide) (by decide)
  have hb48 : w130.heap[n31]? = some (.cells (rdkC ((⟨false, 0, [], [], [], [], [], 0, 0, false⟩, ⟨.slice none 0 0, .slice none 0 0, .slice none 0 0, .slice none 0 0, .slice none 0 0⟩) : RdkV)).toArray 50 (0, 0)) := DkG.box hDc hW129.chg hb48 (by decide) (by decide) (by decide) (by decide)
  have hC : Chg (Foot H D.files.length) w w130 := hC.trans hW129.chg hF
  clear hD
  clear hR
  clear hE
  clear hA8
  clear hA21
  clear hA37
  have hD := hW129.g
  have hR := hRc.stepQ hW129
  have hFo := hW129.foot
  refine oA rfl (oZ (tN (hK127 _ _ (wt (oS rfl (Yk.loadAll (vr (PQ n2 0) rfl) hb13 (rd6_ty50).choose_spec rfl (st_isz (rdk_len (refP D, V)) rd6_isz50) (oS rfl (Yk.fieldAt rd6_fo33_1 (vr (PQ n15 0) rfl) (oS rfl (Yk.cell1 rd6_ty9 rfl (vr (PQ n15 1) rfl) (cellAt hb29 (show (xacC x)[1]? = some (St (x.1.name) : Value) from xac_g1 x)) ?_))))))))))
  have h4l := (bl hb13)
  have h6l := (bl hb48)
  have hcl := (hC).size
  have hQ3 : ∀ i, (fun i => Q i ∨ i = n2 ∨ i = n31) i → i < w130.heap.size := fun i q => by rcases q with q | q | q; have := hQ i q; omega; omega; omega
  have hDc := hD
  have hRc := hR
  refine oS rfl (Yk.callA2 rd6_pl41 (vr (.agg (rdkC (refP D, V)).toArray) rfl) (vr (St (x.1.name)) rfl) ((rsync_any _ D V hR (hD.offq hQ3) hok hL hfn x.1.name hn1 ha1).mono ?_))
  rintro e w134 ⟨V131, rfl, hR132, hx133⟩
  refine ⟨_, rfl, ?_⟩
  have hE0 := hE0.trans hx133
  have hb13 := eb hx133 hb13
  have hb29 := eb hx133 hb29
  have hb48 := eb hx133 hb48
  have hC : Chg (Foot H D.files.length) w w134 := (hC.keep hx133)
  have hD : DkG wb w134 g H128 ((syncD D x.1.name).1) := (hD.keep hx133)
  have hR : RdAt (OffQ H128 ((syncD D x.1.name).1).files.length (fun i => Q i ∨ i = n2 ∨ i = n31)) w134 (D) V := (hR.keep hx133)
  have hR := hR132
  refine oM rfl (oS rfl (Yk.extract (vs := [.agg (rdkC (refP ((syncD D x.1.name).1), V131)).toArray, NI ((syncD D x.1.name).2)]) (vr (.tuple #[.agg (rdkC (refP ((syncD D x.1.name).1), V131)).toArray, NI ((syncD D x.1.name).2)]) rfl) (show _ = some (.agg (rdkC (refP ((syncD D x.1.name).1), V131)).toArray : Value) from rfl) (oS rfl (Yk.extract (vs := [.agg (rdkC (refP ((syncD D x.1.name).1), V131)).toArray, NI ((syncD D x.1.name).2)]) (vr (.tuple #[.agg (rdkC (refP ((syncD D x.1.name).1), V131)).toArray, NI ((syncD D x.1.name).2)]) rfl) (show _ = some (NI ((syncD D x.1.name).2) : Value) from rfl) ?_))))
  obtain ⟨lq_, -, hq140⟩ := hR.files
  have hq135 := hq140.1
  have hq136 := hR.synced.1
  have hq137 := hR.now.1
  have hq138 := hR.kept.1
  have hq139 := hR.acts.1
  refine oS rfl (Yk.storeAll (vr (PQ n2 0) rfl) (vr (.agg (rdkC (refP ((syncD D x.1.name).1), V131)).toArray) rfl) hb13 (by simp only [List.size_toArray, rdk_len]) (st_isz (rdk_len _) rd6_isz50) (rdk_one (x := (refP ((syncD D x.1.name).1), V131)) (RG.one hq135).2 (RG.one hq136).2 (RG.one hq137).2 (RG.one hq138).2 (RG.one hq139).2) fun w141 hb142 hg143 hs144 => ?_)
  have hE0 := row_fresh hE0 hg143 (Nat.le_trans hz12 (by omega))
  have hb29 := kb hg143 hb29 (by omega)
  have hb48 := kb hg143 hb48 (by omega)
  have hC : Chg (Foot H D.files.length) w w141 := Chg.set hC hg143 (.inr (by omega))
  have hD : DkG wb w141 g H128 ((syncD D x.1.name).1) := DkG.setT hD hg143 hb13 (by omega) (by decide) (by decide) (by decide) (by decide) (by decide) (by decide)
  have hR : RdAt (OffQ H128 ((syncD D x.1.name).1).files.length (fun i => Q i ∨ i = n2 ∨ i = n31)) w141 ((syncD D x.1.name).1) V131 := RdAt.setQ hR hg143 (.inr (.inl rfl))
  clear hq135
  clear hq136
  clear hq137
  clear hq138
  clear hq139
  clear hb13
  have hb13 : w141.heap[n2]? = some (.cells (rdkC (refP ((syncD D x.1.name).1), V131)).toArray 50 (0, 0)) := hb142; clear hb142
  have hl145 := bl hb13
  refine oA rfl (oZ (bN (tN (hK52 _ _ (sk fun K146 hK146 => (wt (oS rfl (Yk.loadAll (vr (PQ n2 0) rfl) hb13 (rd6_ty50).choose_spec rfl (st_isz (rdk_len (refP ((syncD D x.1.name).1), V131)) rd6_isz50) (oM rfl (oM rfl (oS rfl (Yk.eqI (a := ((syncD D x.1.name).2 : Nat)) (b := ((syncD D x.1.name).2 : Nat)) rfl rfl (k_eql _ _ _ _) ?_))))))))))))
  obtain ⟨lq_, -, hq152⟩ := hR.files
  have hq147 := hq152.1
  have hq148 := hR.synced.1
  have hq149 := hR.now.1
  have hq150 := hR.kept.1
  have hq151 := hR.acts.1
  refine oS rfl (Yk.storeAll (vr (PQ n31 0) rfl) (vr (.agg (rdkC (refP ((syncD D x.1.name).1), V131)).toArray) rfl) hb48 (by simp only [List.size_toArray, rdk_len]) (st_isz (rdk_len _) rd6_isz50) (rdk_one (x := (refP ((syncD D x.1.name).1), V131)) (RG.one hq147).2 (RG.one hq148).2 (RG.one hq149).2 (RG.one hq150).2 (RG.one hq151).2) fun w153 hb154 hg155 hs156 => ?_)
  have hE0 := row_fresh hE0 hg155 (Nat.le_trans hz43 (by omega))
  have hb29 := kb hg155 hb29 (by omega)
  have hC : Chg (Foot H D.files.length) w w153 := Chg.set hC hg155 (.inr (by omega))
  have hD : DkG wb w153 g H128 ((syncD D x.1.name).1) := DkG.setT hD hg155 hb48 (by omega) (by decide) (by decide) (by decide) (by decide) (by decide) (by decide)
  have hR : RdAt (OffQ H128 ((syncD D x.1.name).1).files.length (fun i => Q i ∨ i = n2 ∨ i = n31)) w153 ((syncD D x.1.name).1) V131 := RdAt.setQ hR hg155 (.inr (.inr rfl))
  have hb13 := kb hg155 hb13 (by omega)
  clear hq147
  clear hq148
  clear hq149
  clear hq150
  clear hq151
  clear hb48
  have hb48 : w153.heap[n31]? = some (.cells (rdkC (refP ((syncD D x.1.name).1), V131)).toArray 50 (0, 0)) := hb154; clear hb154
  have hl157 := bl hb48
  refine oA rfl (oZ (tN (hK146 _ _ (wpF_ret (postF_ret (fn := Try.f20) _ rfl [.agg (rdkC (refP ((syncD D x.1.name).1), V131)).toArray, .bool (true)] (.tuple #[.agg (rdkC (refP ((syncD D x.1.name).1), V131)).toArray, .bool (true)]) rfl ⟨ResF.row rfl hb48 (rd6_ty50).choose_spec rfl (st_isz (rdk_len _) rd6_isz50), (congrArg Value.bool (decide_eq_true (rfl))), trivial⟩ ?_)))))
  have hCe : Chg (Foot H D.files.length) w w153 := hC
  exact ⟨H128, V131, by rw [hV], by rw [hV]; exact ⟨hD, hCe, fun i q => (hW129.foot i q).imp id fun r => Nat.le_trans hcs r⟩, by rw [hV]; exact hR.subQ (fun i q => .inl q)⟩
 refine sk fun K158 hK158 => (wt (oS rfl (Yk.eqI (a := ((kindA x.1.kind) : Nat)) (b := (2 : Nat)) rfl rfl (k_eql _ _ _ _) (oA rfl (oZ (tN (hK158 _ _ ?_)))))))
 refine wpF_cond (((kindA x.1.kind) : Nat) = (2)) (vr (.bool (decide (((kindA x.1.kind) : Nat) = (2)))) rfl) (fun hc2 => ?_) (fun hc2 => ?_)
 ·have hV : actP D x.1 = (moveD D x.1.name x.1.to).1 := by unfold actP; rw [if_neg (by omega), if_neg (by omega), if_pos hc2]
  refine sk fun K159 hK159 => (wt (oM rfl (oS rfl (Yk.fieldAt rd6_fo33_1 (vr (PQ n15 0) rfl) (oS rfl (Yk.cell1 rd6_ty9 rfl (vr (PQ n15 1) rfl) (cellAt hb29 (show (xacC x)[1]? = some (St (x.1.name) : Value) from xac_g1 x)) (oS rfl (Yk.fieldAt rd6_fo33_2 (vr (PQ n15 0) rfl) (oS rfl (Yk.cell1 rd6_ty9 rfl (vr (PQ n15 2) rfl) (cellAt hb29 (show (xacC x)[2]? = some (St (x.1.to) : Value) from xac_g2 x)) ?_))))))))))
  have hDc := hD
  have hRc := hR
  have hcs : w.heap.size ≤ w32.heap.size := hC.size
  refine oS rfl (Yk.callA3 rd6_pl25 T0 (vr (St (x.1.name)) rfl) (vr (St (x.1.to)) rfl) ((hDc.moveW x.1.name x.1.to hL).mono ?_))
  rintro e w162 ⟨H160, rfl, hW161⟩
  refine ⟨_, rfl, ?_⟩
  have hok_ := hDc.st.ok
  have hE0 : Ext wb w162 := hW161.g.ext
  have hb13 : w162.heap[n2]? = some (.cells (rdkC (refP D, V)).toArray 50 (0, 0)) := DkG.box hDc hW161.chg hb13 (by decide) (by decide) (by decide) (by decide)
  have hb29 : w162.heap[n15]? = some (.cells (xacC x).toArray 33 (0, 0)) := DkG.box hDc hW161.chg hb29 (by decide) (by decide) (by decide) (by decide)
  have hb48 : w162.heap[n31]? = some (.cells (rdkC ((⟨false, 0, [], [], [], [], [], 0, 0, false⟩, ⟨.slice none 0 0, .slice none 0 0, .slice none 0 0, .slice none 0 0, .slice none 0 0⟩) : RdkV)).toArray 50 (0, 0)) := DkG.box hDc hW161.chg hb48 (by decide) (by decide) (by decide) (by decide)
  have hC : Chg (Foot H D.files.length) w w162 := hC.trans hW161.chg hF
  clear hD
  clear hR
  clear hE
  clear hA8
  clear hA21
  clear hA37
  have hD := hW161.g
  have hR := hRc.stepQ hW161
  have hFo := hW161.foot
  refine oA rfl (oZ (tN (hK159 _ _ (wt (oS rfl (Yk.loadAll (vr (PQ n2 0) rfl) hb13 (rd6_ty50).choose_spec rfl (st_isz (rdk_len (refP D, V)) rd6_isz50) (oS rfl (Yk.fieldAt rd6_fo33_1 (vr (PQ n15 0) rfl) (oS rfl (Yk.cell1 rd6_ty9 rfl (vr (PQ n15 1) rfl) (cellAt hb29 (show (xacC x)[1]? = some (St (x.1.name) : Value) from xac_g1 x)) (oS rfl (Yk.fieldAt rd6_fo33_2 (vr (PQ n15 0) rfl) (oS rfl (Yk.cell1 rd6_ty9 rfl (vr (PQ n15 2) rfl) (cellAt hb29 (show (xacC x)[2]? = some (St (x.1.to) : Value) from xac_g2 x)) ?_))))))))))))))
  have h4l := (bl hb13)
  have h6l := (bl hb48)
  have hcl := (hC).size
  have hQ3 : ∀ i, (fun i => Q i ∨ i = n2 ∨ i = n31) i → i < w162.heap.size := fun i q => by rcases q with q | q | q; have := hQ i q; omega; omega; omega
  have hDc := hD
  have hRc := hR
  refine oS rfl (Yk.callA4 rd6_pl42 (vr (.agg (rdkC (refP D, V)).toArray) rfl) (vr (St (x.1.name)) rfl) (vr (St (x.1.to)) rfl) (vr (.bool (false)) rfl) ((rmove_any _ D V hR (hD.offq hQ3) hok hL hfn x.1.name x.1.to hn1 ha1).mono ?_))
  rintro e w166 ⟨V163, rfl, hR164, hx165⟩
  refine ⟨_, rfl, ?_⟩
  have hE0 := hE0.trans hx165
  have hb13 := eb hx165 hb13
  have hb29 := eb hx165 hb29
  have hb48 := eb hx165 hb48
  have hC : Chg (Foot H D.files.length) w w166 := (hC.keep hx165)
  have hD : DkG wb w166 g H160 ((moveD D x.1.name x.1.to).1) := (hD.keep hx165)
  have hR : RdAt (OffQ H160 ((moveD D x.1.name x.1.to).1).files.length (fun i => Q i ∨ i = n2 ∨ i = n31)) w166 (D) V := (hR.keep hx165)
  have hR := hR164
  refine oM rfl (oS rfl (Yk.extract (vs := [.agg (rdkC (refP ((moveD D x.1.name x.1.to).1), V163)).toArray, NI ((moveD D x.1.name x.1.to).2)]) (vr (.tuple #[.agg (rdkC (refP ((moveD D x.1.name x.1.to).1), V163)).toArray, NI ((moveD D x.1.name x.1.to).2)]) rfl) (show _ = some (.agg (rdkC (refP ((moveD D x.1.name x.1.to).1), V163)).toArray : Value) from rfl) (oS rfl (Yk.extract (vs := [.agg (rdkC (refP ((moveD D x.1.name x.1.to).1), V163)).toArray, NI ((moveD D x.1.name x.1.to).2)]) (vr (.tuple #[.agg (rdkC (refP ((moveD D x.1.name x.1.to).1), V163)).toArray, NI ((moveD D x.1.name x.1.to).2)]) rfl) (show _ = some (NI ((moveD D x.1.name x.1.to).2) : Value) from rfl) ?_))))
  obtain ⟨lq_, -, hq172⟩ := hR.files
  have hq167 := hq172.1
  have hq168 := hR.synced.1
  have hq169 := hR.now.1
  have hq170 := hR.kept.1
  have hq171 := hR.acts.1
  refine oS rfl (Yk.storeAll (vr (PQ n2 0) rfl) (vr (.agg (rdkC (refP ((moveD D x.1.name x.1.to).1), V163)).toArray) rfl) hb13 (by simp only [List.size_toArray, rdk_len]) (st_isz (rdk_len _) rd6_isz50) (rdk_one (x := (refP ((moveD D x.1.name x.1.to).1), V163)) (RG.one hq167).2 (RG.one hq168).2 (RG.one hq169).2 (RG.one hq170).2 (RG.one hq171).2) fun w173 hb174 hg175 hs176 => ?_)
  have hE0 := row_fresh hE0 hg175 (Nat.le_trans hz12 (by omega))
  have hb29 := kb hg175 hb29 (by omega)
  have hb48 := kb hg175 hb48 (by omega)
  have hC : Chg (Foot H D.files.length) w w173 := Chg.set hC hg175 (.inr (by omega))
  have hD : DkG wb w173 g H160 ((moveD D x.1.name x.1.to).1) := DkG.setT hD hg175 hb13 (by omega) (by decide) (by decide) (by decide) (by decide) (by decide) (by decide)
  have hR : RdAt (OffQ H160 ((moveD D x.1.name x.1.to).1).files.length (fun i => Q i ∨ i = n2 ∨ i = n31)) w173 ((moveD D x.1.name x.1.to).1) V163 := RdAt.setQ hR hg175 (.inr (.inl rfl))
  clear hq167
  clear hq168
  clear hq169
  clear hq170
  clear hq171
  clear hb13
  have hb13 : w173.heap[n2]? = some (.cells (rdkC (refP ((moveD D x.1.name x.1.to).1), V163)).toArray 50 (0, 0)) := hb174; clear hb174
  have hl177 := bl hb13
  refine oA rfl (oZ (bN (tN (hK52 _ _ (sk fun K178 hK178 => (wt (oS rfl (Yk.loadAll (vr (PQ n2 0) rfl) hb13 (rd6_ty50).choose_spec rfl (st_isz (rdk_len (refP ((moveD D x.1.name x.1.to).1), V163)) rd6_isz50) (oM rfl (oM rfl (oS rfl (Yk.eqI (a := ((moveD D x.1.name x.1.to).2 : Nat)) (b := ((moveD D x.1.name x.1.to).2 : Nat)) rfl rfl (k_eql _ _ _ _) ?_))))))))))))
  obtain ⟨lq_, -, hq184⟩ := hR.files
  have hq179 := hq184.1
  have hq180 := hR.synced.1
  have hq181 := hR.now.1
  have hq182 := hR.kept.1
  have hq183 := hR.acts.1
  refine oS rfl (Yk.storeAll (vr (PQ n31 0) rfl) (vr (.agg (rdkC (refP ((moveD D x.1.name x.1.to).1), V163)).toArray) rfl) hb48 (by simp only [List.size_toArray, rdk_len]) (st_isz (rdk_len _) rd6_isz50) (rdk_one (x := (refP ((moveD D x.1.name x.1.to).1), V163)) (RG.one hq179).2 (RG.one hq180).2 (RG.one hq181).2 (RG.one hq182).2 (RG.one hq183).2) fun w185 hb186 hg187 hs188 => ?_)
  have hE0 := row_fresh hE0 hg187 (Nat.le_trans hz43 (by omega))
  have hb29 := kb hg187 hb29 (by omega)
  have hC : Chg (Foot H D.files.length) w w185 := Chg.set hC hg187 (.inr (by omega))
  have hD : DkG wb w185 g H160 ((moveD D x.1.name x.1.to).1) := DkG.setT hD hg187 hb48 (by omega) (by decide) (by decide) (by decide) (by decide) (by decide) (by decide)
  have hR : RdAt (OffQ H160 ((moveD D x.1.name x.1.to).1).files.length (fun i => Q i ∨ i = n2 ∨ i = n31)) w185 ((moveD D x.1.name x.1.to).1) V163 := RdAt.setQ hR hg187 (.inr (.inr rfl))
  have hb13 := kb hg187 hb13 (by omega)
  clear hq179
  clear hq180
  clear hq181
  clear hq182
  clear hq183
  clear hb48
  have hb48 : w185.heap[n31]? = some (.cells (rdkC (refP ((moveD D x.1.name x.1.to).1), V163)).toArray 50 (0, 0)) := hb186; clear hb186
  have hl189 := bl hb48
  refine oA rfl (oZ (tN (hK178 _ _ (wpF_ret (postF_ret (fn := Try.f20) _ rfl [.agg (rdkC (refP ((moveD D x.1.name x.1.to).1), V163)).toArray, .bool (true)] (.tuple #[.agg (rdkC (refP ((moveD D x.1.name x.1.to).1), V163)).toArray, .bool (true)]) rfl ⟨ResF.row rfl hb48 (rd6_ty50).choose_spec rfl (st_isz (rdk_len _) rd6_isz50), (congrArg Value.bool (decide_eq_true (rfl))), trivial⟩ ?_)))))
  have hCe : Chg (Foot H D.files.length) w w185 := hC
  exact ⟨H160, V163, by rw [hV], by rw [hV]; exact ⟨hD, hCe, fun i q => (hW161.foot i q).imp id fun r => Nat.le_trans hcs r⟩, by rw [hV]; exact hR.subQ (fun i q => .inl q)⟩
 refine sk fun K190 hK190 => (wt (oS rfl (Yk.eqI (a := ((kindA x.1.kind) : Nat)) (b := (3 : Nat)) rfl rfl (k_eql _ _ _ _) (oA rfl (oZ (tN (hK190 _ _ ?_)))))))
 refine wpF_cond (((kindA x.1.kind) : Nat) = (3)) (vr (.bool (decide (((kindA x.1.kind) : Nat) = (3)))) rfl) (fun hc3 => ?_) (fun hc3 => ?_)
 ·have hV : actP D x.1 = (dropD D x.1.name).1 := by unfold actP; rw [if_neg (by omega), if_neg (by omega), if_neg (by omega), if_pos hc3]
  refine sk fun K191 hK191 => (wt (oM rfl (oS rfl (Yk.fieldAt rd6_fo33_1 (vr (PQ n15 0) rfl) (oS rfl (Yk.cell1 rd6_ty9 rfl (vr (PQ n15 1) rfl) (cellAt hb29 (show (xacC x)[1]? = some (St (x.1.name) : Value) from xac_g1 x)) ?_))))))
  have hDc := hD
  have hRc := hR
  have hcs : w.heap.size ≤ w32.heap.size := hC.size
  refine oS rfl (Yk.callA2 rd6_pl26 T0 (vr (St (x.1.name)) rfl) ((hDc.dropW x.1.name hL).mono ?_))
  rintro e w194 ⟨H192, rfl, hW193⟩
  refine ⟨_, rfl, ?_⟩
  have hok_ := hDc.st.ok
  have hE0 : Ext wb w194 := hW193.g.ext
  have hb13 : w194.heap[n2]? = some (.cells (rdkC (refP D, V)).toArray 50 (0, 0)) := DkG.box hDc hW193.chg hb13 (by decide) (by decide) (by decide) (by decide)
  have hb29 : w194.heap[n15]? = some (.cells (xacC x).toArray 33 (0, 0)) := DkG.box hDc hW193.chg hb29 (by decide) (by decide) (by decide) (by decide)
  have hb48 : w194.heap[n31]? = some (.cells (rdkC ((⟨false, 0, [], [], [], [], [], 0, 0, false⟩, ⟨.slice none 0 0, .slice none 0 0, .slice none 0 0, .slice none 0 0, .slice none 0 0⟩) : RdkV)).toArray 50 (0, 0)) := DkG.box hDc hW193.chg hb48 (by decide) (by decide) (by decide) (by decide)
  have hC : Chg (Foot H D.files.length) w w194 := hC.trans hW193.chg hF
  clear hD
  clear hR
  clear hE
  clear hA8
  clear hA21
  clear hA37
  have hD := hW193.g
  have hR := hRc.stepQ hW193
  have hFo := hW193.foot
  refine oA rfl (oZ (tN (hK191 _ _ (wt (oS rfl (Yk.loadAll (vr (PQ n2 0) rfl) hb13 (rd6_ty50).choose_spec rfl (st_isz (rdk_len (refP D, V)) rd6_isz50) (oS rfl (Yk.fieldAt rd6_fo33_1 (vr (PQ n15 0) rfl) (oS rfl (Yk.cell1 rd6_ty9 rfl (vr (PQ n15 1) rfl) (cellAt hb29 (show (xacC x)[1]? = some (St (x.1.name) : Value) from xac_g1 x)) ?_))))))))))
  have h4l := (bl hb13)
  have h6l := (bl hb48)
  have hcl := (hC).size
  have hQ3 : ∀ i, (fun i => Q i ∨ i = n2 ∨ i = n31) i → i < w194.heap.size := fun i q => by rcases q with q | q | q; have := hQ i q; omega; omega; omega
  have hDc := hD
  have hRc := hR
  refine oS rfl (Yk.callA4 rd6_pl42 (vr (.agg (rdkC (refP D, V)).toArray) rfl) (vr (St (x.1.name)) rfl) (vr (St (([] : List UInt8))) rfl) (vr (.bool (true)) rfl) ((rdrop_any _ D V hR (hD.offq hQ3) hok hL hfn x.1.name hn1 ha1).mono ?_))
  rintro e w198 ⟨V195, rfl, hR196, hx197⟩
  refine ⟨_, rfl, ?_⟩
  have hE0 := hE0.trans hx197
  have hb13 := eb hx197 hb13
  have hb29 := eb hx197 hb29
  have hb48 := eb hx197 hb48
  have hC : Chg (Foot H D.files.length) w w198 := (hC.keep hx197)
  have hD : DkG wb w198 g H192 ((dropD D x.1.name).1) := (hD.keep hx197)
  have hR : RdAt (OffQ H192 ((dropD D x.1.name).1).files.length (fun i => Q i ∨ i = n2 ∨ i = n31)) w198 (D) V := (hR.keep hx197)
  have hR := hR196
  refine oM rfl (oS rfl (Yk.extract (vs := [.agg (rdkC (refP ((dropD D x.1.name).1), V195)).toArray, NI ((dropD D x.1.name).2)]) (vr (.tuple #[.agg (rdkC (refP ((dropD D x.1.name).1), V195)).toArray, NI ((dropD D x.1.name).2)]) rfl) (show _ = some (.agg (rdkC (refP ((dropD D x.1.name).1), V195)).toArray : Value) from rfl) (oS rfl (Yk.extract (vs := [.agg (rdkC (refP ((dropD D x.1.name).1), V195)).toArray, NI ((dropD D x.1.name).2)]) (vr (.tuple #[.agg (rdkC (refP ((dropD D x.1.name).1), V195)).toArray, NI ((dropD D x.1.name).2)]) rfl) (show _ = some (NI ((dropD D x.1.name).2) : Value) from rfl) ?_))))
  obtain ⟨lq_, -, hq204⟩ := hR.files
  have hq199 := hq204.1
  have hq200 := hR.synced.1
  have hq201 := hR.now.1
  have hq202 := hR.kept.1
  have hq203 := hR.acts.1
  refine oS rfl (Yk.storeAll (vr (PQ n2 0) rfl) (vr (.agg (rdkC (refP ((dropD D x.1.name).1), V195)).toArray) rfl) hb13 (by simp only [List.size_toArray, rdk_len]) (st_isz (rdk_len _) rd6_isz50) (rdk_one (x := (refP ((dropD D x.1.name).1), V195)) (RG.one hq199).2 (RG.one hq200).2 (RG.one hq201).2 (RG.one hq202).2 (RG.one hq203).2) fun w205 hb206 hg207 hs208 => ?_)
  have hE0 := row_fresh hE0 hg207 (Nat.le_trans hz12 (by omega))
  have hb29 := kb hg207 hb29 (by omega)
  have hb48 := kb hg207 hb48 (by omega)
  have hC : Chg (Foot H D.files.length) w w205 := Chg.set hC hg207 (.inr (by omega))
  have hD : DkG wb w205 g H192 ((dropD D x.1.name).1) := DkG.setT hD hg207 hb13 (by omega) (by decide) (by decide) (by decide) (by decide) (by decide) (by decide)
  have hR : RdAt (OffQ H192 ((dropD D x.1.name).1).files.length (fun i => Q i ∨ i = n2 ∨ i = n31)) w205 ((dropD D x.1.name).1) V195 := RdAt.setQ hR hg207 (.inr (.inl rfl))
  clear hq199
  clear hq200
  clear hq201
  clear hq202
  clear hq203
  clear hb13
  have hb13 : w205.heap[n2]? = some (.cells (rdkC (refP ((dropD D x.1.name).1), V195)).toArray 50 (0, 0)) := hb206; clear hb206
  have hl209 := bl hb13
  refine oA rfl (oZ (bN (tN (hK52 _ _ (sk fun K210 hK210 => (wt (oS rfl (Yk.loadAll (vr (PQ n2 0) rfl) hb13 (rd6_ty50).choose_spec rfl (st_isz (rdk_len (refP ((dropD D x.1.name).1), V195)) rd6_isz50) (oM rfl (oM rfl (oS rfl (Yk.eqI (a := ((dropD D x.1.name).2 : Nat)) (b := ((dropD D x.1.name).2 : Nat)) rfl rfl (k_eql _ _ _ _) ?_))))))))))))
  obtain ⟨lq_, -, hq216⟩ := hR.files
  have hq211 := hq216.1
  have hq212 := hR.synced.1
  have hq213 := hR.now.1
  have hq214 := hR.kept.1
  have hq215 := hR.acts.1
  refine oS rfl (Yk.storeAll (vr (PQ n31 0) rfl) (vr (.agg (rdkC (refP ((dropD D x.1.name).1), V195)).toArray) rfl) hb48 (by simp only [List.size_toArray, rdk_len]) (st_isz (rdk_len _) rd6_isz50) (rdk_one (x := (refP ((dropD D x.1.name).1), V195)) (RG.one hq211).2 (RG.one hq212).2 (RG.one hq213).2 (RG.one hq214).2 (RG.one hq215).2) fun w217 hb218 hg219 hs220 => ?_)
  have hE0 := row_fresh hE0 hg219 (Nat.le_trans hz43 (by omega))
  have hb29 := kb hg219 hb29 (by omega)
  have hC : Chg (Foot H D.files.length) w w217 := Chg.set hC hg219 (.inr (by omega))
  have hD : DkG wb w217 g H192 ((dropD D x.1.name).1) := DkG.setT hD hg219 hb48 (by omega) (by decide) (by decide) (by decide) (by decide) (by decide) (by decide)
  have hR : RdAt (OffQ H192 ((dropD D x.1.name).1).files.length (fun i => Q i ∨ i = n2 ∨ i = n31)) w217 ((dropD D x.1.name).1) V195 := RdAt.setQ hR hg219 (.inr (.inr rfl))
  have hb13 := kb hg219 hb13 (by omega)
  clear hq211
  clear hq212
  clear hq213
  clear hq214
  clear hq215
  clear hb48
  have hb48 : w217.heap[n31]? = some (.cells (rdkC (refP ((dropD D x.1.name).1), V195)).toArray 50 (0, 0)) := hb218; clear hb218
  have hl221 := bl hb48
  refine oA rfl (oZ (tN (hK210 _ _ (wpF_ret (postF_ret (fn := Try.f20) _ rfl [.agg (rdkC (refP ((dropD D x.1.name).1), V195)).toArray, .bool (true)] (.tuple #[.agg (rdkC (refP ((dropD D x.1.name).1), V195)).toArray, .bool (true)]) rfl ⟨ResF.row rfl hb48 (rd6_ty50).choose_spec rfl (st_isz (rdk_len _) rd6_isz50), (congrArg Value.bool (decide_eq_true (rfl))), trivial⟩ ?_)))))
  have hCe : Chg (Foot H D.files.length) w w217 := hC
  exact ⟨H192, V195, by rw [hV], by rw [hV]; exact ⟨hD, hCe, fun i q => (hW193.foot i q).imp id fun r => Nat.le_trans hcs r⟩, by rw [hV]; exact hR.subQ (fun i q => .inl q)⟩
 refine sk fun K222 hK222 => (wt (oS rfl (Yk.eqI (a := ((kindA x.1.kind) : Nat)) (b := (4 : Nat)) rfl rfl (k_eql _ _ _ _) (oA rfl (oZ (tN (hK222 _ _ ?_)))))))
 refine wpF_cond (((kindA x.1.kind) : Nat) = (4)) (vr (.bool (decide (((kindA x.1.kind) : Nat) = (4)))) rfl) (fun hc4 => ?_) (fun hc4 => ?_)
 ·have hV : actP D x.1 = D := by unfold actP; rw [if_neg (by omega), if_neg (by omega), if_neg (by omega), if_neg (by omega), if_neg (by omega), if_neg (by omega)]
  refine sk fun K223 hK223 => (wt (oM rfl (oS rfl (Yk.fieldAt rd6_fo33_1 (vr (PQ n15 0) rfl) (oS rfl (Yk.cell1 rd6_ty9 rfl (vr (PQ n15 1) rfl) (cellAt hb29 (show (xacC x)[1]? = some (St (x.1.name) : Value) from xac_g1 x)) ?_))))))
  have hDc := hD
  refine oS rfl (Yk.callA2 rd6_pl15 T0 (vr (St (x.1.name)) rfl) ((hDc.read x.1.name hL).mono ?_))
  rintro e w228 ⟨v224, rfl, ho225, hx226⟩
  refine ⟨_, rfl, ?_⟩
  have hD : DkG wb w228 g H (D) := (hD.keep hx226)
  have hR : RdAt (OffQ H (D).files.length (fun i => Q i ∨ i = n2 ∨ i = n31)) w228 (D) V := (hR.keep hx226)
  have hE := hE.trans hx226
  have hE0 := hE0.trans hx226
  have hA8 := hA8.trans hx226
  have hb13 := eb hx226 hb13
  have hA21 := hA21.trans hx226
  have hb29 := eb hx226 hb29
  have hA37 := hA37.trans hx226
  have hb48 := eb hx226 hb48
  have hC : Chg (Foot H D.files.length) w w228 := (hC.keep hx226)
  have hr227 := RB.ofOwn ho225
  refine oM rfl (oS rfl (Yk.extract (vs := [v224, NI ((readD D x.1.name).2)]) (vr (.tuple #[v224, NI ((readD D x.1.name).2)]) rfl) (show _ = some (v224 : Value) from rfl) (oS rfl (Yk.extract (vs := [v224, NI ((readD D x.1.name).2)]) (vr (.tuple #[v224, NI ((readD D x.1.name).2)]) rfl) (show _ = some (NI ((readD D x.1.name).2) : Value) from rfl) (oA rfl (oA rfl (oZ (tN (hK223 _ _ (sk fun K229 hK229 => (wt (oS rfl (Yk.loadAll (vr (PQ n2 0) rfl) hb13 (rd6_ty50).choose_spec rfl (st_isz (rdk_len (refP D, V)) rd6_isz50) (oS rfl (Yk.fieldAt rd6_fo33_1 (vr (PQ n15 0) rfl) (oS rfl (Yk.cell1 rd6_ty9 rfl (vr (PQ n15 1) rfl) (cellAt hb29 (show (xacC x)[1]? = some (St (x.1.name) : Value) from xac_g1 x)) (oS rfl (Yk.callA2 rd6_pl43 (vr (.agg (rdkC (refP D, V)).toArray) rfl) (vr (St (x.1.name)) rfl) ((rread_any _ D V hR hok hL x.1.name).mono ?_))))))))))))))))))))
  rintro e w234 ⟨v230, rfl, ho231, hx232⟩
  refine ⟨_, rfl, ?_⟩
  have hD : DkG wb w234 g H (D) := (hD.keep hx232)
  have hR : RdAt (OffQ H (D).files.length (fun i => Q i ∨ i = n2 ∨ i = n31)) w234 (D) V := (hR.keep hx232)
  have hE := hE.trans hx232
  have hE0 := hE0.trans hx232
  have hA8 := hA8.trans hx232
  have hb13 := eb hx232 hb13
  have hA21 := hA21.trans hx232
  have hb29 := eb hx232 hb29
  have hA37 := hA37.trans hx232
  have hb48 := eb hx232 hb48
  have hC : Chg (Foot H D.files.length) w w234 := (hC.keep hx232)
  have hr227 := hr227.keep hx232
  have hr233 := RB.ofOwn ho231
  refine oM rfl (oS rfl (Yk.extract (vs := [v230, NI ((readD D x.1.name).2)]) (vr (.tuple #[v230, NI ((readD D x.1.name).2)]) rfl) (show _ = some (v230 : Value) from rfl) (oS rfl (Yk.extract (vs := [v230, NI ((readD D x.1.name).2)]) (vr (.tuple #[v230, NI ((readD D x.1.name).2)]) rfl) (show _ = some (NI ((readD D x.1.name).2) : Value) from rfl) (oA rfl (oA rfl (oZ (tN (hK229 _ _ (sk fun K235 hK235 => (sk fun K236 hK236 => (wt (oM rfl (oS rfl (Yk.convRB rd6_ty24 rd6_ty5 rd6_ty9 (RB.of hr227 (vr v224 rfl)) (oM rfl (oS rfl (Yk.convRB rd6_ty24 rd6_ty5 rd6_ty9 (RB.of hr233 (vr v230 rfl)) (oS rfl (Yk.eqSt (l := (readD D x.1.name).1) (m := (readD D x.1.name).1) (.inr rfl) (vr (St ((readD D x.1.name).1)) rfl) (vr (St ((readD D x.1.name).1)) rfl) (decide ((readD D x.1.name).1 ≠ ((readD D x.1.name).1 : List UInt8))) rfl (oL_ [(0, PQ g 0), (1, .agg (rdkC (refP D, V)).toArray), (2, .agg (xacC x).toArray), (4, PQ n2 0), (5, PQ n15 0), (6, PQ n31 0), (7, .bool (false)), (8, NI 0), (9, NI 0), (10, v224), (11, NI ((readD D x.1.name).2)), (12, v230), (13, NI ((readD D x.1.name).2)), (18, NI (kindA x.1.kind)), (101, .bool (false))] ⟨T0, T1, T2, rfl, rfl, rfl, rfl, rfl, rfl, rfl, rfl, rfl, rfl, rfl, (congrArg Value.bool (decide_eq_false (fun h => h rfl))), trivial⟩ fun ρ237 ⟨T0, T1, T2, T4, T5, T6, T7, T8, T9, T10, T11, T12, T13, T18, T101, _⟩ => ?_)))))))))))))))))))))
  refine tN (hK236 _ _ (wpF_false T101 (wpF_skip (tN (hK235 _ _ (wt (oM rfl (oM rfl (oA rfl (oA rfl (oZ (bN (tN (hK52 _ _ (sk fun K238 hK238 => (wt (oS rfl (Yk.loadAll T4 hb13 (rd6_ty50).choose_spec rfl (st_isz (rdk_len (refP D, V)) rd6_isz50) (oM rfl ?_)))))))))))))))))))
  refine oM rfl (oS rfl (Yk.eqI (a := ((readD D x.1.name).2 : Nat)) (b := ((readD D x.1.name).2 : Nat)) T11 T13 (k_eql _ _ _ _) ?_))
  obtain ⟨lq_, -, hq244⟩ := hR.files
  have hq239 := hq244.1
  have hq240 := hR.synced.1
  have hq241 := hR.now.1
  have hq242 := hR.kept.1
  have hq243 := hR.acts.1
  refine oS rfl (Yk.storeAll T6 (vr (.agg (rdkC (refP D, V)).toArray) rfl) hb48 (by simp only [List.size_toArray, rdk_len]) (st_isz (rdk_len _) rd6_isz50) (rdk_one (x := (refP D, V)) (RG.one hq239).2 (RG.one hq240).2 (RG.one hq241).2 (RG.one hq242).2 (RG.one hq243).2) fun w245 hb246 hg247 hs248 => ?_)
  have hD : DkG wb w245 g H (D) := DkG.setT hD hg247 hb48 (by omega) (by decide) (by decide) (by decide) (by decide) (by decide) (by decide)
  have hR : RdAt (OffQ H (D).files.length (fun i => Q i ∨ i = n2 ∨ i = n31)) w245 (D) V := RdAt.setQ hR hg247 (.inr (.inr rfl))
  have hE := row_fresh hE hg247 (Nat.le_trans hz44 (by omega))
  have hE0 := row_fresh hE0 hg247 (Nat.le_trans hz43 (by omega))
  have hA8 := row_fresh hA8 hg247 (Nat.le_trans hz44 (by omega))
  have hb13 := kb hg247 hb13 (by omega)
  have hA21 := row_fresh hA21 hg247 (Nat.le_trans hz45 (by omega))
  have hb29 := kb hg247 hb29 (by omega)
  have hA37 := row_fresh hA37 hg247 (Nat.le_trans (Nat.le_refl _) (by omega))
  have hC : Chg (Foot H D.files.length) w w245 := Chg.set hC hg247 (.inr (by omega))
  clear hr227
  clear hr233
  clear hq239
  clear hq240
  clear hq241
  clear hq242
  clear hq243
  clear hb48
  have hb48 : w245.heap[n31]? = some (.cells (rdkC (refP D, V)).toArray 50 (0, 0)) := hb246; clear hb246
  have hl249 := bl hb48
  refine oA rfl (oZ (tN (hK238 _ _ (wpF_ret (postF_ret (fn := Try.f20) _ rfl [.agg (rdkC (refP D, V)).toArray, .bool (true)] (.tuple #[.agg (rdkC (refP D, V)).toArray, .bool (true)]) rfl ⟨ResF.row T6 hb48 (rd6_ty50).choose_spec rfl (st_isz (rdk_len _) rd6_isz50), (congrArg Value.bool (decide_eq_true (rfl))), trivial⟩ ?_)))))
  exact ⟨H, V, by rw [hV], by rw [hV]; exact ⟨hD, Chg.ofExt hE, fun i q => .inl q⟩, by rw [hV]; exact hR.subQ (fun i q => .inl q)⟩
 refine sk fun K250 hK250 => (wt (oS rfl (Yk.eqI (a := ((kindA x.1.kind) : Nat)) (b := (5 : Nat)) rfl rfl (k_eql _ _ _ _) (oA rfl (oZ (tN (hK250 _ _ ?_)))))))
 refine wpF_cond (((kindA x.1.kind) : Nat) = (5)) (vr (.bool (decide (((kindA x.1.kind) : Nat) = (5)))) rfl) (fun hc6 => ?_) (fun hc6 => ?_)
 ·have hV : actP D x.1 = { D with arm := x.1.n.toNat } := by unfold actP; rw [if_neg (by omega), if_neg (by omega), if_neg (by omega), if_neg (by omega), if_pos hc6]
  refine sk fun K251 hK251 => (wt (oM rfl (oS rfl (Yk.fieldAt rd6_fo33_4 (vr (PQ n15 0) rfl) (oS rfl (Yk.cell1 rd6_ty3 rfl (vr (PQ n15 4) rfl) (cellAt hb29 (show (xacC x)[4]? = some (.int .i64 (x.1.n : Int) : Value) from xac_g4 x)) ?_))))))
  have hDc := hD
  have hRc := hR
  have hcs : w.heap.size ≤ w32.heap.size := hC.size
  refine oS rfl (Yk.callA2 rd6_pl12 T0 (vr (.int .i64 (x.1.n : Int)) rfl) ((hDc.armW x.1.n).mono ?_))
  rintro e w254 ⟨H252, rfl, hW253⟩
  refine ⟨_, rfl, ?_⟩
  have hok_ := hDc.st.ok
  have hE0 : Ext wb w254 := hW253.g.ext
  have hb13 : w254.heap[n2]? = some (.cells (rdkC (refP D, V)).toArray 50 (0, 0)) := DkG.box hDc hW253.chg hb13 (by decide) (by decide) (by decide) (by decide)
  have hb29 : w254.heap[n15]? = some (.cells (xacC x).toArray 33 (0, 0)) := DkG.box hDc hW253.chg hb29 (by decide) (by decide) (by decide) (by decide)
  have hb48 : w254.heap[n31]? = some (.cells (rdkC ((⟨false, 0, [], [], [], [], [], 0, 0, false⟩, ⟨.slice none 0 0, .slice none 0 0, .slice none 0 0, .slice none 0 0, .slice none 0 0⟩) : RdkV)).toArray 50 (0, 0)) := DkG.box hDc hW253.chg hb48 (by decide) (by decide) (by decide) (by decide)
  have hC : Chg (Foot H D.files.length) w w254 := hC.trans hW253.chg hF
  clear hD
  clear hR
  clear hE
  clear hA8
  clear hA21
  clear hA37
  have hD := hW253.g
  have hR := hRc.stepQ hW253
  have hFo := hW253.foot
  refine oZ (tN (hK251 _ _ (sk fun K255 hK255 => (wt (oS rfl (Yk.fieldAt rd6_fo50_0 (vr (PQ n2 0) rfl) (oS rfl (Yk.cell1 rd6_ty4 rfl (vr (PQ n2 0) rfl) (cellAt hb13 (show (rdkC (refP D, V))[0]? = some (.bool (true) : Value) from rdk_g0 (refP D, V))) (oZ (tN (hK255 _ _ (wpF_true (vr (.bool (true)) rfl) (wt (oS rfl (Yk.fieldAt rd6_fo33_4 (vr (PQ n15 0) rfl) (oS rfl (Yk.cell1 rd6_ty3 rfl (vr (PQ n15 4) rfl) (cellAt hb29 (show (xacC x)[4]? = some (.int .i64 (x.1.n : Int) : Value) from xac_g4 x)) (oS rfl (Yk.max0 (vr (.int .i64 (x.1.n : Int)) rfl) (vr (NI 0) rfl) (oS rfl (Yk.fieldAt rd6_fo50_8 (vr (PQ n2 0) rfl) (oS rfl (Yk.storeC (i := 8) (v := NI x.1.n.toNat) (vr (PQ n2 8) rfl) (vr (NI x.1.n.toNat) rfl) hb13 (by rw [rdk_len]; decide) rd6_isz3 rfl rfl fun w256 hb257 hg258 hs259 => ?_)))))))))))))))))))))))
  have hE0 := row_fresh hE0 hg258 (Nat.le_trans hz12 (by omega))
  have hb29 := kb hg258 hb29 (by omega)
  have hb48 := kb hg258 hb48 (by omega)
  have hC : Chg (Foot H D.files.length) w w256 := Chg.set hC hg258 (.inr (by omega))
  have hD : DkG wb w256 g H252 ({ D with arm := x.1.n.toNat }) := DkG.setT hD hg258 hb13 (by omega) (by decide) (by decide) (by decide) (by decide) (by decide) (by decide)
  have hR : RdAt (OffQ H252 ({ D with arm := x.1.n.toNat }).files.length (fun i => Q i ∨ i = n2 ∨ i = n31)) w256 (D) V := RdAt.setQ hR hg258 (.inr (.inl rfl))
  clear hb13
  have hb13 : w256.heap[n2]? = some (.cells (rdkC ((⟨true, ((D.quota : Nat) : Int), (D.files.map Prod.fst), (D.files.map fun x => ((x.2 : Nat) : Int)), D.now, D.kept, D.acts, D.refused, x.1.n.toNat, D.down⟩, ⟨V.files, V.synced, V.now, V.kept, V.acts⟩) : RdkV)).toArray 50 (0, 0)) := blk_eq hb257 (rdk_s8 (refP D, V) x.1.n.toNat); clear hb257
  have hl260 := bl hb13
  refine oZ ?_
  have hb13 : w256.heap[n2]? = some (.cells (rdkC (refP ({ D with arm := x.1.n.toNat }), V)).toArray 50 (0, 0)) := hb13
  have hR : RdAt (OffQ H252 ({ D with arm := x.1.n.toNat }).files.length (fun i => Q i ∨ i = n2 ∨ i = n31)) w256 ({ D with arm := x.1.n.toNat }) V := ⟨hR.files, hR.synced, hR.now, hR.kept, hR.acts⟩
  refine bN (tN (hK52 _ _ (sk fun K261 hK261 => (wt (oS rfl (Yk.loadAll (vr (PQ n2 0) rfl) hb13 (rd6_ty50).choose_spec rfl (st_isz (rdk_len (refP ({ D with arm := x.1.n.toNat }), V)) rd6_isz50) (oM rfl (oM rfl (oS rfl (Yk.eqI (a := (0 : Nat)) (b := (0 : Nat)) rfl rfl (k_eql _ _ _ _) ?_))))))))))
  obtain ⟨lq_, -, hq267⟩ := hR.files
  have hq262 := hq267.1
  have hq263 := hR.synced.1
  have hq264 := hR.now.1
  have hq265 := hR.kept.1
  have hq266 := hR.acts.1
  refine oS rfl (Yk.storeAll (vr (PQ n31 0) rfl) (vr (.agg (rdkC (refP ({ D with arm := x.1.n.toNat }), V)).toArray) rfl) hb48 (by simp only [List.size_toArray, rdk_len]) (st_isz (rdk_len _) rd6_isz50) (rdk_one (x := (refP ({ D with arm := x.1.n.toNat }), V)) (RG.one hq262).2 (RG.one hq263).2 (RG.one hq264).2 (RG.one hq265).2 (RG.one hq266).2) fun w268 hb269 hg270 hs271 => ?_)
  have hE0 := row_fresh hE0 hg270 (Nat.le_trans hz43 (by omega))
  have hb29 := kb hg270 hb29 (by omega)
  have hC : Chg (Foot H D.files.length) w w268 := Chg.set hC hg270 (.inr (by omega))
  have hD : DkG wb w268 g H252 ({ D with arm := x.1.n.toNat }) := DkG.setT hD hg270 hb48 (by omega) (by decide) (by decide) (by decide) (by decide) (by decide) (by decide)
  have hR : RdAt (OffQ H252 ({ D with arm := x.1.n.toNat }).files.length (fun i => Q i ∨ i = n2 ∨ i = n31)) w268 ({ D with arm := x.1.n.toNat }) V := RdAt.setQ hR hg270 (.inr (.inr rfl))
  have hb13 := kb hg270 hb13 (by omega)
  clear hq262
  clear hq263
  clear hq264
  clear hq265
  clear hq266
  clear hb48
  have hb48 : w268.heap[n31]? = some (.cells (rdkC (refP ({ D with arm := x.1.n.toNat }), V)).toArray 50 (0, 0)) := hb269; clear hb269
  have hl272 := bl hb48
  refine oA rfl (oZ (tN (hK261 _ _ (wpF_ret (postF_ret (fn := Try.f20) _ rfl [.agg (rdkC (refP ({ D with arm := x.1.n.toNat }), V)).toArray, .bool (true)] (.tuple #[.agg (rdkC (refP ({ D with arm := x.1.n.toNat }), V)).toArray, .bool (true)]) rfl ⟨ResF.row rfl hb48 (rd6_ty50).choose_spec rfl (st_isz (rdk_len _) rd6_isz50), (congrArg Value.bool (decide_eq_true (rfl))), trivial⟩ ?_)))))
  have hCe : Chg (Foot H D.files.length) w w268 := hC
  exact ⟨H252, V, by rw [hV], by rw [hV]; exact ⟨hD, hCe, fun i q => (hW253.foot i q).imp id fun r => Nat.le_trans hcs r⟩, by rw [hV]; exact hR.subQ (fun i q => .inl q)⟩
 refine sk fun K273 hK273 => (wt (oS rfl (Yk.eqI (a := ((kindA x.1.kind) : Nat)) (b := (6 : Nat)) rfl rfl (k_eql _ _ _ _) (oA rfl (oZ (tN (hK273 _ _ ?_)))))))
 refine wpF_cond (((kindA x.1.kind) : Nat) = (6)) (vr (.bool (decide (((kindA x.1.kind) : Nat) = (6)))) rfl) (fun hc8 => ?_) (fun hc8 => ?_)
 ·have hV : actP D x.1 = crashD D x.1.fates := by unfold actP; rw [if_neg (by omega), if_neg (by omega), if_neg (by omega), if_neg (by omega), if_neg (by omega), if_pos hc8]
  have hA274 := Ext.refl w32
  have hea275 := hE
  have hea276 := hE0
  have hea277 := hA8
  have hea278 := hA21
  have hea279 := hA37
  have hz280 := hE.size
  have hz281 := hE0.size
  have hz282 := hA8.size
  have hz283 := hA21.size
  have hz284 := hA37.size
  have hcw : w.heap.size ≤ w32.heap.size := hE.size
  have hDb := hD
  refine sk fun K285 hK285 => (wt (oM rfl (oS rfl (Yk.lit0G (k := 1) (enc := enI) rd6_l0_25 fun v286 w287 ho288 hx289 => ?_))))
  have hap290 : OB v286 n2 := own_older ho288.2 (bl hb13)
  have hap291 : OB v286 n15 := own_older ho288.2 (bl hb29)
  have hap292 : OB v286 n31 := own_older ho288.2 (bl hb48)
  have hE := hE.trans hx289
  have hE0 := hE0.trans hx289
  have hA8 := hA8.trans hx289
  have hb13 := eb hx289 hb13
  have hA21 := hA21.trans hx289
  have hb29 := eb hx289 hb29
  have hA37 := hA37.trans hx289
  have hb48 := eb hx289 hb48
  have hC : Chg (Foot H D.files.length) w w287 := (hC.keep hx289)
  have hA274 := hA274.trans hx289
  have hbz : w32.heap.size ≤ w32.heap.size := Nat.le_refl _
  refine oS rfl (Yk.fieldAt rd6_fo33_5 (vr (PQ n15 0) rfl) (oS rfl (Yk.cell1 rd6_ty25 rfl (vr (PQ n15 5) rfl) (cellAt hb29 (show (xacC x)[5]? = some (x.2.fates : Value) from xac_g5 x)) (oS rfl (Yk.appendRG _ _ w32.heap.size _ 8 rd6_ty25 rd6_ig3.choose_spec.1 rd6_ig3.choose_spec.2 rd6_ty25 ([]) (x.1.fates) (OG.of ho288 (vr v286 rfl)) (RG.of (hxf.keep hE0) (vr x.2.fates rfl)) (fun y hy u hu => by rw [List.mem_singleton.1 hu]; rfl) (by simp only [List.length_nil]; omega) (by simp only [List.length_nil]; omega) hA274.size fun v293 w294 ho295 hg296 => ?_)))))
  have hg296 : Grew w287 w294 v286 v293 := hg296
  have hap297 : OB v293 n2 := apart_grew hg296 hap290 (bl hb13)
  have hap298 : OB v293 n15 := apart_grew hg296 hap291 (bl hb29)
  have hap299 : OB v293 n31 := apart_grew hg296 hap292 (bl hb48)
  have hE := ext_grew hE hg296 ho288.2 hz282
  have hE0 := ext_grew hE0 hg296 ho288.2 hz281
  have hA8 := ext_grew hA8 hg296 ho288.2 hz282
  have hb13 := blk_grew hb13 hg296 hap290
  have hA21 := ext_grew hA21 hg296 ho288.2 hz283
  have hb29 := blk_grew hb29 hg296 hap291
  have hA37 := ext_grew hA37 hg296 ho288.2 hz284
  have hb48 := blk_grew hb48 hg296 hap292
  have hC : Chg (Foot H D.files.length) w w294 := Chg.grew hC hg296 (fun i e => .inr (by have h8 := (ho288.2.lt i e).1; omega))
  have hA274 := ext_grew hA274 hg296 ho288.2 (Nat.le_refl _)
  clear ho288
  have hrf_ : RG 1 enI _ v293 x.1.fates := rg_eq (RG.ofOwn ho295) (List.nil_append _)
  have hD := (hD.keep hA274)
  have hR := (hR.keep hA274)
  have hDc := hD
  have hRc := hR
  have hcs : w.heap.size ≤ w294.heap.size := hC.size
  refine oS rfl (Yk.callA2 rd6_pl11 T0 (vr v293 rfl) ((hDc.crashW v293 x.1.fates hrf_ hL).mono ?_))
  rintro e w302 ⟨H300, rfl, hW301⟩
  refine ⟨_, rfl, ?_⟩
  have hok_ := hDc.st.ok
  have hE0 : Ext wb w302 := hW301.g.ext
  have hb13 : w302.heap[n2]? = some (.cells (rdkC (refP D, V)).toArray 50 (0, 0)) := DkG.box hDc hW301.chg hb13 (by decide) (by decide) (by decide) (by decide)
  have hb29 : w302.heap[n15]? = some (.cells (xacC x).toArray 33 (0, 0)) := DkG.box hDc hW301.chg hb29 (by decide) (by decide) (by decide) (by decide)
  have hb48 : w302.heap[n31]? = some (.cells (rdkC ((⟨false, 0, [], [], [], [], [], 0, 0, false⟩, ⟨.slice none 0 0, .slice none 0 0, .slice none 0 0, .slice none 0 0, .slice none 0 0⟩) : RdkV)).toArray 50 (0, 0)) := DkG.box hDc hW301.chg hb48 (by decide) (by decide) (by decide) (by decide)
  have hC : Chg (Foot H D.files.length) w w302 := hC.trans hW301.chg hF
  clear hD
  clear hR
  clear hE
  clear hA8
  clear hA21
  clear hA37
  clear hA274
  clear ho295
  have hD := hW301.g
  have hR := hRc.stepQ hW301
  have hFo := hW301.foot
  refine oZ (tN (hK285 _ _ (wt (oS rfl (Yk.loadAll (vr (PQ n2 0) rfl) hb13 (rd6_ty50).choose_spec rfl (st_isz (rdk_len (refP D, V)) rd6_isz50) (oS rfl (Yk.fieldAt rd6_fo33_5 (vr (PQ n15 0) rfl) (oS rfl (Yk.cell1 rd6_ty25 rfl (vr (PQ n15 5) rfl) (cellAt hb29 (show (xacC x)[5]? = some (x.2.fates : Value) from xac_g5 x)) ?_)))))))))
  have h4l := (bl hb13)
  have h6l := (bl hb48)
  have hcl := (hC).size
  have hQ3 : ∀ i, (fun i => Q i ∨ i = n2 ∨ i = n31) i → i < w302.heap.size := fun i q => by rcases q with q | q | q; have := hQ i q; omega; omega; omega
  have hDc := hD
  have hRc := hR
  refine oS rfl (Yk.callA2 rd6_pl44 (vr (.agg (rdkC (refP D, V)).toArray) rfl) (vr x.2.fates rfl) ((rcrash_any _ D V hR (hD.offq hQ3) hok hL hfn x.2.fates x.1.fates (hxf.keep hE0) (by omega)).mono ?_))
  rintro e w306 ⟨V303, rfl, hR304, hx305⟩
  refine ⟨_, rfl, ?_⟩
  have hE0 := hE0.trans hx305
  have hb13 := eb hx305 hb13
  have hb29 := eb hx305 hb29
  have hb48 := eb hx305 hb48
  have hC : Chg (Foot H D.files.length) w w306 := (hC.keep hx305)
  have hD : DkG wb w306 g H300 (crashD D x.1.fates) := (hD.keep hx305)
  have hR : RdAt (OffQ H300 (crashD D x.1.fates).files.length (fun i => Q i ∨ i = n2 ∨ i = n31)) w306 (D) V := (hR.keep hx305)
  have hR := hR304
  obtain ⟨lq_, -, hq312⟩ := hR.files
  have hq307 := hq312.1
  have hq308 := hR.synced.1
  have hq309 := hR.now.1
  have hq310 := hR.kept.1
  have hq311 := hR.acts.1
  refine oS rfl (Yk.storeAll (vr (PQ n2 0) rfl) (vr (.agg (rdkC (refP (crashD D x.1.fates), V303)).toArray) rfl) hb13 (by simp only [List.size_toArray, rdk_len]) (st_isz (rdk_len _) rd6_isz50) (rdk_one (x := (refP (crashD D x.1.fates), V303)) (RG.one hq307).2 (RG.one hq308).2 (RG.one hq309).2 (RG.one hq310).2 (RG.one hq311).2) fun w313 hb314 hg315 hs316 => ?_)
  have hE0 := row_fresh hE0 hg315 (Nat.le_trans hz12 (by omega))
  have hb29 := kb hg315 hb29 (by omega)
  have hb48 := kb hg315 hb48 (by omega)
  have hC : Chg (Foot H D.files.length) w w313 := Chg.set hC hg315 (.inr (by omega))
  have hD : DkG wb w313 g H300 (crashD D x.1.fates) := DkG.setT hD hg315 hb13 (by omega) (by decide) (by decide) (by decide) (by decide) (by decide) (by decide)
  have hR : RdAt (OffQ H300 (crashD D x.1.fates).files.length (fun i => Q i ∨ i = n2 ∨ i = n31)) w313 (crashD D x.1.fates) V303 := RdAt.setQ hR hg315 (.inr (.inl rfl))
  clear hq307
  clear hq308
  clear hq309
  clear hq310
  clear hq311
  clear hb13
  have hb13 : w313.heap[n2]? = some (.cells (rdkC (refP (crashD D x.1.fates), V303)).toArray 50 (0, 0)) := hb314; clear hb314
  have hl317 := bl hb13
  refine oZ (bN (tN (hK52 _ _ (sk fun K318 hK318 => (wt (oS rfl (Yk.loadAll (vr (PQ n2 0) rfl) hb13 (rd6_ty50).choose_spec rfl (st_isz (rdk_len (refP (crashD D x.1.fates), V303)) rd6_isz50) (oM rfl (oM rfl (oS rfl (Yk.eqI (a := (0 : Nat)) (b := (0 : Nat)) rfl rfl (k_eql _ _ _ _) ?_)))))))))))
  obtain ⟨lq_, -, hq324⟩ := hR.files
  have hq319 := hq324.1
  have hq320 := hR.synced.1
  have hq321 := hR.now.1
  have hq322 := hR.kept.1
  have hq323 := hR.acts.1
  refine oS rfl (Yk.storeAll (vr (PQ n31 0) rfl) (vr (.agg (rdkC (refP (crashD D x.1.fates), V303)).toArray) rfl) hb48 (by simp only [List.size_toArray, rdk_len]) (st_isz (rdk_len _) rd6_isz50) (rdk_one (x := (refP (crashD D x.1.fates), V303)) (RG.one hq319).2 (RG.one hq320).2 (RG.one hq321).2 (RG.one hq322).2 (RG.one hq323).2) fun w325 hb326 hg327 hs328 => ?_)
  have hE0 := row_fresh hE0 hg327 (Nat.le_trans hz43 (by omega))
  have hb29 := kb hg327 hb29 (by omega)
  have hC : Chg (Foot H D.files.length) w w325 := Chg.set hC hg327 (.inr (by omega))
  have hD : DkG wb w325 g H300 (crashD D x.1.fates) := DkG.setT hD hg327 hb48 (by omega) (by decide) (by decide) (by decide) (by decide) (by decide) (by decide)
  have hR : RdAt (OffQ H300 (crashD D x.1.fates).files.length (fun i => Q i ∨ i = n2 ∨ i = n31)) w325 (crashD D x.1.fates) V303 := RdAt.setQ hR hg327 (.inr (.inr rfl))
  have hb13 := kb hg327 hb13 (by omega)
  clear hq319
  clear hq320
  clear hq321
  clear hq322
  clear hq323
  clear hb48
  have hb48 : w325.heap[n31]? = some (.cells (rdkC (refP (crashD D x.1.fates), V303)).toArray 50 (0, 0)) := hb326; clear hb326
  have hl329 := bl hb48
  refine oA rfl (oL_ [(0, PQ g 0), (1, .agg (rdkC (refP D, V)).toArray), (2, .agg (xacC x).toArray), (4, PQ n2 0), (5, PQ n15 0), (6, PQ n31 0), (7, .bool (true)), (8, NI 0), (9, NI 0), (18, NI (kindA x.1.kind))] ⟨T0, T1, T2, rfl, rfl, rfl, (congrArg Value.bool (decide_eq_true (rfl))), rfl, rfl, rfl, trivial⟩ fun ρ330 ⟨T0, T1, T2, T4, T5, T6, T7, T8, T9, T18, _⟩ => (tN (hK318 _ _ (wpF_ret (postF_ret (fn := Try.f20) _ rfl [.agg (rdkC (refP (crashD D x.1.fates), V303)).toArray, .bool (true)] (.tuple #[.agg (rdkC (refP (crashD D x.1.fates), V303)).toArray, .bool (true)]) rfl ⟨ResF.row T6 hb48 (rd6_ty50).choose_spec rfl (st_isz (rdk_len _) rd6_isz50), T7, trivial⟩ ?_)))))
  have hCe : Chg (Foot H D.files.length) w w325 := hC
  exact ⟨H300, V303, by rw [hV], by rw [hV]; exact ⟨hD, hCe, fun i q => (hW301.foot i q).imp id fun r => Nat.le_trans hcs r⟩, by rw [hV]; exact hR.subQ (fun i q => .inl q)⟩
 exact absurd (kindA_lt x.1.kind) (by omega)
open Go.RowKit
def floatBT (l : List Oper) (fs : List (Nat × Tmp)) (cs : List Nat) : Bool :=
  (List.range l.length).all (fun i => (fs.map Prod.fst).contains i || cs.contains i) &&
  ((ndB (fs.map Prod.snd) && (ndB cs &&
  (fs.all (fun p => match l[p.1]? with
    | some o => (o.guard.isNone && !cs.contains p.1) && (o.dst == some p.2 && (((List.range (p.1 + 1)).all (fun j => match l[j]? with | some q => !(q.looksAt l.toArray).contains p.2 | none => true)) && ((List.range l.length).all (fun j => Nat.beq j p.1 || dstOf l j != some p.2) && cs.all (fun c => match dstOf l c with | some d => !(o.looksAt l.toArray).contains d | none => true))))
    | none => false) &&
  (cs.all (fun c => match l[c]? with | some o => o.guard.isNone | none => false) &&
   l.all (fun o => match o.op with | .select .. => false | _ => true))))))
def frees (l : List Oper) (rest : List Nat) : List Nat := rest.filter fun i => rest.all fun j => Nat.beq j i || !((masks l []).getD i 0).testBit j
def AllT (p : Nat → Prop) : List Nat → Prop
  | [] => True
  | [i] => p i
  | i :: r => p i ∧ AllT p r
theorem AllT.get {p : Nat → Prop} : ∀ {l : List Nat}, AllT p l → ∀ i ∈ l, p i
  | [], _, _, h => by cases h
  | [i], h, j, hj => by rw [List.mem_singleton.1 hj]; exact h
  | i :: k :: r, h, j, hj => by
    rcases List.mem_cons.1 hj with rfl | hj
    · exact h.1
    · exact AllT.get (l := k :: r) h.2 j hj
def stepT (P : Program) (l : List Oper) (I : World → Prop) (T : List Nat → Slots → World → Prop) (rest : List Nat) (ρ : Slots) (w : World) (i : Nat) : Prop :=
  match l[i]? with
  | none => False
  | some o => Yk P (fun v w' => I w' ∧ T (rest.erase i) (updO ρ o.dst v) w') ((execOp (evalR ρ) o).run P w)
def treeI (P : Program) (l : List Oper) (I : World → Prop) (K : Slots → World → Prop) : Nat → List Nat → Slots → World → Prop
  | 0, rest, ρ, w => rest = [] ∧ K ρ w
  | f + 1, rest, ρ, w => (rest = [] → K ρ w) ∧ AllT (stepT P l I (treeI P l I K f) rest ρ w) (frees l rest)
theorem tree_nil {P : Program} {l : List Oper} {I : World → Prop} {K : Slots → World → Prop} {f : Nat} {ρ : Slots} {w : World} (h : K ρ w) : treeI P l I K f [] ρ w := by
  cases f
  · exact ⟨rfl, h⟩
  · exact ⟨fun _ => h, trivial⟩
theorem tree_node {P : Program} {l : List Oper} {I : World → Prop} {K : Slots → World → Prop} {f : Nat} {c : Nat} {r ns : List Nat} {ρ : Slots} {w : World} (hn : frees l (c :: r) = ns)
    (h : AllT (stepT P l I (treeI P l I K f) (c :: r) ρ w) ns) : treeI P l I K (f + 1) (c :: r) ρ w := by
  unfold treeI
  refine ⟨fun e => (by cases e), ?_⟩
  rw [hn]
  exact h
theorem tree_step {P : Program} {l : List Oper} {I : World → Prop} {T : List Nat → Slots → World → Prop} {i : Nat} {rest r : List Nat} {ρ : Slots} {w : World} {o : Oper} (ho : l[i]? = some o) (hr : rest.erase i = r)
    (h : Yk P (fun v w' => I w' ∧ T r (updO ρ o.dst v) w') ((execOp (evalR ρ) o).run P w)) : stepT P l I T rest ρ w i := by
  unfold stepT
  rw [ho, hr]
  exact h
section
variable {P : Program} {n : Nat} {ρ : Slots} {w : World} {Q : PostF} {l : List Oper} {fs : List (Nat × Tmp × Value)} {cs : List Nat} {I : World → Prop}
structure FInvT (l : List Oper) (fs : List (Nat × Tmp × Value)) (cs : List Nat) (I : World → Prop) (n : Nat) (ρf ρc : Slots) (rest : List Nat) (listed : Array Bool) (a : Act) (w : World) : Prop where
  size : listed.size = l.length
  closed : ∀ i o, l[i]? = some o → On listed i → ∀ e ∈ o.after, Region.binds .any e = true → On listed e.on
  tmps : a.tmps.size = n
  defers : a.defers = []
  sub : ∀ c ∈ rest, c ∈ cs
  nd : rest.Nodup
  gone : ∀ c ∈ cs, c ∉ rest → On listed c
  todo : ∀ c ∈ rest, ¬ On listed c
  agree : ∀ t, (∀ p ∈ fs, ¬ On listed p.1 → p.2.1 ≠ t) → a.tmps.getD t undef = ρc t
  ghost : ∀ t, (∀ c ∈ cs, dstOf l c ≠ some t) → ρc t = ρf t
  inv : I w
theorem float_anyT (hg : goodB l n = true) (hb : floatBT l (fs.map fun p => (p.1, p.2.1)) cs = true) (hf : FloatsO P l I (floatsF fs ρ) fs) :
    ∀ (fuel : Nat) (listed : Array Bool) (a : Act) (w : World) (ρc : Slots) (rest : List Nat) (f : Nat), (listed.toList.filter (!·)).length = fuel → rest.length ≤ f → FInvT l fs cs I n (floatsF fs ρ) ρc rest listed a w → treeI P l I (fun ρ w => Q .normal ρ w) f rest ρc w →
      wpAny P .any l.toArray (fun e a' w' => ∃ ρ', Fits n ρ' a' ∧ Q e ρ' w') fuel listed a w := by
  have g := good_of hg
  unfold floatBT at hb
  simp only [Bool.and_eq_true] at hb
  obtain ⟨hcov, hnd, hpair, hfl, hcg, hsel⟩ := hb
  have hcov' : ∀ i, i < l.length → (∃ p ∈ fs, p.1 = i) ∨ i ∈ cs := fun i hi => by
    have := List.all_eq_true.1 hcov i (by simpa using hi)
    rw [Bool.or_eq_true] at this
    rcases this with h | h
    · left
      have := List.contains_iff_mem.1 h
      simp at this
      obtain ⟨d, v, h⟩ := this
      exact ⟨_, h, rfl⟩
    · exact .inr (List.contains_iff_mem.1 h)
  have hfl' : ∀ p ∈ fs, ∃ o, l[p.1]? = some o ∧ o.guard = none ∧ p.1 ∉ cs ∧ o.dst = some p.2.1 ∧ (∀ j q, j ≤ p.1 → l[j]? = some q → p.2.1 ∉ q.looksAt l.toArray) ∧ (∀ j, j < l.length → j ≠ p.1 → dstOf l j ≠ some p.2.1) ∧ ∀ c ∈ cs, ∀ d, dstOf l c = some d → d ∉ o.looksAt l.toArray := fun p hp => by
    have := List.all_eq_true.1 hfl (p.1, p.2.1) (List.mem_map.2 ⟨p, hp, rfl⟩)
    dsimp only at this
    cases ho : l[p.1]? with
    | none => rw [ho] at this; cases this
    | some o =>
      rw [ho] at this
      simp only [Bool.and_eq_true] at this
      obtain ⟨⟨h1, h1c⟩, h2, h5, h3, h4⟩ := this
      refine ⟨o, rfl, by simpa using h1, fun hc => ?_, by simpa using h2, fun j q hj hq hx => ?_, fun j hj hne e => ?_, fun c hc d hd hx => ?_⟩
      · rw [List.contains_iff_mem.2 hc] at h1c; cases h1c
      · have := List.all_eq_true.1 h5 j (by simp; omega)
        rw [hq] at this
        simp only at this
        rw [List.contains_iff_mem.2 hx] at this
        cases this
      · have := List.all_eq_true.1 h3 j (by simpa using hj)
        rw [Bool.or_eq_true] at this
        rcases this with h | h
        · exact hne (Nat.eq_of_beq_eq_true h)
        · rw [e] at h; simp at h
      · have := List.all_eq_true.1 h4 c hc
        rw [hd] at this
        simp only at this
        rw [List.contains_iff_mem.2 hx] at this
        cases this
  have hcg' : ∀ c ∈ cs, ∃ o, l[c]? = some o ∧ o.guard = none := fun c hc => by
    have := List.all_eq_true.1 hcg c hc
    cases ho : l[c]? with
    | none => rw [ho] at this; cases this
    | some o => rw [ho] at this; exact ⟨o, rfl, by simpa using this⟩
  have hsel' : ∀ (i : Nat) (o : Oper), l[i]? = some o → ∀ cs b, o.op ≠ Op.select cs b := fun i o ho cs b e => by
    have := List.all_eq_true.1 hsel o (List.mem_of_getElem? ho)
    rw [e] at this
    cases this
  have hnew : ∀ p ∈ fs, floatsF fs ρ p.2.1 = p.2.2 := floatsF_new fs ρ (by
    have := ndB_nodup hnd
    rw [List.map_map] at this
    exact this)
  have hlt : ∀ (i : Nat) (o : Oper), l[i]? = some o → i < l.length := fun i o ho => (List.getElem?_eq_some_iff.1 ho).1
  -- all are done
  have fin : ∀ (listed : Array Bool) (a : Act) (w : World) (ρc : Slots) (rest : List Nat) (f : Nat), FInvT l fs cs I n (floatsF fs ρ) ρc rest listed a w → treeI P l I (fun ρ w => Q .normal ρ w) f rest ρc w → (∀ i, i < l.length → On listed i) → ∃ ρ', Fits n ρ' a ∧ Q .normal ρ' w := fun listed a w ρc rest f h hc hall => by
    cases rest with
    | nil =>
      have hk : Q .normal ρc w := by
        cases f
        · exact hc.2
        · exact hc.1 rfl
      exact ⟨ρc, ⟨h.tmps, h.defers, fun t => h.agree t (fun p hp hno => by
        obtain ⟨o, ho, -⟩ := hfl' p hp
        exact absurd (hall p.1 (hlt _ _ ho)) hno)⟩, hk⟩
    | cons c r =>
      obtain ⟨o, ho, -⟩ := hcg' c (h.sub c (by simp))
      exact absurd (hall c (hlt _ _ ho)) (h.todo c (by simp))
  intro fuel
  induction fuel with
  | zero =>
    intro listed a w ρc rest f hfu hlf h hc
    have full : ∀ i, i < l.length → On listed i := fun i hi => by
      have := count_zero _ hfu i (by rw [Array.length_toList, h.size]; omega)
      unfold On
      simp at this
      simp [this]
    refine ⟨?_, fin listed a w ρc rest f h hc full⟩
    cases hr : Region.ready .any l.toArray listed with
    | nil => rfl
    | cons x xs =>
      exfalso
      have hmem : x ∈ Region.ready .any l.toArray listed := by rw [hr]; simp
      obtain ⟨h1, o, ho, _⟩ := mem_ready.1 hmem
      have hx : x < l.length := by simpa using (Array.getElem?_eq_some_iff.1 ho).1
      have h2 := full x hx
      have hx' : x < listed.size := h2.lt
      unfold On at h2
      simp [hx'] at h1 h2
      rw [h1] at h2
      cases h2
  | succ fuel ih =>
    intro listed a w ρc rest f hfu hlf h hc
    refine ⟨fun hr => fin listed a w ρc rest f h hc fun i => ?_, fun i hi => ?_⟩
    · induction i using Nat.strongRecOn with
      | _ i ih2 =>
        intro hi
        refine Classical.byContradiction fun hno => ?_
        have ho : l[i]? = some l[i] := List.getElem?_eq_getElem hi
        have : i ∈ Region.ready .any l.toArray listed := by
          refine mem_ready.2 ⟨?_, l[i], by rw [List.getElem?_toArray]; exact ho, fun e he hb => ?_⟩
          · have hi' : i < listed.size := by rw [h.size]; exact hi
            unfold On at hno
            simp [hi'] at hno ⊢
            exact hno
          · have hlt := g.back i _ ho e he hb
            exact ih2 e.on hlt (by omega)
        rw [hr] at this
        cases this
    · obtain ⟨h1, o, ho, hall0⟩ := mem_ready.1 hi
      have ho' : l[i]? = some o := by simpa using ho
      have hilt : i < l.length := hlt i o ho'
      have hil : i < listed.size := by rw [h.size]; exact hilt
      have hno : ¬ On listed i := by
        unfold On
        simp [hil] at h1 ⊢
        exact h1
      have hall : ∀ e ∈ o.after, Region.binds .any e = true → On listed e.on := fun e he hb => hall0 e he hb
      have hI : Inv l (fun _ => []) (fun _ _ => True) (fun _ _ => True) (fun _ _ _ => True) a listed a w :=
        ⟨h.size, h.closed, rfl, rfl, fun _ _ _ => trivial, trivial, fun _ _ => rfl, fun _ _ _ _ _ _ _ _ => trivial⟩
      have hmr : ∀ k, ((masks l []).getD i 0).testBit k = true → On listed k := fun k hk => hI.maskReady ho' hall hk
      have hcnt : ((listed.setIfInBounds i true).toList.filter (!·)).length = fuel := by
        rw [Array.toList_setIfInBounds]
        have := count_set listed.toList i (by
          simp [hil] at h1
          simp [hil, h1])
        omega
      have hcl : ∀ j oj, l[j]? = some oj → On (listed.setIfInBounds i true) j → ∀ e ∈ oj.after, Region.binds .any e = true → On (listed.setIfInBounds i true) e.on := fun j oj hj hon e he hb => by
        rcases (on_set hil).1 hon with rfl | hon
        · obtain rfl : o = oj := by rw [ho'] at hj; exact Option.some.inj hj
          exact (on_set hil).2 (.inr (hall e he hb))
        · exact (on_set hil).2 (.inr (h.closed j oj hj hon e he hb))
      have hF : Fits n (fun t => a.tmps.getD t undef) a := ⟨h.tmps, h.defers, fun t => rfl⟩
      have hroom : ∀ t, o.dst = some t → t < n := fun t ht => g.room i o t ho' ht
      -- what it looks at is as in the frame in order
      have hlook : ∀ t ∈ o.looksAt l.toArray, a.tmps.getD t undef = ρc t := fun t ht => h.agree t fun q hq hnq e => by
        subst e
        obtain ⟨oq, hoq, -, -, hdq, hearly, -⟩ := hfl' q hq
        by_cases hqi : i ≤ q.1
        · exact hearly i o hqi ho' ht
        · exact hnq (hmr q.1 (g.tied i o q.1 oq q.2.1 ho' hoq (by omega) (.inl ⟨hdq, List.mem_append_right _ ht⟩)))
      unfold wpOp
      simp only [List.getElem?_toArray, ho']
      have hguard : o.guard = none := by
        rcases hcov' i hilt with ⟨p, hp, rfl⟩ | hic
        · obtain ⟨o2, ho2, h2, -⟩ := hfl' p hp
          rw [ho'] at ho2
          cases ho2
          exact h2
        · obtain ⟨o2, ho2, h2⟩ := hcg' i hic
          rw [ho'] at ho2
          cases ho2
          exact h2
      have hw : Region.wanted o (yielded l.toArray a.tmps) = true := by unfold Region.wanted; rw [hguard]
      rw [if_pos hw]
      rcases hcov' i hilt with ⟨p, hp, rfl⟩ | hic
      · refine .inl (wp_of_yields ?_)
        rw [hF.eval]
        obtain ⟨o2, ho2, h2, hpc, hpd, hearly, huniq, hpl⟩ := hfl' p hp
        rw [ho'] at ho2
        cases ho2
        have hghost : ∀ t ∈ o.looksAt l.toArray, a.tmps.getD t undef = floatsF fs ρ t := fun t ht => (hlook t ht).trans (h.ghost t fun c hc e => hpl c hc t e ht)
        rw [exec_agree (ρ := floatsF fs ρ) (hsel' _ _ ho') hghost]
        have hIw : I w := h.inv
        refine Yk.mono (hf.get p hp o ho' w hIw) ?_
        rintro v w' ⟨rfl, rfl⟩
        refine ih _ _ _ ρc rest f hcnt hlf ⟨by simpa using h.size, hcl, (hF.put o.dst hroom _).size, (hF.put o.dst hroom _).defers, h.sub, h.nd, fun c hc hr => (on_set hil).2 (.inr (h.gone c hc hr)), fun c hc hx => ?_, fun t ht => ?_, h.ghost, hIw⟩ hc
        · rcases (on_set hil).1 hx with rfl | hx
          · exact hpc (h.sub _ hc)
          · exact h.todo c hc hx
        · rw [(hF.put o.dst hroom _).get t, hpd]
          by_cases e : t = p.2.1
          · subst e
            rw [updO_some, upd_eq, h.ghost _ (fun c hc e => ?_), hnew p hp]
            obtain ⟨oc, hoc, -⟩ := hcg' c hc
            exact huniq c (hlt _ _ hoc) (fun x => hpc (x ▸ hc)) e
          · rw [updO_some, upd_ne e]
            refine h.agree t fun q hq hnq => ?_
            by_cases hqi : q.1 = p.1
            · obtain ⟨oq, hoq, -, -, hdq, -⟩ := hfl' q hq
              rw [hqi, ho'] at hoq
              cases hoq
              rw [hpd] at hdq
              exact fun x => e (x.symm.trans (Option.some.inj hdq).symm)
            · exact ht q hq (fun x => by
                rcases (on_set hil).1 x with x | x
                · exact hqi x
                · exact hnq x)
      · have hir : i ∈ rest := Classical.byContradiction fun hx => hno (h.gone i hic hx)
        cases f with
        | zero =>
          have : rest = [] := List.eq_nil_of_length_eq_zero (by omega)
          rw [this] at hir
          cases hir
        | succ f =>
          have hfree : i ∈ frees l rest := List.mem_filter.2 ⟨hir, List.all_eq_true.2 fun j hj => by
            by_cases e : j = i
            · subst e; simp
            · have : ((masks l []).getD i 0).testBit j = false := by
                rw [← Bool.not_eq_true]
                exact fun hx => h.todo j hj (hmr j hx)
              rw [this]; simp⟩
          have hc' : Yk P (fun v w' => I w' ∧ treeI P l I (fun ρ w => Q .normal ρ w) f (rest.erase i) (updO ρc o.dst v) w') ((execOp (evalR ρc) o).run P w) := by
            have hx := hc.2.get i hfree
            unfold stepT at hx
            rw [ho'] at hx
            exact hx
          refine .inl (wp_of_yields ?_)
          rw [hF.eval]
          rw [exec_agree (ρ := ρc) (hsel' _ _ ho') hlook]
          refine Yk.mono hc' ?_
          rintro v w' ⟨hIw, hcr⟩
          refine ih _ _ _ _ (rest.erase i) f hcnt (by rw [List.length_erase_of_mem hir]; omega) ⟨by simpa using h.size, hcl, (hF.put o.dst hroom _).size, (hF.put o.dst hroom _).defers, fun c hcm => h.sub c (List.mem_of_mem_erase hcm), h.nd.erase i, fun c hcm hr => ?_, fun c hcm hx => ?_, fun t ht => ?_, fun t ht => ?_, hIw⟩ hcr
          · by_cases e : c = i
            · exact (on_set hil).2 (.inl e)
            · exact (on_set hil).2 (.inr (h.gone c hcm fun q => hr ((List.mem_erase_of_ne e).2 q)))
          · rcases (on_set hil).1 hx with e | hx
            · exact (h.nd.mem_erase_iff.1 hcm).1 e
            · exact h.todo c (List.mem_of_mem_erase hcm) hx
          · rw [(hF.put o.dst hroom _).get t]
            cases hd : o.dst with
            | none =>
              exact h.agree t fun q hq hnq => ht q hq (fun x => by
                rcases (on_set hil).1 x with x | x
                · obtain ⟨_, _, _, hpc, _⟩ := hfl' q hq
                  exact hpc (x ▸ hic)
                · exact hnq x)
            | some d =>
              rw [updO_some, updO_some]
              by_cases e : t = d
              · subst e; rw [upd_eq, upd_eq]
              · rw [upd_ne e, upd_ne e]
                exact h.agree t fun q hq hnq => ht q hq (fun x => by
                  rcases (on_set hil).1 x with x | x
                  · obtain ⟨_, _, _, hpc, _⟩ := hfl' q hq
                    exact hpc (x ▸ hic)
                  · exact hnq x)
          · have hne := ht i hic
            unfold dstOf at hne
            rw [ho'] at hne
            simp only [Option.bind_some] at hne
            cases hd : o.dst with
            | none => exact h.ghost t ht
            | some d =>
              rw [hd] at hne
              rw [updO_some, upd_ne (fun e => hne (by rw [e]))]
              exact h.ghost t ht
theorem wpF_tree (fs : List (Nat × Tmp × Value)) (cs : List Nat) (I : World → Prop) (f : Nat) {id : Nat} (hm : P.follows .mixedOrders = true) (hg : goodB l n = true) (hb : floatBT l (fs.map fun p => (p.1, p.2.1)) cs = true) (hlen : Nat.ble cs.length f = true) (hI : I w.drew) (hf : FloatsO P l I (floatsF fs ρ) fs)
    (hc : treeI P l I (fun ρ w => Q .normal ρ w) f cs (floatsF fs ρ) w.drew) : wpF P n (.region id l.toArray true) Q ρ w := by
  intro a ha
  have hnd : cs.Nodup := by
    unfold floatBT at hb
    simp only [Bool.and_eq_true] at hb
    exact ndB_nodup hb.2.2.1
  exact wp_region_any hm (float_anyT (ρ := ρ) hg hb hf _ _ _ _ (floatsF fs ρ) cs f (by simp) (Nat.le_of_ble_eq_true hlen) ⟨by simp, fun i o _ h => absurd h On.not_replicate, ha.size, ha.defers, fun c hc => hc, hnd, fun c hc hx => absurd hc hx, fun c _ h => On.not_replicate h, fun t ht => (ha.get t).trans (floatsF_old fs ρ t (fun p hp => ht p hp On.not_replicate)).symm, fun t _ => rfl, hI⟩ hc)
end
end Go.Proofs.Ytejpjjhkjdpeaaa
