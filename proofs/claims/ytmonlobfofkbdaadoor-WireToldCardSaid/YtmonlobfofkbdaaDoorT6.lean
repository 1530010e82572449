/- Part 6 of what stands behind these statements: laws and walks of the functions that are reached. Conditions: those that each theorem names. -/
import Derived.Test.YtmonlobfofkbdaaDoorT5
set_option linter.unusedVariables false
set_option linter.unusedSimpArgs false
namespace Go.Proofs.YtmonlobfofkbdaaDoor
open Go.RowKit
section
variable {P : Program} {K : Value → World → Prop} {ρ : Slots} {w : World} {d : Option Tmp} {ty : TypeId} {pos : String} {af : Array Edge} {gd : Option (Nat × Bool)} {t ty2 : TypeId}
theorem Yk.assertOk {x : Operand} {u : TypeId} {v : Value} {fs} (hu : P.underlying u = some (.struct fs)) (hx : evalR ρ x = .iface u v) (hk : K (.tuple #[v, .bool true]) w) : Yk P K ((execOp (evalR ρ) ⟨d, .typeAssert x t u true, ty, pos, af, gd⟩).run P w) := by
  refine Yk.value (v := .tuple #[v, .bool true]) (w' := w) ?_ hk
  unfold execOp
  simp [Instr.typeAssert, hx, run_underlying hu, Result.andThen]
theorem Yk.neqNilN {x : Operand} (he : (Op.equal t .nilIface .nilIface).run P w = .ok true w) (hx : evalR ρ x = .nilIface) (hk : K (.bool false) w) : Yk P K ((execOp (evalR ρ) ⟨d, .binOp .neq t x (.const .nilIface) ty2, ty, pos, af, gd⟩).run P w) := by
  have hy : evalR ρ (.const .nilIface) = .nilIface := rfl
  refine Yk.value (v := .bool false) (w' := w) ?_ hk
  unfold execOp
  simp only [hx, hy]
  simp [eqGuard, Go.binOp, he, Result.andThen]
theorem Yk.neqNilS {x : Operand} {u : TypeId} {v : Value} (he : (Op.equal t (.iface u v) .nilIface).run P w = .ok false w) (hx : evalR ρ x = .iface u v) (hk : K (.bool true) w) : Yk P K ((execOp (evalR ρ) ⟨d, .binOp .neq t x (.const .nilIface) ty2, ty, pos, af, gd⟩).run P w) := by
  have hy : evalR ρ (.const .nilIface) = .nilIface := rfl
  refine Yk.value (v := .bool true) (w' := w) ?_ hk
  unfold execOp
  simp only [hx, hy]
  simp [eqGuard, Go.binOp, he, Result.andThen]
theorem deferOk {x : Operand} {fv : Fn} {first cap : Array Value} (hx : evalR ρ x = .func fv first cap) : (execOp (evalR ρ) ⟨none, .defer ⟨.value x, #[], #[]⟩, ty, pos, af, none⟩).run P w = .ok (.defer ⟨.fn fv cap, first⟩) w := by
  unfold execOp
  simp [resolve, hx, Deferred.ofValue]
theorem ResF.cell1 {p : Tmp} {ty : TypeId} {g : Nat} {t : TypeId} {v : Value} {fr : Nat × Nat} {d : TypeDesc} (hp : ρ p = .pointer (some ⟨g, 0, none⟩)) (hg : w.heap[g]? = some (.cells ([v]).toArray t fr))
    (hu : P.underlying ty = some d) (hd : (match d with | .struct _ | .array _ _ => false | _ => true) = true) : ResF P ρ w (.cell p ty) v := by
  refine ⟨_, hp, ?_⟩
  have hc : w.cell? ⟨g, 0, none⟩ = some v := cellAt hg rfl
  have hagg : (isAgg ty).run P w = .ok false w := by
    unfold isAgg
    cases d <;> first | (simp at hd; done) | simp [run_underlying hu, Result.andThen]
  simp [loadVar, hagg, hc]
theorem leaves_nil {fn : Func} {tmps : Array Value} {R : Ending → World → Prop} (rs : List ResultVar) (hrs : fn.results = rs.toArray) (vs : List Value) (v : Value) (hv : tupled vs = v) (ht : ∀ t, tmps.getD t undef = ρ t) (h : ResAll P ρ w rs vs) (hR : R (.returned v) w) : Leaves P fn tmps R [] .returning w :=
  ⟨_, results_fn hrs ht h, by rw [hv]; exact hR⟩
end
open Go.RowKit
set_option maxRecDepth 100000
theorem anyNilW (w : World) : (Op.equal 20 .nilIface .nilIface).run Tryd.prog w = .ok true w := by kernel_rfl
theorem anyNilX (u : TypeId) (v : Value) (w : World) : (Op.equal 20 (.iface u v) .nilIface).run Tryd.prog w = .ok false w := by kernel_rfl
theorem wr12_ty107 : ∃ fs, Tryd.prog.underlying 107 = some (.struct fs) := struct_of (by kernel_rfl)
theorem wr12_al107 {d : Option Tmp} {ty : TypeId} {pos : String} {af : Array Edge} {gd : Option (Nat × Bool)} (σ : Operand → Value) (w : World) : (execOp σ ⟨d, .alloc 107, ty, pos, af, gd⟩).run Tryd.prog w = .ok (.value (PQ w.heap.size 0)) (w.alloc (.cells (([] : List Value)).toArray 107)) := by kernel_rfl
theorem wr12_isz29 : (Tryd.prog.info? 29).map (·.size) = some 107 := by kernel_rfl
theorem wr12_isz27 : (Tryd.prog.info? 27).map (·.size) = some 1 := by kernel_rfl
theorem decode1_idle (b2 b3 : Nat) (w : World) : CallsD Tryd.prog 66 #[PQ b2 0, PQ b3 0] (.returning) w fun e u' w' => u' = (askD (.returning)).2 ∧ (e = .returned (.tuple #[]) ∧ Ext w w') := by
 have hE := Ext.refl w
 refine callsD_of_rest (u := .returning) (args := [PQ b2 0, PQ b3 0]) Tryd.func66 rfl 17 rfl (Nat.le_of_ble_eq_true rfl) rfl rfl (R := fun e w' => e = .returned (.tuple #[]) ∧ Ext w w') ?_
 intro ρz hb
 have T0 : (updO (updO ρz (some 5) (askD (.returning)).1) (some 2) (askD (.returning)).1) 0 = (PQ b2 0 : Value) := hb.get 0
 have T1 : (updO (updO ρz (some 5) (askD (.returning)).1) (some 2) (askD (.returning)).1) 1 = (PQ b3 0 : Value) := hb.get 1
 have T2 : (updO (updO ρz (some 5) (askD (.returning)).1) (some 2) (askD (.returning)).1) 2 = (.nilIface : Value) := rfl
 generalize updO (updO ρz (some 5) (askD (.returning)).1) (some 2) (askD (.returning)).1 = ρ0 at T0 T1 T2 ⊢
 clear hb
 refine sk fun K1 hK1 => (wt (oM rfl (oS rfl (Yk.neqNilN (anyNilW _) T2 (oZ (tN (hK1 _ _ (wpF_false (vr (.bool (false)) rfl) (wpF_skip (postP_end (fn := Tryd.f66) [] rfl [] (.tuple #[]) rfl trivial ?_))))))))))
 exact ⟨rfl, hE⟩

theorem decode1_stop (w0 : World) (b2 b3 : Nat) (X2 : MsgV) (v3 : Value) (w : World) (h0 : Ext w0 w) (l2 : w0.heap.size ≤ b2) (l3 : w0.heap.size ≤ b3) (hne : b2 ≠ b3) (h2 : w.heap[b2]? = some (.cells (msgC X2).toArray 29 (0, 0))) (h3 : w.heap[b3]? = some (.cells ([v3]).toArray 27 (0, 0))) : CallsD Tryd.prog 66 #[PQ b2 0, PQ b3 0] (.panicking [stopW]) w fun e u' w' => u' = (askD (.panicking [stopW])).2 ∧ (e = .returned (.tuple #[]) ∧ w'.heap[b2]? = some (.cells (msgC ((⟨0, 0, [], [], [], 0, 0, zid, [], [], zid, zid, false, 0⟩, ⟨.slice none 0 0, .slice none 0 0, .slice none 0 0, .slice none 0 0⟩) : MsgV)).toArray 29 (0, 0)) ∧ w'.heap[b3]? = some (.cells ([NI 6]).toArray 27 (0, 0)) ∧ Ext w0 w') := by
 have hl2_ := (bl h2)
 have hl3_ := (bl h3)
 refine callsD_of_rest (u := .panicking [stopW]) (args := [PQ b2 0, PQ b3 0]) Tryd.func66 rfl 17 rfl (Nat.le_of_ble_eq_true rfl) rfl rfl (R := fun e w' => e = .returned (.tuple #[]) ∧ w'.heap[b2]? = some (.cells (msgC ((⟨0, 0, [], [], [], 0, 0, zid, [], [], zid, zid, false, 0⟩, ⟨.slice none 0 0, .slice none 0 0, .slice none 0 0, .slice none 0 0⟩) : MsgV)).toArray 29 (0, 0)) ∧ w'.heap[b3]? = some (.cells ([NI 6]).toArray 27 (0, 0)) ∧ Ext w0 w') ?_
 intro ρz hb
 have T0 : (updO (updO ρz (some 5) (askD (.panicking [stopW])).1) (some 2) (askD (.panicking [stopW])).1) 0 = (PQ b2 0 : Value) := hb.get 0
 have T1 : (updO (updO ρz (some 5) (askD (.panicking [stopW])).1) (some 2) (askD (.panicking [stopW])).1) 1 = (PQ b3 0 : Value) := hb.get 1
 have T2 : (updO (updO ρz (some 5) (askD (.panicking [stopW])).1) (some 2) (askD (.panicking [stopW])).1) 2 = ((.iface 107 (.agg #[])) : Value) := rfl
 generalize updO (updO ρz (some 5) (askD (.panicking [stopW])).1) (some 2) (askD (.panicking [stopW])).1 = ρ0 at T0 T1 T2 ⊢
 clear hb
 refine sk fun K1 hK1 => (wt (oM rfl (oS rfl (Yk.neqNilS (anyNilX _ _ _) T2 (oZ (tN (hK1 _ _ (wpF_true (vr (.bool (true)) rfl) (sk fun K2 hK2 => (sk fun K3 hK3 => (wt (oM rfl (oS rfl (Yk.assertOk (wr12_ty107).choose_spec T2 (oM rfl (oS rfl (Yk.extract (vs := [.agg (([] : List Value)).toArray, .bool (true)]) (vr (.tuple #[.agg (([] : List Value)).toArray, .bool (true)]) rfl) (show _ = some (.agg (([] : List Value)).toArray : Value) from rfl) (oS rfl (Yk.extract (vs := [.agg (([] : List Value)).toArray, .bool (true)]) (vr (.tuple #[.agg (([] : List Value)).toArray, .bool (true)]) rfl) (show _ = some (.bool (true) : Value) from rfl) (oS rfl (Yk.alloc (cs := (([] : List Value)).toArray) wr12_al107 fun n4 w5 hn6 hb7 hx8 hs9 => ?_)))))))))))))))))))))
 have hA10 := Ext.refl w
 have hea11 := h0
 have hz12 := h0.size
 have hlt13 := lte (bl h2) hn6
 have hlt14 := lte (bl h3) hn6
 have h0 := h0.trans hx8
 have h2 := eb hx8 h2
 have h3 := eb hx8 h3
 have hA10 := hA10.trans hx8
 have hb15 := hb7; clear hb7
 have hl16 : n4 < w5.heap.size := by omega
 refine oS rfl (Yk.storeAll (vr (PQ n4 0) rfl) (vr (.agg (([] : List Value)).toArray) rfl) hb15 (rfl) ((show (Tryd.prog.info? 107).map (·.size) = some 0 from by kernel_rfl)) ((by intro u hu; cases hu)) fun w17 hb18 hg19 hs20 => ?_)
 have h0 := row_fresh h0 hg19 (Nat.le_trans hz12 (by omega))
 have h2 := kb hg19 h2 (by omega)
 have h3 := kb hg19 h3 (by omega)
 have hA10 := row_fresh hA10 hg19 (Nat.le_trans (Nat.le_refl _) (by omega))
 clear hb15
 have hb15 := hb18; clear hb18
 have hl21 := bl hb15
 refine oA rfl (oZ (tN (hK3 _ _ (sk fun K22 hK22 => (wt (oM rfl (oS rfl (Yk.notB (vr (.bool (true)) rfl) (oZ (tN (hK22 _ _ (wpF_false (vr (.bool (false)) rfl) (wpF_skip (tN (hK2 _ _ (wt (oS rfl (Yk.run (v := .agg (msgC ((⟨0, 0, [], [], [], 0, 0, zid, [], [], zid, zid, false, 0⟩, ⟨.slice none 0 0, .slice none 0 0, .slice none 0 0, .slice none 0 0⟩) : MsgV)).toArray) (by kernel_rfl) (oS rfl (Yk.storeAll T0 (vr (.agg (msgC ((⟨0, 0, [], [], [], 0, 0, zid, [], [], zid, zid, false, 0⟩, ⟨.slice none 0 0, .slice none 0 0, .slice none 0 0, .slice none 0 0⟩) : MsgV)).toArray) rfl) h2 (by simp only [List.size_toArray, msg_len]) (st_isz (msg_len _) wr12_isz29) (msg_one (x := ((⟨0, 0, [], [], [], 0, 0, zid, [], [], zid, zid, false, 0⟩, ⟨.slice none 0 0, .slice none 0 0, .slice none 0 0, .slice none 0 0⟩) : MsgV)) rfl rfl rfl rfl) fun w23 hb24 hg25 hs26 => ?_))))))))))))))))))))
 have h0 := row_fresh h0 hg25 (Nat.le_trans (Nat.le_refl _) (by omega))
 clear h2
 have h3 := kb hg25 h3 (by omega)
 clear hA10
 have hb15 := kb hg25 hb15 (by omega)
 have h2 : w23.heap[b2]? = some (.cells (msgC ((⟨0, 0, [], [], [], 0, 0, zid, [], [], zid, zid, false, 0⟩, ⟨.slice none 0 0, .slice none 0 0, .slice none 0 0, .slice none 0 0⟩) : MsgV)).toArray 29 (0, 0)) := hb24; clear hb24
 have hl27 := bl h2
 refine oS rfl (Yk.storeC (i := 0) (v := NI 6) T1 (vr (NI 6) rfl) h3 (Nat.le_of_ble_eq_true rfl) wr12_isz27 rfl rfl fun w28 hb29 hg30 hs31 => ?_)
 have h0 := row_fresh h0 hg30 (Nat.le_trans (Nat.le_refl _) (by omega))
 clear h3
 have hb15 := kb hg30 hb15 (by omega)
 have h2 := kb hg30 h2 (by omega)
 have h3 := hb29; clear hb29
 have hl32 := bl h3
 refine oZ (postP_end (fn := Tryd.f66) [] rfl [] (.tuple #[]) rfl trivial ?_)
 exact ⟨rfl, h2, h3, h0⟩
open Go.RowKit
set_option maxRecDepth 100000
theorem RG.kept {α : Type} {k : Nat} {enc : α → List Value} {w w' : World} {v : Value} {l : List α} (h : RG k enc w v l) {row : Option Nat} (hg : w.grownBy w' row) (hv : v.ownBlock = none ∨ v.ownBlock ≠ row) : RG k enc w' v l := by
 refine ⟨h.1, ?_⟩
 obtain ⟨h1, ao, cap, rfl, h2, h3, h4, h5⟩ := h.2
 refine ⟨h1, ao, cap, rfl, h2, h3, h4, fun a ha j u hu => ?_⟩
 have hc := h5 a ha j u hu
 subst ha
 have hlt := World.block_lt_of_cell? w _ hc
 have hbl : (a.add j).block = a.block := by unfold Addr.add; split <;> rfl
 have hne : (some a.block) ≠ row := by
  rcases hv with hv | hv
  ·cases hv
  ·exact hv
 rw [hbl] at hlt
 rw [World.cell?_of_block (w := w) (by rw [hbl]; exact hg.block a.block hlt hne)]
 exact hc
theorem MsgAt.set {w w' : World} {X : MsgV} {n g : Nat} (h : MsgAt w X) (hn : MsgNew n X) (hg : w.grownBy w' (some g)) (hl : g < n) : MsgAt w' X :=
 ⟨h.refs.kept hg (.inr fun e => by have := hn.refs g e; omega), h.wants.kept hg (.inr fun e => by have := hn.wants g e; omega), h.haves.kept hg (.inr fun e => by have := hn.haves g e; omega), h.bytes.kept hg (.inr fun e => by have := hn.bytes g e; omega)⟩
def DecRes (w : World) (X : MsgV) (c : Nat) : Option Msg → Prop
 | some m => c = 0 ∧ X.1 = m ∧ MsgAt w X
 | none => c = 6 ∧ X = ((⟨0, 0, [], [], [], 0, 0, zid, [], [], zid, zid, false, 0⟩, ⟨.slice none 0 0, .slice none 0 0, .slice none 0 0, .slice none 0 0⟩) : MsgV)
theorem wr13_al29 {d : Option Tmp} {ty : TypeId} {pos : String} {af : Array Edge} {gd : Option (Nat × Bool)} (σ : Operand → Value) (w : World) : (execOp σ ⟨d, .alloc 29, ty, pos, af, gd⟩).run Tryd.prog w = .ok (.value (PQ w.heap.size 0)) (w.alloc (.cells (msgC ((⟨0, 0, [], [], [], 0, 0, zid, [], [], zid, zid, false, 0⟩, ⟨.slice none 0 0, .slice none 0 0, .slice none 0 0, .slice none 0 0⟩) : MsgV)).toArray 29)) := by kernel_rfl
theorem wr13_al27 {d : Option Tmp} {ty : TypeId} {pos : String} {af : Array Edge} {gd : Option (Nat × Bool)} (σ : Operand → Value) (w : World) : (execOp σ ⟨d, .alloc 27, ty, pos, af, gd⟩).run Tryd.prog w = .ok (.value (PQ w.heap.size 0)) (w.alloc (.cells ([NI 0]).toArray 27)) := by kernel_rfl
theorem wr13_bs111_0h {z0 : Value} (h0 : ∃ ao n c, z0 = .slice ao n c) (w : World) : (Instr.build 111 #[(0, z0)]).run Tryd.prog w = .ok (.agg #[z0, .int .i64 0]) w := by obtain ⟨_, _, _, rfl⟩ := h0; kernel_rfl
theorem wr13_bs111_0 {z0 : Value} (h0 : ∃ ao n c, z0 = .slice ao n c) (w : World) : (Instr.build 111 #[(0, z0)]).run Tryd.prog w = .ok (.agg (z0 :: (.int .i64 (0) :: ([]))).toArray) w := by
 exact wr13_bs111_0h h0 w
theorem wr13_pl67 : Plain Tryd.prog 67 := fun _ _ => by kernel_rfl
theorem wr13_ty29 : ∃ fs, Tryd.prog.underlying 29 = some (.struct fs) := struct_of (by kernel_rfl)
theorem wr13_isz29 : (Tryd.prog.info? 29).map (·.size) = some 107 := by kernel_rfl
theorem wr13_ty27 : Tryd.prog.underlying 27 = some (.int .i64) := by kernel_rfl
theorem wr13_isz27 : (Tryd.prog.info? 27).map (·.size) = some 1 := by kernel_rfl
set_option maxHeartbeats 1600000
theorem decode_any (w : World) (v : Value) (b : Bs) (hr : RB w v b) (hl : b.length ≤ 4611686018427387904) :
  Calls Tryd.prog 22 #[v] w fun e w' => ∃ x, e = .returned x ∧ ∃ X c, x = .tuple #[.agg (msgC X).toArray, NI c] ∧ DecRes w' X c (decP b) ∧ Ext w w' := by
 refine calls_of_wpR (args := [v]) Tryd.func22 rfl 9 rfl (Nat.le_of_ble_eq_true rfl) ?_
 intro ρ0 hb
 have T0 : ρ0 0 = (v : Value) := hb.get 0
 clear hb
 have hE := Ext.refl w
 refine wpR_seq_k _ postP_bodyD fun K1 hK1 => (wt (oS rfl (Yk.alloc (cs := (msgC ((⟨0, 0, [], [], [], 0, 0, zid, [], [], zid, zid, false, 0⟩, ⟨.slice none 0 0, .slice none 0 0, .slice none 0 0, .slice none 0 0⟩) : MsgV)).toArray) wr13_al29 fun n2 w3 hn4 hb5 hx6 hs7 => ?_)))
 have hE := hE.trans hx6
 have hb8 := hb5; clear hb5
 have hl9 : n2 < w3.heap.size := by omega
 refine oS rfl (Yk.alloc (cs := ([NI 0]).toArray) wr13_al27 fun n10 w11 hn12 hb13 hx14 hs15 => ?_)
 have hA16 := Ext.refl w3
 have hea17 := hE
 have hz18 := hE.size
 have hlt19 := lte (bl hb8) hn12
 have hE := hE.trans hx14
 have hb8 := eb hx14 hb8
 have hA16 := hA16.trans hx14
 have hb20 := hb13; clear hb13
 have hl21 : n10 < w11.heap.size := by omega
 refine oL_ [(0, v), (2, PQ n2 0), (3, PQ n10 0)] ⟨T0, rfl, rfl, trivial⟩ fun ρ22 ⟨T0, T2, T3, _⟩ => ?_
 have hrA : RB w11 v b := (hr.keep hE)
 have hA2 := hb8
 have hA3 := hb20
 have hEA := hE
 have hA23 := Ext.refl w11
 have hea24 := hE
 have hea25 := hA16
 have hz26 := hE.size
 have hz27 := hA16.size
 refine tN (hK1 _ _ (wpR_seq_text (opsR_step rfl (Yk.mkFunc (vs := #[PQ n2 0, PQ n10 0]) (by simp only [List.map_toArray, List.map_cons, List.map_nil]; exact congrArg List.toArray (list2 T2 T3)) (opsR_defer (vr (.func (.func 66) #[] #[PQ n2 0, PQ n10 0]) rfl) (deferOk (vr (.func (.func 66) #[] #[PQ n2 0, PQ n10 0]) rfl)) (opsR_end (fun ρ => ρ 0 = (v : Value) ∧ ρ 2 = (PQ n2 0 : Value) ∧ ρ 3 = (PQ n10 0 : Value) ∧ True) ⟨T0, T2, T3, trivial⟩ fun ρ28 ⟨T0, T2, T3, _⟩ => (wpR_seq_text (opsR_step rfl (Yk.move T0 (opsR_step rfl (Yk.build1 (vr v rfl) (fun w => wr13_bs111_0 (RB.slice (hr.keep hE)) w) (opsR_step rfl (Yk.box (cs := (rdC ((⟨b, 0⟩, ⟨v⟩) : RdV) : List Value).toArray) (vr (.agg (rdC ((⟨b, 0⟩, ⟨v⟩) : RdV)).toArray) rfl) fun n29 w30 hn31 hb32 hx33 hs34 => ?_)))))))))))))
 have hlt35 := lte (bl hb8) hn31
 have hlt36 := lte (bl hb20) hn31
 have hE := hE.trans hx33
 have hb8 := eb hx33 hb8
 have hA16 := hA16.trans hx33
 have hb20 := eb hx33 hb20
 have hA23 := hA23.trans hx33
 have hb37 := hb32; clear hb32
 have hl38 : n29 < w30.heap.size := by omega
 refine opsR_stepP rfl (Yp.callA1 wr13_pl67 (vr (PQ n29 0) rfl) ?_)
 refine calls_either (message_any hA23 hb37 hrA (by omega) hl) ?_ ?_
 rotate_left
 ·
  rintro ch w39 ⟨hP, rfl, hx⟩
  intro a_ ha_
  show Leaves _ _ a_.tmps _ a_.defers (.panicking _) _
  rw [ha_.defers]
  refine leaves_cons (f := 66) (args := #[PQ n2 0, PQ n10 0]) (by simp) (by simp [go_sem]) ((decode1_stop w n2 n10 _ _ _ (hEA.trans hx) (by omega) (by omega) (by omega) (eb hx hA2) (eb hx hA3)).mono ?_)
  rintro e u' w3 ⟨rfl, rfl, hb2, hb3, hE3⟩
  exact leaves_nil (ρ := _) _ rfl [.agg (msgC ((⟨0, 0, [], [], [], 0, 0, zid, [], [], zid, zid, false, 0⟩, ⟨.slice none 0 0, .slice none 0 0, .slice none 0 0, .slice none 0 0⟩) : MsgV)).toArray, NI 6] (.tuple #[.agg (msgC ((⟨0, 0, [], [], [], 0, 0, zid, [], [], zid, zid, false, 0⟩, ⟨.slice none 0 0, .slice none 0 0, .slice none 0 0, .slice none 0 0⟩) : MsgV)).toArray, NI 6]) rfl ha_.get ⟨ResF.row (T2) hb2 (wr13_ty29).choose_spec rfl (st_isz (msg_len _) wr13_isz29), ResF.cell1 (T3) hb3 wr13_ty27 rfl, trivial⟩ ⟨_, rfl, _, _, rfl, by rw [hP]; exact ⟨rfl, rfl⟩, hE3⟩
 rintro v_ w41 ⟨X, hP, rfl, hX, hXn, hx⟩
 have hE := hEA.trans hx
 have hb2 := eb hx hA2
 have hb3 := eb hx hA3
 have hs2 := hx.size
 have hmr := hX.refs
 have hmw := hX.wants
 have hmh := hX.haves
 have hmb := hX.bytes
 have hl2 := (bl hb2)
 have hl3 := (bl hb3)
 refine opsR_step rfl (Yk.storeAll T2 (vr (.agg (msgC X).toArray) rfl) hb2 (by simp only [List.size_toArray, msg_len]) (st_isz (msg_len _) wr13_isz29) (msg_one (x := X) (RG.one hmr).2 (RG.one hmw).2 (RG.one hmh).2 (RB.one hmb).2) fun w42 hb43 hg44 hs45 => ?_)
 have hE := row_fresh hE hg44 (Nat.le_trans (Nat.le_refl _) (by omega))
 clear hb2
 have hb3 := kb hg44 hb3 (by omega)
 have hX : MsgAt w42 X := MsgAt.set hX hXn hg44 (by omega)
 clear hmr
 clear hmw
 clear hmh
 clear hmb
 have hb2 : w42.heap[n2]? = some (.cells (msgC X).toArray 29 (0, 0)) := hb43; clear hb43
 have hl46 := bl hb2
 refine opsR_step rfl (Yk.storeC (i := 0) (v := NI 0) T3 (vr (NI 0) rfl) hb3 (Nat.le_of_ble_eq_true rfl) wr13_isz27 rfl rfl fun w47 hb48 hg49 hs50 => ?_)
 have hE := row_fresh hE hg49 (Nat.le_trans hz18 (by omega))
 clear hb3
 have hX : MsgAt w47 X := MsgAt.set hX hXn hg49 (by omega)
 have hb2 := kb hg49 hb2 (by omega)
 have hb3 := hb48; clear hb48
 have hl51 := bl hb3
 refine opsR_end (fun ρ => ρ 0 = (v : Value) ∧ ρ 2 = (PQ n2 0 : Value) ∧ ρ 3 = (PQ n10 0 : Value) ∧ True) ⟨T0, T2, T3, trivial⟩ fun ρ52 ⟨T0, T2, T3, _⟩ => (wpR_ret fun a_ ha_ => ?_)
 show Leaves _ _ a_.tmps _ a_.defers .returning _
 rw [ha_.defers]
 refine leaves_cons (f := 66) (args := #[PQ n2 0, PQ n10 0]) (by simp) (by simp [go_sem]) ((decode1_idle n2 n10 _).mono ?_)
 rintro e u' w3 ⟨rfl, rfl, hxi⟩
 exact leaves_nil (ρ := _) _ rfl [.agg (msgC X).toArray, NI 0] (.tuple #[.agg (msgC X).toArray, NI 0]) rfl ha_.get ⟨ResF.row (T2) (eb hxi hb2) (wr13_ty29).choose_spec rfl (st_isz (msg_len _) wr13_isz29), ResF.cell1 (T3) (eb hxi hb3) wr13_ty27 rfl, trivial⟩ ⟨_, rfl, _, _, rfl, by rw [hP]; exact ⟨rfl, rfl, (hX).keep hxi⟩, hE.trans hxi⟩
open Go.RowKit
theorem dropOf {α : Type} {b u r : List α} {i : Nat} (h : b.drop i = u ++ r) : b.drop (i + u.length) = r := by
  rw [← List.drop_drop, h, List.drop_left]
theorem lenOf {α : Type} {b u r : List α} {i : Nat} (h : b.drop i = u ++ r) (hu : 0 < u.length) : i + u.length + r.length = b.length := by
  have h1 := congrArg List.length h
  rw [List.length_drop, List.length_append] at h1
  omega
theorem byteP_d {b r : Bs} {c : UInt8} {i : Nat} (h : b.drop i = c :: r) : byteP b i = some (c, i + 1) := by
  have h0 := lenOf (u := [c]) h (by simp)
  have h1 : b[i]? = some c := by have := congrArg (fun l : Bs => l[0]?) h; simpa using this
  unfold byteP
  rw [if_pos (by simp only [List.length_singleton] at h0; omega), List.getD_eq_getElem?_getD, h1]
  rfl
theorem numP_d {b r : Bs} {n i : Nat} (h : b.drop i = Lib.uvarint n ++ r) (hn : n < 9223372036854775808) : numP b i = some (n, i + (Lib.uvarint n).length) := by
  have h4 : (128 : Nat) ^ (8 + 1) = 9223372036854775808 := by decide
  unfold numP
  rw [h, lebDec_uvarint r 8 n 0 (by omega) (by omega) (by omega)]
  rfl
theorem idP_d {b r : Bs} {x : Id32} {i : Nat} (h : b.drop i = x.1 ++ r) : idP b i = some (x, i + x.1.length) := by
  have hx := x.2
  have h0 := lenOf h (by omega)
  unfold idP
  rw [dif_pos (by omega), hx]
  congr 2
  refine Subtype.ext ?_
  show (b.drop i).take 32 = x.1
  rw [h]
  exact List.take_left' hx
theorem txtP_d {b r s : Bs} {most i : Nat} (h : b.drop i = textB s ++ r) (hs : s.length ≤ most) (hm : most < 9223372036854775808) : txtP b i most = some (s, i + (textB s).length) := by
  have h4 : (128 : Nat) ^ (8 + 1) = 9223372036854775808 := by decide
  have h' : b.drop i = Lib.uvarint s.length ++ (s ++ r) := by rw [h]; unfold textB; rw [List.append_assoc]
  have h0 := lenOf h' (Lib.uvarint_pos _)
  have h2 := dropOf h'
  unfold txtP
  rw [h', lebDec_uvarint (s ++ r) 8 s.length 0 (by omega) (by omega) (by omega)]
  simp only
  rw [List.length_append] at h0
  rw [if_neg (by omega), if_neg (by omega), h2, List.take_left]
  unfold textB
  rw [List.length_append, Nat.add_assoc]
theorem updP_d {b r : Bs} {u : Upd} {i : Nat} (h : b.drop i = updB u ++ r) (hu : u.name.length ≤ 32) (ho : u.old = zid) : updP b i = some (u, i + (updB u).length) := by
  have e1 : b.drop i = u.kind :: (textB u.name ++ (u.new.1 ++ r)) := by rw [h]; unfold updB; simp
  have e2 : b.drop (i + 1) = textB u.name ++ (u.new.1 ++ r) := dropOf (u := [u.kind]) e1
  have e3 := dropOf e2
  unfold updP
  rw [byteP_d e1, Option.bind_some, txtP_d e2 hu (by omega), Option.bind_some, idP_d e3, Option.bind_some]
  simp only [Option.some.injEq, Prod.mk.injEq]
  refine ⟨?_, by unfold updB; simp only [List.length_append, List.length_singleton]; omega⟩
  rw [← ho]
theorem itP_head {σ : Type} {f : σ → Option σ} : ∀ (n : Nat) (s : σ), itP f (n + 1) s = (f s).bind (itP f n)
  | 0, s => by
    show f s = _
    cases f s <;> rfl
  | n + 1, s => by
    show (itP f (n + 1) s).bind f = _
    rw [itP_head n s]
    cases f s with
    | none => rfl
    | some t => rfl
theorem itP_d {α : Type} (f : α → Bs) {b : Bs} (st : List α × Nat → Option (List α × Nat)) : ∀ (l : List α) (a : List α) (r : Bs) (i : Nat), b.drop i = l.flatMap f ++ r →
    (∀ x ∈ l, ∀ (a : List α) (i : Nat) (r : Bs), b.drop i = f x ++ r → st (a, i) = some (a ++ [x], i + (f x).length)) → itP st l.length (a, i) = some (a ++ l, i + (l.flatMap f).length)
  | [], a, r, i, _, _ => by simp [itP]
  | x :: l, a, r, i, h, hst => by
    rw [List.flatMap_cons, List.append_assoc] at h
    rw [List.length_cons, itP_head, hst x (by simp) a i _ h, Option.bind_some, itP_d f st l (a ++ [x]) r _ (dropOf h) (fun y hy => hst y (by simp [hy]))]
    simp [Nat.add_assoc]
theorem listP_d {α : Type} (f : α → Bs) {b : Bs} {most : Nat} (st : List α × Nat → Option (List α × Nat)) {l : List α} {r : Bs} {i : Nat} (h : b.drop i = Lib.uvarint l.length ++ (l.flatMap f ++ r)) (hl : l.length ≤ most) (hm : most < 9223372036854775808)
    (hst : ∀ x ∈ l, ∀ (a : List α) (i : Nat) (r : Bs), b.drop i = f x ++ r → st (a, i) = some (a ++ [x], i + (f x).length)) : listP b i most st [] = some (l, i + (Lib.uvarint l.length).length + (l.flatMap f).length) := by
  rw [listP_some (numP_d h (by omega)) hl, itP_d f st l [] r _ (dropOf h) hst, List.nil_append]
theorem updsP_d {b r : Bs} {l : List Upd} {i : Nat} (h : b.drop i = (Lib.uvarint l.length ++ l.flatMap updB) ++ r) (hl : l.length ≤ 128) (hu : ∀ u ∈ l, u.name.length ≤ 32 ∧ u.old = zid) : listP b i 128 (addUpd b) [] = some (l, i + (Lib.uvarint l.length ++ l.flatMap updB).length) := by
  rw [List.append_assoc] at h
  rw [listP_d updB (addUpd b) h hl (by omega) (fun x hx a i r hr => by unfold addUpd; rw [updP_d hr (hu x hx).1 (hu x hx).2]; rfl), List.length_append, Nat.add_assoc]
theorem idsP_d {b r : Bs} {l : List Bs} {i : Nat} (h : b.drop i = idsB l ++ r) (hl : l.length ≤ 65536) (hu : ∀ x ∈ l, x.length = 32) : listP b i 65536 (addId b) [] = some (l, i + (idsB l).length) := by
  have h' : b.drop i = Lib.uvarint l.length ++ (l.flatMap (fun x => x) ++ r) := by rw [h]; unfold idsB; rw [List.append_assoc]
  rw [listP_d (fun x => x) (addId b) h' hl (by omega) (fun x hx a i r hr => by
    unfold addId
    rw [idP_d (x := ⟨x, hu x hx⟩) hr]
    rfl)]
  unfold idsB
  rw [List.length_append, Nat.add_assoc]
theorem zeroB_eq {x : Id32} (h : zeroB x = true) : x = zid := Subtype.ext (of_decide_eq_true h)
structure Absent (m : Msg) (p : Parts) : Prop where
  refs : p.refs = false → m.refs = []
  ids : p.ids = false → m.wants = [] ∧ m.haves = []
  size : p.size = false → m.size = 0
  at_ : p.at_ = false → m.at_ = 0
  id : p.id = false → m.id = zid
  bytes : p.bytes = false → m.bytes = []
  push : p.push = false → m.name = [] ∧ m.old = zid ∧ m.new = zid ∧ m.force = false
  code : p.code = false → m.code = 0
theorem absent_of {m : Msg} {p : Parts} (h : absentB m p = true) : Absent m p := by
  unfold absentB at h
  simp only [Bool.and_eq_true, Bool.or_eq_true, decide_eq_true_eq, Bool.not_eq_true'] at h
  obtain ⟨⟨⟨⟨⟨⟨⟨h1, h2⟩, h3⟩, h4⟩, h5⟩, h6⟩, h7⟩, h8⟩ := h
  refine ⟨fun e => ?_, fun e => ?_, fun e => ?_, fun e => ?_, fun e => ?_, fun e => ?_, fun e => ?_, fun e => ?_⟩
  · rw [e] at h1; exact List.eq_nil_of_length_eq_zero (h1.resolve_left (by simp))
  · rw [e] at h2; have h := h2.resolve_left (by simp); exact ⟨List.eq_nil_of_length_eq_zero h.1, List.eq_nil_of_length_eq_zero h.2⟩
  · rw [e] at h3; exact h3.resolve_left (by simp)
  · rw [e] at h4; exact h4.resolve_left (by simp)
  · rw [e] at h5; exact zeroB_eq (h5.resolve_left (by simp))
  · rw [e] at h6; exact List.eq_nil_of_length_eq_zero (h6.resolve_left (by simp))
  · rw [e] at h7; have h := h7.resolve_left (by simp); exact ⟨h.1.1.1, zeroB_eq h.1.1.2, zeroB_eq h.1.2, h.2⟩
  · rw [e] at h8; exact h8.resolve_left (by simp)
theorem rightP_absent {m : Msg} {p : Parts} (h : rightP m p = true) : absentB m p = true ∧ listB m.refs = true := by
  unfold rightP at h
  simp only [Bool.and_eq_true, Bool.not_eq_true', Bool.or_eq_false_iff, Bool.not_eq_false'] at h
  exact ⟨h.1.1.1.1.2, h.1.1.1.2⟩
theorem forceB_le (f : Bool) : (forceB f).toNat ≤ 1 ∧ decide ((forceB f).toNat = 1) = f := by cases f <;> exact ⟨by decide, by decide⟩
abbrev msg0 (k : UInt8) (s : Int) : Msg := ⟨k, s, [], [], [], 0, 0, zid, [], [], zid, zid, false, 0⟩
def IdsOk (m : Msg) : Prop := (∀ x ∈ m.wants, x.length = 32) ∧ ∀ x ∈ m.haves, x.length = 32
theorem listB_old {l : List Upd} (h : listB l = true) : ∀ u ∈ l, u.name.length ≤ 32 ∧ u.old = zid := by
  classical
  intro u hu
  refine ⟨(listB_facts h).2 u hu, ?_⟩
  unfold listB at h
  have h1 := of_decide_eq_true h
  obtain ⟨i, hi, rfl⟩ := List.getElem_of_mem hu
  have h2 := (h1.1 i hi).1
  rw [List.getD_eq_getElem?_getD, List.getElem?_eq_getElem hi] at h2
  unfold badB at h2
  simp only [Option.getD_some, Bool.or_eq_false_iff, Bool.not_eq_false'] at h2
  exact zeroB_eq h2.1.2
theorem restP_enc {m : Msg} (hR : rightB m = true) (hI : IdsOk m) {b r : Bs} {i : Nat} (hb : b.drop i = tailM m ++ r) : restP b (msg0 m.kind m.session) i = some (m, i + (tailM m).length) := by
  obtain ⟨p, hK, hP⟩ := rightB_get hR
  have hF := rightP_facts hP
  obtain ⟨hA, hL⟩ := rightP_absent hP
  have hU := listB_old hL
  have hB := absent_of hA
  obtain ⟨hz0, hz1⟩ := hF.size
  obtain ⟨ha0, ha1⟩ := hF.at_
  obtain ⟨hd0, hd1⟩ := hF.code
  obtain ⟨hr1, hr2⟩ := hF.refs
  have hw1 := hF.wants
  have hh1 := hF.haves
  have hb1 := hF.bytes
  have hn1 := hF.name
  obtain ⟨hI1, hI2⟩ := hI
  clear hF hA hP hL hR
  rcases kindsG_cases hK with ⟨hk, rfl⟩ | ⟨hk, rfl⟩ | ⟨hk, rfl⟩ | ⟨hk, rfl⟩ | ⟨hk, rfl⟩ | ⟨hk, rfl⟩ | ⟨hk, rfl⟩ | ⟨hk, rfl⟩ <;> clear hK
  · have ht : tailM m = [] := by unfold tailM; rw [hk]; simp
    rw [ht, restP1 (m := msg0 m.kind m.session) hk]
    have h1 := hB.refs rfl
    have h2 := hB.ids rfl
    have h3 := hB.size rfl
    have h4 := hB.at_ rfl
    have h5 := hB.id rfl
    have h6 := hB.bytes rfl
    have h7 := hB.push rfl
    have h8 := hB.code rfl
    clear hB hU hb1 hn1 hI1 hI2 hr2
    obtain ⟨k, s, r_, w, h, z, a, d, c, n, o, n2, f, e⟩ := m
    simp only at h1 h2 h3 h4 h5 h6 h7 h8
    obtain ⟨h2a, h2b⟩ := h2
    obtain ⟨h7a, h7b, h7c, h7d⟩ := h7
    subst h1 h2a h2b h3 h4 h5 h6 h7a h7b h7c h7d h8
    rfl
  · have ht : tailM m = Lib.uvarint m.refs.length ++ m.refs.flatMap updB := by unfold tailM; rw [hk]; simp
    rw [ht] at hb ⊢
    rw [restP2 (m := msg0 m.kind m.session) hk]
    rw [updsP_d hb hr1 hU, Option.bind_some]
    have h2 := hB.ids rfl
    have h3 := hB.size rfl
    have h4 := hB.at_ rfl
    have h5 := hB.id rfl
    have h6 := hB.bytes rfl
    have h7 := hB.push rfl
    have h8 := hB.code rfl
    clear hB hU hb1 hn1 hI1 hI2 hr2
    obtain ⟨k, s, r_, w, h, z, a, d, c, n, o, n2, f, e⟩ := m
    simp only at h2 h3 h4 h5 h6 h7 h8
    obtain ⟨h2a, h2b⟩ := h2
    obtain ⟨h7a, h7b, h7c, h7d⟩ := h7
    subst h2a h2b h3 h4 h5 h6 h7a h7b h7c h7d h8
    rfl
  · have ht : tailM m = idsB m.wants ++ idsB m.haves := by unfold tailM; rw [hk]; simp
    rw [ht] at hb ⊢
    rw [restP3 (m := msg0 m.kind m.session) hk]
    simp only [List.append_assoc] at hb
    rw [idsP_d hb hw1 hI1, Option.bind_some]
    have e1 := dropOf hb
    rw [idsP_d e1 hh1 hI2, Option.bind_some]
    have h1 := hB.refs rfl
    have h3 := hB.size rfl
    have h4 := hB.at_ rfl
    have h5 := hB.id rfl
    have h6 := hB.bytes rfl
    have h7 := hB.push rfl
    have h8 := hB.code rfl
    clear hB hU hb1 hn1 hI1 hI2 hr2
    obtain ⟨k, s, r_, w, h, z, a, d, c, n, o, n2, f, e⟩ := m
    simp only at h1 h3 h4 h5 h6 h7 h8
    obtain ⟨h7a, h7b, h7c, h7d⟩ := h7
    subst h1 h3 h4 h5 h6 h7a h7b h7c h7d h8
    simp only [List.length_append, Nat.add_assoc]
  · have ht : tailM m = Lib.uvarint m.size.toNat ++ m.id.1 := by unfold tailM; rw [hk]; simp
    rw [ht] at hb ⊢
    rw [restP4 (m := msg0 m.kind m.session) hk]
    simp only [List.append_assoc] at hb
    rw [numP_d hb (by omega), Option.bind_some]
    have e1 := dropOf hb
    rw [idP_d e1, Option.bind_some]
    rw [Int.toNat_of_nonneg hz0]
    have h1 := hB.refs rfl
    have h2 := hB.ids rfl
    have h4 := hB.at_ rfl
    have h6 := hB.bytes rfl
    have h7 := hB.push rfl
    have h8 := hB.code rfl
    clear hB hU hb1 hn1 hI1 hI2 hr2
    obtain ⟨k, s, r_, w, h, z, a, d, c, n, o, n2, f, e⟩ := m
    simp only at h1 h2 h4 h6 h7 h8
    obtain ⟨h2a, h2b⟩ := h2
    obtain ⟨h7a, h7b, h7c, h7d⟩ := h7
    subst h1 h2a h2b h4 h6 h7a h7b h7c h7d h8
    simp only [List.length_append, Nat.add_assoc]
  · have ht : tailM m = Lib.uvarint m.at_.toNat := by unfold tailM; rw [hk]; simp
    rw [ht] at hb ⊢
    rw [restP5 (m := msg0 m.kind m.session) hk]
    rw [numP_d hb (by omega), Option.bind_some]
    rw [Int.toNat_of_nonneg ha0]
    have h1 := hB.refs rfl
    have h2 := hB.ids rfl
    have h3 := hB.size rfl
    have h5 := hB.id rfl
    have h6 := hB.bytes rfl
    have h7 := hB.push rfl
    have h8 := hB.code rfl
    clear hB hU hb1 hn1 hI1 hI2 hr2
    obtain ⟨k, s, r_, w, h, z, a, d, c, n, o, n2, f, e⟩ := m
    simp only at h1 h2 h3 h5 h6 h7 h8
    obtain ⟨h2a, h2b⟩ := h2
    obtain ⟨h7a, h7b, h7c, h7d⟩ := h7
    subst h1 h2a h2b h3 h5 h6 h7a h7b h7c h7d h8
    rfl
  · have ht : tailM m = Lib.uvarint m.at_.toNat ++ textB m.bytes := by unfold tailM; rw [hk]; simp
    rw [ht] at hb ⊢
    rw [restP6 (m := msg0 m.kind m.session) hk]
    simp only [List.append_assoc] at hb
    rw [numP_d hb (by omega), Option.bind_some]
    have e1 := dropOf hb
    rw [txtP_d e1 (hb1 rfl) (by omega), Option.bind_some]
    rw [Int.toNat_of_nonneg ha0]
    have h1 := hB.refs rfl
    have h2 := hB.ids rfl
    have h3 := hB.size rfl
    have h5 := hB.id rfl
    have h7 := hB.push rfl
    have h8 := hB.code rfl
    clear hB hU hb1 hn1 hI1 hI2 hr2
    obtain ⟨k, s, r_, w, h, z, a, d, c, n, o, n2, f, e⟩ := m
    simp only at h1 h2 h3 h5 h7 h8
    obtain ⟨h2a, h2b⟩ := h2
    obtain ⟨h7a, h7b, h7c, h7d⟩ := h7
    subst h1 h2a h2b h3 h5 h7a h7b h7c h7d h8
    simp only [List.length_append, Nat.add_assoc]
  · have ht : tailM m = Lib.uvarint m.size.toNat ++ (m.id.1 ++ (textB m.name ++ (m.old.1 ++ (m.new.1 ++ [forceB m.force])))) := by unfold tailM; rw [hk]; simp
    rw [ht] at hb ⊢
    rw [restP7 (m := msg0 m.kind m.session) hk]
    simp only [List.append_assoc] at hb
    rw [numP_d hb (by omega), Option.bind_some]
    have e1 := dropOf hb
    rw [idP_d e1, Option.bind_some]
    have e2 := dropOf e1
    rw [txtP_d e2 (hn1 rfl) (by omega), Option.bind_some]
    have e3 := dropOf e2
    rw [idP_d e3, Option.bind_some]
    have e4 := dropOf e3
    rw [idP_d e4, Option.bind_some]
    have e5 := dropOf e4
    rw [byteP_d e5, Option.bind_some]
    rw [if_pos (forceB_le m.force).1, Int.toNat_of_nonneg hz0]
    simp only [(forceB_le m.force).2]
    have h1 := hB.refs rfl
    have h2 := hB.ids rfl
    have h4 := hB.at_ rfl
    have h6 := hB.bytes rfl
    have h8 := hB.code rfl
    clear hB hU hb1 hn1 hI1 hI2 hr2
    obtain ⟨k, s, r_, w, h, z, a, d, c, n, o, n2, f, e⟩ := m
    simp only at h1 h2 h4 h6 h8
    obtain ⟨h2a, h2b⟩ := h2
    subst h1 h2a h2b h4 h6 h8
    simp only [List.length_append, List.length_singleton, Nat.add_assoc]
  · have ht : tailM m = Lib.uvarint m.code.toNat := by unfold tailM; rw [hk]; simp
    rw [ht] at hb ⊢
    rw [restP8 (m := msg0 m.kind m.session) hk]
    rw [numP_d hb (by omega), Option.bind_some]
    rw [Int.toNat_of_nonneg hd0]
    have h1 := hB.refs rfl
    have h2 := hB.ids rfl
    have h3 := hB.size rfl
    have h4 := hB.at_ rfl
    have h5 := hB.id rfl
    have h6 := hB.bytes rfl
    have h7 := hB.push rfl
    clear hB hU hb1 hn1 hI1 hI2 hr2
    obtain ⟨k, s, r_, w, h, z, a, d, c, n, o, n2, f, e⟩ := m
    simp only at h1 h2 h3 h4 h5 h6 h7
    obtain ⟨h2a, h2b⟩ := h2
    obtain ⟨h7a, h7b, h7c, h7d⟩ := h7
    subst h1 h2a h2b h3 h4 h5 h6 h7a h7b h7c h7d
    rfl
theorem decP_more {m : Msg} (hR : rightB m = true) (hI : IdsOk m) (r : Bs) : decP (encB m ++ r) = if r = [] then some m else none := by
  obtain ⟨p, hK, hP⟩ := rightB_get hR
  obtain ⟨h0, h1⟩ := (rightP_facts hP).session
  have e0 : (encB m ++ r).drop 0 = m.kind :: (Lib.uvarint m.session.toNat ++ (tailM m ++ r)) := by unfold encB; simp
  have e1 : (encB m ++ r).drop 1 = Lib.uvarint m.session.toNat ++ (tailM m ++ r) := dropOf (u := [m.kind]) e0
  have e2 := dropOf e1
  rw [decP_eq (byteP_d e0) hK (numP_d e1 (by omega)), show ((m.session.toNat : Nat) : Int) = m.session from Int.toNat_of_nonneg h0, restP_enc hR hI e2, Option.bind_some]
  have hl : (encB m).length = 1 + (Lib.uvarint m.session.toNat).length + (tailM m).length := by unfold encB; simp; omega
  by_cases hr : r = []
  · subst hr
    rw [if_pos ⟨by rw [List.append_nil, hl], hR⟩, if_pos rfl]
  · have := List.length_pos_iff.2 hr
    rw [if_neg (fun h => by have := h.1; rw [List.length_append, hl] at this; omega), if_neg hr]
theorem decP_enc {m : Msg} (hR : rightB m = true) (hI : IdsOk m) : decP (encB m) = some m := by
  have := decP_more hR hI []
  rwa [List.append_nil, if_pos rfl] at this
theorem lebDec_back : ∀ (l : Bs) (k : Nat) (x : Nat × Nat), lebDec k l = some x → l = Lib.uvarint x.1 ++ l.drop x.2 ∧ (0 < k → 0 < x.1)
  | [], k, x, h => by simp [lebDec] at h
  | c :: r, k, x, h => by
    have hc := c.toNat_lt
    unfold lebDec at h
    split at h
    · split at h
      · cases h
      · obtain ⟨y, hy, rfl⟩ := Option.map_eq_some_iff.1 h
        obtain ⟨h1, h2⟩ := lebDec_back r (k + 1) y hy
        have h2 := h2 (by omega)
        have e1 : (c.toNat - 128 + 128 * y.1) % 128 + 128 = c.toNat := by omega
        have e2 : (c.toNat - 128 + 128 * y.1) / 128 = y.1 := by omega
        refine ⟨?_, fun _ => by simp only; omega⟩
        simp only
        rw [Lib.uvarint_big (by omega), e1, e2, List.drop_succ_cons, List.cons_append, ← h1]
        simp
    · split at h
      · cases h
      · rename_i h1 h2
        cases h
        refine ⟨?_, fun _ => by simp only; omega⟩
        simp only
        rw [Lib.uvarint_small (by omega)]
        simp
theorem byteP_b {b : Bs} {i n : Nat} {c : UInt8} (h : byteP b i = some (c, n)) : b.drop i = [c] ++ b.drop n := by
  unfold byteP at h
  split at h
  · cases h
    rename_i hi
    rw [drop_cons 0 hi]
    rfl
  · cases h
theorem numP_b {b : Bs} {i n k : Nat} (h : numP b i = some (k, n)) : b.drop i = Lib.uvarint k ++ b.drop n := by
  unfold numP at h
  obtain ⟨x, hx, h2⟩ := Option.map_eq_some_iff.1 h
  cases h2
  have := (lebDec_back _ _ _ hx).1
  rwa [List.drop_drop] at this
theorem idP_b {b : Bs} {i n : Nat} {x : Id32} (h : idP b i = some (x, n)) : b.drop i = x.1 ++ b.drop n := by
  unfold idP at h
  split at h
  · cases h
    show b.drop i = (b.drop i).take 32 ++ b.drop (i + 32)
    rw [← List.drop_drop, List.take_append_drop]
  · cases h
theorem txtP_b {b s : Bs} {i n most : Nat} (h : txtP b i most = some (s, n)) : b.drop i = textB s ++ b.drop n := by
  unfold txtP at h
  split at h
  · cases h
  · rename_i x hx
    split at h
    · cases h
    · split at h
      · cases h
      · cases h
        have h1 := (lebDec_back _ _ _ hx).1
        rw [List.drop_drop] at h1
        have hl : ((b.drop (i + x.2)).take x.1).length = x.1 := by rw [List.length_take, List.length_drop]; omega
        unfold textB
        rw [hl, List.append_assoc, ← List.drop_drop (i := x.1), List.take_append_drop]
        exact h1
theorem updP_b {b : Bs} {i n : Nat} {u : Upd} (h : updP b i = some (u, n)) : b.drop i = updB u ++ b.drop n := by
  unfold updP at h
  simp only [Option.bind_eq_some_iff] at h
  obtain ⟨⟨c, j1⟩, h1, ⟨s, j2⟩, h2, ⟨x, j3⟩, h3, h4⟩ := h
  cases h4
  rw [byteP_b h1, txtP_b h2, idP_b h3]
  unfold updB
  simp only [List.append_assoc]
theorem itP_b {α : Type} {f : α → Bs} {Q : α → Prop} {b : Bs} {st : List α × Nat → Option (List α × Nat)} (hst : ∀ a i t, st (a, i) = some t → ∃ x, t.1 = a ++ [x] ∧ Q x ∧ b.drop i = f x ++ b.drop t.2) : ∀ (n : Nat) (a : List α) (i : Nat) (t : List α × Nat), itP st n (a, i) = some t → ∃ l, t.1 = a ++ l ∧ l.length = n ∧ (∀ x ∈ l, Q x) ∧ b.drop i = l.flatMap f ++ b.drop t.2
  | 0, a, i, t, h => by cases h; exact ⟨[], by simp, rfl, (fun x hx => by cases hx), rfl⟩
  | n + 1, a, i, t, h => by
    obtain ⟨u, h1, h2⟩ := itP_succ h
    obtain ⟨l, e1, e2, e3, e4⟩ := itP_b hst n a i u h1
    obtain ⟨x, f1, f2, f3⟩ := hst u.1 u.2 t h2
    refine ⟨l ++ [x], by rw [f1, e1, List.append_assoc], by simp [e2], fun y hy => ?_, ?_⟩
    · rcases List.mem_append.1 hy with hy | hy
      · exact e3 y hy
      · rw [List.mem_singleton.1 hy]; exact f2
    · rw [e4, f3, List.flatMap_append, List.flatMap_singleton, List.append_assoc]
theorem listP_b {α : Type} {f : α → Bs} {Q : α → Prop} {b : Bs} {most i : Nat} {st : List α × Nat → Option (List α × Nat)} {t : List α × Nat} (hst : ∀ a i t, st (a, i) = some t → ∃ x, t.1 = a ++ [x] ∧ Q x ∧ b.drop i = f x ++ b.drop t.2) (h : listP b i most st [] = some t) : b.drop i = (Lib.uvarint t.1.length ++ t.1.flatMap f) ++ b.drop t.2 ∧ ∀ x ∈ t.1, Q x := by
  obtain ⟨n, j, h1, -, h2⟩ := listP_get h
  obtain ⟨l, e1, e2, e3, e4⟩ := itP_b hst n [] j t h2
  rw [List.nil_append] at e1
  rw [e1, numP_b h1, e2, e4, List.append_assoc]
  exact ⟨rfl, e3⟩
theorem updsP_b {b : Bs} {i : Nat} {t : List Upd × Nat} (h : listP b i 128 (addUpd b) [] = some t) : b.drop i = (Lib.uvarint t.1.length ++ t.1.flatMap updB) ++ b.drop t.2 :=
  (listP_b (Q := fun _ => True) (f := updB) (fun a i t h => by
    unfold addUpd at h
    obtain ⟨x, hx, h2⟩ := Option.map_eq_some_iff.1 h
    cases h2
    exact ⟨x.1, rfl, trivial, updP_b hx⟩) h).1
theorem idsP_b {b : Bs} {i : Nat} {t : List Bs × Nat} (h : listP b i 65536 (addId b) [] = some t) : b.drop i = idsB t.1 ++ b.drop t.2 ∧ ∀ x ∈ t.1, x.length = 32 :=
  listP_b (Q := fun x => x.length = 32) (f := fun x => x) (fun a i t h => by
    unfold addId at h
    obtain ⟨x, hx, h2⟩ := Option.map_eq_some_iff.1 h
    cases h2
    exact ⟨x.1.1, rfl, x.1.2, idP_b hx⟩) h
theorem restP_b {k : UInt8} {s : Int} {b : Bs} {i : Nat} {z : Msg × Nat} (h : restP b (msg0 k s) i = some z) : b.drop i = tailM z.1 ++ b.drop z.2 ∧ z.1.kind = k ∧ z.1.session = s ∧ IdsOk z.1 := by
  have hn : IdsOk (msg0 k s) := ⟨fun x hx => (by cases hx), fun x hx => (by cases hx)⟩
  have key : ∀ (m : Msg) (j : Nat) (t : Bs), z = (m, j) → m.kind = k → m.session = s → IdsOk m → tailM m = t → b.drop i = t ++ b.drop j → b.drop i = tailM z.1 ++ b.drop z.2 ∧ z.1.kind = k ∧ z.1.session = s ∧ IdsOk z.1 := by
    rintro m j t rfl h1 h2 h3 rfl h4
    exact ⟨h4, h1, h2, h3⟩
  unfold restP at h
  split at h
  · rename_i hk
    replace hk : k = 1 := hk
    cases h
    exact key _ _ [] rfl rfl rfl hn (by unfold tailM; simp only [hk]; simp) rfl
  · split at h
    · rename_i hk
      replace hk : k = 2 := hk
      simp only [Option.bind_eq_some_iff] at h
      obtain ⟨⟨l, j⟩, h1, h2⟩ := h
      cases h2
      exact key _ _ (Lib.uvarint l.length ++ l.flatMap updB) rfl rfl rfl hn (by unfold tailM; simp only [hk]; simp) (updsP_b h1)
    · split at h
      · rename_i hk
        replace hk : k = 3 := hk
        simp only [Option.bind_eq_some_iff] at h
        obtain ⟨⟨l, j⟩, h1, ⟨l2, j2⟩, h2, h3⟩ := h
        cases h3
        obtain ⟨g1, g2⟩ := idsP_b h1
        obtain ⟨g3, g4⟩ := idsP_b h2
        refine key _ _ (idsB l ++ idsB l2) rfl rfl rfl ⟨g2, g4⟩ (by unfold tailM; simp only [hk]; simp) ?_
        rw [g1, g3, List.append_assoc]
      · split at h
        · rename_i hk
          replace hk : k = 4 := hk
          simp only [Option.bind_eq_some_iff] at h
          obtain ⟨⟨n, j⟩, h1, ⟨x, j2⟩, h2, h3⟩ := h
          cases h3
          refine key _ _ (Lib.uvarint n ++ x.1) rfl rfl rfl hn (by unfold tailM; simp only [hk]; simp) ?_
          rw [numP_b h1, idP_b h2, List.append_assoc]
        · split at h
          · rename_i hk
            replace hk : k = 5 := hk
            simp only [Option.bind_eq_some_iff] at h
            obtain ⟨⟨n, j⟩, h1, h2⟩ := h
            cases h2
            exact key _ _ (Lib.uvarint n) rfl rfl rfl hn (by unfold tailM; simp only [hk]; simp) (numP_b h1)
          · split at h
            · rename_i hk
              replace hk : k = 6 := hk
              simp only [Option.bind_eq_some_iff] at h
              obtain ⟨⟨n, j⟩, h1, ⟨x, j2⟩, h2, h3⟩ := h
              cases h3
              refine key _ _ (Lib.uvarint n ++ textB x) rfl rfl rfl hn (by unfold tailM; simp only [hk]; simp) ?_
              rw [numP_b h1, txtP_b h2, List.append_assoc]
            · split at h
              · rename_i hk
                replace hk : k = 7 := hk
                simp only [Option.bind_eq_some_iff] at h
                obtain ⟨⟨n, j⟩, h1, ⟨x, j2⟩, h2, ⟨y, j3⟩, h3, ⟨o, j4⟩, h4, ⟨n2, j5⟩, h5, ⟨f, j6⟩, h6, h7⟩ := h
                split at h7
                · rename_i hf
                  cases h7
                  have hfb : forceB (decide (f.toNat = 1)) = f := by
                    by_cases e : f.toNat = 1
                    · rw [decide_eq_true e]; exact (UInt8.toNat_inj.1 e).symm
                    · rw [decide_eq_false e]; exact (UInt8.toNat_inj.1 (show f.toNat = 0 by have : f.toNat ≤ 1 := hf; omega)).symm
                  refine key _ _ (Lib.uvarint n ++ (x.1 ++ (textB y ++ (o.1 ++ (n2.1 ++ [f]))))) rfl rfl rfl hn (by unfold tailM; simp only [hk, hfb, Int.toNat_natCast]; simp) ?_
                  rw [numP_b h1, idP_b h2, txtP_b h3, idP_b h4, idP_b h5, byteP_b h6]
                  simp only [List.append_assoc]
                · cases h7
              · split at h
                · rename_i hk
                  replace hk : k = 8 := hk
                  simp only [Option.bind_eq_some_iff] at h
                  obtain ⟨⟨n, j⟩, h1, h2⟩ := h
                  cases h2
                  exact key _ _ (Lib.uvarint n) rfl rfl rfl hn (by unfold tailM; simp only [hk]; simp) (numP_b h1)
                · cases h
theorem decP_back {b : Bs} {m : Msg} (h : decP b = some m) : rightB m = true ∧ encB m = b ∧ IdsOk m := by
  unfold decP at h
  rw [Option.bind_eq_some_iff] at h
  obtain ⟨⟨k, j⟩, h1, h⟩ := h
  split at h
  · rw [Option.bind_eq_some_iff] at h
    obtain ⟨⟨s, j2⟩, h2, h⟩ := h
    rw [Option.bind_eq_some_iff] at h
    obtain ⟨⟨m', j3⟩, h3, h⟩ := h
    split at h
    · rename_i hq
      obtain rfl : m' = m := Option.some.inj h
      obtain ⟨g1, g2, g3, g4⟩ := restP_b h3
      refine ⟨hq.2, ?_, g4⟩
      have e : b.drop 0 = [k] ++ (Lib.uvarint s ++ (tailM m' ++ b.drop j3)) := by rw [byteP_b h1, numP_b h2, g1]
      rw [show j3 = b.length from hq.1, List.drop_length, List.append_nil, List.drop_zero] at e
      rw [e]
      unfold encB
      rw [show m'.kind = k from g2, show m'.session = ((s : Nat) : Int) from g3]
      simp
    · cases h
  · cases h
theorem decP_cut {m : Msg} (hR : rightB m = true) (hI : IdsOk m) {n : Nat} (hn : n < (encB m).length) : decP ((encB m).take n) = none := by
  cases hd : decP ((encB m).take n) with
  | none => rfl
  | some m' =>
    obtain ⟨h1, h2, h3⟩ := decP_back hd
    have h4 := decP_more h1 h3 ((encB m).drop n)
    rw [h2, List.take_append_drop, decP_enc hR hI, if_neg (fun e => by have := congrArg List.length e; rw [List.length_drop, List.length_nil] at this; omega)] at h4
    cases h4
open Go.RowKit
theorem rightB_lt {m : Msg} (h : rightB m = true) : MsgLt m := by
  obtain ⟨p, hK, hP⟩ := rightB_get h
  have hF := rightP_facts hP
  obtain ⟨hA, -⟩ := rightP_absent hP
  have hB := absent_of hA
  refine ⟨Nat.le_trans hF.refs.1 (by decide), fun u hu => Nat.le_trans (hF.refs.2 u hu) (by decide), Nat.le_trans hF.wants (by decide), Nat.le_trans hF.haves (by decide), ?_⟩
  cases hp : p.push with
  | true => exact Nat.le_trans (hF.name hp) (by decide)
  | false => rw [(hB.push hp).1]; exact Nat.zero_le _
def DecR (m : Msg) (c : Nat) : Option Msg → Prop
  | some n => c = 0 ∧ m = n
  | none => c = 6 ∧ m = msg0 0 0
theorem DecRes.all {w : World} {X : MsgV} {c : Nat} {o : Option Msg} (h : DecRes w X c o) : MsgAt w X ∧ DecR X.1 c o := by
  cases o with
  | some m => exact ⟨h.2.2, h.1, h.2.1⟩
  | none =>
    obtain ⟨h1, h2⟩ := h
    subst h2
    exact ⟨⟨RG.nil _ _ _, RG.nil _ _ _, RG.nil _ _ _, RB.nil _⟩, h1, rfl⟩
theorem decode_all (w : World) (v : Value) (b : Bs) (hr : RB w v b) (hl : b.length ≤ 4611686018427387904) :
    Calls Tryd.prog 22 #[v] w fun e w' => ∃ X c, e = .returned (.tuple #[.agg (msgC X).toArray, NI c]) ∧ MsgAt w' X ∧ DecR X.1 c (decP b) ∧ Ext w w' :=
  (decode_any w v b hr hl).mono fun e w' h => by
    obtain ⟨x, rfl, X, c, rfl, h1, h2⟩ := h
    exact ⟨X, c, rfl, h1.all.1, h1.all.2, h2⟩
theorem listB_nil : listB [] = true := by
  classical
  exact decide_eq_true ⟨fun j h => (by cases h), by decide⟩
theorem setW_nil : setW [] = true := by
  classical
  have : setB [] = true := decide_eq_true (fun j _ h => (by cases h))
  unfold setW
  rw [this]
  rfl
theorem right_m1 : rightB (msg0 1 5) = true := by
  rw [rightB_some (m := msg0 1 5) (p := dParts) rfl]
  unfold rightP
  rw [listB_nil, setW_nil]
  rfl
theorem right_m8 : rightB { msg0 8 300 with code := 13 } = true := by
  rw [rightB_some (m := { msg0 8 300 with code := 13 }) (p := ⟨false, false, false, false, false, false, false, true⟩) rfl]
  unfold rightP
  show (!(((((!boundB 300 2147483647 || !absentB _ _) || !listB []) || !setW []) || !setW [])) && _) = true
  rw [listB_nil, setW_nil]
  rfl
theorem nil_ids (k : UInt8) (s c : Int) : IdsOk { msg0 k s with code := c } := ⟨fun x hx => (by cases hx), fun x hx => (by cases hx)⟩
theorem enc_m1 : encB (msg0 1 5) = [1, 5] := by
  show (1 : UInt8) :: (Lib.uvarint 5 ++ []) = _
  rw [Lib.uvarint_small (by decide)]
  rfl
theorem enc_m8 : encB { msg0 8 300 with code := 13 } = [8, 172, 2, 13] := by
  show (8 : UInt8) :: (Lib.uvarint 300 ++ Lib.uvarint 13) = _
  rw [Lib.uvarint_big (by decide), Lib.uvarint_small (show 300 / 128 < 128 by decide), Lib.uvarint_small (show 13 < 128 by decide)]
  rfl
theorem encode_m {w : World} {X : MsgV} {m : Msg} {b : Bs} (h : X.1 = m) (h2 : X.2 = ⟨.slice none 0 0, .slice none 0 0, .slice none 0 0, .slice none 0 0⟩) (hl : m.refs = [] ∧ m.wants = [] ∧ m.haves = [] ∧ m.bytes = [] ∧ m.name = []) (hR : rightB m = true) (hb : encB m = b) :
    Calls Tryd.prog 16 #[.agg (msgC X).toArray] w fun e w' => ∃ v, e = .returned (.tuple #[v, NI 0]) ∧ RB w' v b ∧ Ext w w' := by
  obtain ⟨X1, X2⟩ := X
  subst h h2 hb
  obtain ⟨e1, e2, e3, e4, e5⟩ := hl
  refine (encode_any w (X1, _) ⟨by rw [e1]; exact RG.nil _ _ _, by rw [e2]; exact RG.nil _ _ _, by rw [e3]; exact RG.nil _ _ _, by rw [e4]; exact RB.nil _⟩ (rightB_lt hR)).mono ?_
  rintro e w' ⟨v, rfl, h1, h2⟩
  rw [if_pos hR] at h1
  exact ⟨v, by rw [if_pos hR], h1, h2⟩
theorem dec_m8 : decP ([8, 172, 2, 13].take 3) = none := by
  have := decP_cut right_m8 (nil_ids 8 300 13) (n := 3) (by rw [enc_m8]; decide)
  rwa [enc_m8] at this
open Go.RowKit
set_option maxRecDepth 100000
theorem wr14_ty26 : Tryd.prog.underlying 26 = some (.slice 5) := by kernel_rfl
theorem wr14_ty9 : Tryd.prog.underlying 9 = some (.string) := by kernel_rfl
theorem wr14_ty5 : Tryd.prog.underlying 5 = some (.int .u8) := by kernel_rfl
theorem wr14_sz5 : ∀ w' : World, (sizeOf 5).run Tryd.prog w' = .ok 1 w' := fun _ => by kernel_rfl
theorem wr14_bs29_0_1h (z0 : Int) (z1 : Int) (w : World) : (Instr.build 29 #[(0, .int .u8 z0), (1, .int .i64 z1)]).run Tryd.prog w = .ok (.agg #[.int .u8 z0, .int .i64 z1, .slice none 0 0, .slice none 0 0, .slice none 0 0, .int .i64 0, .int .i64 0, .int .u8 0, .int .u8 0, .int .u8 0, .int .u8 0, .int .u8 0, .int .u8 0, .int .u8 0, .int .u8 0, .int .u8 0, .int .u8 0, .int .u8 0, .int .u8 0, .int .u8 0, .int .u8 0, .int .u8 0, .int .u8 0, .int .u8 0, .int .u8 0, .int .u8 0, .int .u8 0, .int .u8 0, .int .u8 0, .int .u8 0, .int .u8 0, .int .u8 0, .int .u8 0, .int .u8 0, .int .u8 0, .int .u8 0, .int .u8 0, .int .u8 0, .int .u8 0, .slice none 0 0, .string ⟨#[]⟩, .int .u8 0, .int .u8 0, .int .u8 0, .int .u8 0, .int .u8 0, .int .u8 0, .int .u8 0, .int .u8 0, .int .u8 0, .int .u8 0, .int .u8 0, .int .u8 0, .int .u8 0, .int .u8 0, .int .u8 0, .int .u8 0, .int .u8 0, .int .u8 0, .int .u8 0, .int .u8 0, .int .u8 0, .int .u8 0, .int .u8 0, .int .u8 0, .int .u8 0, .int .u8 0, .int .u8 0, .int .u8 0, .int .u8 0, .int .u8 0, .int .u8 0, .int .u8 0, .int .u8 0, .int .u8 0, .int .u8 0, .int .u8 0, .int .u8 0, .int .u8 0, .int .u8 0, .int .u8 0, .int .u8 0, .int .u8 0, .int .u8 0, .int .u8 0, .int .u8 0, .int .u8 0, .int .u8 0, .int .u8 0, .int .u8 0, .int .u8 0, .int .u8 0, .int .u8 0, .int .u8 0, .int .u8 0, .int .u8 0, .int .u8 0, .int .u8 0, .int .u8 0, .int .u8 0, .int .u8 0, .int .u8 0, .int .u8 0, .int .u8 0, .int .u8 0, .bool false, .int .i64 0]) w := by kernel_rfl
theorem wr14_bs29_0_1 (z0 : UInt8) (z1 : Int) (w : World) : (Instr.build 29 #[(0, B8 z0), (1, .int .i64 z1)]).run Tryd.prog w = .ok (.agg (B8 (z0) :: (.int .i64 (z1) :: ((Value.slice none 0 0) :: ((Value.slice none 0 0) :: ((Value.slice none 0 0) :: (.int .i64 (0) :: (.int .i64 (0) :: (Lib.byteCells zid.1 ++ ((Value.slice none 0 0) :: (St ([]) :: (Lib.byteCells zid.1 ++ (Lib.byteCells zid.1 ++ (.bool (false) :: (.int .i64 (0) :: ([]))))))))))))))).toArray) w := by
 exact wr14_bs29_0_1h _ _ w
theorem wr14_pl16 : Plain Tryd.prog 16 := fun _ _ => by kernel_rfl
theorem wr14_bs29_0_1_13h (z0 : Int) (z1 : Int) (z13 : Int) (w : World) : (Instr.build 29 #[(0, .int .u8 z0), (1, .int .i64 z1), (13, .int .i64 z13)]).run Tryd.prog w = .ok (.agg #[.int .u8 z0, .int .i64 z1, .slice none 0 0, .slice none 0 0, .slice none 0 0, .int .i64 0, .int .i64 0, .int .u8 0, .int .u8 0, .int .u8 0, .int .u8 0, .int .u8 0, .int .u8 0, .int .u8 0, .int .u8 0, .int .u8 0, .int .u8 0, .int .u8 0, .int .u8 0, .int .u8 0, .int .u8 0, .int .u8 0, .int .u8 0, .int .u8 0, .int .u8 0, .int .u8 0, .int .u8 0, .int .u8 0, .int .u8 0, .int .u8 0, .int .u8 0, .int .u8 0, .int .u8 0, .int .u8 0, .int .u8 0, .int .u8 0, .int .u8 0, .int .u8 0, .int .u8 0, .slice none 0 0, .string ⟨#[]⟩, .int .u8 0, .int .u8 0, .int .u8 0, .int .u8 0, .int .u8 0, .int .u8 0, .int .u8 0, .int .u8 0, .int .u8 0, .int .u8 0, .int .u8 0, .int .u8 0, .int .u8 0, .int .u8 0, .int .u8 0, .int .u8 0, .int .u8 0, .int .u8 0, .int .u8 0, .int .u8 0, .int .u8 0, .int .u8 0, .int .u8 0, .int .u8 0, .int .u8 0, .int .u8 0, .int .u8 0, .int .u8 0, .int .u8 0, .int .u8 0, .int .u8 0, .int .u8 0, .int .u8 0, .int .u8 0, .int .u8 0, .int .u8 0, .int .u8 0, .int .u8 0, .int .u8 0, .int .u8 0, .int .u8 0, .int .u8 0, .int .u8 0, .int .u8 0, .int .u8 0, .int .u8 0, .int .u8 0, .int .u8 0, .int .u8 0, .int .u8 0, .int .u8 0, .int .u8 0, .int .u8 0, .int .u8 0, .int .u8 0, .int .u8 0, .int .u8 0, .int .u8 0, .int .u8 0, .int .u8 0, .int .u8 0, .int .u8 0, .int .u8 0, .int .u8 0, .bool false, .int .i64 z13]) w := by kernel_rfl
theorem wr14_bs29_0_1_13 (z0 : UInt8) (z1 : Int) (z13 : Int) (w : World) : (Instr.build 29 #[(0, B8 z0), (1, .int .i64 z1), (13, .int .i64 z13)]).run Tryd.prog w = .ok (.agg (B8 (z0) :: (.int .i64 (z1) :: ((Value.slice none 0 0) :: ((Value.slice none 0 0) :: ((Value.slice none 0 0) :: (.int .i64 (0) :: (.int .i64 (0) :: (Lib.byteCells zid.1 ++ ((Value.slice none 0 0) :: (St ([]) :: (Lib.byteCells zid.1 ++ (Lib.byteCells zid.1 ++ (.bool (false) :: (.int .i64 (z13) :: ([]))))))))))))))).toArray) w := by
 exact wr14_bs29_0_1_13h _ _ _ w
theorem wr14_pl22 : Plain Tryd.prog 22 := fun _ _ => by kernel_rfl
theorem wr14_al29 {d : Option Tmp} {ty : TypeId} {pos : String} {af : Array Edge} {gd : Option (Nat × Bool)} (σ : Operand → Value) (w : World) : (execOp σ ⟨d, .alloc 29, ty, pos, af, gd⟩).run Tryd.prog w = .ok (.value (PQ w.heap.size 0)) (w.alloc (.cells (msgC ((⟨0, 0, [], [], [], 0, 0, zid, [], [], zid, zid, false, 0⟩, ⟨.slice none 0 0, .slice none 0 0, .slice none 0 0, .slice none 0 0⟩) : MsgV)).toArray 29)) := by kernel_rfl
theorem wr14_isz29 : (Tryd.prog.info? 29).map (·.size) = some 107 := by kernel_rfl
set_option maxHeartbeats 1600000
theorem awake25 (w : World) :
  Calls Tryd.prog 21 #[] w fun e w' => e = .returned (.bool true) ∧ Ext w w' := by
 refine calls_of_wpF (args := []) Tryd.func21 rfl 49 rfl (Nat.le_of_ble_eq_true rfl) ?_
 intro ρ0 hb
 clear hb
 have hE := Ext.refl w
 refine sk fun K1 hK1 => (wt (oA rfl (oZ (tN (hK1 _ _ (sk fun K2 hK2 => (wt (oS rfl (Yk.build2 (vr (B8 (1)) rfl) (vr (NI 5) rfl) (fun w => wr14_bs29_0_1 1 ((5 : Nat) : Int) w) (oS rfl (Yk.callA1 wr14_pl16 (vr (.agg (msgC ((⟨1, ((5 : Nat) : Int), [], [], [], 0, 0, zid, [], [], zid, zid, false, 0⟩, ⟨(Value.slice none 0 0), (Value.slice none 0 0), (Value.slice none 0 0), (Value.slice none 0 0)⟩) : MsgV)).toArray) rfl) ((encode_m (X := ((⟨1, ((5 : Nat) : Int), [], [], [], 0, 0, zid, [], [], zid, zid, false, 0⟩, ⟨(Value.slice none 0 0), (Value.slice none 0 0), (Value.slice none 0 0), (Value.slice none 0 0)⟩) : MsgV)) rfl rfl ⟨rfl, rfl, rfl, rfl, rfl⟩ right_m1 enc_m1).mono ?_))))))))))))
 rintro e w6 ⟨v3, rfl, hr4, hx5⟩
 refine ⟨_, rfl, ?_⟩
 have hE := hE.trans hx5
 refine oM rfl (oS rfl (Yk.extract (vs := [v3, NI 0]) (vr (.tuple #[v3, NI 0]) rfl) (show _ = some (v3 : Value) from rfl) (oS rfl (Yk.extract (vs := [v3, NI 0]) (vr (.tuple #[v3, NI 0]) rfl) (show _ = some (NI 0 : Value) from rfl) (oA rfl (oA rfl (oZ (tN (hK2 _ _ (sk fun K7 hK7 => (wt (oS rfl (Yk.build3 (vr (B8 (8)) rfl) (vr (NI 300) rfl) (vr (NI 13) rfl) (fun w => wr14_bs29_0_1_13 8 ((300 : Nat) : Int) ((13 : Nat) : Int) w) (oS rfl (Yk.callA1 wr14_pl16 (vr (.agg (msgC ((⟨8, ((300 : Nat) : Int), [], [], [], 0, 0, zid, [], [], zid, zid, false, ((13 : Nat) : Int)⟩, ⟨(Value.slice none 0 0), (Value.slice none 0 0), (Value.slice none 0 0), (Value.slice none 0 0)⟩) : MsgV)).toArray) rfl) ((encode_m (X := ((⟨8, ((300 : Nat) : Int), [], [], [], 0, 0, zid, [], [], zid, zid, false, ((13 : Nat) : Int)⟩, ⟨(Value.slice none 0 0), (Value.slice none 0 0), (Value.slice none 0 0), (Value.slice none 0 0)⟩) : MsgV)) rfl rfl ⟨rfl, rfl, rfl, rfl, rfl⟩ right_m8 enc_m8).mono ?_))))))))))))))))
 rintro e w11 ⟨v8, rfl, hr9, hx10⟩
 refine ⟨_, rfl, ?_⟩
 have hE := hE.trans hx10
 have hr4 := hr4.keep hx10
 refine oM rfl (oS rfl (Yk.extract (vs := [v8, NI 0]) (vr (.tuple #[v8, NI 0]) rfl) (show _ = some (v8 : Value) from rfl) (oS rfl (Yk.extract (vs := [v8, NI 0]) (vr (.tuple #[v8, NI 0]) rfl) (show _ = some (NI 0 : Value) from rfl) (oA rfl (oA rfl (oZ (tN (hK7 _ _ (sk fun K12 hK12 => (sk fun K13 hK13 => (wt (oM rfl (oS rfl (Yk.lenRB wr14_ty26 (RB.of hr9 (vr v8 rfl)) (oS rfl (Yk.eqI (a := ((([8, 172, 2, 13] : List UInt8) : List UInt8).length : Nat)) (b := (0 : Nat)) rfl rfl (k_eql _ _ _ _) (oZ (tN (hK13 _ _ (wpF_false (vr (.bool (false)) (congrArg Value.bool (decide_eq_false (by decide)))) ?_)))))))))))))))))))))
 refine wpF_skip (tN (hK12 _ _ (sk fun K14 hK14 => (wt (oM rfl (oM rfl (oS rfl (Yk.lenRB wr14_ty26 (RB.of hr9 (vr v8 rfl)) (oS rfl (Yk.bin (xv := NI ((([8, 172, 2, 13] : List UInt8) : List UInt8).length)) (yv := NI 1) rfl rfl rfl (i64_sub _ _ _ (by decide) (by decide)) (oS rfl (Yk.sliceHi (xs := ([8, 172, 2, 13] : List UInt8)) (n := ((([8, 172, 2, 13] : List UInt8) : List UInt8).length) - (1)) wr14_ty26 wr14_sz5 (vr v8 rfl) hr9 (vr (NI (((([8, 172, 2, 13] : List UInt8) : List UInt8).length) - (1))) rfl) (by decide) fun v15 hr16 ha17 => (oS rfl (Yk.callA1 wr14_pl22 (vr v15 rfl) ((decode_all _ v15 ((([8, 172, 2, 13] : List UInt8) : List UInt8).take (((([8, 172, 2, 13] : List UInt8) : List UInt8).length) - (1))) hr16 (by decide)).mono ?_)))))))))))))))
 rintro e w19 ⟨X, c, rfl, hX, hd, hx18⟩
 refine ⟨_, rfl, ?_⟩
 have hE := hE.trans hx18
 have hr4 := hr4.keep hx18
 have hr9 := hr9.keep hx18
 have hr16 := hr16.keep hx18
 have hXr := hX.refs
 have hXw := hX.wants
 have hXh := hX.haves
 have hXb := hX.bytes
 rw [show ([8, 172, 2, 13] : List UInt8).length - 1 = 3 from rfl, dec_m8] at hd
 obtain ⟨hc6, -⟩ := hd
 subst hc6
 refine oM rfl (oS rfl (Yk.extract (vs := [.agg (msgC X).toArray, NI 6]) (vr (.tuple #[.agg (msgC X).toArray, NI 6]) rfl) (show _ = some (.agg (msgC X).toArray : Value) from rfl) (oS rfl (Yk.extract (vs := [.agg (msgC X).toArray, NI 6]) (vr (.tuple #[.agg (msgC X).toArray, NI 6]) rfl) (show _ = some (NI 6 : Value) from rfl) (oS rfl (Yk.alloc (cs := (msgC ((⟨0, 0, [], [], [], 0, 0, zid, [], [], zid, zid, false, 0⟩, ⟨.slice none 0 0, .slice none 0 0, .slice none 0 0, .slice none 0 0⟩) : MsgV)).toArray) wr14_al29 fun n20 w21 hn22 hb23 hx24 hs25 => ?_))))))
 have hA26 := Ext.refl w19
 have hea27 := hE
 have hz28 := hE.size
 have hE := hE.trans hx24
 have hA26 := hA26.trans hx24
 have hb29 := hb23; clear hb23
 have hl30 : n20 < w21.heap.size := by omega
 refine oS rfl (Yk.storeAll (vr (PQ n20 0) rfl) (vr (.agg (msgC X).toArray) rfl) hb29 (by simp only [List.size_toArray, msg_len]) (st_isz (msg_len _) wr14_isz29) (msg_one (x := X) (RG.one (hXr.keep hA26)).2 (RG.one (hXw.keep hA26)).2 (RG.one (hXh.keep hA26)).2 (RB.one (hXb.keep hA26)).2) fun w31 hb32 hg33 hs34 => ?_)
 have hE := row_fresh hE hg33 (Nat.le_trans hz28 (by omega))
 have hA26 := row_fresh hA26 hg33 (Nat.le_trans (Nat.le_refl _) (by omega))
 clear hb29
 have hb29 : w31.heap[n20]? = some (.cells (msgC X).toArray 29 (0, 0)) := hb32; clear hb32
 have hl35 := bl hb29
 refine oA rfl (oZ (tN (hK14 _ _ (sk fun K36 hK36 => (wt (oM rfl (oS rfl (Yk.eqI (a := (0 : Nat)) (b := (0 : Nat)) rfl rfl (k_eql _ _ _ _) (oM rfl (oY (d := 31) rfl rfl (vr (.bool (true)) (congrArg Value.bool (decide_eq_true (rfl)))) (Yk.move (vr v3 rfl) (oY (d := 31) rfl rfl (vr (.bool (true)) (congrArg Value.bool (decide_eq_true (rfl)))) (Yk.convRB wr14_ty26 wr14_ty5 wr14_ty9 (RB.of (hr4.keep hA26) (vr v3 rfl)) (oY (d := 31) rfl rfl (vr (.bool (true)) (congrArg Value.bool (decide_eq_true (rfl)))) (Yk.eqSt (l := ([1, 5] : List UInt8)) (m := ([1, 5] : List UInt8)) (.inl rfl) (vr (St (([1, 5] : List UInt8))) rfl) (vr (St (([1, 5] : List UInt8))) rfl) (decide (([1, 5] : List UInt8) = (([1, 5] : List UInt8) : List UInt8))) rfl (oS rfl (Yk.pickT (vr (.bool (true)) (congrArg Value.bool (decide_eq_true (rfl)))) (vr (.bool (true)) (congrArg Value.bool (decide_eq_true (rfl)))) (oM rfl (oY (d := 36) rfl rfl (vr (.bool (true)) rfl) (Yk.move (vr (NI 0) rfl) (oY (d := 36) rfl rfl (vr (.bool (true)) rfl) (Yk.eqI (a := (0 : Nat)) (b := (0 : Nat)) rfl rfl (k_eql _ _ _ _) (oS rfl (Yk.pickT (vr (.bool (true)) rfl) (vr (.bool (true)) (congrArg Value.bool (decide_eq_true (rfl)))) ?_))))))))))))))))))))))))
 refine oM rfl (oY (d := 40) rfl rfl (vr (.bool (true)) rfl) (Yk.move (vr v8 rfl) (oY (d := 40) rfl rfl (vr (.bool (true)) rfl) (Yk.convRB wr14_ty26 wr14_ty5 wr14_ty9 (RB.of (hr9.keep hA26) (vr v8 rfl)) (oY (d := 40) rfl rfl (vr (.bool (true)) rfl) (Yk.eqSt (l := ([8, 172, 2, 13] : List UInt8)) (m := ([8, 172, 2, 13] : List UInt8)) (.inl rfl) (vr (St (([8, 172, 2, 13] : List UInt8))) rfl) (vr (St (([8, 172, 2, 13] : List UInt8))) rfl) (decide (([8, 172, 2, 13] : List UInt8) = (([8, 172, 2, 13] : List UInt8) : List UInt8))) rfl (oS rfl (Yk.pickT (vr (.bool (true)) rfl) (vr (.bool (true)) (congrArg Value.bool (decide_eq_true (rfl)))) (oM rfl (oY (d := 45) rfl rfl (vr (.bool (true)) rfl) (Yk.move (vr (NI 6) rfl) (oY (d := 45) rfl rfl (vr (.bool (true)) rfl) (Yk.eqI (a := (6 : Nat)) (b := (6 : Nat)) rfl rfl (k_eql _ _ _ _) (oS rfl (Yk.pickT (vr (.bool (true)) rfl) (vr (.bool (true)) (congrArg Value.bool (decide_eq_true (rfl)))) (oA rfl (oL_ [(0, .bool (true)), (1, v3), (2, NI 0), (3, v8), (4, NI 0), (6, NI 6), (19, .bool (false))] ⟨rfl, rfl, rfl, rfl, rfl, rfl, (congrArg Value.bool (decide_eq_false (by decide))), trivial⟩ fun ρ37 ⟨T0, T1, T2, T3, T4, T6, T19, _⟩ => (tN (hK36 _ _ (wpF_ret (postF_ret (fn := Tryd.f21) _ rfl [.bool (true)] (.bool (true)) rfl ⟨T0, trivial⟩ ?_)))))))))))))))))))))
 exact ⟨rfl, hE⟩
open Go.RowKit
set_option maxRecDepth 100000
theorem wr24_fo49_0 : FieldOff Tryd.prog 49 0 0 := fun b o w => by simp [go_sem]
theorem wr24_ty46 : Tryd.prog.underlying 46 = some (.slice 69) := by kernel_rfl
theorem wr24_fo49_1 : FieldOff Tryd.prog 49 1 1 := fun b o w => by simp [go_sem]
theorem wr24_fo49_4 : FieldOff Tryd.prog 49 4 35 := fun b o w => by simp [go_sem]
theorem wr24_ty47 : Tryd.prog.underlying 47 = some (.slice 122) := by kernel_rfl
theorem wr24_ty74 : Tryd.prog.underlying 74 = some (.int .u16) := by kernel_rfl
theorem wr24_ty3 : Tryd.prog.underlying 3 = some (.int .i64) := by kernel_rfl
theorem wr24_ty49 : ∃ fs, Tryd.prog.underlying 49 = some (.struct fs) := struct_of (by kernel_rfl)
theorem wr24_isz49 : (Tryd.prog.info? 49).map (·.size) = some 36 := by kernel_rfl
theorem wr24_pl37 : Plain Tryd.prog 37 := fun _ _ => by kernel_rfl
theorem wr24_pl36 : Plain Tryd.prog 36 := fun _ _ => by kernel_rfl
theorem wr24_bs29_0_1_2h (z0 : Int) (z1 : Int) {z2 : Value} (h2 : ∃ ao n c, z2 = .slice ao n c) (w : World) : (Instr.build 29 #[(0, .int .u8 z0), (1, .int .i64 z1), (2, z2)]).run Tryd.prog w = .ok (.agg #[.int .u8 z0, .int .i64 z1, z2, .slice none 0 0, .slice none 0 0, .int .i64 0, .int .i64 0, .int .u8 0, .int .u8 0, .int .u8 0, .int .u8 0, .int .u8 0, .int .u8 0, .int .u8 0, .int .u8 0, .int .u8 0, .int .u8 0, .int .u8 0, .int .u8 0, .int .u8 0, .int .u8 0, .int .u8 0, .int .u8 0, .int .u8 0, .int .u8 0, .int .u8 0, .int .u8 0, .int .u8 0, .int .u8 0, .int .u8 0, .int .u8 0, .int .u8 0, .int .u8 0, .int .u8 0, .int .u8 0, .int .u8 0, .int .u8 0, .int .u8 0, .int .u8 0, .slice none 0 0, .string ⟨#[]⟩, .int .u8 0, .int .u8 0, .int .u8 0, .int .u8 0, .int .u8 0, .int .u8 0, .int .u8 0, .int .u8 0, .int .u8 0, .int .u8 0, .int .u8 0, .int .u8 0, .int .u8 0, .int .u8 0, .int .u8 0, .int .u8 0, .int .u8 0, .int .u8 0, .int .u8 0, .int .u8 0, .int .u8 0, .int .u8 0, .int .u8 0, .int .u8 0, .int .u8 0, .int .u8 0, .int .u8 0, .int .u8 0, .int .u8 0, .int .u8 0, .int .u8 0, .int .u8 0, .int .u8 0, .int .u8 0, .int .u8 0, .int .u8 0, .int .u8 0, .int .u8 0, .int .u8 0, .int .u8 0, .int .u8 0, .int .u8 0, .int .u8 0, .int .u8 0, .int .u8 0, .int .u8 0, .int .u8 0, .int .u8 0, .int .u8 0, .int .u8 0, .int .u8 0, .int .u8 0, .int .u8 0, .int .u8 0, .int .u8 0, .int .u8 0, .int .u8 0, .int .u8 0, .int .u8 0, .int .u8 0, .int .u8 0, .int .u8 0, .int .u8 0, .int .u8 0, .bool false, .int .i64 0]) w := by obtain ⟨_, _, _, rfl⟩ := h2; kernel_rfl
theorem wr24_bs29_0_1_2 (z0 : UInt8) (z1 : Int) {z2 : Value} (h2 : ∃ ao n c, z2 = .slice ao n c) (w : World) : (Instr.build 29 #[(0, B8 z0), (1, .int .i64 z1), (2, z2)]).run Tryd.prog w = .ok (.agg (B8 (z0) :: (.int .i64 (z1) :: (z2 :: ((Value.slice none 0 0) :: ((Value.slice none 0 0) :: (.int .i64 (0) :: (.int .i64 (0) :: (Lib.byteCells zid.1 ++ ((Value.slice none 0 0) :: (St ([]) :: (Lib.byteCells zid.1 ++ (Lib.byteCells zid.1 ++ (.bool (false) :: (.int .i64 (0) :: ([]))))))))))))))).toArray) w := by
 exact wr24_bs29_0_1_2h _ _ h2 w
theorem wr24_pl19 : Plain Tryd.prog 19 := fun _ _ => by kernel_rfl
theorem wr24_pl21 : Plain Tryd.prog 21 := fun _ _ => by kernel_rfl
set_option maxHeartbeats 1600000
theorem wireTold_walk (w : World) (y : RefsV) (hm : RefsAt w y) (hN : NamesLt y.1) (s : Nat) (hs : s < 65536) :
  Calls Tryd.prog 11 #[.agg (refsC y).toArray, .int .u16 (s : Int)] w fun e w' => e = .returned (.bool true) ∧ Ext w w' := by
 have hmt := hm.branches
 have hmg := hm.tags
 have hml := hm.log
 refine calls_of_wpF (args := [.agg (refsC y).toArray, .int .u16 ((s : Nat) : Int)]) Tryd.func11 rfl 31 rfl (Nat.le_of_ble_eq_true rfl) ?_
 intro ρ0 hb
 have T0 : ρ0 0 = (.agg (refsC y).toArray : Value) := hb.get 0
 have T1 : ρ0 1 = (.int .u16 ((s : Nat) : Int) : Value) := hb.get 1
 clear hb
 have hE := Ext.refl w
 refine sk fun K1 hK1 => (wt (oS rfl (Yk.box (cs := (refsC y : List Value).toArray) T0 fun n2 w3 hn4 hb5 hx6 hs7 => ?_)))
 have hE := hE.trans hx6
 have hb8 := hb5; clear hb5
 have hl9 : n2 < w3.heap.size := by omega
 refine oA rfl (oZ (tN (hK1 _ _ (sk fun K10 hK10 => (sk fun K11 hK11 => (wt (oS rfl (Yk.fieldAt wr24_fo49_0 (vr (PQ n2 0) rfl) (oS rfl (Yk.cell1 wr24_ty46 rfl (vr (PQ n2 0) rfl) (cellAt hb8 (show (refsC y)[0]? = some (y.2.branches : Value) from refs_g0 y)) (oS rfl (Yk.lenRG wr24_ty46 (RG.of (hmt.keep hE) (vr y.2.branches rfl)) (oS rfl (Yk.eqI (a := ((y.1.branches).length : Nat)) (b := (80 : Nat)) rfl rfl (k_gtr _ _ _ _) (oM rfl (opsF_mayV (PQ n2 1) rfl rfl (gF (vr (.bool (decide ((80) < ((y.1.branches).length)))) rfl)) (fun hG12 => Yk.fieldAt wr24_fo49_1 (vr (PQ n2 0) rfl) ⟨rfl, rfl⟩) (opsF_mayV (y.2.tags) rfl rfl (gF (vr (.bool (decide ((80) < ((y.1.branches).length)))) rfl)) (fun hG13 => Yk.cell1 wr24_ty46 rfl (mayT (vr (cond (!(decide ((80) < ((y.1.branches).length)))) (PQ n2 1) undef) rfl) hG13) (cellAt hb8 (show (refsC y)[1]? = some (y.2.tags : Value) from refs_g1 y)) ⟨rfl, rfl⟩) (opsF_mayV (NI ((y.1.tags).length)) rfl rfl (gF (vr (.bool (decide ((80) < ((y.1.branches).length)))) rfl)) (fun hG14 => Yk.lenRG wr24_ty46 (RG.of (hmg.keep hE) (mayT (vr (cond (!(decide ((80) < ((y.1.branches).length)))) (y.2.tags) undef) rfl) hG14)) ⟨rfl, rfl⟩) (opsF_mayV (.bool (decide ((80) < ((y.1.tags).length)))) rfl rfl (gF (vr (.bool (decide ((80) < ((y.1.branches).length)))) rfl)) (fun hG15 => Yk.eqI (a := (((y.1.tags).length : Nat) : Int)) (b := ((80 : Nat) : Int)) (mayT (vr (cond (!(decide ((80) < ((y.1.branches).length)))) (NI ((y.1.tags).length)) undef) rfl) hG15) (vr (NI 80) rfl) (k_gtr _ .i64 ((y.1.tags).length) (80)) ⟨rfl, rfl⟩) (oS rfl (Yk.pickOrN (vr (.bool (decide ((80) < ((y.1.branches).length)))) rfl) (vr (.bool (true)) rfl) (fun hA => (mayT (vr (cond (!(decide ((80) < ((y.1.branches).length)))) (.bool (decide ((80) < ((y.1.tags).length)))) undef) rfl) (not_i hA))) fun bb16 hbb17 => ?_)))))))))))))))))))))
 refine oM rfl (opsF_mayV (PQ n2 35) rfl rfl (gF (vr (.bool (bb16)) rfl)) (fun hG18 => Yk.fieldAt wr24_fo49_4 (vr (PQ n2 0) rfl) ⟨rfl, rfl⟩) (opsF_mayV (y.2.log) rfl rfl (gF (vr (.bool (bb16)) rfl)) (fun hG19 => Yk.cell1 wr24_ty47 rfl (mayT (vr (cond (!bb16) (PQ n2 35) undef) rfl) hG19) (cellAt hb8 (show (refsC y)[35]? = some (y.2.log : Value) from refs_g4 y)) ⟨rfl, rfl⟩) (opsF_mayV (NI ((y.1.log).length)) rfl rfl (gF (vr (.bool (bb16)) rfl)) (fun hG20 => Yk.lenRG wr24_ty47 (RG.of (hml.keep hE) (mayT (vr (cond (!bb16) (y.2.log) undef) rfl) hG20)) ⟨rfl, rfl⟩) (opsF_mayV (.bool (decide ((80) < ((y.1.log).length)))) rfl rfl (gF (vr (.bool (bb16)) rfl)) (fun hG21 => Yk.eqI (a := (((y.1.log).length : Nat) : Int)) (b := ((80 : Nat) : Int)) (mayT (vr (cond (!bb16) (NI ((y.1.log).length)) undef) rfl) hG21) (vr (NI 80) rfl) (k_gtr _ .i64 ((y.1.log).length) (80)) ⟨rfl, rfl⟩) (oS rfl (Yk.pickOrN (vr (.bool (bb16)) rfl) (vr (.bool (true)) rfl) (fun hA => (mayT (vr (cond (!bb16) (.bool (decide ((80) < ((y.1.log).length)))) undef) rfl) (not_i hA))) fun bb22 hbb23 => (oZ (tN (hK11 _ _ ?_)))))))))
 refine wpF_condB (bb22) (vr (.bool (bb22)) rfl) (fun hc0 => ?_) (fun hc0 => ?_)
 ·refine sk fun K24 hK24 => (wt (oA rfl (oZ (tN (hK24 _ _ (wpF_ret (thenF_ret (postF_ret (fn := Tryd.f11) _ rfl [.bool (true)] (.bool (true)) rfl ⟨rfl, trivial⟩ ?_))))))))
  exact ⟨rfl, hE⟩
 subst hbb17 hbb23
 have hc : y.1.branches.length ≤ 80 ∧ y.1.tags.length ≤ 80 ∧ y.1.log.length ≤ 80 := few_of hc0
 have hL : RefsLt y.1 := lt_of hN hc
 refine wpF_skip (tN (hK10 _ _ (sk fun K25 hK25 => (wt (oM rfl (oS rfl (Yk.convI wr24_ty74 wr24_ty3 T1 (wrap_i64 (s) (by omega)) (oS rfl (Yk.loadAll (vr (PQ n2 0) rfl) hb8 (wr24_ty49).choose_spec rfl (st_isz (refs_len y) wr24_isz49) (oS rfl (Yk.callA1 wr24_pl37 (vr (.agg (refsC y).toArray) rfl) ((told25_any _ y (RefsAt.mk (hmt.keep hE) (hmg.keep hE) (hml.keep hE)) hc).mono ?_))))))))))))
 rintro e w29 ⟨v26, rfl, hp27, hx28⟩
 refine ⟨_, rfl, ?_⟩
 have hE := hE.trans hx28
 have hb8 := eb hx28 hb8
 refine oS rfl (Yk.callA1 wr24_pl36 (vr (.agg (refsC (y.1, v26)).toArray) rfl) ((of_any _ (y.1, v26) hp27 hL ⟨hc.1, hc.2.1⟩).mono ?_))
 rintro e w33 ⟨v30, rfl, hr31, hx32⟩
 refine ⟨_, rfl, ?_⟩
 have hE := hE.trans hx32
 have hb8 := eb hx32 hb8
 have hp27 := hp27.keep hx32
 refine oS rfl (Yk.build3 (vr (B8 (2)) rfl) (vr (NI s) rfl) (vr v30 rfl) (fun w => wr24_bs29_0_1_2 2 ((s : Nat) : Int) (RG.slice hr31) w) (oS rfl (Yk.callA1 wr24_pl19 (vr (.agg (msgC ((⟨2, ((s : Nat) : Int), (ofB y.1), [], [], 0, 0, zid, [], [], zid, zid, false, 0⟩, ⟨v30, (Value.slice none 0 0), (Value.slice none 0 0), (Value.slice none 0 0)⟩) : MsgV)).toArray) rfl) (((show Calls _ _ _ _ (fun e w2 => e = .returned (.bool true) ∧ Ext w33 w2) from by have h := right_any w33 ((⟨2, ((s : Nat) : Int), (ofB y.1), [], [], 0, 0, zid, [], [], zid, zid, false, 0⟩, ⟨v30, (Value.slice none 0 0), (Value.slice none 0 0), (Value.slice none 0 0)⟩) : MsgV) ⟨hr31, RG.nil _ _ _, RG.nil _ _ _, RB.nil _⟩ (tell_lt hc.1 hc.2.1); rw [show rightB ((⟨2, ((s : Nat) : Int), (ofB y.1), [], [], 0, 0, zid, [], [], zid, zid, false, 0⟩, ⟨v30, (Value.slice none 0 0), (Value.slice none 0 0), (Value.slice none 0 0)⟩) : MsgV).1 = true from rightB_tell hs] at h; exact h)).mono ?_))))
 rintro e w35 ⟨rfl, hx34⟩
 refine ⟨_, rfl, ?_⟩
 have hE := hE.trans hx34
 have hb8 := eb hx34 hb8
 have hp27 := hp27.keep hx34
 have hr31 := hr31.keep hx34
 refine oM rfl (oY (d := 28) rfl rfl (vr (.bool (true)) rfl) (Yk.callA0 wr24_pl21  ((awake25 _).mono ?_)))
 rintro e w37 ⟨rfl, hx36⟩
 refine ⟨_, rfl, ?_⟩
 have hE := hE.trans hx36
 have hb8 := eb hx36 hb8
 have hp27 := hp27.keep hx36
 have hr31 := hr31.keep hx36
 refine oS rfl (Yk.pickT (vr (.bool (true)) rfl) (vr (.bool (true)) rfl) (oA rfl (oZ (tN (hK25 _ _ (wpF_ret (postF_ret (fn := Tryd.f11) _ rfl [.bool (true)] (.bool (true)) rfl ⟨rfl, trivial⟩ ?_)))))))
 exact ⟨rfl, hE⟩
end Go.Proofs.YtmonlobfofkbdaaDoor
