/- Part 3 of what stands behind these statements: laws and walks of the functions that are reached. Conditions: those that each theorem names. -/
import Derived.Test.YtejpjjhkjdpeaaaO2
set_option linter.unusedVariables false
set_option linter.unusedSimpArgs false
namespace Go.Proofs.Ytejpjjhkjdpeaaa
open Go.RowKit
set_option maxRecDepth 100000
set_option linter.unusedVariables false
set_option linter.unusedSimpArgs false
theorem enI_len (l : List Int) : (l.flatMap enI).length = l.length * 1 := by
 induction l with
 | nil => rfl
 | cons a r ih => rw [List.flatMap_cons, List.length_append, ih, List.length_cons]; simp; omega
theorem rg_ints {w : World} {g : Nat} {e : TypeId} {fr : Nat × Nat} {l : List Int} (hl : l.length ≤ 1024) (h : w.heap[g]? = some (.cells (l.flatMap enI).toArray e fr)) : RG 1 enI w (.slice (some ⟨g, 0, none⟩) l.length l.length) l := by
 refine ⟨fun x hx => rfl, enI_len l, _, l.length, rfl, Nat.le_refl _, by simp [maxLen]; omega, (fun h => by cases h), fun q hq j u hu => ?_⟩
 cases hq
 rw [Addr.add_lit, Nat.zero_add]
 exact cellAt (l := l.flatMap enI) (t := e) (fr := fr) h hu
theorem all_stepX {α : Type} {f : α → Bool} {l : List α} {i : Nat} (d : α) (h : i < l.length) (hq : (l.take i).all f = true) (hn : f (l.getD i d) = true) : (l.take (i + 1)).all f = true := by
 rw [List.take_succ_eq_append_getElem h, List.all_append, hq, List.all_cons, List.all_nil]
 rw [List.getD_eq_getElem?_getD, List.getElem?_eq_getElem h] at hn
 simpa using hn
theorem lightB_no {l : List XactV} {most i : Nat} (h : i < l.length) (hn : (decide (300 < (l.getD i dXac).1.bytes.length) || decide (100 < (l.getD i dXac).1.fates.length)) = true) : lightB l most = false := by
 cases hb : lightB l most
 ·rfl
 ·have := (lightB_get hb).2 _ (getD_mem_ (d := dXac) h)
  rcases (Bool.or_eq_true _ _).mp hn with h | h
  ·have := of_decide_eq_true h
   omega
  ·have := of_decide_eq_true h
   omega
def awA : Dsk := (appendD (newD 100) [97] [120, 121]).1
def awB : Dsk := (syncD awA [97]).1
def awC : Dsk := (appendD awB [97] [122]).1
def awD : Dsk := crashD awC [0, 0]
def awE : Dsk := (appendD (newD 100) [97] [120]).1
def awF : Dsk := crashD awE [0]
theorem aw_b0 : DBd 0 (newD 100) := DBd.new (by decide)
theorem aw_b1 : DBd 1 awA := aw_b0.append _ (by decide)
theorem aw_b2 : DBd 2 awB := aw_b1.sync _
theorem aw_b3 : DBd 3 awC := aw_b2.append _ (by decide)
theorem aw_b4 : DBd 3 awD := aw_b3.crash _
theorem aw_b5 : DBd 1 awE := aw_b0.append _ (by decide)
theorem aw_b6 : DBd 1 awF := aw_b5.crash _
theorem aw_l0 : DLt (newD 100) := aw_b0.lt (by decide)
theorem aw_l1 : DLt awA := aw_b1.lt (by decide)
theorem aw_l2 : DLt awB := aw_b2.lt (by decide)
theorem aw_l3 : DLt awC := aw_b3.lt (by decide)
theorem aw_l4 : DLt awD := aw_b4.lt (by decide)
theorem aw_l5 : DLt awE := aw_b5.lt (by decide)
theorem aw_l6 : DLt awF := aw_b6.lt (by decide)
theorem dwc_ty22 : Try.prog.underlying 22 = some (.slice 33) := by kernel_rfl
theorem dwc_szg33 : ∀ w' : World, (sizeOf 33).run Try.prog w' = .ok 6 w' := fun _ => by kernel_rfl
theorem dwc_fo33_3 : FieldOff Try.prog 33 3 3 := fun b o w => by simp [go_sem]
theorem dwc_ty24 : Try.prog.underlying 24 = some (.slice 5) := by kernel_rfl
theorem dwc_fo33_5 : FieldOff Try.prog 33 5 5 := fun b o w => by simp [go_sem]
theorem dwc_ty25 : Try.prog.underlying 25 = some (.slice 3) := by kernel_rfl
theorem dwc_fo33_0 : FieldOff Try.prog 33 0 0 := fun b o w => by simp [go_sem]
theorem dwc_ty3 : Try.prog.underlying 3 = some (.int .i64) := by kernel_rfl
theorem dwc_fo33_1 : FieldOff Try.prog 33 1 1 := fun b o w => by simp [go_sem]
theorem dwc_ty9 : Try.prog.underlying 9 = some (.string) := by kernel_rfl
theorem dwc_pl13 : Plain Try.prog 13 := fun _ _ => by kernel_rfl
theorem dwc_pl14 : Plain Try.prog 14 := fun _ _ => by kernel_rfl
theorem dwc_fo33_2 : FieldOff Try.prog 33 2 2 := fun b o w => by simp [go_sem]
theorem dwc_pl25 : Plain Try.prog 25 := fun _ _ => by kernel_rfl
theorem dwc_pl26 : Plain Try.prog 26 := fun _ _ => by kernel_rfl
theorem dwc_fo33_4 : FieldOff Try.prog 33 4 4 := fun b o w => by simp [go_sem]
theorem dwc_pl12 : Plain Try.prog 12 := fun _ _ => by kernel_rfl
theorem dwc_pl11 : Plain Try.prog 11 := fun _ _ => by kernel_rfl
theorem dwc_pl8 : Plain Try.prog 8 := fun _ _ => by kernel_rfl
theorem dwc_ty5 : Try.prog.underlying 5 = some (.int .u8) := by kernel_rfl
theorem dwc_l1_24 (z : Int) (w : World) : (Instr.buildSlice 24 1 #[(0, .int .u8 z)]).run Try.prog w = .ok (.slice (some ⟨w.heap.size, 0, none⟩) 1 1) (w.alloc (.cells #[.int .u8 z] 5)) := by kernel_rfl
theorem dwc_pl15 : Plain Try.prog 15 := fun _ _ => by kernel_rfl
theorem dwc_lk25 (z : Int) (w : World) : (Instr.buildSlice 25 1 #[(0, .int .i64 z)]).run Try.prog w = .ok (.slice (some ⟨w.heap.size, 0, none⟩) 1 1) (w.alloc (.cells #[.int .i64 z] 3)) := by kernel_rfl
set_option maxHeartbeats 1600000
theorem light_any (w : World) (v : Value) (l : List XactV) (hl : RG 6 xacC w v l) (hk : ∀ x ∈ l, XactAt w x) (most : Nat) (hmost : most ≤ 1000) :
  Calls Try.prog 7 #[v, NI most] w fun e w' => e = .returned (.bool (lightB l most)) ∧ Ext w w' := by
 refine calls_of_wpF (args := [v, NI most]) Try.func7 rfl 32 rfl (Nat.le_of_ble_eq_true rfl) ?_
 intro ρ0 hb
 have T0 : ρ0 0 = (v : Value) := hb.get 0
 have T1 : ρ0 1 = (NI most : Value) := hb.get 1
 clear hb
 have hE := Ext.refl w
 refine sk fun K1 hK1 => (wt (oA rfl (oZ (tN (hK1 _ _ (sk fun K2 hK2 => (sk fun K3 hK3 => (wt (oM rfl (oS rfl (Yk.lenRG dwc_ty22 (RG.of (hl.keep hE) T0) (oM rfl (oS rfl (Yk.eqI (a := (l.length : Nat)) (b := (most : Nat)) rfl T1 (k_gtr _ _ _ _) (oZ (tN (hK3 _ _ ?_)))))))))))))))))
 refine wpF_cond ((most) < (l.length)) (vr (.bool (decide ((most) < (l.length)))) rfl) (fun hc0 => ?_) (fun hc0 => ?_)
 ·have hV : lightB l most = false := by unfold lightB; rw [decide_eq_true (show most < l.length from hc0)]; rfl
  refine sk fun K4 hK4 => (wt (oA rfl (oZ (tN (hK4 _ _ (wpF_ret (thenF_ret (postF_ret (fn := Try.f7) _ rfl [.bool (false)] (.bool (false)) rfl ⟨rfl, trivial⟩ ?_))))))))
  exact ⟨by rw [hV], hE⟩
 refine wpF_skip (tN (hK2 _ _ (sk fun K5 hK5 => (sk fun K6 hK6 => (wt (oA rfl (oL_ [(0, v), (1, NI most), (4, .bool (false)), (5, NI 0)] ⟨T0, T1, rfl, rfl, trivial⟩ fun ρ7 ⟨T0, T1, T4, T5, _⟩ => (tN (hK6 _ _ (wpF_block (wpF_loop (fun (ρ : Slots) (wz : World) => ∃ i : Nat, ρ 0 = (v : Value) ∧ ρ 1 = (NI most : Value) ∧ ρ 5 = (NI i : Value) ∧ Ext w wz ∧ (i ≤ l.length) ∧ ((l.take i).all (fun x => !(decide (300 < x.1.bytes.length) || decide (100 < x.1.fates.length))) = true) ∧ True) (fun ρ _ => l.length - (intOf (ρ 5)).toNat) ⟨0, T0, T1, T5, hE, Nat.zero_le _, rfl, trivial⟩ ?_)))))))))))
 clear hE
 rintro ρ8 w9 ⟨i, T0, T1, T5, hE, hi, hq, -⟩
 have q5 := T5
 refine sk fun K10 hK10 => (sk fun K11 hK11 => (wt (oM rfl (oM rfl (oS rfl (Yk.lenRG dwc_ty22 (RG.of (hl.keep hE) T0) (oS rfl (Yk.eqI (a := (i : Nat)) (b := (l.length : Nat)) T5 rfl (k_lss _ _ _ _) (oZ (tN (hK11 _ _ ?_)))))))))))
 refine wpF_cond ((i) < (l.length)) (vr (.bool (decide ((i) < (l.length)))) rfl) (fun hc1 => ?_) (fun hc1 => ?_)
 ·have hlt : i < l.length := hc1
  have hx := hk _ (getD_mem_ (d := dXac) hlt)
  have hxb := (hx.keep hE).bytes
  have hxf := (hx.keep hE).fates
  refine wpF_skip (tN (hK10 _ _ (sk fun K12 hK12 => (wpF_block (sk fun K13 hK13 => (wt (oM rfl (oM rfl ?_))))))))
  have hl16 : (xacC (l.getD (i) dXac)).length = 6 := (RG.elem (hl.keep hE) dXac (by omega))
  refine oS rfl (Yk.atRG dwc_ty22 dwc_szg33 (by decide) dXac (RG.of (hl.keep hE) T0) T5 (by omega) fun v14 hp15 => (oS rfl (Yk.fieldPR (n := 1) dwc_fo33_3 (PR.of hp15 (vr v14 rfl)) fun v17 hp18 => ?_)))
  have hp18 : PCell ((l.getD (i) dXac).2.bytes) v17 w9 := PR.pcell ((xac_f3 (l.getD (i) dXac)) ▸ hp18)
  refine oS rfl (Yk.loadC dwc_ty24 rfl (PCell.of hp18 (vr v17 rfl)) (oS rfl (Yk.lenRB dwc_ty24 (RB.of hxb (vr ((l.getD (i) dXac).2.bytes) rfl)) (oS rfl (Yk.eqI (a := (((l.getD (i) dXac).1.bytes : List UInt8).length : Nat)) (b := (300 : Nat)) rfl rfl (k_gtr _ _ _ _) (oM rfl (opsF_mayV (v) rfl rfl (gF (vr (.bool (decide ((300) < (((l.getD (i) dXac).1.bytes : List UInt8).length)))) rfl)) (fun hG19 => Yk.move T0 ⟨rfl, rfl⟩) (opsF_mayV (NI i) rfl rfl (gF (vr (.bool (decide ((300) < (((l.getD (i) dXac).1.bytes : List UInt8).length)))) rfl)) (fun hG20 => Yk.move T5 ⟨rfl, rfl⟩) ?_))))))))
  have hl24 : (!(decide ((300) < (((l.getD (i) dXac).1.bytes : List UInt8).length)))) = true → (xacC (l.getD (i) dXac)).length = 6 := fun hG21 => (RG.elem (hl.keep hE) dXac (by first | omega | (simp only [gA, gB, gC, gD, gE] at hG21; omega)))
  refine opsF_mayX (fun v22 => PR (xacC (l.getD (i) dXac)) v22 w9) rfl rfl (gF (vr (.bool (decide ((300) < (((l.getD (i) dXac).1.bytes : List UInt8).length)))) rfl)) (fun hG21 => Yk.atRG dwc_ty22 dwc_szg33 (by decide) dXac (RG.of (hl.keep hE) (mayT (vr (cond (!(decide ((300) < (((l.getD (i) dXac).1.bytes : List UInt8).length)))) (v) undef) rfl) hG21)) (mayT (vr (cond (!(decide ((300) < (((l.getD (i) dXac).1.bytes : List UInt8).length)))) (NI i) undef) rfl) hG21) (by first | omega | (simp only [gA, gB, gC, gD, gE] at hG21; omega)) fun _ h => ⟨h, rfl⟩) fun v22 hp23 => ?_
  refine opsF_mayX (fun v26 => PCell ((l.getD (i) dXac).2.fates) v26 w9) rfl rfl (gF (vr (.bool (decide ((300) < (((l.getD (i) dXac).1.bytes : List UInt8).length)))) rfl)) (fun hG25 => ?_) fun v26 hp27 => ?_
  ·refine Yk.fieldPR (n := 1) dwc_fo33_5 (PR.of (hp23 hG25) (vr v22 rfl)) fun v26 hp27 => ?_
   have hp27 : PCell ((l.getD (i) dXac).2.fates) v26 w9 := PR.pcell ((xac_f5 (l.getD (i) dXac)) ▸ hp27)
   exact ⟨hp27, rfl⟩
  refine opsF_mayV ((l.getD (i) dXac).2.fates) rfl rfl (gF (vr (.bool (decide ((300) < (((l.getD (i) dXac).1.bytes : List UInt8).length)))) rfl)) (fun hG28 => Yk.loadC dwc_ty25 rfl (PCell.of (hp27 hG28) (vr v26 rfl)) ⟨rfl, rfl⟩) (opsF_mayV (NI (((l.getD (i) dXac).1.fates).length)) rfl rfl (gF (vr (.bool (decide ((300) < (((l.getD (i) dXac).1.bytes : List UInt8).length)))) rfl)) (fun hG29 => Yk.lenRG dwc_ty25 (RG.of hxf (mayT (vr (cond (!(decide ((300) < (((l.getD (i) dXac).1.bytes : List UInt8).length)))) ((l.getD (i) dXac).2.fates) undef) rfl) hG29)) ⟨rfl, rfl⟩) (opsF_mayV (.bool (decide ((100) < (((l.getD (i) dXac).1.fates).length)))) rfl rfl (gF (vr (.bool (decide ((300) < (((l.getD (i) dXac).1.bytes : List UInt8).length)))) rfl)) (fun hG30 => Yk.eqI (a := ((((l.getD (i) dXac).1.fates).length : Nat) : Int)) (b := ((100 : Nat) : Int)) (mayT (vr (cond (!(decide ((300) < (((l.getD (i) dXac).1.bytes : List UInt8).length)))) (NI (((l.getD (i) dXac).1.fates).length)) undef) rfl) hG30) (vr (NI 100) rfl) (k_gtr _ .i64 (((l.getD (i) dXac).1.fates).length) (100)) ⟨rfl, rfl⟩) (oS rfl (Yk.pickOrN (vr (.bool (decide ((300) < (((l.getD (i) dXac).1.bytes : List UInt8).length)))) rfl) (vr (.bool (true)) rfl) (fun hA => (mayT (vr (cond (!(decide ((300) < (((l.getD (i) dXac).1.bytes : List UInt8).length)))) (.bool (decide ((100) < (((l.getD (i) dXac).1.fates).length)))) undef) rfl) (not_i hA))) fun bb31 hbb32 => (oZ ?_)))))
  clear hp15
  clear hp18
  clear hp23
  clear hp27
  refine tN (hK13 _ _ ?_)
  refine wpF_condB (bb31) (vr (.bool (bb31)) rfl) (fun hc2 => ?_) (fun hc2 => ?_)
  ·subst hbb32
   refine sk fun K33 hK33 => (wt (oA rfl (oZ (tN (hK33 _ _ (wpF_ret (inBlockF_ret (thenF_ret (thenF_ret (inBlockF_ret (thenF_ret (postF_ret (fn := Try.f7) _ rfl [.bool (false)] (.bool (false)) rfl ⟨rfl, trivial⟩ ?_))))))))))))
   exact ⟨by rw [show lightB l most = false from lightB_no hlt hc2], hE⟩
  subst hbb32
  refine wpF_skip (bN (tN (hK12 _ _ (wt (oM rfl (oS rfl (Yk.bin (xv := NI i) (yv := NI 1) T5 rfl rfl (i64_add _ _ _ (by omega)) (oA rfl (oL_ [(0, v), (1, NI most), (5, NI ((i) + (1)))] ⟨T0, T1, rfl, trivial⟩ fun ρ34 ⟨T0, T1, T5, _⟩ => (tN (And.intro ⟨i + 1, T0, T1, T5, hE, by omega, all_stepX dXac hlt hq (by show (!(_ || _)) = true; exact (congrArg not hc2)), trivial⟩ ?_)))))))))))
  show l.length - (intOf (ρ34 5)).toNat < l.length - (intOf (ρ8 5)).toNat
  rw [T5, q5]
  simp only [intOf, Int.toNat_natCast]; omega
 refine wpF_exit (thenF_exit (thenF_exit (inBlockF_hit (tN (hK5 _ _ (sk fun K35 hK35 => (wt (oA rfl (oZ (tN (hK35 _ _ (wpF_ret (postF_ret (fn := Try.f7) _ rfl [.bool (true)] (.bool (true)) rfl ⟨rfl, trivial⟩ ?_)))))))))))))
 have hie : i = l.length := by have h := hc1; omega
 rw [hie, List.take_length] at hq
 exact ⟨by rw [show lightB l most = true from by unfold lightB; rw [decide_eq_false hc0, hq]; rfl], hE⟩

theorem do_at (wb w : World) (g : Nat) (H : Dk) (D : Dsk) (hD : DkG wb w g H D) (x : XactV) (hx : XactAt wb x) (hbl : x.1.bytes.length < 1099511627776) (hL : DLt D) :
  Calls Try.prog 9 #[PQ g 0, .agg (xacC x).toArray] w fun e w' => ∃ H', e = .returned (.tuple #[]) ∧ DkG wb w' g H' (actP D x.1) ∧ Chg (Foot H D.files.length) w w' := by
 have hE0 := hD.ext
 have hxb := (hx.keep hE0).bytes
 have hxf := (hx.keep hE0).fates
 refine calls_of_wpF (args := [PQ g 0, .agg (xacC x).toArray]) Try.func9 rfl 49 rfl (Nat.le_of_ble_eq_true rfl) ?_
 intro ρ0 hb
 have T0 : ρ0 0 = (PQ g 0 : Value) := hb.get 0
 have T1 : ρ0 1 = (.agg (xacC x).toArray : Value) := hb.get 1
 clear hb
 have hE := Ext.refl w
 refine sk fun K1 hK1 => (wt (oS rfl (Yk.box (cs := (xacC x : List Value).toArray) T1 fun n2 w3 hn4 hb5 hx6 hs7 => ?_)))
 have hA8 := Ext.refl w
 have hea9 := hE
 have hea10 := hE0
 have hz11 := hE.size
 have hz12 := hE0.size
 have hE := hE.trans hx6
 have hA8 := hA8.trans hx6
 have hb13 := hb5; clear hb5
 have hl14 : n2 < w3.heap.size := by omega
 refine oZ ?_
 have hbd := tmod_bd x.1.kind 6
 refine tN (hK1 _ _ (sk fun K15 hK15 => (wt (oS rfl (Yk.fieldAt dwc_fo33_0 (vr (PQ n2 0) rfl) (oS rfl (Yk.cell1 dwc_ty3 rfl (vr (PQ n2 0) rfl) (cellAt hb13 (show (xacC x)[0]? = some (.int .i64 (x.1.kind : Int) : Value) from xac_g0 x)) (oS rfl (Yk.bin (xv := .int .i64 (x.1.kind)) (yv := NI 7) rfl rfl rfl (zi_rem _ (x.1.kind) _ (by decide)) (oS rfl (Yk.bin (xv := .int .i64 ((Int.tmod (x.1.kind) ((6 + 1 : Nat) : Int)))) (yv := .int .i64 (((7 : Nat) : Int))) rfl rfl rfl (zi_add _ ((Int.tmod (x.1.kind) ((6 + 1 : Nat) : Int))) (((7 : Nat) : Int)) (by omega)) (oS rfl (Yk.bin (xv := .int .i64 ((((Int.tmod (x.1.kind) ((6 + 1 : Nat) : Int))) + (((7 : Nat) : Int))))) (yv := NI 7) rfl rfl rfl (zi_fate _ (x.1.kind) 6 _ (by omega)) (oZ (tN (hK15 _ _ (wpF_block (sk fun K16 hK16 => (wt (oS rfl (Yk.eqI (a := ((kindA x.1.kind) : Nat)) (b := (0 : Nat)) rfl rfl (k_eql _ _ _ _) (oA rfl (oZ ?_)))))))))))))))))))))))
 refine tN (hK16 _ _ ?_)
 refine wpF_cond (((kindA x.1.kind) : Nat) = (0)) (vr (.bool (decide (((kindA x.1.kind) : Nat) = (0)))) rfl) (fun hc0 => ?_) (fun hc0 => ?_)
 ·have hV : actP D x.1 = (appendD D x.1.name x.1.bytes).1 := by unfold actP; rw [if_pos hc0]
  refine wt (oM rfl (oS rfl (Yk.fieldAt dwc_fo33_1 (vr (PQ n2 0) rfl) (oS rfl (Yk.cell1 dwc_ty9 rfl (vr (PQ n2 1) rfl) (cellAt hb13 (show (xacC x)[1]? = some (St (x.1.name) : Value) from xac_g1 x)) (oS rfl (Yk.fieldAt dwc_fo33_3 (vr (PQ n2 0) rfl) (oS rfl (Yk.cell1 dwc_ty24 rfl (vr (PQ n2 3) rfl) (cellAt hb13 (show (xacC x)[3]? = some (x.2.bytes : Value) from xac_g3 x)) ?_)))))))))
  have hEc := hE
  have hDc := (hD.keep hE)
  refine oS rfl (Yk.callA3 dwc_pl13 T0 (vr (St (x.1.name)) rfl) (vr x.2.bytes rfl) ((hDc.append x.1.name x.2.bytes x.1.bytes (hxb.keep hE) (hDc.off hx.bytes) hbl hL).mono ?_))
  rintro e w17 ⟨H2, rfl, hD2, hC2⟩
  refine ⟨_, rfl, ?_⟩
  have hC3 : Chg (Foot H D.files.length) w _ := (Chg.ofExt hEc : Chg (Foot H D.files.length) w _).trans hC2 (fun i e => .inl e)
  refine oZ (bN (postF_end (fn := Try.f9) [] rfl [] (.tuple #[]) rfl trivial ?_))
  exact ⟨H2, rfl, by rw [hV]; exact hD2, hC3⟩
 refine sk fun K18 hK18 => (wt (oS rfl (Yk.eqI (a := ((kindA x.1.kind) : Nat)) (b := (1 : Nat)) rfl rfl (k_eql _ _ _ _) (oA rfl (oZ (tN (hK18 _ _ ?_)))))))
 refine wpF_cond (((kindA x.1.kind) : Nat) = (1)) (vr (.bool (decide (((kindA x.1.kind) : Nat) = (1)))) rfl) (fun hc1 => ?_) (fun hc1 => ?_)
 ·have hV : actP D x.1 = (syncD D x.1.name).1 := by unfold actP; rw [if_neg hc0, if_pos hc1]
  refine wt (oM rfl (oS rfl (Yk.fieldAt dwc_fo33_1 (vr (PQ n2 0) rfl) (oS rfl (Yk.cell1 dwc_ty9 rfl (vr (PQ n2 1) rfl) (cellAt hb13 (show (xacC x)[1]? = some (St (x.1.name) : Value) from xac_g1 x)) ?_)))))
  have hEc := hE
  have hDc := (hD.keep hE)
  refine oS rfl (Yk.callA2 dwc_pl14 T0 (vr (St (x.1.name)) rfl) ((hDc.sync x.1.name hL).mono ?_))
  rintro e w19 ⟨H2, rfl, hD2, hC2⟩
  refine ⟨_, rfl, ?_⟩
  have hC3 : Chg (Foot H D.files.length) w _ := (Chg.ofExt hEc : Chg (Foot H D.files.length) w _).trans hC2 (fun i e => .inl e)
  refine oZ (bN (postF_end (fn := Try.f9) [] rfl [] (.tuple #[]) rfl trivial ?_))
  exact ⟨H2, rfl, by rw [hV]; exact hD2, hC3⟩
 refine sk fun K20 hK20 => (wt (oS rfl (Yk.eqI (a := ((kindA x.1.kind) : Nat)) (b := (2 : Nat)) rfl rfl (k_eql _ _ _ _) (oA rfl (oZ (tN (hK20 _ _ ?_)))))))
 refine wpF_cond (((kindA x.1.kind) : Nat) = (2)) (vr (.bool (decide (((kindA x.1.kind) : Nat) = (2)))) rfl) (fun hc2 => ?_) (fun hc2 => ?_)
 ·have hV : actP D x.1 = (moveD D x.1.name x.1.to).1 := by unfold actP; rw [if_neg hc0, if_neg hc1, if_pos hc2]
  refine wt (oM rfl (oS rfl (Yk.fieldAt dwc_fo33_1 (vr (PQ n2 0) rfl) (oS rfl (Yk.cell1 dwc_ty9 rfl (vr (PQ n2 1) rfl) (cellAt hb13 (show (xacC x)[1]? = some (St (x.1.name) : Value) from xac_g1 x)) (oS rfl (Yk.fieldAt dwc_fo33_2 (vr (PQ n2 0) rfl) (oS rfl (Yk.cell1 dwc_ty9 rfl (vr (PQ n2 2) rfl) (cellAt hb13 (show (xacC x)[2]? = some (St (x.1.to) : Value) from xac_g2 x)) ?_)))))))))
  have hEc := hE
  have hDc := (hD.keep hE)
  refine oS rfl (Yk.callA3 dwc_pl25 T0 (vr (St (x.1.name)) rfl) (vr (St (x.1.to)) rfl) ((hDc.move x.1.name x.1.to hL).mono ?_))
  rintro e w21 ⟨H2, rfl, hD2, hC2⟩
  refine ⟨_, rfl, ?_⟩
  have hC3 : Chg (Foot H D.files.length) w _ := (Chg.ofExt hEc : Chg (Foot H D.files.length) w _).trans hC2 (fun i e => .inl e)
  refine oZ (bN (postF_end (fn := Try.f9) [] rfl [] (.tuple #[]) rfl trivial ?_))
  exact ⟨H2, rfl, by rw [hV]; exact hD2, hC3⟩
 refine sk fun K22 hK22 => (wt (oS rfl (Yk.eqI (a := ((kindA x.1.kind) : Nat)) (b := (3 : Nat)) rfl rfl (k_eql _ _ _ _) (oA rfl (oZ (tN (hK22 _ _ ?_)))))))
 refine wpF_cond (((kindA x.1.kind) : Nat) = (3)) (vr (.bool (decide (((kindA x.1.kind) : Nat) = (3)))) rfl) (fun hc3 => ?_) (fun hc3 => ?_)
 ·have hV : actP D x.1 = (dropD D x.1.name).1 := by unfold actP; rw [if_neg hc0, if_neg hc1, if_neg hc2, if_pos hc3]
  refine wt (oM rfl (oS rfl (Yk.fieldAt dwc_fo33_1 (vr (PQ n2 0) rfl) (oS rfl (Yk.cell1 dwc_ty9 rfl (vr (PQ n2 1) rfl) (cellAt hb13 (show (xacC x)[1]? = some (St (x.1.name) : Value) from xac_g1 x)) ?_)))))
  have hEc := hE
  have hDc := (hD.keep hE)
  refine oS rfl (Yk.callA2 dwc_pl26 T0 (vr (St (x.1.name)) rfl) ((hDc.drop x.1.name hL).mono ?_))
  rintro e w23 ⟨H2, rfl, hD2, hC2⟩
  refine ⟨_, rfl, ?_⟩
  have hC3 : Chg (Foot H D.files.length) w _ := (Chg.ofExt hEc : Chg (Foot H D.files.length) w _).trans hC2 (fun i e => .inl e)
  refine oZ (bN (postF_end (fn := Try.f9) [] rfl [] (.tuple #[]) rfl trivial ?_))
  exact ⟨H2, rfl, by rw [hV]; exact hD2, hC3⟩
 refine sk fun K24 hK24 => (wt (oS rfl (Yk.eqI (a := ((kindA x.1.kind) : Nat)) (b := (5 : Nat)) rfl rfl (k_eql _ _ _ _) (oA rfl (oZ (tN (hK24 _ _ ?_)))))))
 refine wpF_cond (((kindA x.1.kind) : Nat) = (5)) (vr (.bool (decide (((kindA x.1.kind) : Nat) = (5)))) rfl) (fun hc4 => ?_) (fun hc4 => ?_)
 ·have hV : actP D x.1 = { D with arm := x.1.n.toNat } := by unfold actP; rw [if_neg hc0, if_neg hc1, if_neg hc2, if_neg hc3, if_pos hc4]
  refine wt (oM rfl (oS rfl (Yk.fieldAt dwc_fo33_4 (vr (PQ n2 0) rfl) (oS rfl (Yk.cell1 dwc_ty3 rfl (vr (PQ n2 4) rfl) (cellAt hb13 (show (xacC x)[4]? = some (.int .i64 (x.1.n : Int) : Value) from xac_g4 x)) ?_)))))
  have hEc := hE
  have hDc := (hD.keep hE)
  refine oS rfl (Yk.callA2 dwc_pl12 T0 (vr (.int .i64 (x.1.n : Int)) rfl) ((hDc.arm x.1.n).mono ?_))
  rintro e w25 ⟨H2, rfl, hD2, hC2⟩
  refine ⟨_, rfl, ?_⟩
  have hC3 : Chg (Foot H D.files.length) w _ := (Chg.ofExt hEc : Chg (Foot H D.files.length) w _).trans hC2 (fun i e => .inl e)
  refine oZ (bN (postF_end (fn := Try.f9) [] rfl [] (.tuple #[]) rfl trivial ?_))
  exact ⟨H2, rfl, by rw [hV]; exact hD2, hC3⟩
 refine sk fun K26 hK26 => (wt (oS rfl (Yk.eqI (a := ((kindA x.1.kind) : Nat)) (b := (6 : Nat)) rfl rfl (k_eql _ _ _ _) (oA rfl (oZ (tN (hK26 _ _ ?_)))))))
 refine wpF_cond (((kindA x.1.kind) : Nat) = (6)) (vr (.bool (decide (((kindA x.1.kind) : Nat) = (6)))) rfl) (fun hc5 => ?_) (fun hc5 => ?_)
 ·have hV : actP D x.1 = crashD D x.1.fates := by unfold actP; rw [if_neg hc0, if_neg hc1, if_neg hc2, if_neg hc3, if_neg hc4, if_pos hc5]
  refine wt (oM rfl (oS rfl (Yk.fieldAt dwc_fo33_5 (vr (PQ n2 0) rfl) (oS rfl (Yk.cell1 dwc_ty25 rfl (vr (PQ n2 5) rfl) (cellAt hb13 (show (xacC x)[5]? = some (x.2.fates : Value) from xac_g5 x)) ?_)))))
  have hEc := hE
  have hDc := (hD.keep hE)
  refine oS rfl (Yk.callA2 dwc_pl11 T0 (vr x.2.fates rfl) ((hDc.crash x.2.fates x.1.fates (hxf.keep hE) hL).mono ?_))
  rintro e w27 ⟨H2, rfl, hD2, hC2⟩
  refine ⟨_, rfl, ?_⟩
  have hC3 : Chg (Foot H D.files.length) w _ := (Chg.ofExt hEc : Chg (Foot H D.files.length) w _).trans hC2 (fun i e => .inl e)
  refine oZ (bN (postF_end (fn := Try.f9) [] rfl [] (.tuple #[]) rfl trivial ?_))
  exact ⟨H2, rfl, by rw [hV]; exact hD2, hC3⟩
 have hV : actP D x.1 = D := by unfold actP; rw [if_neg hc0, if_neg hc1, if_neg hc2, if_neg hc3, if_neg hc4, if_neg hc5]
 refine wpF_skip (bN (postF_end (fn := Try.f9) [] rfl [] (.tuple #[]) rfl trivial ?_))
 exact ⟨H, rfl, by rw [hV]; exact (hD.keep hE), Chg.ofExt hE⟩

theorem awake06 (w : World) :
  Calls Try.prog 16 #[] w fun e w' => e = .returned (.bool true) ∧ Ext w w' := by
 refine calls_of_wpF (args := []) Try.func16 rfl 62 rfl (Nat.le_of_ble_eq_true rfl) ?_
 intro ρ0 hb
 clear hb
 have hE := Ext.refl w
 refine sk fun K1 hK1 => (wt (oA rfl (oZ (tN (hK1 _ _ (sk fun K2 hK2 => (wt (oS rfl (Yk.callA1 dwc_pl8 (vr (NI 100) rfl) ((new_g w _ hE 100 (by decide)).mono ?_))))))))))
 rintro e w4 ⟨g1, H1, rfl, hD1, hx3⟩
 refine ⟨_, rfl, ?_⟩
 have hE := hE.trans hx3
 refine oA rfl (oZ ?_)
 have hDb := hD1
 refine tN (hK2 _ _ (sk fun K5 hK5 => (sk fun K6 hK6 => (wt (oM rfl (oS rfl (Yk.litN (e := 5) ([120, 121] : List UInt8) (by decide) (fun _ _ => by kernel_rfl) fun v7 w8 hN9 => ?_)))))))
 have hA10 := Ext.refl w4
 have hea11 := hE
 have hz12 := hE.size
 have hE := hE.trans hN9.ext
 have hA10 := hA10.trans hN9.ext
 have ho13 := hN9.own; clear hN9
 have hoB := ho13
 have hoB := ho13
 refine oS rfl (Yk.convMark dwc_ty24 dwc_ty5 (vr v7 rfl) ho13 (by decide) fun w14 hr15 hg16 => ?_)
 have hE := ext_grew hE hg16 ho13 hz12
 have hA10 := ext_grew hA10 hg16 ho13 (Nat.le_refl _)
 clear ho13
 have hDc := (hD1.keep hA10)
 refine oS rfl (Yk.callA3 dwc_pl13 (vr (PQ g1 0) rfl) (vr (St (([97] : List UInt8))) rfl) (vr v7 rfl) ((Calls.res (hDc.append [97] v7 [120, 121] hr15 (.inr (fun i hi q => by have h1 := (hDb.st.foot q).2.1; have h2 := (hoB.lt i hi).1; omega)) (by decide) aw_l0) (show (appendD (newD 100) [97] [120, 121]).2 = 0 from by kernel_rfl)).mono ?_))
 rintro e w20 ⟨H17, rfl, hD18, hC19⟩
 refine ⟨_, rfl, ?_⟩
 have hE : Ext w w20 := hD18.ext
 clear hA10
 clear hr15
 have hD1 := hD18
 refine oS rfl (Yk.eqI (a := (0 : Nat)) (b := (0 : Nat)) rfl rfl (k_neq _ _ _ _) (oM rfl (oY (d := 13) rfl rfl (vr (.bool (false)) (congrArg Value.bool (decide_eq_false (by decide)))) (Yk.move (vr (PQ g1 0) rfl) ?_))))
 have hDc := hD1
 refine oY (d := 13) rfl rfl (vr (.bool (false)) (congrArg Value.bool (decide_eq_false (by decide)))) (Yk.callA2 dwc_pl14 (vr (PQ g1 0) rfl) (vr (St (([97] : List UInt8))) rfl) ((Calls.res (hDc.sync [97] aw_l1) (show (syncD awA [97]).2 = 0 from by kernel_rfl)).mono ?_))
 rintro e w24 ⟨H21, rfl, hD22, hC23⟩
 refine ⟨_, rfl, ?_⟩
 have hE : Ext w w24 := hD22.ext
 clear hD1
 have hD1 := hD22
 have hDb := hD1
 refine oY (d := 13) rfl rfl (vr (.bool (false)) (congrArg Value.bool (decide_eq_false (by decide)))) (Yk.eqI (a := (0 : Nat)) (b := (0 : Nat)) rfl rfl (k_neq _ _ _ _) (oS rfl (Yk.pickF (vr (.bool (false)) (congrArg Value.bool (decide_eq_false (by decide)))) (vr (.bool (false)) (congrArg Value.bool (decide_eq_false (by decide)))) (oM rfl (oY (d := 18) rfl rfl (vr (.bool (false)) rfl) (Yk.move (vr (PQ g1 0) rfl) (oY (d := 18) rfl rfl (vr (.bool (false)) rfl) (Yk.lit1 (b := 122) dwc_l1_24 (vr (B8 (122)) rfl) fun v25 w26 hN27 => ?_))))))))
 have hA28 := Ext.refl w24
 have hea29 := hE
 have hz30 := hE.size
 have hE := hE.trans hN27.ext
 have hA28 := hA28.trans hN27.ext
 have ho31 := hN27.own; clear hN27
 have hoB := ho31
 have hoB := ho31
 refine oY (d := 18) rfl rfl (vr (.bool (false)) rfl) (Yk.convMark dwc_ty24 dwc_ty5 (vr v25 rfl) ho31 (by decide) fun w32 hr33 hg34 => ?_)
 have hE := ext_grew hE hg34 ho31 hz30
 have hA28 := ext_grew hA28 hg34 ho31 (Nat.le_refl _)
 clear ho31
 have hDc := (hD1.keep hA28)
 refine oY (d := 18) rfl rfl (vr (.bool (false)) rfl) (Yk.callA3 dwc_pl13 (vr (PQ g1 0) rfl) (vr (St (([97] : List UInt8))) rfl) (vr v25 rfl) ((Calls.res (hDc.append [97] v25 [122] hr33 (.inr (fun i hi q => by have h1 := (hDb.st.foot q).2.1; have h2 := (hoB.lt i hi).1; omega)) (by decide) aw_l2) (show (appendD (awB) [97] [122]).2 = 0 from by kernel_rfl)).mono ?_))
 rintro e w38 ⟨H35, rfl, hD36, hC37⟩
 refine ⟨_, rfl, ?_⟩
 have hE : Ext w w38 := hD36.ext
 clear hA28
 clear hr33
 have hD1 := hD36
 refine oY (d := 18) rfl rfl (vr (.bool (false)) rfl) (Yk.eqI (a := (0 : Nat)) (b := (0 : Nat)) rfl rfl (k_neq _ _ _ _) (oS rfl (Yk.pickF (vr (.bool (false)) rfl) (vr (.bool (false)) (congrArg Value.bool (decide_eq_false (by decide)))) (oZ (tN (hK6 _ _ (wpF_false (vr (.bool (false)) rfl) (wpF_skip (tN (hK5 _ _ (sk fun K39 hK39 => (wt (oM rfl (oS rfl (Yk.lits (e := 3) (cs := #[.int .i64 0, .int .i64 0]) (fun w => by kernel_rfl) fun b40 w41 hn42 hb43 hx44 hs45 => ?_)))))))))))))))
 have hE := hE.trans hx44
 have hD1 := hD1.keep hx44
 have hr46 : RG 1 enI w41 (.slice (some ⟨b40, 0, none⟩) 2 2) [0, 0] := rg_ints (l := [0, 0]) (by decide) hb43
 have hDc := hD1
 refine oS rfl (Yk.callA2 dwc_pl11 (vr (PQ g1 0) rfl) (vr (.slice (some ⟨b40, 0, none⟩) 2 2) rfl) ((hDc.crash (.slice (some ⟨b40, 0, none⟩) 2 2) [0, 0] hr46 aw_l3).mono ?_))
 rintro e w50 ⟨H47, rfl, hD48, hC49⟩
 refine ⟨_, rfl, ?_⟩
 have hE : Ext w w50 := hD48.ext
 clear hD1
 clear hr46
 have hD1 := hD48
 refine oZ (tN (hK39 _ _ (sk fun K51 hK51 => (wt (oM rfl ?_)))))
 have hDc := hD1
 refine oS rfl (Yk.callA2 dwc_pl15 (vr (PQ g1 0) rfl) (vr (St (([97] : List UInt8))) rfl) ((Calls.resR (hDc.read [97] aw_l4) (show readD (awD) [97] = ([120, 121], 0) from by kernel_rfl)).mono ?_))
 rintro e w55 ⟨v52, rfl, hr53, hx54⟩
 refine ⟨_, rfl, ?_⟩
 have hE := hE.trans hx54
 have hD1 := hD1.keep hx54
 refine oM rfl (oS rfl (Yk.extract (vs := [v52, NI 0]) (vr (.tuple #[v52, NI 0]) rfl) (show _ = some (v52 : Value) from rfl) (oS rfl (Yk.extract (vs := [v52, NI 0]) (vr (.tuple #[v52, NI 0]) rfl) (show _ = some (NI 0 : Value) from rfl) (oA rfl (oA rfl (oZ (tN (hK51 _ _ (sk fun K56 hK56 => (wt ?_)))))))))))
 have hA57 := Ext.refl w55
 have hea58 := hE
 have hz59 := hE.size
 have hwb2 := hE
 refine oS rfl (Yk.callA1 dwc_pl8 (vr (NI 100) rfl) ((new_g w55 _ hA57 100 (by decide)).mono ?_))
 rintro e w61 ⟨g2, H2, rfl, hD2, hx60⟩
 refine ⟨_, rfl, ?_⟩
 have hE := hE.trans hx60
 have hA57 := hA57.trans hx60
 refine oA rfl (oZ ?_)
 have hDb := hD2
 refine tN (hK56 _ _ (sk fun K62 hK62 => (wt (oM rfl (oS rfl (Yk.lit1 (b := 120) dwc_l1_24 (vr (B8 (120)) rfl) fun v63 w64 hN65 => ?_))))))
 have hA66 := Ext.refl w61
 have hea67 := hE
 have hea68 := hA57
 have hz69 := hE.size
 have hz70 := hA57.size
 have hE := hE.trans hN65.ext
 have hA57 := hA57.trans hN65.ext
 have hA66 := hA66.trans hN65.ext
 have ho71 := hN65.own; clear hN65
 have hoB := ho71
 have hoB := ho71
 refine oS rfl (Yk.convMark dwc_ty24 dwc_ty5 (vr v63 rfl) ho71 (by decide) fun w72 hr73 hg74 => ?_)
 have hE := ext_grew hE hg74 ho71 hz69
 have hA57 := ext_grew hA57 hg74 ho71 hz70
 have hA66 := ext_grew hA66 hg74 ho71 (Nat.le_refl _)
 clear ho71
 have hDc := (hD2.keep hA66)
 refine oS rfl (Yk.callA3 dwc_pl13 (vr (PQ g2 0) rfl) (vr (St (([97] : List UInt8))) rfl) (vr v63 rfl) ((Calls.res (hDc.append [97] v63 [120] hr73 (.inr (fun i hi q => by have h1 := (hDb.st.foot q).2.1; have h2 := (hoB.lt i hi).1; omega)) (by decide) aw_l0) (show (appendD (newD 100) [97] [120]).2 = 0 from by kernel_rfl)).mono ?_))
 rintro e w78 ⟨H75, rfl, hD76, hC77⟩
 refine ⟨_, rfl, ?_⟩
 have hE : Ext w w78 := hwb2.trans hD76.ext
 have hA57 : Ext w55 w78 := hD76.ext
 clear hA66
 clear hr73
 have hD2 := hD76
 refine oZ (tN (hK62 _ _ (sk fun K79 hK79 => (wt (oM rfl (oS rfl (Yk.lit1S (a := 0) (enc := enI) (vr (NI 0) rfl) rfl (fun w => dwc_lk25 _ w) fun v80 w81 hr82 hx83 => ?_)))))))
 have hE := hE.trans hx83
 have hA57 := hA57.trans hx83
 have hD2 := hD2.keep hx83
 have hDc := hD2
 refine oS rfl (Yk.callA2 dwc_pl11 (vr (PQ g2 0) rfl) (vr v80 rfl) ((hDc.crash v80 [0] hr82 aw_l5).mono ?_))
 rintro e w87 ⟨H84, rfl, hD85, hC86⟩
 refine ⟨_, rfl, ?_⟩
 have hE : Ext w w87 := hwb2.trans hD85.ext
 have hA57 : Ext w55 w87 := hD85.ext
 clear hD2
 clear hr82
 have hD2 := hD85
 refine oZ (tN (hK79 _ _ (sk fun K88 hK88 => (wt (oM rfl ?_)))))
 have hDc := hD2
 refine oS rfl (Yk.callA2 dwc_pl15 (vr (PQ g2 0) rfl) (vr (St (([97] : List UInt8))) rfl) ((Calls.resR (hDc.read [97] aw_l6) (show readD (awF) [97] = ([], 4) from by kernel_rfl)).mono ?_))
 rintro e w92 ⟨v89, rfl, hr90, hx91⟩
 refine ⟨_, rfl, ?_⟩
 have hE := hE.trans hx91
 have hA57 := hA57.trans hx91
 have hD2 := hD2.keep hx91
 refine oM rfl (oS rfl (Yk.extract (vs := [v89, NI 4]) (vr (.tuple #[v89, NI 4]) rfl) (show _ = some (v89 : Value) from rfl) (oS rfl (Yk.extract (vs := [v89, NI 4]) (vr (.tuple #[v89, NI 4]) rfl) (show _ = some (NI 4 : Value) from rfl) (oA rfl (oA rfl (oL_ [(0, .bool (false)), (1, PQ g1 0), (2, v52), (3, NI 0), (4, PQ g2 0), (6, NI 4), (24, .bool (false))] ⟨rfl, rfl, rfl, rfl, rfl, rfl, rfl, trivial⟩ fun ρ93 ⟨T0, T1, T2, T3, T4, T6, T24, _⟩ => (tN (hK88 _ _ (sk fun K94 hK94 => (wt (oM rfl (oS rfl (Yk.eqI (a := (0 : Nat)) (b := (0 : Nat)) T3 rfl (k_eql _ _ _ _) (oM rfl (oY (d := 48) rfl rfl (vr (.bool (true)) (congrArg Value.bool (decide_eq_true (rfl)))) (Yk.move T2 (oY (d := 48) rfl rfl (vr (.bool (true)) (congrArg Value.bool (decide_eq_true (rfl)))) (Yk.convRB dwc_ty24 dwc_ty5 dwc_ty9 (RB.of (hr53.keep hA57) (vr v52 rfl)) (oY (d := 48) rfl rfl (vr (.bool (true)) (congrArg Value.bool (decide_eq_true (rfl)))) (Yk.eqSt (l := [120, 121]) (m := ([120, 121] : List UInt8)) (.inl rfl) (vr (St ([120, 121])) rfl) (vr (St (([120, 121] : List UInt8))) rfl) (decide (([120, 121] : List UInt8) = (([120, 121] : List UInt8) : List UInt8))) rfl (oS rfl (Yk.pickT (vr (.bool (true)) (congrArg Value.bool (decide_eq_true (rfl)))) (vr (.bool (true)) (congrArg Value.bool (decide_eq_true (rfl)))) ?_)))))))))))))))))))))))
 refine oM rfl (oY (d := 53) rfl rfl (vr (.bool (true)) rfl) (Yk.move T6 (oY (d := 53) rfl rfl (vr (.bool (true)) rfl) (Yk.eqI (a := (4 : Nat)) (b := (4 : Nat)) rfl rfl (k_eql _ _ _ _) (oS rfl (Yk.pickT (vr (.bool (true)) rfl) (vr (.bool (true)) (congrArg Value.bool (decide_eq_true (rfl)))) (oM rfl (oY (d := 57) rfl rfl (vr (.bool (true)) rfl) (Yk.move T4 ?_)))))))))
 have hDc := hD2
 refine oY (d := 57) rfl rfl (vr (.bool (true)) rfl) (Yk.callA3 dwc_pl13 (vr (PQ g2 0) rfl) (vr (St (([] : List UInt8))) rfl) (vr (Value.slice none 0 0) rfl) ((Calls.res (hDc.append [] ((Value.slice none 0 0)) [] (RB.nil _) (.inl rfl) (by decide) aw_l6) (show (appendD (awF) [] []).2 = 10 from by kernel_rfl)).mono ?_))
 rintro e w98 ⟨H95, rfl, hD96, hC97⟩
 refine ⟨_, rfl, ?_⟩
 have hE : Ext w w98 := hwb2.trans hD96.ext
 have hA57 : Ext w55 w98 := hD96.ext
 clear hD2
 clear hr90
 have hD2 := hD96
 refine oY (d := 57) rfl rfl (vr (.bool (true)) rfl) (Yk.eqI (a := (10 : Nat)) (b := (10 : Nat)) rfl rfl (k_eql _ _ _ _) (oS rfl (Yk.pickT (vr (.bool (true)) rfl) (vr (.bool (true)) (congrArg Value.bool (decide_eq_true (rfl)))) (oA rfl (oZ (tN (hK94 _ _ (wpF_ret (postF_ret (fn := Try.f16) _ rfl [.bool (true)] (.bool (true)) rfl ⟨rfl, trivial⟩ ?_)))))))))
 exact ⟨rfl, hE⟩

open Go.RowKit
set_option linter.unusedVariables false
theorem DkG.og {wb w w' : World} {g : Nat} {H : Dk} {D : Dsk} (h : DkG wb w g H D) (hc : Chg (Foot H D.files.length) w w') {α : Type} {b k : Nat} {t : TypeId} {enc : α → List Value} {v : Value} {l : List α} (hr : OG b t k enc w v l) (h1 : t ≠ 63) (h2 : t ≠ 74) (h3 : t ≠ 5) (h4 : t ≠ 68) : OG b t k enc w' v l := by
  refine ⟨hr.1, ownsRow_chg hc hr.2 fun i hi q => ?_⟩
  have ht := tag_own hr.2 hi
  rcases (h.st.foot q).1 with ⟨es, c, e⟩ | ⟨cs, t', fr, e, ht'⟩
  · unfold tagW at ht
    rw [e] at ht
    cases ht
  · have := tag_cells e
    rw [this] at ht
    have ht : t' = t := by simpa using ht
    subst ht
    rcases ht' with q | q | q | q
    · exact h1 q
    · exact h2 q
    · exact h3 q
    · exact h4 q
structure CleanD (D : Dsk) : Prop where
  now : D.kept = D.now
  acts : D.acts = []
  arm : D.arm = 0
  down : D.down = false
  num : numD D.now = D.now
  len : D.files.length = D.now.length
  syn : ∀ x ∈ D.files, x.2 = x.1.length
theorem numD_numD (l : Dir) : numD (numD l) = numD l := by
  unfold numD
  rw [List.mapIdx_mapIdx]
  rfl
theorem crash_clean {D : Dsk} (h : DOk D) (l : List Int) : CleanD (crashD D l) := by
  refine ⟨rfl, rfl, rfl, rfl, numD_numD _, ?_, fun x hx => ?_⟩
  · show ((leftD D l).mapIdx _).length = (numD (leftD D l)).length
    unfold numD
    rw [List.length_mapIdx, List.length_mapIdx]
  · obtain ⟨i, hi, rfl⟩ := List.mem_mapIdx.1 hx
    exact (cutD_len h l i _).1.symm
theorem CleanD.crash {D : Dsk} (h : CleanD D) (l : List Int) : crashD D l = D := by
  have hL : leftD D l = D.now := by
    unfold leftD
    rw [h.acts, List.take_nil]
    exact h.now
  have hf : (D.now.mapIdx fun i e => cutD D l i e.2) = D.files := by
    refine List.ext_getElem (by rw [List.length_mapIdx, h.len]) fun i h1 h2 => ?_
    rw [List.getElem_mapIdx]
    have hi : i < D.now.length := by rw [List.length_mapIdx] at h1; exact h1
    have he : (D.now[i]).2 = i := by
      have : (numD D.now)[i]'(by rw [h.num]; exact hi) = D.now[i] := List.getElem_of_eq h.num _
      rw [← this]
      unfold numD
      rw [List.getElem_mapIdx]
    rw [he]
    have hfi : fileD D i = D.files[i] := by
      unfold fileD
      rw [List.getD_eq_getElem?_getD, List.getElem?_eq_getElem h2]
      rfl
    have hs := h.syn _ (List.getElem_mem h2)
    unfold cutD
    rw [hfi, hs, Nat.sub_self]
    have h0 : fateD l (i + 1) (0 + 1) = 0 := by have := fateD_lt l (i + 1) (n := 0 + 1) (by omega); omega
    show (List.take ((D.files[i]).1.length + fateD l (i + 1) (0 + 1)) (D.files[i]).1, (D.files[i]).1.length + fateD l (i + 1) (0 + 1)) = _
    rw [h0, Nat.add_zero, List.take_length]
    exact Prod.ext rfl hs.symm
  unfold crashD
  rw [hL, hf, h.num]
  cases D
  have h1 := h.now
  have h2 := h.acts
  have h3 := h.arm
  have h4 := h.down
  simp only at h1 h2 h3 h4
  subst h1 h2 h3 h4
  rfl
theorem read_ok {D : Dsk} {s : List UInt8} {k : Nat} (hd : D.down = false) (hm : mayD s = true) (h : lookD D.now s = some k) : readD D s = ((fileD D k).1, 0) := by
  have h0 : readyD D s s = 0 := by
    unfold readyD
    rw [if_neg (by rw [hd]; decide), if_pos ⟨hm, hm⟩]
  unfold readD hasD
  rw [if_neg (by rw [h0]; exact fun q => q rfl), h]
theorem list_read {D : Dsk} (h : DOk D) (hd : D.down = false) {i : Nat} (hi : i < (listD D).length) : (readD D ((listD D).getD i [])).2 = 0 := by
  have hl : listD D = D.now.map Prod.fst := if_neg (by rw [hd]; decide)
  rw [hl] at hi ⊢
  rw [List.length_map] at hi
  rw [getD_map hi]
  have hm := getD_mem_ (d := (([], 0) : List UInt8 × Nat)) hi
  rw [read_ok hd (h.now.may _ hm) (look_of h.now.sort hm)]
theorem list_lt {D : Dsk} (h : DOk D) (hd : D.down = false) {i : Nat} (hi : i < (listD D).length) (h0 : 0 < i) : Op.bytesLess ((listD D).getD (i - 1) []) ((listD D).getD i []) = true := by
  have hl : listD D = D.now.map Prod.fst := if_neg (by rw [hd]; decide)
  rw [hl] at hi ⊢
  rw [List.length_map] at hi
  rw [getD_map hi, getD_map (by omega)]
  rw [List.getD_eq_getElem?_getD, List.getElem?_eq_getElem (show i - 1 < D.now.length by omega), List.getD_eq_getElem?_getD, List.getElem?_eq_getElem hi]
  exact List.pairwise_iff_getElem.1 h.now.sort (i - 1) i (by omega) hi (by omega)
open Go.RowKit
set_option maxRecDepth 100000
set_option linter.unusedVariables false
set_option linter.unusedSimpArgs false
theorem dwd_pl7 : Plain Try.prog 7 := fun _ _ => by kernel_rfl
theorem dwd_ty25 : Try.prog.underlying 25 = some (.slice 3) := by kernel_rfl
theorem dwd_pl8 : Plain Try.prog 8 := fun _ _ => by kernel_rfl
theorem dwd_ty22 : Try.prog.underlying 22 = some (.slice 33) := by kernel_rfl
theorem dwd_szg33 : ∀ w' : World, (sizeOf 33).run Try.prog w' = .ok 6 w' := fun _ => by kernel_rfl
theorem dwd_ty33 : ∃ fs, Try.prog.underlying 33 = some (.struct fs) := struct_of (by kernel_rfl)
theorem dwd_isz33 : (Try.prog.info? 33).map (·.size) = some 6 := by kernel_rfl
theorem dwd_pl9 : Plain Try.prog 9 := fun _ _ => by kernel_rfl
theorem dwd_pl11 : Plain Try.prog 11 := fun _ _ => by kernel_rfl
theorem dwd_pl17 : Plain Try.prog 17 := fun _ _ => by kernel_rfl
theorem dwd_pl18 : Plain Try.prog 18 := fun _ _ => by kernel_rfl
theorem dwd_ty43 : Try.prog.underlying 43 = some (.slice 9) := by kernel_rfl
theorem dwd_pl10 : Plain Try.prog 10 := fun _ _ => by kernel_rfl
theorem dwd_szg9 : ∀ w' : World, (sizeOf 9).run Try.prog w' = .ok 1 w' := fun _ => by kernel_rfl
theorem dwd_ty9 : Try.prog.underlying 9 = some (.string) := by kernel_rfl
theorem dwd_pl15 : Plain Try.prog 15 := fun _ _ => by kernel_rfl
theorem dwd_pl16 : Plain Try.prog 16 := fun _ _ => by kernel_rfl
set_option maxHeartbeats 1600000
theorem diskDone_walk (w : World) (v : Value) (l : List XactV) (hl : RG 6 xacC w v l) (hk : ∀ x ∈ l, XactAt w x) (v1 : Value) (one : List Int) (h1 : RG 1 enI w v1 one) (v2 : Value) (two : List Int) (h2 : RG 1 enI w v2 two) :
  Calls Try.prog 4 #[v, v1, v2] w fun e w' => e = .returned (.bool true) ∧ Ext w w' := by
 refine calls_of_wpF (args := [v, v1, v2]) Try.func4 rfl 113 rfl (Nat.le_of_ble_eq_true rfl) ?_
 intro ρ0 hb
 have T0 : ρ0 0 = (v : Value) := hb.get 0
 have T1 : ρ0 1 = (v1 : Value) := hb.get 1
 have T2 : ρ0 2 = (v2 : Value) := hb.get 2
 clear hb
 have hE := Ext.refl w
 refine sk fun K1 hK1 => (wt (oA rfl (oZ (tN (hK1 _ _ (sk fun K2 hK2 => (sk fun K3 hK3 => (wt (oM rfl (oS rfl (Yk.callA2 dwd_pl7 T0 (vr (NI 60) rfl) ((light_any _ v l (hl.keep hE) (fun x hx => (hk x hx).keep hE) 60 (by decide)).mono ?_))))))))))))
 rintro e w5 ⟨rfl, hx4⟩
 refine ⟨_, rfl, ?_⟩
 have hE := hE.trans hx4
 refine oS rfl (Yk.notB (vr (.bool ((lightB l 60))) rfl) (oM rfl (opsF_mayV (v1) rfl rfl (gF (vr (.bool (!((lightB l 60)))) rfl)) (fun hG6 => Yk.move T1 ⟨rfl, rfl⟩) (opsF_mayV (NI one.length) rfl rfl (gF (vr (.bool (!((lightB l 60)))) rfl)) (fun hG7 => Yk.lenRG dwd_ty25 (RG.of (h1.keep hE) (mayT (vr (cond (!(!((lightB l 60)))) (v1) undef) rfl) hG7)) ⟨rfl, rfl⟩) (opsF_mayV (.bool (decide ((100) < (one.length)))) rfl rfl (gF (vr (.bool (!((lightB l 60)))) rfl)) (fun hG8 => Yk.eqI (a := ((one.length : Nat) : Int)) (b := ((100 : Nat) : Int)) (mayT (vr (cond (!(!((lightB l 60)))) (NI one.length) undef) rfl) hG8) (vr (NI 100) rfl) (k_gtr _ .i64 (one.length) (100)) ⟨rfl, rfl⟩) (oS rfl (Yk.pickOrN (vr (.bool (!((lightB l 60)))) rfl) (vr (.bool (true)) rfl) (fun hA => (mayT (vr (cond (!(!((lightB l 60)))) (.bool (decide ((100) < (one.length)))) undef) rfl) (not_i hA))) fun bb9 hbb10 => (oM rfl (opsF_mayV (v2) rfl rfl (gF (vr (.bool (bb9)) rfl)) (fun hG11 => Yk.move T2 ⟨rfl, rfl⟩) (opsF_mayV (NI two.length) rfl rfl (gF (vr (.bool (bb9)) rfl)) (fun hG12 => Yk.lenRG dwd_ty25 (RG.of (h2.keep hE) (mayT (vr (cond (!bb9) (v2) undef) rfl) hG12)) ⟨rfl, rfl⟩) (opsF_mayV (.bool (decide ((100) < (two.length)))) rfl rfl (gF (vr (.bool (bb9)) rfl)) (fun hG13 => Yk.eqI (a := ((two.length : Nat) : Int)) (b := ((100 : Nat) : Int)) (mayT (vr (cond (!bb9) (NI two.length) undef) rfl) hG13) (vr (NI 100) rfl) (k_gtr _ .i64 (two.length) (100)) ⟨rfl, rfl⟩) (oS rfl (Yk.pickOrN (vr (.bool (bb9)) rfl) (vr (.bool (true)) rfl) (fun hA => (mayT (vr (cond (!bb9) (.bool (decide ((100) < (two.length)))) undef) rfl) (not_i hA))) fun bb14 hbb15 => (oZ (tN (hK3 _ _ ?_))))))))))))))))
 refine wpF_condB (bb14) (vr (.bool (bb14)) rfl) (fun hc0 => ?_) (fun hc0 => ?_)
 ·refine sk fun K16 hK16 => (wt (oA rfl (oZ (tN (hK16 _ _ (wpF_ret (thenF_ret (postF_ret (fn := Try.f4) _ rfl [.bool (true)] (.bool (true)) rfl ⟨rfl, trivial⟩ ?_))))))))
  exact ⟨rfl, hE⟩
 subst hbb10 hbb15
 have hq := Bool.or_eq_false_iff.1 hc0
 have hq2 := Bool.or_eq_false_iff.1 hq.1
 have hL : lightB l 60 = true := by have := hq2.1; simpa using this
 have hln := (lightB_get hL).1
 have hl0 : DLt (newD 1048576) := (DBd.new (by decide)).lt (by decide)
 refine wpF_skip (tN (hK2 _ _ (sk fun K17 hK17 => (wt (oS rfl (Yk.callA1 dwd_pl8 (vr (NI 1048576) rfl) ((new_g w _ hE 1048576 (by decide)).mono ?_)))))))
 rintro e w19 ⟨g1, H1, rfl, hD, hx18⟩
 refine ⟨_, rfl, ?_⟩
 have hE := hE.trans hx18
 refine oA rfl (oZ (tN (hK17 _ _ (sk fun K20 hK20 => (sk fun K21 hK21 => (wt (oA rfl (oL_ [(0, v), (1, v1), (2, v2), (6, .bool (false)), (7, PQ g1 0), (8, NI 0)] ⟨T0, T1, T2, rfl, rfl, rfl, trivial⟩ fun ρ22 ⟨T0, T1, T2, T6, T7, T8, _⟩ => (tN (hK21 _ _ (wpF_block (wpF_loop (fun (ρ : Slots) (wz : World) => ∃ i : Nat, ∃ Hi : Dk, ρ 0 = (v : Value) ∧ ρ 1 = (v1 : Value) ∧ ρ 2 = (v2 : Value) ∧ ρ 6 = (.bool (false) : Value) ∧ ρ 7 = (PQ g1 0 : Value) ∧ ρ 8 = (NI i : Value) ∧ Ext w wz ∧ DkG w wz g1 Hi (playN (newD 1048576) l i) ∧ (i ≤ l.length) ∧ True) (fun ρ _ => l.length - (intOf (ρ 8)).toNat) ⟨0, H1, T0, T1, T2, T6, T7, T8, hE, hD, Nat.zero_le _, trivial⟩ ?_))))))))))))
 clear hD
 clear hE
 rintro ρ23 w24 ⟨i, Hi, T0, T1, T2, T6, T7, T8, hE, hD, hi, -⟩
 have q8 := T8
 refine sk fun K25 hK25 => (sk fun K26 hK26 => (wt (oM rfl (oM rfl (oS rfl (Yk.lenRG dwd_ty22 (RG.of (hl.keep hE) T0) (oS rfl (Yk.eqI (a := (i : Nat)) (b := (l.length : Nat)) T8 rfl (k_lss _ _ _ _) (oZ (tN (hK26 _ _ ?_)))))))))))
 refine wpF_cond ((i) < (l.length)) (vr (.bool (decide ((i) < (l.length)))) rfl) (fun hc1 => ?_) (fun hc1 => ?_)
 ·have hlt : i < l.length := hc1
  have hmem := getD_mem_ (d := dXac) hlt
  have hBi := DBd.play (q := 1048576) (by decide) hL (fun x hx => (hk x hx).n) hi
  have hbl := ((lightB_get hL).2 _ hmem).1
  refine wpF_skip (tN (hK25 _ _ (sk fun K27 hK27 => (wpF_block (wt (oM rfl (oM rfl (oM rfl ?_))))))))
  have hl30 : (xacC (l.getD (i) dXac)).length = 6 := (RG.elem (hl.keep hE) dXac (by omega))
  refine oS rfl (Yk.atRG dwd_ty22 dwd_szg33 (by decide) dXac (RG.of (hl.keep hE) T0) T8 (by omega) fun v28 hp29 => (oS rfl (Yk.loadPR (PR.of hp29 (vr v28 rfl)) (dwd_ty33).choose_spec rfl (by rw [xac_len]; exact dwd_isz33) ?_)))
  have hDc := hD
  refine oS rfl (Yk.callA2 dwd_pl9 T7 (vr (.agg (xacC (l.getD (i) dXac)).toArray) rfl) ((do_at _ _ _ _ _ hDc (l.getD (i) dXac) (hk _ hmem) (by omega) (hBi.lt (by omega))).mono ?_))
  rintro e w34 ⟨H31, rfl, hD32, hC33⟩
  refine ⟨_, rfl, ?_⟩
  rw [← playN_succ hlt] at hD32
  have hE : Ext w w34 := hD32.ext
  clear hD
  clear hp29
  have hD := hD32
  refine oZ (bN (tN (hK27 _ _ (wt (oM rfl (oS rfl (Yk.bin (xv := NI i) (yv := NI 1) T8 rfl rfl (i64_add _ _ _ (by omega)) (oA rfl (oL_ [(0, v), (1, v1), (2, v2), (6, .bool (false)), (7, PQ g1 0), (8, NI ((i) + (1)))] ⟨T0, T1, T2, T6, T7, rfl, trivial⟩ fun ρ35 ⟨T0, T1, T2, T6, T7, T8, _⟩ => (tN (And.intro ⟨i + 1, H31, T0, T1, T2, T6, T7, T8, hE, hD, by omega, trivial⟩ ?_)))))))))))
  show l.length - (intOf (ρ35 8)).toNat < l.length - (intOf (ρ23 8)).toNat
  rw [T8, q8]
  simp only [intOf, Int.toNat_natCast]; omega
 have hie : i = l.length := by have h := hc1; omega
 have hDe := hD
 have hBe := DBd.play (q := 1048576) (by decide) hL (fun x hx => (hk x hx).n) (Nat.le_refl l.length)
 rw [hie] at hDe
 obtain ⟨D0, hD0⟩ : ∃ D, D = playN (newD 1048576) l l.length := ⟨_, rfl⟩
 rw [← hD0] at hDe hBe
 have hD := hDe
 refine wpF_exit (thenF_exit (thenF_exit (inBlockF_hit (tN (hK20 _ _ (sk fun K36 hK36 => (wt (oM rfl (oM rfl ?_)))))))))
 have hDc := hD
 refine oS rfl (Yk.callA2 dwd_pl11 T7 T1 ((hDc.crash v1 one (h1.keep hE) (hBe.lt (by omega))).mono ?_))
 rintro e w40 ⟨H37, rfl, hD38, hC39⟩
 refine ⟨_, rfl, ?_⟩
 have hok0 := hDc.st.ok
 have hB1 := hBe.crash one
 obtain ⟨C, hCq⟩ : ∃ C, C = crashD D0 one := ⟨_, rfl⟩
 rw [← hCq] at hD38 hB1
 have hcl : CleanD C := hCq ▸ crash_clean hok0 one
 have hCc := hcl.crash two
 have hok := hD38.st.ok
 have hE : Ext w w40 := hD38.ext
 clear hD
 have hD := hD38
 refine oZ (tN (hK36 _ _ (sk fun K41 hK41 => (wt (oM rfl ?_)))))
 have hDc := hD
 have hA45 := Ext.refl w40
 have hea46 := hE
 have hz47 := hE.size
 refine oS rfl (Yk.callA1 dwd_pl17 T7 ((hDc.list (hB1.lt (by omega))).mono ?_))
 rintro e w48 ⟨v42, rfl, hr43, hx44⟩
 refine ⟨_, rfl, ?_⟩
 have hE := hE.trans hx44
 have hA45 := hA45.trans hx44
 refine oM rfl ?_
 have hDc := (hD.keep hA45)
 refine oS rfl (Yk.callA1 dwd_pl18 T7 ((hDc.used (hB1.lt (by omega))).mono ?_))
 rintro e w50 ⟨rfl, hx49⟩
 refine ⟨_, rfl, ?_⟩
 have hE := hE.trans hx49
 have hA45 := hA45.trans hx49
 have hr43 := hr43.keep hx49
 refine oA rfl (oA rfl (oZ (tN (hK41 _ _ (sk fun K51 hK51 => (wt (oM rfl (oM rfl ?_))))))))
 have hDc := (hD.keep hA45)
 refine oS rfl (Yk.callA2 dwd_pl11 T7 T2 ((hDc.crash v2 two (h2.keep hE) (hB1.lt (by omega))).mono ?_))
 rintro e w55 ⟨H52, rfl, hD53, hC54⟩
 refine ⟨_, rfl, ?_⟩
 rw [hCc] at hD53
 have hE : Ext w w55 := hD53.ext
 have hr43 : OG w40.heap.size 9 1 enS w55 v42 (listD C) := DkG.og hDc hC54 hr43 (by decide) (by decide) (by decide) (by decide)
 clear hA45
 have hD := hD53
 refine oZ (tN (hK51 _ _ (sk fun K56 hK56 => (wt (oM rfl ?_)))))
 have hDc := hD
 have hA60 := Ext.refl w55
 have hea61 := hE
 have hz62 := hE.size
 refine oS rfl (Yk.callA1 dwd_pl17 T7 ((hDc.list (hB1.lt (by omega))).mono ?_))
 rintro e w63 ⟨v57, rfl, hr58, hx59⟩
 refine ⟨_, rfl, ?_⟩
 have hE := hE.trans hx59
 have hr43 := hr43.keep hx59
 have hA60 := hA60.trans hx59
 refine oA rfl (oZ ?_)
 have hln9 : (listD C).length < 1099511627776 := by rw [show listD C = C.now.map Prod.fst from if_neg (by rw [hcl.down]; decide), List.length_map]; exact (hB1.lt (by omega)).now
 refine tN (hK56 _ _ (sk fun K64 hK64 => (sk fun K65 hK65 => (wt (oM rfl (oS rfl (Yk.lenRG dwd_ty43 (RG.of (RG.ofOwn hr58) (vr v57 rfl)) (oM rfl (oS rfl (Yk.lenRG dwd_ty43 (RG.of (RG.ofOwn hr43) (vr v42 rfl)) (oS rfl (Yk.eqI (a := (((listD C)).length : Nat)) (b := (((listD C)).length : Nat)) rfl rfl (k_neq _ _ _ _) (oM rfl (oY (d := 58) rfl rfl (vr (.bool (false)) (congrArg Value.bool (decide_eq_false (fun h => h rfl)))) (Yk.move T7 ?_)))))))))))))))
 have hDc := (hD.keep hA60)
 refine oY (d := 58) rfl rfl (vr (.bool (false)) (congrArg Value.bool (decide_eq_false (fun h => h rfl)))) (Yk.callA1 dwd_pl18 (vr (PQ g1 0) rfl) ((hDc.used (hB1.lt (by omega))).mono ?_))
 rintro e w67 ⟨rfl, hx66⟩
 refine ⟨_, rfl, ?_⟩
 have hE := hE.trans hx66
 have hr43 := hr43.keep hx66
 have hA60 := hA60.trans hx66
 have hr58 := hr58.keep hx66
 refine oY (d := 58) rfl rfl (vr (.bool (false)) (congrArg Value.bool (decide_eq_false (fun h => h rfl)))) (Yk.move (vr (NI (usedR C)) rfl) (oY (d := 58) rfl rfl (vr (.bool (false)) (congrArg Value.bool (decide_eq_false (fun h => h rfl)))) (Yk.eqI (a := ((usedR C) : Nat)) (b := ((usedR C) : Nat)) rfl rfl (k_neq _ _ _ _) (oS rfl (Yk.pickF (vr (.bool (false)) (congrArg Value.bool (decide_eq_false (fun h => h rfl)))) (vr (.bool (false)) (congrArg Value.bool (decide_eq_false (fun h => h rfl)))) (oM rfl (oY (d := 64) rfl rfl (vr (.bool (false)) rfl) (Yk.move T7 ?_))))))))
 have hDc := (hD.keep hA60)
 refine oY (d := 64) rfl rfl (vr (.bool (false)) rfl) (Yk.callA1 dwd_pl10 (vr (PQ g1 0) rfl) (((show Calls _ _ _ _ (fun e w2 => e = .returned (.bool false) ∧ Ext _ w2) from by have h := hDc.down; rw [hcl.down] at h; exact h)).mono ?_))
 rintro e w69 ⟨rfl, hx68⟩
 refine ⟨_, rfl, ?_⟩
 have hE := hE.trans hx68
 have hr43 := hr43.keep hx68
 have hA60 := hA60.trans hx68
 have hr58 := hr58.keep hx68
 refine oS rfl (Yk.pickF (vr (.bool (false)) rfl) (vr (.bool (false)) rfl) (oZ (tN (hK65 _ _ (wpF_false (vr (.bool (false)) rfl) (wpF_skip (tN (hK64 _ _ (sk fun K70 hK70 => (sk fun K71 hK71 => (wt (oA rfl (oL_ [(0, v), (1, v1), (2, v2), (6, .bool (false)), (7, PQ g1 0), (8, NI i), (9, v42), (10, NI (usedR C)), (11, v57), (12, NI 0), (67, .bool (false))] ⟨T0, T1, T2, T6, T7, T8, rfl, rfl, rfl, rfl, rfl, trivial⟩ fun ρ72 ⟨T0, T1, T2, T6, T7, T8, T9, T10, T11, T12, T67, _⟩ => (tN (hK71 _ _ (wpF_block (wpF_loop (fun (ρ : Slots) (wz : World) => ∃ j : Nat, ρ 0 = (v : Value) ∧ ρ 1 = (v1 : Value) ∧ ρ 2 = (v2 : Value) ∧ ρ 7 = (PQ g1 0 : Value) ∧ ρ 8 = (NI i : Value) ∧ ρ 9 = (v42 : Value) ∧ ρ 10 = (NI (usedR C) : Value) ∧ ρ 11 = (v57 : Value) ∧ ρ 67 = (.bool (false) : Value) ∧ ρ 12 = (NI j : Value) ∧ Ext w wz ∧ OG w40.heap.size 9 1 enS wz v42 (listD C) ∧ Ext w55 wz ∧ OG w55.heap.size 9 1 enS wz v57 (listD C) ∧ (j ≤ (listD C).length) ∧ True) (fun ρ _ => (listD C).length - (intOf (ρ 12)).toNat) ⟨0, T0, T1, T2, T7, T8, T9, T10, T11, T67, T12, hE, hr43, hA60, hr58, Nat.zero_le _, trivial⟩ ?_)))))))))))))))))
 clear hE hr43 hA60 hr58
 rintro ρ73 w74 ⟨j, T0, T1, T2, T7, T8, T9, T10, T11, T67, T12, hE, hr43, hA60, hr58, hj, -⟩
 have q12 := T12
 refine sk fun K75 hK75 => (sk fun K76 hK76 => (wt (oM rfl (oM rfl (oS rfl (Yk.lenRG dwd_ty43 (RG.of (RG.ofOwn hr43) T9) (oS rfl (Yk.eqI (a := (j : Nat)) (b := (((listD C)).length : Nat)) T12 rfl (k_lss _ _ _ _) (oZ (tN (hK76 _ _ ?_)))))))))))
 refine wpF_cond ((j) < (((listD C)).length)) (vr (.bool (decide ((j) < (((listD C)).length)))) rfl) (fun hc3 => ?_) (fun hc3 => ?_)
 ·have hltj : j < (listD C).length := hc3
  refine wpF_skip (tN (hK75 _ _ (sk fun K77 hK77 => (wpF_block (sk fun K78 hK78 => (wt (oM rfl (oM rfl (oM rfl ?_)))))))))
  have hl81 : (enS (((listD C)).getD (j) ([] : List UInt8))).length = 1 := (RG.elem (RG.ofOwn hr43) ([] : List UInt8) (by omega))
  refine oS rfl (Yk.atRG dwd_ty43 dwd_szg9 (by decide) ([] : List UInt8) (RG.of (RG.ofOwn hr43) T9) T12 (by omega) fun v79 hp80 => (oS rfl (Yk.loadC dwd_ty9 rfl (PR.cell (PR.of hp80 (vr v79 rfl)) (show _ = some (St (((listD C)).getD (j) ([] : List UInt8)) : Value) from rfl)) ?_)))
  have hDc := (hD.keep hA60)
  refine oS rfl (Yk.callA2 dwd_pl15 T7 (vr (St (((listD C)).getD (j) ([] : List UInt8))) rfl) ((Calls.resR (hDc.read ((listD C).getD j []) (hB1.lt (by omega))) (show readD (C) ((listD C).getD j []) = ((readD C ((listD C).getD j [])).1, 0) from Prod.ext rfl (list_read hok hcl.down hltj))).mono ?_))
  rintro e w85 ⟨v82, rfl, hr83, hx84⟩
  refine ⟨_, rfl, ?_⟩
  have hE := hE.trans hx84
  have hr43 := hr43.keep hx84
  have hA60 := hA60.trans hx84
  have hr58 := hr58.keep hx84
  have hp80 := PR.keep hp80 hx84
  refine oM rfl (oS rfl (Yk.extract (vs := [v82, NI 0]) (vr (.tuple #[v82, NI 0]) rfl) (show _ = some (v82 : Value) from rfl) (oS rfl (Yk.extract (vs := [v82, NI 0]) (vr (.tuple #[v82, NI 0]) rfl) (show _ = some (NI 0 : Value) from rfl) (oA rfl (oA rfl (oZ ?_)))))))
  clear hp80
  by_cases hj0 : 0 < j
  ·refine tN (hK78 _ _ (sk fun K86 hK86 => ?_))
   refine wpF_draw [Is (v57), Is (NI j), fun x w' => PR (enS (((listD C)).getD (j) ([] : List UInt8))) x w', Is (St (((listD C)).getD (j) ([] : List UInt8))), Is (v42), Is (NI j), fun x w' => PR (enS (((listD C)).getD (j) ([] : List UInt8))) x w', Is (St (((listD C)).getD (j) ([] : List UInt8))), Is (.bool (false)), Is (.bool (false)), Is (NI 0), Is (.bool (false)), Is (.bool (false)), Is (.bool (false)), Is (NI j), Is (.bool (true)), Is (.bool (true)), Is (v42), Is (NI j), Is (NI ((j) - (1))), fun x w' => PR (enS (((listD C)).getD ((j) - (1)) ([] : List UInt8))) x w', Is (St (((listD C)).getD ((j) - (1)) ([] : List UInt8))), Is (v42), Is (NI j), fun x w' => PR (enS (((listD C)).getD (j) ([] : List UInt8))) x w', Is (St (((listD C)).getD (j) ([] : List UInt8))), Is (.bool (!(Op.bytesLess (((listD C)).getD ((j) - (1)) ([] : List UInt8)) (((listD C)).getD (j) ([] : List UInt8))))), Is (.bool (!(Op.bytesLess (((listD C)).getD ((j) - (1)) ([] : List UInt8)) (((listD C)).getD (j) ([] : List UInt8))))), Is (.bool (!(Op.bytesLess (((listD C)).getD ((j) - (1)) ([] : List UInt8)) (((listD C)).getD (j) ([] : List UInt8)))))] (by kernel_rfl) [83, 84, 85, 86, 87, 88, 89, 90, 91, 92, 93, 94, 95, 96, 97, 98, 99, 100, 101, 102, 103, 104, 105, 106, 107, 108, 109, 110, 111] (by kernel_rfl) (by kernel_rfl) (si2 ⟨(fun _ _ _ h k => PR.keep h k), (si3 ⟨(fun _ _ _ h k => PR.keep h k), Stab.is _, (si12 ⟨(fun _ _ _ h k => PR.keep h k), (si3 ⟨(fun _ _ _ h k => PR.keep h k), (si4 trivial)⟩)⟩)⟩)⟩) ?hs1018 ?hQ1018
   case hs1018 =>
    refine ⟨?_, ?_, ?_, ?_, ?_, ?_, ?_, ?_, ?_, ?_, ?_, ?_, ?_, ?_, ?_, ?_, ?_, ?_, ?_, ?_, ?_, ?_, ?_, ?_, ?_, ?_, ?_, ?_, ?_, trivial⟩
    ·refine stepN rfl fun σ w1 hC h => ?_
     have e11 := (eqo (h 11 (by decide))).trans T11
     exact Yk.move e11 ⟨Ext.refl _, rfl⟩
    ·refine stepN rfl fun σ w1 hC h => ?_
     have e12 := (eqo (h 12 (by decide))).trans T12
     exact Yk.move e12 ⟨Ext.refl _, rfl⟩
    ·refine stepN rfl fun σ w1 hC h => ?_
     have e83 := eqo (h 83 (by decide))
     have e84 := eqo (h 84 (by decide))
     exact Yk.atRG dwd_ty43 dwd_szg9 (by decide) ([] : List UInt8) (RG.of (RG.ofOwn (hr58.keep hC)) e83) e84 (by omega) fun v h => ⟨Ext.refl _, h⟩
    ·refine stepN rfl fun σ w1 hC h => ?_
     have e85 : (fun x w' => PR (enS (((listD C)).getD (j) ([] : List UInt8))) x w') (σ 85) w1 := h 85 (by decide)
     exact Yk.loadC dwd_ty9 rfl (PR.cell e85 (show _ = some (St (((listD C)).getD (j) ([] : List UInt8)) : Value) from rfl)) ⟨Ext.refl _, rfl⟩
    ·refine stepN rfl fun σ w1 hC h => ?_
     have e9 := (eqo (h 9 (by decide))).trans T9
     exact Yk.move e9 ⟨Ext.refl _, rfl⟩
    ·refine stepN rfl fun σ w1 hC h => ?_
     have e12 := (eqo (h 12 (by decide))).trans T12
     exact Yk.move e12 ⟨Ext.refl _, rfl⟩
    ·refine stepN rfl fun σ w1 hC h => ?_
     have e87 := eqo (h 87 (by decide))
     have e88 := eqo (h 88 (by decide))
     exact Yk.atRG dwd_ty43 dwd_szg9 (by decide) ([] : List UInt8) (RG.of (RG.ofOwn (hr43.keep hC)) e87) e88 (by omega) fun v h => ⟨Ext.refl _, h⟩
    ·refine stepN rfl fun σ w1 hC h => ?_
     have e89 : (fun x w' => PR (enS (((listD C)).getD (j) ([] : List UInt8))) x w') (σ 89) w1 := h 89 (by decide)
     exact Yk.loadC dwd_ty9 rfl (PR.cell e89 (show _ = some (St (((listD C)).getD (j) ([] : List UInt8)) : Value) from rfl)) ⟨Ext.refl _, rfl⟩
    ·refine stepN rfl fun σ w1 hC h => ?_
     have e86 := eqo (h 86 (by decide))
     have e90 := eqo (h 90 (by decide))
     exact Yk.eqSt (l := ((listD C)).getD (j) ([] : List UInt8)) (m := ((listD C)).getD (j) ([] : List UInt8)) (.inr rfl) e86 e90 (decide (((listD C)).getD (j) ([] : List UInt8) ≠ (((listD C)).getD (j) ([] : List UInt8) : List UInt8))) rfl ⟨Ext.refl _, (congrArg Value.bool (decide_eq_false (fun h => h rfl)))⟩
    ·refine stepN rfl fun σ w1 hC h => ?_
     have e91 := eqo (h 91 (by decide))
     exact Yk.move e91 ⟨Ext.refl _, rfl⟩
    ·refine stepY 9 false 92 rfl rfl (fun _ _ h => h) fun σ w1 hC h => ?_
     have e14 : σ 14 = NI 0 := (eqo (h 14 (by decide))).trans rfl
     exact Yk.move e14 ⟨Ext.refl _, rfl⟩
    ·refine stepY 9 false 92 rfl rfl (fun _ _ h => h) fun σ w1 hC h => ?_
     have e93 := eqo (h 93 (by decide))
     exact Yk.eqI (a := (0 : Nat)) (b := (0 : Nat)) e93 rfl (k_neq _ _ _ _) ⟨Ext.refl _, (congrArg Value.bool (decide_eq_false (by decide)))⟩
    ·refine stepN rfl fun σ w1 hC h => ?_
     have e92 := eqo (h 92 (by decide))
     have e94 := eqo (h 94 (by decide))
     exact Yk.pickF e92 e94 ⟨Ext.refl _, rfl⟩
    ·refine stepN rfl fun σ w1 hC h => ?_
     have e95 := eqo (h 95 (by decide))
     exact Yk.move e95 ⟨Ext.refl _, rfl⟩
    ·refine stepY 13 false 96 rfl rfl (fun _ _ h => h) fun σ w1 hC h => ?_
     have e12 := (eqo (h 12 (by decide))).trans T12
     exact Yk.move e12 ⟨Ext.refl _, rfl⟩
    ·refine stepY 13 false 96 rfl rfl (fun _ _ h => h) fun σ w1 hC h => ?_
     have e97 := eqo (h 97 (by decide))
     exact Yk.eqI (a := (j : Nat)) (b := (0 : Nat)) e97 rfl (k_gtr _ _ _ _) ⟨Ext.refl _, (congrArg Value.bool (decide_eq_true (hj0)))⟩
    ·refine stepY 13 false 96 rfl rfl (fun _ _ h => h) fun σ w1 hC h => ?_
     have e98 := eqo (h 98 (by decide))
     exact Yk.move e98 ⟨Ext.refl _, rfl⟩
    ·refine stepY 16 true 99 rfl rfl (fun _ _ h => h) fun σ w1 hC h => ?_
     have e9 := (eqo (h 9 (by decide))).trans T9
     exact Yk.move e9 ⟨Ext.refl _, rfl⟩
    ·refine stepY 16 true 99 rfl rfl (fun _ _ h => h) fun σ w1 hC h => ?_
     have e12 := (eqo (h 12 (by decide))).trans T12
     exact Yk.move e12 ⟨Ext.refl _, rfl⟩
    ·refine stepY 16 true 99 rfl rfl (fun _ _ h => h) fun σ w1 hC h => ?_
     have e101 := eqo (h 101 (by decide))
     exact Yk.bin (xv := NI j) (yv := NI 1) e101 rfl rfl (i64_sub _ _ _ (by omega) (by omega)) ⟨Ext.refl _, rfl⟩
    ·refine stepY 16 true 99 rfl rfl (fun _ _ h => h) fun σ w1 hC h => ?_
     have e100 := eqo (h 100 (by decide))
     have e102 := eqo (h 102 (by decide))
     exact Yk.atRG dwd_ty43 dwd_szg9 (by decide) ([] : List UInt8) (RG.of (RG.ofOwn (hr43.keep hC)) e100) e102 (by omega) fun v h => ⟨Ext.refl _, h⟩
    ·refine stepY 16 true 99 rfl rfl (fun _ _ h => h) fun σ w1 hC h => ?_
     have e103 : (fun x w' => PR (enS (((listD C)).getD ((j) - (1)) ([] : List UInt8))) x w') (σ 103) w1 := h 103 (by decide)
     exact Yk.loadC dwd_ty9 rfl (PR.cell e103 (show _ = some (St (((listD C)).getD ((j) - (1)) ([] : List UInt8)) : Value) from rfl)) ⟨Ext.refl _, rfl⟩
    ·refine stepY 16 true 99 rfl rfl (fun _ _ h => h) fun σ w1 hC h => ?_
     have e9 := (eqo (h 9 (by decide))).trans T9
     exact Yk.move e9 ⟨Ext.refl _, rfl⟩
    ·refine stepY 16 true 99 rfl rfl (fun _ _ h => h) fun σ w1 hC h => ?_
     have e12 := (eqo (h 12 (by decide))).trans T12
     exact Yk.move e12 ⟨Ext.refl _, rfl⟩
    ·refine stepY 16 true 99 rfl rfl (fun _ _ h => h) fun σ w1 hC h => ?_
     have e105 := eqo (h 105 (by decide))
     have e106 := eqo (h 106 (by decide))
     exact Yk.atRG dwd_ty43 dwd_szg9 (by decide) ([] : List UInt8) (RG.of (RG.ofOwn (hr43.keep hC)) e105) e106 (by omega) fun v h => ⟨Ext.refl _, h⟩
    ·refine stepY 16 true 99 rfl rfl (fun _ _ h => h) fun σ w1 hC h => ?_
     have e107 : (fun x w' => PR (enS (((listD C)).getD (j) ([] : List UInt8))) x w') (σ 107) w1 := h 107 (by decide)
     exact Yk.loadC dwd_ty9 rfl (PR.cell e107 (show _ = some (St (((listD C)).getD (j) ([] : List UInt8)) : Value) from rfl)) ⟨Ext.refl _, rfl⟩
    ·refine stepY 16 true 99 rfl rfl (fun _ _ h => h) fun σ w1 hC h => ?_
     have e104 := eqo (h 104 (by decide))
     have e108 := eqo (h 108 (by decide))
     exact Yk.ltSt (l := ((listD C)).getD ((j) - (1)) ([] : List UInt8)) (m := ((listD C)).getD (j) ([] : List UInt8)) (.inr rfl) e104 e108 (!(Op.bytesLess (((listD C)).getD ((j) - (1)) ([] : List UInt8)) (((listD C)).getD (j) ([] : List UInt8)))) rfl ⟨Ext.refl _, rfl⟩
    ·refine stepY 13 false 96 rfl rfl (fun _ _ h => h) fun σ w1 hC h => ?_
     have e99 := eqo (h 99 (by decide))
     have e109 := eqo (h 109 (by decide))
     exact Yk.pickT e99 e109 ⟨Ext.refl _, rfl⟩
    ·refine stepN rfl fun σ w1 hC h => ?_
     have e96 := eqo (h 96 (by decide))
     have e110 := eqo (h 110 (by decide))
     exact Yk.pickF e96 e110 ⟨Ext.refl _, rfl⟩
   intro ρ87 w88 hx89 he hf
   obtain ⟨-, -, -, -, -, -, -, -, -, -, -, -, -, -, -, -, -, -, -, -, -, -, -, -, -, -, -, -, k111, -⟩ := hf
   obtain ⟨T0, T1, T2, T7, T8, T9, T10, T11, T12, T14, T67, -⟩ := he.hold [(0, _), (1, _), (2, _), (7, _), (8, _), (9, _), (10, _), (11, _), (12, _), (14, NI 0), (67, _)] ⟨T0, T1, T2, T7, T8, T9, T10, T11, T12, rfl, T67, trivial⟩ rfl
   clear he
   have hE := hE.trans hx89
   have hr43 := hr43.keep hx89
   have hA60 := hA60.trans hx89
   have hr58 := hr58.keep hx89
   have hr83 := hr83.keep hx89
   have T111 : ρ87 111 = .bool (!(Op.bytesLess (((listD C)).getD ((j) - (1)) ([] : List UInt8)) (((listD C)).getD (j) ([] : List UInt8)))) := k111
   clear k111
   refine tN (hK86 _ _ ?_)
   refine wpF_condB (!(Op.bytesLess (((listD C)).getD ((j) - (1)) ([] : List UInt8)) (((listD C)).getD (j) ([] : List UInt8)))) T111 (fun hc4 => ?_) (fun hc4 => ?_)
   ·refine sk fun K90 hK90 => (wt (oA rfl (oZ (tN (hK90 _ _ (wpF_ret (inBlockF_ret (thenF_ret (thenF_ret (inBlockF_ret (thenF_ret (postF_ret (fn := Try.f4) _ rfl [.bool (false)] (.bool (false)) rfl ⟨rfl, trivial⟩ ?_))))))))))))
    exact absurd hc4 (by rw [list_lt hok hcl.down hltj hj0]; decide)
   refine wpF_skip (bN (tN (hK77 _ _ (wt (oM rfl (oS rfl (Yk.bin (xv := NI j) (yv := NI 1) T12 rfl rfl (i64_add _ _ _ (by omega)) (oA rfl (oL_ [(0, v), (1, v1), (2, v2), (7, PQ g1 0), (8, NI i), (9, v42), (10, NI (usedR C)), (11, v57), (12, NI ((j) + (1))), (14, NI 0), (67, .bool (false))] ⟨T0, T1, T2, T7, T8, T9, T10, T11, rfl, T14, T67, trivial⟩ fun ρ91 ⟨T0, T1, T2, T7, T8, T9, T10, T11, T12, T14, T67, _⟩ => (tN (And.intro ⟨j + 1, T0, T1, T2, T7, T8, T9, T10, T11, T67, T12, hE, hr43, hA60, hr58, by omega, trivial⟩ ?_)))))))))))
   show (listD C).length - (intOf (ρ91 12)).toNat < (listD C).length - (intOf (ρ73 12)).toNat
   rw [T12, q12]
   simp only [intOf, Int.toNat_natCast]; omega
  refine tN (hK78 _ _ (sk fun K92 hK92 => ?_))
  refine wpF_draw [Is (v57), Is (NI j), fun x w' => PR (enS (((listD C)).getD (j) ([] : List UInt8))) x w', Is (St (((listD C)).getD (j) ([] : List UInt8))), Is (v42), Is (NI j), fun x w' => PR (enS (((listD C)).getD (j) ([] : List UInt8))) x w', Is (St (((listD C)).getD (j) ([] : List UInt8))), Is (.bool (false)), Is (.bool (false)), Is (NI 0), Is (.bool (false)), Is (.bool (false)), Is (.bool (false)), Is (NI j), Is (.bool (false)), Is (.bool (false)), Is undef, Is undef, Is undef, Is undef, Is undef, Is undef, Is undef, Is undef, Is undef, Is undef, Is (.bool (false)), Is (.bool (false))] (by kernel_rfl) [83, 84, 85, 86, 87, 88, 89, 90, 91, 92, 93, 94, 95, 96, 97, 98, 99, 100, 101, 102, 103, 104, 105, 106, 107, 108, 109, 110, 111] (by kernel_rfl) (by kernel_rfl) (si2 ⟨(fun _ _ _ h k => PR.keep h k), (si3 ⟨(fun _ _ _ h k => PR.keep h k), (si10 (si12 trivial))⟩)⟩) ?hs2018 ?hQ2018
  case hs2018 =>
   refine ⟨?_, ?_, ?_, ?_, ?_, ?_, ?_, ?_, ?_, ?_, ?_, ?_, ?_, ?_, ?_, ?_, ?_, ?_, ?_, ?_, ?_, ?_, ?_, ?_, ?_, ?_, ?_, ?_, ?_, trivial⟩
   ·refine stepN rfl fun σ w1 hC h => ?_
    have e11 := (eqo (h 11 (by decide))).trans T11
    exact Yk.move e11 ⟨Ext.refl _, rfl⟩
   ·refine stepN rfl fun σ w1 hC h => ?_
    have e12 := (eqo (h 12 (by decide))).trans T12
    exact Yk.move e12 ⟨Ext.refl _, rfl⟩
   ·refine stepN rfl fun σ w1 hC h => ?_
    have e83 := eqo (h 83 (by decide))
    have e84 := eqo (h 84 (by decide))
    exact Yk.atRG dwd_ty43 dwd_szg9 (by decide) ([] : List UInt8) (RG.of (RG.ofOwn (hr58.keep hC)) e83) e84 (by omega) fun v h => ⟨Ext.refl _, h⟩
   ·refine stepN rfl fun σ w1 hC h => ?_
    have e85 : (fun x w' => PR (enS (((listD C)).getD (j) ([] : List UInt8))) x w') (σ 85) w1 := h 85 (by decide)
    exact Yk.loadC dwd_ty9 rfl (PR.cell e85 (show _ = some (St (((listD C)).getD (j) ([] : List UInt8)) : Value) from rfl)) ⟨Ext.refl _, rfl⟩
   ·refine stepN rfl fun σ w1 hC h => ?_
    have e9 := (eqo (h 9 (by decide))).trans T9
    exact Yk.move e9 ⟨Ext.refl _, rfl⟩
   ·refine stepN rfl fun σ w1 hC h => ?_
    have e12 := (eqo (h 12 (by decide))).trans T12
    exact Yk.move e12 ⟨Ext.refl _, rfl⟩
   ·refine stepN rfl fun σ w1 hC h => ?_
    have e87 := eqo (h 87 (by decide))
    have e88 := eqo (h 88 (by decide))
    exact Yk.atRG dwd_ty43 dwd_szg9 (by decide) ([] : List UInt8) (RG.of (RG.ofOwn (hr43.keep hC)) e87) e88 (by omega) fun v h => ⟨Ext.refl _, h⟩
   ·refine stepN rfl fun σ w1 hC h => ?_
    have e89 : (fun x w' => PR (enS (((listD C)).getD (j) ([] : List UInt8))) x w') (σ 89) w1 := h 89 (by decide)
    exact Yk.loadC dwd_ty9 rfl (PR.cell e89 (show _ = some (St (((listD C)).getD (j) ([] : List UInt8)) : Value) from rfl)) ⟨Ext.refl _, rfl⟩
   ·refine stepN rfl fun σ w1 hC h => ?_
    have e86 := eqo (h 86 (by decide))
    have e90 := eqo (h 90 (by decide))
    exact Yk.eqSt (l := ((listD C)).getD (j) ([] : List UInt8)) (m := ((listD C)).getD (j) ([] : List UInt8)) (.inr rfl) e86 e90 (decide (((listD C)).getD (j) ([] : List UInt8) ≠ (((listD C)).getD (j) ([] : List UInt8) : List UInt8))) rfl ⟨Ext.refl _, (congrArg Value.bool (decide_eq_false (fun h => h rfl)))⟩
   ·refine stepN rfl fun σ w1 hC h => ?_
    have e91 := eqo (h 91 (by decide))
    exact Yk.move e91 ⟨Ext.refl _, rfl⟩
   ·refine stepY 9 false 92 rfl rfl (fun _ _ h => h) fun σ w1 hC h => ?_
    have e14 : σ 14 = NI 0 := (eqo (h 14 (by decide))).trans rfl
    exact Yk.move e14 ⟨Ext.refl _, rfl⟩
   ·refine stepY 9 false 92 rfl rfl (fun _ _ h => h) fun σ w1 hC h => ?_
    have e93 := eqo (h 93 (by decide))
    exact Yk.eqI (a := (0 : Nat)) (b := (0 : Nat)) e93 rfl (k_neq _ _ _ _) ⟨Ext.refl _, (congrArg Value.bool (decide_eq_false (by decide)))⟩
   ·refine stepN rfl fun σ w1 hC h => ?_
    have e92 := eqo (h 92 (by decide))
    have e94 := eqo (h 94 (by decide))
    exact Yk.pickF e92 e94 ⟨Ext.refl _, rfl⟩
   ·refine stepN rfl fun σ w1 hC h => ?_
    have e95 := eqo (h 95 (by decide))
    exact Yk.move e95 ⟨Ext.refl _, rfl⟩
   ·refine stepY 13 false 96 rfl rfl (fun _ _ h => h) fun σ w1 hC h => ?_
    have e12 := (eqo (h 12 (by decide))).trans T12
    exact Yk.move e12 ⟨Ext.refl _, rfl⟩
   ·refine stepY 13 false 96 rfl rfl (fun _ _ h => h) fun σ w1 hC h => ?_
    have e97 := eqo (h 97 (by decide))
    exact Yk.eqI (a := (j : Nat)) (b := (0 : Nat)) e97 rfl (k_gtr _ _ _ _) ⟨Ext.refl _, (congrArg Value.bool (decide_eq_false (hj0)))⟩
   ·refine stepY 13 false 96 rfl rfl (fun _ _ h => h) fun σ w1 hC h => ?_
    have e98 := eqo (h 98 (by decide))
    exact Yk.move e98 ⟨Ext.refl _, rfl⟩
   ·refine stepX 16 true 99 rfl rfl (fun x _ (h : x = .bool false) => by rw [h]; intro h; cases h) fun _ => rfl
   ·refine stepX 16 true 99 rfl rfl (fun x _ (h : x = .bool false) => by rw [h]; intro h; cases h) fun _ => rfl
   ·refine stepX 16 true 99 rfl rfl (fun x _ (h : x = .bool false) => by rw [h]; intro h; cases h) fun _ => rfl
   ·refine stepX 16 true 99 rfl rfl (fun x _ (h : x = .bool false) => by rw [h]; intro h; cases h) fun _ => rfl
   ·refine stepX 16 true 99 rfl rfl (fun x _ (h : x = .bool false) => by rw [h]; intro h; cases h) fun _ => rfl
   ·refine stepX 16 true 99 rfl rfl (fun x _ (h : x = .bool false) => by rw [h]; intro h; cases h) fun _ => rfl
   ·refine stepX 16 true 99 rfl rfl (fun x _ (h : x = .bool false) => by rw [h]; intro h; cases h) fun _ => rfl
   ·refine stepX 16 true 99 rfl rfl (fun x _ (h : x = .bool false) => by rw [h]; intro h; cases h) fun _ => rfl
   ·refine stepX 16 true 99 rfl rfl (fun x _ (h : x = .bool false) => by rw [h]; intro h; cases h) fun _ => rfl
   ·refine stepX 16 true 99 rfl rfl (fun x _ (h : x = .bool false) => by rw [h]; intro h; cases h) fun _ => rfl
   ·refine stepY 13 false 96 rfl rfl (fun _ _ h => h) fun σ w1 hC h => ?_
    have e99 := eqo (h 99 (by decide))
    exact Yk.pickF e99 (vr (.bool (false)) rfl) ⟨Ext.refl _, rfl⟩
   ·refine stepN rfl fun σ w1 hC h => ?_
    have e96 := eqo (h 96 (by decide))
    have e110 := eqo (h 110 (by decide))
    exact Yk.pickF e96 e110 ⟨Ext.refl _, rfl⟩
  intro ρ93 w94 hx95 he hf
  obtain ⟨-, -, -, -, -, -, -, -, -, -, -, -, -, -, -, -, -, -, -, -, -, -, -, -, -, -, -, -, k111, -⟩ := hf
  obtain ⟨T0, T1, T2, T7, T8, T9, T10, T11, T12, T14, T67, -⟩ := he.hold [(0, _), (1, _), (2, _), (7, _), (8, _), (9, _), (10, _), (11, _), (12, _), (14, NI 0), (67, _)] ⟨T0, T1, T2, T7, T8, T9, T10, T11, T12, rfl, T67, trivial⟩ rfl
  clear he
  have hE := hE.trans hx95
  have hr43 := hr43.keep hx95
  have hA60 := hA60.trans hx95
  have hr58 := hr58.keep hx95
  have hr83 := hr83.keep hx95
  have T111 : ρ93 111 = .bool (false) := k111
  clear k111
  refine tN (hK92 _ _ (wpF_false T111 (wpF_skip (bN (tN (hK77 _ _ (wt (oM rfl (oS rfl (Yk.bin (xv := NI j) (yv := NI 1) T12 rfl rfl (i64_add _ _ _ (by omega)) (oA rfl (oL_ [(0, v), (1, v1), (2, v2), (7, PQ g1 0), (8, NI i), (9, v42), (10, NI (usedR C)), (11, v57), (12, NI ((j) + (1))), (14, NI 0), (67, .bool (false)), (111, .bool (false))] ⟨T0, T1, T2, T7, T8, T9, T10, T11, rfl, T14, T67, T111, trivial⟩ fun ρ96 ⟨T0, T1, T2, T7, T8, T9, T10, T11, T12, T14, T67, T111, _⟩ => (tN (And.intro ⟨j + 1, T0, T1, T2, T7, T8, T9, T10, T11, T67, T12, hE, hr43, hA60, hr58, by omega, trivial⟩ ?_))))))))))))))
  show (listD C).length - (intOf (ρ96 12)).toNat < (listD C).length - (intOf (ρ73 12)).toNat
  rw [T12, q12]
  simp only [intOf, Int.toNat_natCast]; omega
 refine wpF_exit (thenF_exit (thenF_exit (inBlockF_hit (tN (hK70 _ _ (sk fun K97 hK97 => (wt (oS rfl (Yk.callA0 dwd_pl16  ((awake06 _).mono ?_))))))))))
 rintro e w99 ⟨rfl, hx98⟩
 refine ⟨_, rfl, ?_⟩
 have hE := hE.trans hx98
 have hr43 := hr43.keep hx98
 have hA60 := hA60.trans hx98
 have hr58 := hr58.keep hx98
 refine oA rfl (oZ (tN (hK97 _ _ (wpF_ret (postF_ret (fn := Try.f4) _ rfl [.bool (true)] (.bool (true)) rfl ⟨rfl, trivial⟩ ?_)))))
 exact ⟨rfl, hE⟩
end Go.Proofs.Ytejpjjhkjdpeaaa
