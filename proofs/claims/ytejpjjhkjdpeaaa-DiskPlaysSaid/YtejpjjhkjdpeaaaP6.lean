/- Part 6 of what stands behind these statements: laws and walks of the functions that are reached. Conditions: those that each theorem names. -/
import Derived.Test.YtejpjjhkjdpeaaaP5
set_option linter.unusedVariables false
set_option linter.unusedSimpArgs false
namespace Go.Proofs.Ytejpjjhkjdpeaaa
open Go.RowKit
set_option maxRecDepth 100000
set_option linter.unusedVariables false
set_option linter.unusedSimpArgs false
theorem rdat_new (P : Nat → Prop) (w : World) (q : Nat) : RdAt P w (newD q) V0 :=
 ⟨⟨[], ⟨rfl, fun i hi => absurd hi (Nat.not_lt_zero _)⟩, RG.nil _ _ _, .inl rfl⟩, ⟨RG.nil _ _ _, .inl rfl⟩, ⟨RG.nil _ _ _, .inl rfl⟩, ⟨RG.nil _ _ _, .inl rfl⟩, ⟨RG.nil _ _ _, .inl rfl⟩⟩
theorem addD_files (D : Dsk) (s b : List UInt8) : (addD D s b).files.length ≤ D.files.length + 1 := by
 unfold addD
 split
 ·show (D.files.set _ _).length ≤ _; rw [List.length_set]; omega
 ·show (D.files ++ [_]).length ≤ _; rw [List.length_append]; exact Nat.le_refl _
theorem did_files {D : Dsk} {f : Dsk → Dsk} (hf : ∀ E : Dsk, E.files = D.files → (f E).files.length ≤ D.files.length + 1) : (doD D f).1.files.length ≤ D.files.length + 1 := by
 have h := (arm_same D).1
 unfold doD
 split
 ·show (armD D).1.files.length ≤ _; rw [h]; omega
 ·exact hf _ h
theorem nfiles_act {n : Nat} {D : Dsk} (hB : DBd n D) (h : D.files.length ≤ n) (a : Xact) : (actP D a).files.length ≤ n + 1 := by
 unfold actP
 split
 ·unfold appendD
  split
  ·exact Nat.le_succ_of_le h
  split
  ·exact Nat.le_succ_of_le h
  ·have h1 := (arm_same D).1
   split
   ·show (armD D).1.files.length ≤ _; rw [h1]; omega
   ·have h2 := addD_files (armD D).1 a.name a.bytes
    rw [h1] at h2
    show (addD (armD D).1 a.name a.bytes).files.length ≤ _
    omega
 split
 ·unfold syncD
  split
  ·exact Nat.le_succ_of_le h
  ·refine Nat.le_trans (did_files fun E he => ?_) (Nat.succ_le_succ h)
   show (E.files.set _ _).length ≤ _
   rw [List.length_set, he]; omega
 split
 ·unfold moveD
  split
  ·exact Nat.le_succ_of_le h
  ·refine Nat.le_trans (did_files fun E he => ?_) (Nat.succ_le_succ h)
   show E.files.length ≤ _
   rw [he]; omega
 split
 ·unfold dropD
  split
  ·exact Nat.le_succ_of_le h
  ·refine Nat.le_trans (did_files fun E he => ?_) (Nat.succ_le_succ h)
   show E.files.length ≤ _
   rw [he]; omega
 split
 ·exact Nat.le_succ_of_le h
 split
 ·have h1 := left_len D a.fates
  have h2 := hB.acts
  have h3 : (crashD D a.fates).files.length = (leftD D a.fates).length := by
   rw [crash_eq]
   exact cutN_len D a.fates (leftD D a.fates) (Nat.le_refl _)
  omega
 ·exact Nat.le_succ_of_le h
theorem nfiles_play {q : Nat} {l : List XactV} {most : Nat} (hq : q ≤ 1073741824) (h : lightB l most = true) (hn : ∀ x ∈ l, x.1.n ≤ 9223372036854775807) : ∀ {n : Nat}, n ≤ l.length → (playN (newD q) l n).files.length ≤ n
 | 0, _ => Nat.le_refl 0
 | n + 1, hl => by
  rw [playN_succ (by omega)]
  exact nfiles_act (DBd.play hq h hn (by omega)) (nfiles_play hq h hn (by omega)) _
theorem list_len {D : Dsk} (h : DLt D) : (listD D).length < 1099511627776 := by
 have := h.now
 unfold listD
 split
 ·decide
 ·rw [List.length_map]; exact this
theorem played_to (wb w : World) (g : Nat) (H : Dk) (D : Dsk) (hD : DkG wb w g H D) (V : RdkW) (Q : Nat → Prop) (hQ : ∀ i, Q i → i < w.heap.size) (hR : RdAt (OffQ H D.files.length Q) w D V) (x : XactV) (hx : XactAt wb x) (hbl : x.1.bytes.length ≤ 300) (hfs : x.1.fates.length ≤ 100) (hL : DLt D) (hfn : D.files.length < 1099511627776) (hn1 : D.now.length + 1 < 1099511627776) (ha1 : D.acts.length + 1 < 1099511627776) (hf1 : D.files.length + 1 < 1099511627776) {D2 : Dsk} (h2 : D2 = actP D x.1) :
  Calls Try.prog 20 #[PQ g 0, .agg (rdkC (refP D, V)).toArray, .agg (xacC x).toArray] w fun e w' => ∃ H' V', e = .returned (.tuple #[.agg (rdkC (refP D2, V')).toArray, .bool true]) ∧ DkW wb w g H D w' H' D2 ∧ RdAt (OffQ H' D2.files.length Q) w' D2 V' := by
 subst h2
 exact played_at wb w g H D hD V Q hQ hR x hx hbl hfs hL hfn hn1 ha1 hf1
theorem texts_same (w : World) (v v2 : Value) (l : List (List UInt8)) (hl : RG 1 (enS) w v l) (hm : RG 1 (enS) w v2 l) (hll : l.length < 1099511627776) :
  Calls Try.prog 22 #[v, v2] w fun e w' => e = .returned (.bool true) ∧ Ext w w' :=
 (texts_any w v v2 l l hl hm hll).mono fun e w' ⟨he, hx⟩ => ⟨by rw [he, decide_eq_true rfl], hx⟩
theorem used_is {wb w : World} {g : Nat} {H : Dk} {D : Dsk} {b : Bool} (h : DkG wb w g H D) (hL : DLt D) (hd : D.down = b) :
  Calls Try.prog 18 #[PQ g 0] w fun e w' => e = .returned (NI (if b = true then 0 else usedD D)) ∧ Ext w w' :=
 (h.used hL).mono fun e w' ⟨he, hx⟩ => ⟨by rw [he]; unfold usedR; rw [hd], hx⟩
theorem down_is {wb w : World} {g : Nat} {H : Dk} {D : Dsk} {b : Bool} (h : DkG wb w g H D) (hd : D.down = b) :
  Calls Try.prog 10 #[PQ g 0] w fun e w' => e = .returned (.bool b) ∧ Ext w w' :=
 h.down.mono fun e w' ⟨he, hx⟩ => ⟨by rw [he, hd], hx⟩
theorem dwp_pl7 : Plain Try.prog 7 := fun _ _ => by kernel_rfl
theorem dwp_pl8 : Plain Try.prog 8 := fun _ _ => by kernel_rfl
theorem dwp_pl19 : Plain Try.prog 19 := fun _ _ => by kernel_rfl
theorem dwp_al50 {d : Option Tmp} {ty : TypeId} {pos : String} {af : Array Edge} {gd : Option (Nat × Bool)} (σ : Operand → Value) (w : World) : (execOp σ ⟨d, .alloc 50, ty, pos, af, gd⟩).run Try.prog w = .ok (.value (PQ w.heap.size 0)) (w.alloc (.cells (rdkC ((⟨false, 0, [], [], [], [], [], 0, 0, false⟩, ⟨.slice none 0 0, .slice none 0 0, .slice none 0 0, .slice none 0 0, .slice none 0 0⟩) : RdkV)).toArray 50)) := by kernel_rfl
theorem dwp_isz50 : (Try.prog.info? 50).map (·.size) = some 10 := by kernel_rfl
theorem dwp_ty29 : Try.prog.underlying 29 = some (.pointer 63) := by kernel_rfl
theorem dwp_fo50_0 : FieldOff Try.prog 50 0 0 := fun b o w => by simp [go_sem]
theorem dwp_ty4 : Try.prog.underlying 4 = some (.bool) := by kernel_rfl
theorem dwp_ty22 : Try.prog.underlying 22 = some (.slice 33) := by kernel_rfl
theorem dwp_ty50 : ∃ fs, Try.prog.underlying 50 = some (.struct fs) := struct_of (by kernel_rfl)
theorem dwp_pl17 : Plain Try.prog 17 := fun _ _ => by kernel_rfl
theorem dwp_pl23 : Plain Try.prog 23 := fun _ _ => by kernel_rfl
theorem dwp_pl22 : Plain Try.prog 22 := fun _ _ => by kernel_rfl
theorem dwp_pl18 : Plain Try.prog 18 := fun _ _ => by kernel_rfl
theorem dwp_pl10 : Plain Try.prog 10 := fun _ _ => by kernel_rfl
theorem dwp_fo50_9 : FieldOff Try.prog 50 9 9 := fun b o w => by simp [go_sem]
theorem dwp_pl24 : Plain Try.prog 24 := fun _ _ => by kernel_rfl
theorem dwp_fo50_7 : FieldOff Try.prog 50 7 7 := fun b o w => by simp [go_sem]
theorem dwp_ty3 : Try.prog.underlying 3 = some (.int .i64) := by kernel_rfl
theorem dwp_szg33 : ∀ w' : World, (sizeOf 33).run Try.prog w' = .ok 6 w' := fun _ => by kernel_rfl
theorem dwp_ty33 : ∃ fs, Try.prog.underlying 33 = some (.struct fs) := struct_of (by kernel_rfl)
theorem dwp_isz33 : (Try.prog.info? 33).map (·.size) = some 6 := by kernel_rfl
theorem dwp_pl20 : Plain Try.prog 20 := fun _ _ => by kernel_rfl
theorem dwp_pl16 : Plain Try.prog 16 := fun _ _ => by kernel_rfl
theorem dwp_pl21 : Plain Try.prog 21 := fun _ _ => by kernel_rfl
set_option maxHeartbeats 1600000
theorem plays_no (w : World) (q : Int) (hq : q < 0 ∨ 1073741824 < q) (v : Value) (l : List XactV) (hl : RG 6 (xacC) w v l) (hk : ∀ x ∈ l, XactAt w x) :
  Calls Try.prog 5 #[.int .i64 q, v] w fun e w' => e = .returned (.bool true) ∧ Ext w w' := by
 refine calls_of_wpF (args := [.int .i64 (q : Int), v]) Try.func5 rfl 80 rfl (Nat.le_of_ble_eq_true rfl) ?_
 intro ρ0 hb
 have T0 : ρ0 0 = (.int .i64 (q : Int) : Value) := hb.get 0
 have T1 : ρ0 1 = (v : Value) := hb.get 1
 clear hb
 have hE := Ext.refl w
 refine sk fun K1 hK1 => (wt (oA rfl (oZ (tN (hK1 _ _ (sk fun K2 hK2 => (sk fun K3 hK3 => (wt (oM rfl (oS rfl (Yk.callA2 dwp_pl7 T1 (vr (NI 60) rfl) ((light_any _ v l (hl.keep hE) (fun x hx => (hk x hx).keep hE) 60 (by decide)).mono ?_))))))))))))
 rintro e w5 ⟨rfl, hx4⟩
 refine ⟨_, rfl, ?_⟩
 have hE := hE.trans hx4
 refine oS rfl (Yk.notB (vr (.bool ((lightB l 60))) rfl) (oZ (tN (hK3 _ _ ?_))))
 refine wpF_condB (!((lightB l 60))) (vr (.bool (!((lightB l 60)))) rfl) (fun hc0 => ?_) (fun hc0 => ?_)
 ·refine sk fun K6 hK6 => (wt (oA rfl (oZ (tN (hK6 _ _ (wpF_ret (thenF_ret (postF_ret (fn := Try.f5) _ rfl [.bool (true)] (.bool (true)) rfl ⟨rfl, trivial⟩ ?_))))))))
  exact ⟨rfl, hE⟩
 have hL : lightB l 60 = true := by simpa using hc0
 have hln := (lightB_get hL).1
 refine wpF_skip (tN (hK2 _ _ (sk fun K7 hK7 => (wt (oM rfl (oS rfl (Yk.callA1 dwp_pl8 T0 ((new_bad _ q hq).mono ?_))))))))
 rintro e w9 ⟨rfl, hx8⟩
 refine ⟨_, rfl, ?_⟩
 have hE := hE.trans hx8
 refine oM rfl (oS rfl (Yk.callA1 dwp_pl19 T0 ((newN_any _ q hq).mono ?_)))
 rintro e w11 ⟨rfl, hx10⟩
 refine ⟨_, rfl, ?_⟩
 have hE := hE.trans hx10
 refine oS rfl (Yk.alloc (cs := (rdkC ((⟨false, 0, [], [], [], [], [], 0, 0, false⟩, ⟨.slice none 0 0, .slice none 0 0, .slice none 0 0, .slice none 0 0, .slice none 0 0⟩) : RdkV)).toArray) dwp_al50 fun n12 w13 hn14 hb15 hx16 hs17 => ?_)
 have hA18 := Ext.refl w11
 have hea19 := hE
 have hz20 := hE.size
 have hE := hE.trans hx16
 have hA18 := hA18.trans hx16
 have hb21 := hb15; clear hb15
 have hl22 : n12 < w13.heap.size := by omega
 refine oA rfl (oS rfl (Yk.storeAll (vr (PQ n12 0) rfl) (vr (.agg (rdkC (noR q)).toArray) rfl) hb21 (by simp only [List.size_toArray, rdk_len]) (st_isz (rdk_len _) dwp_isz50) (rdk_one (x := (noR q)) rfl rfl rfl rfl rfl) fun w23 hb24 hg25 hs26 => ?_))
 have hE := row_fresh hE hg25 (Nat.le_trans hz20 (by omega))
 have hA18 := row_fresh hA18 hg25 (Nat.le_trans (Nat.le_refl _) (by omega))
 clear hb21
 have hb21 : w23.heap[n12]? = some (.cells (rdkC (noR q)).toArray 50 (0, 0)) := hb24; clear hb24
 have hl27 := bl hb21
 refine oZ (tN (hK7 _ _ (sk fun K28 hK28 => (sk fun K29 hK29 => (wt (oM rfl (oS rfl (Yk.neqNil dwp_ty29 (vr (.pointer none) rfl) (oS rfl (Yk.fieldAt dwp_fo50_0 (vr (PQ n12 0) rfl) (oS rfl (Yk.cell1 dwp_ty4 rfl (vr (PQ n12 0) rfl) (cellAt hb21 (show (rdkC (noR q))[0]? = some (.bool (false) : Value) from rdk_g0 (noR q))) (oS rfl (Yk.neBool (a := false) (b := false) dwp_ty4 (vr (.bool (false)) rfl) (vr (.bool (false)) rfl) (oZ (tN (hK29 _ _ (wpF_false (vr (.bool (false)) (congrArg Value.bool (by decide))) (wpF_skip (tN (hK28 _ _ (sk fun K30 hK30 => ?_))))))))))))))))))))))
 refine sk fun K31 hK31 => (wt (oA rfl (oL_ [(0, .int .i64 (q : Int)), (1, v), (4, .bool (false)), (5, .pointer none), (6, PQ n12 0), (7, NI 0), (22, .bool (false))] ⟨T0, T1, rfl, rfl, rfl, rfl, (congrArg Value.bool (by decide)), trivial⟩ fun ρ32 ⟨T0, T1, T4, T5, T6, T7, T22, _⟩ => (tN (hK31 _ _ (wpF_block (wpF_loop (fun (ρ : Slots) (wz : World) => ∃ i : Nat, ρ 0 = (.int .i64 (q : Int) : Value) ∧ ρ 1 = (v : Value) ∧ ρ 5 = (.pointer none : Value) ∧ ρ 6 = (PQ n12 0 : Value) ∧ ρ 22 = (.bool (false) : Value) ∧ ρ 7 = (NI i : Value) ∧ Ext w wz ∧ wz.heap[n12]? = some (.cells (rdkC (noR q)).toArray 50 (0, 0)) ∧ (i ≤ l.length) ∧ True) (fun ρ _ => l.length - (intOf (ρ 7)).toNat) ⟨0, T0, T1, T5, T6, T22, T7, hE, hb21, Nat.zero_le _, trivial⟩ ?_)))))))
 clear hA18
 clear hE hb21
 rintro ρ33 w34 ⟨i, T0, T1, T5, T6, T22, T7, hE, hb21, hi, -⟩
 have q7 := T7
 refine sk fun K35 hK35 => (sk fun K36 hK36 => (wt (oM rfl (oM rfl (oS rfl (Yk.lenRG dwp_ty22 (RG.of (hl.keep hE) T1) (oS rfl (Yk.eqI (a := (i : Nat)) (b := (l.length : Nat)) T7 rfl (k_lss _ _ _ _) (oZ (tN (hK36 _ _ ?_)))))))))))
 refine wpF_cond ((i) < (l.length)) (vr (.bool (decide ((i) < (l.length)))) rfl) (fun hc2 => ?_) (fun hc2 => ?_)
 ·have hlt : i < l.length := hc2
  have hmem := getD_mem_ (d := dXac) hlt
  have hx := hk _ hmem
  have hbl := ((lightB_get hL).2 _ hmem).1
  have hfs := ((lightB_get hL).2 _ hmem).2
  refine wpF_skip (tN (hK35 _ _ (sk fun K37 hK37 => (wpF_block (sk fun K38 hK38 => ?_)))))
  have hJK38 : ∀ (ρ : Slots) (wz : World), (∃ n8 : Nat, ρ 0 = (.int .i64 (q : Int) : Value) ∧ ρ 1 = (v : Value) ∧ ρ 5 = (.pointer none : Value) ∧ ρ 6 = (PQ n12 0 : Value) ∧ ρ 7 = (NI i : Value) ∧ ρ 22 = (.bool (false) : Value) ∧ ρ 8 = (PQ n8 0 : Value) ∧ ρ 9 = (.bool (true) : Value) ∧ Ext w wz ∧ wz.heap[n12]? = some (.cells (rdkC (noR q)).toArray 50 (0, 0)) ∧ wz.heap[n8]? = some (.cells (rdkC (noR q)).toArray 50 (0, 0)) ∧ (w.heap.size ≤ n8) ∧ (n8 ≠ n12) ∧ True) → K38 ρ wz := by
   clear hE hb21
   rintro ρ40 w41 ⟨n8, T0, T1, T5, T6, T7, T22, T8, T9, hE, hb21, hb8, hn8, hn86, -⟩
   refine hK38 _ _ (sk fun K42 hK42 => (wt (oS rfl (Yk.loadAll T8 hb8 (dwp_ty50).choose_spec rfl (st_isz (rdk_len (noR q)) dwp_isz50) (oS rfl (Yk.storeAll T6 (vr (.agg (rdkC (noR q)).toArray) rfl) hb21 (by simp only [List.size_toArray, rdk_len]) (st_isz (rdk_len _) dwp_isz50) (rdk_one (x := (noR q)) rfl rfl rfl rfl rfl) fun w43 hb44 hg45 hs46 => ?_))))))
   have hE := row_fresh hE hg45 (Nat.le_trans hz20 (by omega))
   have hb8 := kb hg45 hb8 (by omega)
   clear hb21
   have hb21 : w43.heap[n12]? = some (.cells (rdkC (noR q)).toArray 50 (0, 0)) := hb44; clear hb44
   have hl47 := bl hb21
   refine oZ (tN (hK42 _ _ (sk fun K48 hK48 => (wt (oA rfl (oZ (tN (hK48 _ _ (sk fun K49 hK49 => (sk fun K50 hK50 => (wt (oS rfl (Yk.fieldAt dwp_fo50_0 T6 (oS rfl (Yk.cell1 dwp_ty4 rfl (vr (PQ n12 0) rfl) (cellAt hb21 (show (rdkC (noR q))[0]? = some (.bool (false) : Value) from rdk_g0 (noR q))) (oM rfl (oN (d := 42) rfl rfl rfl (vr (.bool (false)) rfl) rfl (oN (d := 42) rfl rfl rfl (vr (.bool (false)) rfl) rfl (oN (d := 42) rfl rfl rfl (vr (.bool (false)) rfl) rfl ?_)))))))))))))))))))
   refine oS rfl (Yk.pickF (vr (.bool (false)) rfl) (vr (.bool (false)) rfl) (oZ (tN (hK50 _ _ (wpF_false (vr (.bool (false)) rfl) (wpF_skip (tN (hK49 _ _ (sk fun K51 hK51 => ?_)))))))))
   refine wpF_draw [Is (.bool (true)), Is (.bool (false)), Is (.bool (false)), Is (.pointer none), Is ((.slice none 0 0)), Is (.agg (rdkC (noR q)).toArray), Is ((.slice none 0 0)), Is (.bool (true)), Is (.bool (false)), Is (.bool (false)), Is (.bool (false)), Is (.pointer none), Is (NI 0), Is (NI 0), Is (.bool (false)), Is (.bool (false)), Is (.bool (false)), Is (.pointer none), Is (.bool (false)), Is (PQ n12 9), Is (.bool (false)), Is (.bool (false)), Is (.bool (false)), Is (.bool (false)), Is (.pointer none), Is (NI 0), Is (PQ n12 7), Is (NI 0), Is (.bool (false)), Is (.bool (false))] (by kernel_rfl) [49, 50, 51, 52, 53, 54, 55, 56, 57, 58, 59, 60, 61, 62, 63, 64, 65, 66, 67, 68, 69, 70, 71, 72, 73, 74, 75, 76, 77, 78] (by kernel_rfl) (by kernel_rfl) (si6 (si12 (si12 trivial))) ?hs2014 ?hQ2014
   case hs2014 =>
    refine ⟨?_, ?_, ?_, ?_, ?_, ?_, ?_, ?_, ?_, ?_, ?_, ?_, ?_, ?_, ?_, ?_, ?_, ?_, ?_, ?_, ?_, ?_, ?_, ?_, ?_, ?_, ?_, ?_, ?_, ?_, trivial⟩
    ·refine stepN rfl fun σ w1 hC h => ?_
     have e9 := (eqo (h 9 (by decide))).trans T9
     exact Yk.move e9 ⟨Ext.refl _, rfl⟩
    ·refine stepN rfl fun σ w1 hC h => ?_
     have e49 := eqo (h 49 (by decide))
     exact Yk.notB e49 ⟨Ext.refl _, rfl⟩
    ·refine stepN rfl fun σ w1 hC h => ?_
     have e50 := eqo (h 50 (by decide))
     exact Yk.move e50 ⟨Ext.refl _, rfl⟩
    ·refine stepY 2 false 51 rfl rfl (fun _ _ h => h) fun σ w1 hC h => ?_
     have e5 := (eqo (h 5 (by decide))).trans T5
     exact Yk.move e5 ⟨Ext.refl _, rfl⟩
    ·refine stepY 2 false 51 rfl rfl (fun _ _ h => h) fun σ w1 hC h => ?_
     have e52 := eqo (h 52 (by decide))
     refine Yk.callA1 dwp_pl17 e52 ((list_nil _).mono ?_)
     rintro e w2 ⟨rfl, hx⟩
     exact ⟨_, rfl, hx, rfl⟩
    ·refine stepY 2 false 51 rfl rfl (fun _ _ h => h) fun σ w1 hC h => ?_
     have e6 := (eqo (h 6 (by decide))).trans T6
     exact Yk.loadAll e6 (eb hC hb21) (dwp_ty50).choose_spec rfl (st_isz (rdk_len (noR q)) dwp_isz50) ⟨Ext.refl _, rfl⟩
    ·refine stepY 2 false 51 rfl rfl (fun _ _ h => h) fun σ w1 hC h => ?_
     have e54 := eqo (h 54 (by decide))
     refine Yk.callA1 dwp_pl23 e54 ((rlist_no _ q).mono ?_)
     rintro e w2 ⟨rfl, hx⟩
     exact ⟨_, rfl, hx, rfl⟩
    ·refine stepY 2 false 51 rfl rfl (fun _ _ h => h) fun σ w1 hC h => ?_
     have e53 := eqo (h 53 (by decide))
     have e55 := eqo (h 55 (by decide))
     refine Yk.callA2 dwp_pl22 e53 e55 ((texts_same _ _ _ [] (RG.nil _ _ _) (RG.nil _ _ _) (by decide)).mono ?_)
     rintro e w2 ⟨rfl, hx⟩
     exact ⟨_, rfl, hx, rfl⟩
    ·refine stepY 2 false 51 rfl rfl (fun _ _ h => h) fun σ w1 hC h => ?_
     have e56 := eqo (h 56 (by decide))
     exact Yk.notB e56 ⟨Ext.refl _, rfl⟩
    ·refine stepN rfl fun σ w1 hC h => ?_
     have e51 := eqo (h 51 (by decide))
     have e57 := eqo (h 57 (by decide))
     exact Yk.pickF e51 e57 ⟨Ext.refl _, rfl⟩
    ·refine stepN rfl fun σ w1 hC h => ?_
     have e58 := eqo (h 58 (by decide))
     exact Yk.move e58 ⟨Ext.refl _, rfl⟩
    ·refine stepY 10 false 59 rfl rfl (fun _ _ h => h) fun σ w1 hC h => ?_
     have e5 := (eqo (h 5 (by decide))).trans T5
     exact Yk.move e5 ⟨Ext.refl _, rfl⟩
    ·refine stepY 10 false 59 rfl rfl (fun _ _ h => h) fun σ w1 hC h => ?_
     have e60 := eqo (h 60 (by decide))
     refine Yk.callA1 dwp_pl18 e60 ((tused_nil _).mono ?_)
     rintro e w2 ⟨rfl, hx⟩
     exact ⟨_, rfl, hx, rfl⟩
    ·refine stepY 10 false 59 rfl rfl (fun _ _ h => h) fun σ w1 hC h => ?_
     have e10 : σ 10 = NI 0 := (eqo (h 10 (by decide))).trans rfl
     exact Yk.move e10 ⟨Ext.refl _, rfl⟩
    ·refine stepY 10 false 59 rfl rfl (fun _ _ h => h) fun σ w1 hC h => ?_
     have e61 := eqo (h 61 (by decide))
     have e62 := eqo (h 62 (by decide))
     exact Yk.eqI (a := (0 : Nat)) (b := (0 : Nat)) e61 e62 (k_neq _ _ _ _) ⟨Ext.refl _, (congrArg Value.bool (decide_eq_false (fun h => h rfl)))⟩
    ·refine stepN rfl fun σ w1 hC h => ?_
     have e59 := eqo (h 59 (by decide))
     have e63 := eqo (h 63 (by decide))
     exact Yk.pickF e59 e63 ⟨Ext.refl _, rfl⟩
    ·refine stepN rfl fun σ w1 hC h => ?_
     have e64 := eqo (h 64 (by decide))
     exact Yk.move e64 ⟨Ext.refl _, rfl⟩
    ·refine stepY 16 false 65 rfl rfl (fun _ _ h => h) fun σ w1 hC h => ?_
     have e5 := (eqo (h 5 (by decide))).trans T5
     exact Yk.move e5 ⟨Ext.refl _, rfl⟩
    ·refine stepY 16 false 65 rfl rfl (fun _ _ h => h) fun σ w1 hC h => ?_
     have e66 := eqo (h 66 (by decide))
     refine Yk.callA1 dwp_pl10 e66 ((tdown_nil _).mono ?_)
     rintro e w2 ⟨rfl, hx⟩
     exact ⟨_, rfl, hx, rfl⟩
    ·refine stepY 16 false 65 rfl rfl (fun _ _ h => h) fun σ w1 hC h => ?_
     have e6 := (eqo (h 6 (by decide))).trans T6
     exact Yk.fieldAt dwp_fo50_9 e6 ⟨Ext.refl _, rfl⟩
    ·refine stepY 16 false 65 rfl rfl (fun _ _ h => h) fun σ w1 hC h => ?_
     have e68 := eqo (h 68 (by decide))
     exact Yk.cell1 dwp_ty4 rfl e68 (cellAt (eb hC hb21) (show (rdkC (noR q))[9]? = some (.bool (false) : Value) from rdk_g9 (noR q))) ⟨Ext.refl _, rfl⟩
    ·refine stepY 16 false 65 rfl rfl (fun _ _ h => h) fun σ w1 hC h => ?_
     have e67 := eqo (h 67 (by decide))
     have e69 := eqo (h 69 (by decide))
     exact Yk.neBool (a := false) (b := false) dwp_ty4 e67 e69 ⟨Ext.refl _, (congrArg Value.bool (by decide))⟩
    ·refine stepN rfl fun σ w1 hC h => ?_
     have e65 := eqo (h 65 (by decide))
     have e70 := eqo (h 70 (by decide))
     exact Yk.pickF e65 e70 ⟨Ext.refl _, rfl⟩
    ·refine stepN rfl fun σ w1 hC h => ?_
     have e71 := eqo (h 71 (by decide))
     exact Yk.move e71 ⟨Ext.refl _, rfl⟩
    ·refine stepY 23 false 72 rfl rfl (fun _ _ h => h) fun σ w1 hC h => ?_
     have e5 := (eqo (h 5 (by decide))).trans T5
     exact Yk.move e5 ⟨Ext.refl _, rfl⟩
    ·refine stepY 23 false 72 rfl rfl (fun _ _ h => h) fun σ w1 hC h => ?_
     have e73 := eqo (h 73 (by decide))
     refine Yk.callA1 dwp_pl24 e73 ((trefused_nil _).mono ?_)
     rintro e w2 ⟨rfl, hx⟩
     exact ⟨_, rfl, hx, rfl⟩
    ·refine stepY 23 false 72 rfl rfl (fun _ _ h => h) fun σ w1 hC h => ?_
     have e6 := (eqo (h 6 (by decide))).trans T6
     exact Yk.fieldAt dwp_fo50_7 e6 ⟨Ext.refl _, rfl⟩
    ·refine stepY 23 false 72 rfl rfl (fun _ _ h => h) fun σ w1 hC h => ?_
     have e75 := eqo (h 75 (by decide))
     exact Yk.cell1 dwp_ty3 rfl e75 (cellAt (eb hC hb21) (show (rdkC (noR q))[7]? = some (NI 0 : Value) from rdk_g7 (noR q))) ⟨Ext.refl _, rfl⟩
    ·refine stepY 23 false 72 rfl rfl (fun _ _ h => h) fun σ w1 hC h => ?_
     have e74 := eqo (h 74 (by decide))
     have e76 := eqo (h 76 (by decide))
     exact Yk.eqI (a := (0 : Nat)) (b := (0 : Nat)) e74 e76 (k_neq _ _ _ _) ⟨Ext.refl _, (congrArg Value.bool (decide_eq_false (fun h => h rfl)))⟩
    ·refine stepN rfl fun σ w1 hC h => ?_
     have e72 := eqo (h 72 (by decide))
     have e77 := eqo (h 77 (by decide))
     exact Yk.pickF e72 e77 ⟨Ext.refl _, rfl⟩
   intro ρ52 w53 hx54 he hf
   obtain ⟨-, -, -, -, -, -, -, -, -, -, -, -, -, -, -, -, -, -, -, -, -, -, -, -, -, -, -, -, -, k78, -⟩ := hf
   obtain ⟨T0, T1, T5, T6, T7, T8, T9, T10, T22, T46, -⟩ := he.hold [(0, _), (1, _), (5, _), (6, _), (7, _), (8, _), (9, _), (10, NI 0), (22, _), (46, .bool (false))] ⟨T0, T1, T5, T6, T7, T8, T9, rfl, T22, rfl, trivial⟩ rfl
   clear he
   have hE := hE.trans hx54
   have hb8 := eb hx54 hb8
   have hb21 := eb hx54 hb21
   have T78 : ρ52 78 = .bool (false) := k78
   clear k78
   refine tN (hK51 _ _ (wpF_false T78 (wpF_skip (bN (tN (hK37 _ _ (wt (oM rfl (oS rfl (Yk.bin (xv := NI i) (yv := NI 1) T7 rfl rfl (i64_add _ _ _ (by omega)) (oA rfl (oL_ [(0, .int .i64 (q : Int)), (1, v), (5, .pointer none), (6, PQ n12 0), (7, NI ((i) + (1))), (8, PQ n8 0), (9, .bool (true)), (10, NI 0), (22, .bool (false)), (46, .bool (false)), (78, .bool (false))] ⟨T0, T1, T5, T6, rfl, T8, T9, T10, T22, T46, T78, trivial⟩ fun ρ55 ⟨T0, T1, T5, T6, T7, T8, T9, T10, T22, T46, T78, _⟩ => (tN (And.intro ⟨i + 1, T0, T1, T5, T6, T22, T7, hE, hb21, by omega, trivial⟩ ?_))))))))))))))
   show l.length - (intOf (ρ55 7)).toNat < l.length - (intOf (ρ33 7)).toNat
   rw [T7, q7]
   simp only [intOf, Int.toNat_natCast]; omega
  clear hK38
  have hx56 : Ext w34 (World.drew w34) := (Below.refl _ _).drew
  have hE := hE.trans hx56
  have hb21 := eb hx56 hb21
  refine wpF_tree [(0, 30, .pointer none), (1, 31, .agg (rdkC (noR q)).toArray), (2, 32, v), (3, 33, NI i)] [4, 5, 6, 7, 8, 9, 10, 11, 12] (fun wz => wz.heap[n12]? = some (.cells (rdkC (noR q)).toArray 50 (0, 0)) ∧ True) 9 (by kernel_rfl) (by kernel_rfl) (by kernel_rfl) rfl ⟨hb21, trivial⟩ ⟨fun w57 ⟨hb21, _⟩ => Yk.move T5 ⟨rfl, rfl⟩, fun w57 ⟨hb21, _⟩ => Yk.loadAll T6 hb21 (dwp_ty50).choose_spec rfl (st_isz (rdk_len (noR q)) dwp_isz50) ⟨rfl, rfl⟩, fun w57 ⟨hb21, _⟩ => Yk.move T1 ⟨rfl, rfl⟩, fun w57 ⟨hb21, _⟩ => Yk.move T7 ⟨rfl, rfl⟩, trivial⟩ (tree_node (ns := [4, 10]) (by kernel_rfl) ?_)
  refine ⟨?_, ?_⟩
  ·have hl60 : (xacC (l.getD (i) dXac)).length = 6 := (RG.elem (hl.keep hE) dXac (by omega))
   refine tree_step (r := [5, 6, 7, 8, 9, 10, 11, 12]) rfl rfl (Yk.atRG dwp_ty22 dwp_szg33 (by decide) dXac (RG.of (hl.keep hE) (vr v rfl)) (vr (NI i) rfl) (by omega) fun v58 hp59 => ?_)
   refine ⟨⟨hb21, trivial⟩, ?_⟩
   refine tree_node (ns := [5, 10]) (by kernel_rfl) ?_
   refine ⟨?_, ?_⟩
   ·refine tree_step (r := [6, 7, 8, 9, 10, 11, 12]) rfl rfl (Yk.loadPR (PR.of hp59 (vr v58 rfl)) (dwp_ty33).choose_spec rfl (by rw [xac_len]; exact dwp_isz33) ?_)
    refine ⟨⟨hb21, trivial⟩, ?_⟩
    refine tree_node (ns := [6, 10]) (by kernel_rfl) ?_
    refine ⟨?_, ?_⟩
    ·refine tree_step (r := [7, 8, 9, 10, 11, 12]) rfl rfl (Yk.callA3 dwp_pl20 (vr (.pointer none) rfl) (vr (.agg (rdkC (noR q)).toArray) rfl) (vr (.agg (xacC (l.getD (i) dXac)).toArray) rfl) ((played_nil _ q (l.getD (i) dXac) (hx.keep hE) hbl hfs).mono ?_))
     rintro e w62 ⟨rfl, hx61⟩
     refine ⟨_, rfl, ?_⟩
     have hE := hE.trans hx61
     have hb21 := eb hx61 hb21
     have hp59 := PR.keep hp59 hx61
     refine ⟨⟨hb21, trivial⟩, ?_⟩
     refine tree_node (ns := [7, 10]) (by kernel_rfl) ?_
     refine ⟨?_, ?_⟩
     ·refine tree_step (r := [8, 9, 10, 11, 12]) rfl rfl (Yk.move (vr (.tuple #[.agg (rdkC (noR q)).toArray, .bool (true)]) rfl) ?_)
      refine ⟨⟨hb21, trivial⟩, ?_⟩
      refine tree_node (ns := [8, 9, 10]) (by kernel_rfl) ?_
      refine ⟨?_, ?_, ?_⟩
      ·refine tree_step (r := [9, 10, 11, 12]) rfl rfl (Yk.extract (vs := [.agg (rdkC (noR q)).toArray, .bool (true)]) (vr (.tuple #[.agg (rdkC (noR q)).toArray, .bool (true)]) rfl) (show _ = some (.agg (rdkC (noR q)).toArray : Value) from rfl) ?_)
       refine ⟨⟨hb21, trivial⟩, ?_⟩
       refine tree_node (ns := [9, 10]) (by kernel_rfl) ?_
       refine ⟨?_, ?_⟩
       ·refine tree_step (r := [10, 11, 12]) rfl rfl (Yk.extract (vs := [.agg (rdkC (noR q)).toArray, .bool (true)]) (vr (.tuple #[.agg (rdkC (noR q)).toArray, .bool (true)]) rfl) (show _ = some (.bool (true) : Value) from rfl) ?_)
        refine ⟨⟨hb21, trivial⟩, ?_⟩
        refine tree_node (ns := [10]) (by kernel_rfl) (tree_step (r := [11, 12]) rfl rfl (Yk.alloc (cs := (rdkC ((⟨false, 0, [], [], [], [], [], 0, 0, false⟩, ⟨.slice none 0 0, .slice none 0 0, .slice none 0 0, .slice none 0 0, .slice none 0 0⟩) : RdkV)).toArray) dwp_al50 fun n63 w64 hn65 hb66 hx67 hs68 => ?_))
        have hA69 := Ext.refl w62
        have hea70 := hE
        have hz71 := hE.size
        have hlt72 := lte (bl hb21) hn65
        have hE := hE.trans hx67
        have hb21 := eb hx67 hb21
        have hA69 := hA69.trans hx67
        have hb73 := hb66; clear hb66
        have hl74 : n63 < w64.heap.size := by omega
        refine ⟨⟨hb21, trivial⟩, ?_⟩
        refine tree_node (ns := [11]) (by kernel_rfl) (tree_step (r := [12]) rfl rfl (Yk.storeAll (vr (PQ n63 0) rfl) (vr (.agg (rdkC (noR q)).toArray) rfl) hb73 (by simp only [List.size_toArray, rdk_len]) (st_isz (rdk_len _) dwp_isz50) (rdk_one (x := (noR q)) rfl rfl rfl rfl rfl) fun w75 hb76 hg77 hs78 => ?_))
        have hE := row_fresh hE hg77 (Nat.le_trans hz71 (by omega))
        have hb21 := kb hg77 hb21 (by omega)
        have hA69 := row_fresh hA69 hg77 (Nat.le_trans (Nat.le_refl _) (by omega))
        clear hb73
        have hb73 : w75.heap[n63]? = some (.cells (rdkC (noR q)).toArray 50 (0, 0)) := hb76; clear hb76
        have hl79 := bl hb73
        refine ⟨⟨hb21, trivial⟩, ?_⟩
        refine tree_node (ns := [12]) (by kernel_rfl) (tree_step (r := []) rfl rfl (Yk.assign (vr (.bool (true)) rfl) ?_))
        refine ⟨⟨hb21, trivial⟩, ?_⟩
        refine tree_nil ?_
        clear hp59
        exact tN (hJK38 _ _ ⟨n63, T0, T1, T5, T6, T7, T22, rfl, rfl, hE, hb21, hb73, by omega, by omega, trivial⟩)
       refine tree_step (r := [9, 11, 12]) rfl rfl (Yk.alloc (cs := (rdkC ((⟨false, 0, [], [], [], [], [], 0, 0, false⟩, ⟨.slice none 0 0, .slice none 0 0, .slice none 0 0, .slice none 0 0, .slice none 0 0⟩) : RdkV)).toArray) dwp_al50 fun n80 w81 hn82 hb83 hx84 hs85 => ?_)
       have hA86 := Ext.refl w62
       have hea87 := hE
       have hz88 := hE.size
       have hlt89 := lte (bl hb21) hn82
       have hE := hE.trans hx84
       have hb21 := eb hx84 hb21
       have hA86 := hA86.trans hx84
       have hb90 := hb83; clear hb83
       have hl91 : n80 < w81.heap.size := by omega
       refine ⟨⟨hb21, trivial⟩, ?_⟩
       refine tree_node (ns := [9, 11]) (by kernel_rfl) ?_
       refine ⟨?_, ?_⟩
       ·refine tree_step (r := [11, 12]) rfl rfl (Yk.extract (vs := [.agg (rdkC (noR q)).toArray, .bool (true)]) (vr (.tuple #[.agg (rdkC (noR q)).toArray, .bool (true)]) rfl) (show _ = some (.bool (true) : Value) from rfl) ?_)
        refine ⟨⟨hb21, trivial⟩, ?_⟩
        refine tree_node (ns := [11]) (by kernel_rfl) (tree_step (r := [12]) rfl rfl (Yk.storeAll (vr (PQ n80 0) rfl) (vr (.agg (rdkC (noR q)).toArray) rfl) hb90 (by simp only [List.size_toArray, rdk_len]) (st_isz (rdk_len _) dwp_isz50) (rdk_one (x := (noR q)) rfl rfl rfl rfl rfl) fun w92 hb93 hg94 hs95 => ?_))
        have hE := row_fresh hE hg94 (Nat.le_trans hz88 (by omega))
        have hb21 := kb hg94 hb21 (by omega)
        have hA86 := row_fresh hA86 hg94 (Nat.le_trans (Nat.le_refl _) (by omega))
        clear hb90
        have hb90 : w92.heap[n80]? = some (.cells (rdkC (noR q)).toArray 50 (0, 0)) := hb93; clear hb93
        have hl96 := bl hb90
        refine ⟨⟨hb21, trivial⟩, ?_⟩
        refine tree_node (ns := [12]) (by kernel_rfl) (tree_step (r := []) rfl rfl (Yk.assign (vr (.bool (true)) rfl) ?_))
        refine ⟨⟨hb21, trivial⟩, ?_⟩
        refine tree_nil ?_
        clear hp59
        exact tN (hJK38 _ _ ⟨n80, T0, T1, T5, T6, T7, T22, rfl, rfl, hE, hb21, hb90, by omega, by omega, trivial⟩)
       refine tree_step (r := [9, 12]) rfl rfl (Yk.storeAll (vr (PQ n80 0) rfl) (vr (.agg (rdkC (noR q)).toArray) rfl) hb90 (by simp only [List.size_toArray, rdk_len]) (st_isz (rdk_len _) dwp_isz50) (rdk_one (x := (noR q)) rfl rfl rfl rfl rfl) fun w97 hb98 hg99 hs100 => ?_)
       have hE := row_fresh hE hg99 (Nat.le_trans hz88 (by omega))
       have hb21 := kb hg99 hb21 (by omega)
       have hA86 := row_fresh hA86 hg99 (Nat.le_trans (Nat.le_refl _) (by omega))
       clear hb90
       have hb90 : w97.heap[n80]? = some (.cells (rdkC (noR q)).toArray 50 (0, 0)) := hb98; clear hb98
       have hl101 := bl hb90
       refine ⟨⟨hb21, trivial⟩, ?_⟩
       refine tree_node (ns := [9]) (by kernel_rfl) (tree_step (r := [12]) rfl rfl (Yk.extract (vs := [.agg (rdkC (noR q)).toArray, .bool (true)]) (vr (.tuple #[.agg (rdkC (noR q)).toArray, .bool (true)]) rfl) (show _ = some (.bool (true) : Value) from rfl) ?_))
       refine ⟨⟨hb21, trivial⟩, ?_⟩
       refine tree_node (ns := [12]) (by kernel_rfl) (tree_step (r := []) rfl rfl (Yk.assign (vr (.bool (true)) rfl) ?_))
       refine ⟨⟨hb21, trivial⟩, ?_⟩
       refine tree_nil ?_
       clear hp59
       exact tN (hJK38 _ _ ⟨n80, T0, T1, T5, T6, T7, T22, rfl, rfl, hE, hb21, hb90, by omega, by omega, trivial⟩)
      ·refine tree_step (r := [8, 10, 11, 12]) rfl rfl (Yk.extract (vs := [.agg (rdkC (noR q)).toArray, .bool (true)]) (vr (.tuple #[.agg (rdkC (noR q)).toArray, .bool (true)]) rfl) (show _ = some (.bool (true) : Value) from rfl) ?_)
       refine ⟨⟨hb21, trivial⟩, ?_⟩
       refine tree_node (ns := [8, 10]) (by kernel_rfl) ?_
       refine ⟨?_, ?_⟩
       ·refine tree_step (r := [10, 11, 12]) rfl rfl (Yk.extract (vs := [.agg (rdkC (noR q)).toArray, .bool (true)]) (vr (.tuple #[.agg (rdkC (noR q)).toArray, .bool (true)]) rfl) (show _ = some (.agg (rdkC (noR q)).toArray : Value) from rfl) ?_)
        refine ⟨⟨hb21, trivial⟩, ?_⟩
        refine tree_node (ns := [10]) (by kernel_rfl) (tree_step (r := [11, 12]) rfl rfl (Yk.alloc (cs := (rdkC ((⟨false, 0, [], [], [], [], [], 0, 0, false⟩, ⟨.slice none 0 0, .slice none 0 0, .slice none 0 0, .slice none 0 0, .slice none 0 0⟩) : RdkV)).toArray) dwp_al50 fun n102 w103 hn104 hb105 hx106 hs107 => ?_))
        have hA108 := Ext.refl w62
        have hea109 := hE
        have hz110 := hE.size
        have hlt111 := lte (bl hb21) hn104
        have hE := hE.trans hx106
        have hb21 := eb hx106 hb21
        have hA108 := hA108.trans hx106
        have hb112 := hb105; clear hb105
        have hl113 : n102 < w103.heap.size := by omega
        refine ⟨⟨hb21, trivial⟩, ?_⟩
        refine tree_node (ns := [11]) (by kernel_rfl) (tree_step (r := [12]) rfl rfl (Yk.storeAll (vr (PQ n102 0) rfl) (vr (.agg (rdkC (noR q)).toArray) rfl) hb112 (by simp only [List.size_toArray, rdk_len]) (st_isz (rdk_len _) dwp_isz50) (rdk_one (x := (noR q)) rfl rfl rfl rfl rfl) fun w114 hb115 hg116 hs117 => ?_))
        have hE := row_fresh hE hg116 (Nat.le_trans hz110 (by omega))
        have hb21 := kb hg116 hb21 (by omega)
        have hA108 := row_fresh hA108 hg116 (Nat.le_trans (Nat.le_refl _) (by omega))
        clear hb112
        have hb112 : w114.heap[n102]? = some (.cells (rdkC (noR q)).toArray 50 (0, 0)) := hb115; clear hb115
        have hl118 := bl hb112
        refine ⟨⟨hb21, trivial⟩, ?_⟩
        refine tree_node (ns := [12]) (by kernel_rfl) (tree_step (r := []) rfl rfl (Yk.assign (vr (.bool (true)) rfl) ?_))
        refine ⟨⟨hb21, trivial⟩, ?_⟩
        refine tree_nil ?_
        clear hp59
        exact tN (hJK38 _ _ ⟨n102, T0, T1, T5, T6, T7, T22, rfl, rfl, hE, hb21, hb112, by omega, by omega, trivial⟩)
       refine tree_step (r := [8, 11, 12]) rfl rfl (Yk.alloc (cs := (rdkC ((⟨false, 0, [], [], [], [], [], 0, 0, false⟩, ⟨.slice none 0 0, .slice none 0 0, .slice none 0 0, .slice none 0 0, .slice none 0 0⟩) : RdkV)).toArray) dwp_al50 fun n119 w120 hn121 hb122 hx123 hs124 => ?_)
       have hA125 := Ext.refl w62
       have hea126 := hE
       have hz127 := hE.size
       have hlt128 := lte (bl hb21) hn121
       have hE := hE.trans hx123
       have hb21 := eb hx123 hb21
       have hA125 := hA125.trans hx123
       have hb129 := hb122; clear hb122
       have hl130 : n119 < w120.heap.size := by omega
       refine ⟨⟨hb21, trivial⟩, ?_⟩
       refine tree_node (ns := [8]) (by kernel_rfl) (tree_step (r := [11, 12]) rfl rfl (Yk.extract (vs := [.agg (rdkC (noR q)).toArray, .bool (true)]) (vr (.tuple #[.agg (rdkC (noR q)).toArray, .bool (true)]) rfl) (show _ = some (.agg (rdkC (noR q)).toArray : Value) from rfl) ?_))
       refine ⟨⟨hb21, trivial⟩, ?_⟩
       refine tree_node (ns := [11]) (by kernel_rfl) (tree_step (r := [12]) rfl rfl (Yk.storeAll (vr (PQ n119 0) rfl) (vr (.agg (rdkC (noR q)).toArray) rfl) hb129 (by simp only [List.size_toArray, rdk_len]) (st_isz (rdk_len _) dwp_isz50) (rdk_one (x := (noR q)) rfl rfl rfl rfl rfl) fun w131 hb132 hg133 hs134 => ?_))
       have hE := row_fresh hE hg133 (Nat.le_trans hz127 (by omega))
       have hb21 := kb hg133 hb21 (by omega)
       have hA125 := row_fresh hA125 hg133 (Nat.le_trans (Nat.le_refl _) (by omega))
       clear hb129
       have hb129 : w131.heap[n119]? = some (.cells (rdkC (noR q)).toArray 50 (0, 0)) := hb132; clear hb132
       have hl135 := bl hb129
       refine ⟨⟨hb21, trivial⟩, ?_⟩
       refine tree_node (ns := [12]) (by kernel_rfl) (tree_step (r := []) rfl rfl (Yk.assign (vr (.bool (true)) rfl) ?_))
       refine ⟨⟨hb21, trivial⟩, ?_⟩
       refine tree_nil ?_
       clear hp59
       exact tN (hJK38 _ _ ⟨n119, T0, T1, T5, T6, T7, T22, rfl, rfl, hE, hb21, hb129, by omega, by omega, trivial⟩)
      refine tree_step (r := [8, 9, 11, 12]) rfl rfl (Yk.alloc (cs := (rdkC ((⟨false, 0, [], [], [], [], [], 0, 0, false⟩, ⟨.slice none 0 0, .slice none 0 0, .slice none 0 0, .slice none 0 0, .slice none 0 0⟩) : RdkV)).toArray) dwp_al50 fun n136 w137 hn138 hb139 hx140 hs141 => ?_)
      have hA142 := Ext.refl w62
      have hea143 := hE
      have hz144 := hE.size
      have hlt145 := lte (bl hb21) hn138
      have hE := hE.trans hx140
      have hb21 := eb hx140 hb21
      have hA142 := hA142.trans hx140
      have hb146 := hb139; clear hb139
      have hl147 : n136 < w137.heap.size := by omega
      refine ⟨⟨hb21, trivial⟩, ?_⟩
      refine tree_node (ns := [8, 9]) (by kernel_rfl) ?_
      refine ⟨?_, ?_⟩
      ·refine tree_step (r := [9, 11, 12]) rfl rfl (Yk.extract (vs := [.agg (rdkC (noR q)).toArray, .bool (true)]) (vr (.tuple #[.agg (rdkC (noR q)).toArray, .bool (true)]) rfl) (show _ = some (.agg (rdkC (noR q)).toArray : Value) from rfl) ?_)
       refine ⟨⟨hb21, trivial⟩, ?_⟩
       refine tree_node (ns := [9, 11]) (by kernel_rfl) ?_
       refine ⟨?_, ?_⟩
       ·refine tree_step (r := [11, 12]) rfl rfl (Yk.extract (vs := [.agg (rdkC (noR q)).toArray, .bool (true)]) (vr (.tuple #[.agg (rdkC (noR q)).toArray, .bool (true)]) rfl) (show _ = some (.bool (true) : Value) from rfl) ?_)
        refine ⟨⟨hb21, trivial⟩, ?_⟩
        refine tree_node (ns := [11]) (by kernel_rfl) (tree_step (r := [12]) rfl rfl (Yk.storeAll (vr (PQ n136 0) rfl) (vr (.agg (rdkC (noR q)).toArray) rfl) hb146 (by simp only [List.size_toArray, rdk_len]) (st_isz (rdk_len _) dwp_isz50) (rdk_one (x := (noR q)) rfl rfl rfl rfl rfl) fun w148 hb149 hg150 hs151 => ?_))
        have hE := row_fresh hE hg150 (Nat.le_trans hz144 (by omega))
        have hb21 := kb hg150 hb21 (by omega)
        have hA142 := row_fresh hA142 hg150 (Nat.le_trans (Nat.le_refl _) (by omega))
        clear hb146
        have hb146 : w148.heap[n136]? = some (.cells (rdkC (noR q)).toArray 50 (0, 0)) := hb149; clear hb149
        have hl152 := bl hb146
        refine ⟨⟨hb21, trivial⟩, ?_⟩
        refine tree_node (ns := [12]) (by kernel_rfl) (tree_step (r := []) rfl rfl (Yk.assign (vr (.bool (true)) rfl) ?_))
        refine ⟨⟨hb21, trivial⟩, ?_⟩
        refine tree_nil ?_
        clear hp59
        exact tN (hJK38 _ _ ⟨n136, T0, T1, T5, T6, T7, T22, rfl, rfl, hE, hb21, hb146, by omega, by omega, trivial⟩)
       refine tree_step (r := [9, 12]) rfl rfl (Yk.storeAll (vr (PQ n136 0) rfl) (vr (.agg (rdkC (noR q)).toArray) rfl) hb146 (by simp only [List.size_toArray, rdk_len]) (st_isz (rdk_len _) dwp_isz50) (rdk_one (x := (noR q)) rfl rfl rfl rfl rfl) fun w153 hb154 hg155 hs156 => ?_)
       have hE := row_fresh hE hg155 (Nat.le_trans hz144 (by omega))
       have hb21 := kb hg155 hb21 (by omega)
       have hA142 := row_fresh hA142 hg155 (Nat.le_trans (Nat.le_refl _) (by omega))
       clear hb146
       have hb146 : w153.heap[n136]? = some (.cells (rdkC (noR q)).toArray 50 (0, 0)) := hb154; clear hb154
       have hl157 := bl hb146
       refine ⟨⟨hb21, trivial⟩, ?_⟩
       refine tree_node (ns := [9]) (by kernel_rfl) (tree_step (r := [12]) rfl rfl (Yk.extract (vs := [.agg (rdkC (noR q)).toArray, .bool (true)]) (vr (.tuple #[.agg (rdkC (noR q)).toArray, .bool (true)]) rfl) (show _ = some (.bool (true) : Value) from rfl) ?_))
       refine ⟨⟨hb21, trivial⟩, ?_⟩
       refine tree_node (ns := [12]) (by kernel_rfl) (tree_step (r := []) rfl rfl (Yk.assign (vr (.bool (true)) rfl) ?_))
       refine ⟨⟨hb21, trivial⟩, ?_⟩
       refine tree_nil ?_
       clear hp59
       exact tN (hJK38 _ _ ⟨n136, T0, T1, T5, T6, T7, T22, rfl, rfl, hE, hb21, hb146, by omega, by omega, trivial⟩)
      refine tree_step (r := [8, 11, 12]) rfl rfl (Yk.extract (vs := [.agg (rdkC (noR q)).toArray, .bool (true)]) (vr (.tuple #[.agg (rdkC (noR q)).toArray, .bool (true)]) rfl) (show _ = some (.bool (true) : Value) from rfl) ?_)
      refine ⟨⟨hb21, trivial⟩, ?_⟩
      refine tree_node (ns := [8]) (by kernel_rfl) (tree_step (r := [11, 12]) rfl rfl (Yk.extract (vs := [.agg (rdkC (noR q)).toArray, .bool (true)]) (vr (.tuple #[.agg (rdkC (noR q)).toArray, .bool (true)]) rfl) (show _ = some (.agg (rdkC (noR q)).toArray : Value) from rfl) ?_))
      refine ⟨⟨hb21, trivial⟩, ?_⟩
      refine tree_node (ns := [11]) (by kernel_rfl) (tree_step (r := [12]) rfl rfl (Yk.storeAll (vr (PQ n136 0) rfl) (vr (.agg (rdkC (noR q)).toArray) rfl) hb146 (by simp only [List.size_toArray, rdk_len]) (st_isz (rdk_len _) dwp_isz50) (rdk_one (x := (noR q)) rfl rfl rfl rfl rfl) fun w158 hb159 hg160 hs161 => ?_))
      have hE := row_fresh hE hg160 (Nat.le_trans hz144 (by omega))
      have hb21 := kb hg160 hb21 (by omega)
      have hA142 := row_fresh hA142 hg160 (Nat.le_trans (Nat.le_refl _) (by omega))
      clear hb146
      have hb146 : w158.heap[n136]? = some (.cells (rdkC (noR q)).toArray 50 (0, 0)) := hb159; clear hb159
      have hl162 := bl hb146
      refine ⟨⟨hb21, trivial⟩, ?_⟩
      refine tree_node (ns := [12]) (by kernel_rfl) (tree_step (r := []) rfl rfl (Yk.assign (vr (.bool (true)) rfl) ?_))
      refine ⟨⟨hb21, trivial⟩, ?_⟩
      refine tree_nil ?_
      clear hp59
      exact tN (hJK38 _ _ ⟨n136, T0, T1, T5, T6, T7, T22, rfl, rfl, hE, hb21, hb146, by omega, by omega, trivial⟩)
     refine tree_step (r := [7, 8, 9, 11, 12]) rfl rfl (Yk.alloc (cs := (rdkC ((⟨false, 0, [], [], [], [], [], 0, 0, false⟩, ⟨.slice none 0 0, .slice none 0 0, .slice none 0 0, .slice none 0 0, .slice none 0 0⟩) : RdkV)).toArray) dwp_al50 fun n163 w164 hn165 hb166 hx167 hs168 => ?_)
     have hA169 := Ext.refl w62
     have hea170 := hE
     have hz171 := hE.size
     have hlt172 := lte (bl hb21) hn165
     have hE := hE.trans hx167
     have hb21 := eb hx167 hb21
     have hA169 := hA169.trans hx167
     have hb173 := hb166; clear hb166
     have hl174 : n163 < w164.heap.size := by omega
     refine ⟨⟨hb21, trivial⟩, ?_⟩
     refine tree_node (ns := [7]) (by kernel_rfl) (tree_step (r := [8, 9, 11, 12]) rfl rfl (Yk.move (vr (.tuple #[.agg (rdkC (noR q)).toArray, .bool (true)]) rfl) ?_))
     refine ⟨⟨hb21, trivial⟩, ?_⟩
     refine tree_node (ns := [8, 9]) (by kernel_rfl) ?_
     refine ⟨?_, ?_⟩
     ·refine tree_step (r := [9, 11, 12]) rfl rfl (Yk.extract (vs := [.agg (rdkC (noR q)).toArray, .bool (true)]) (vr (.tuple #[.agg (rdkC (noR q)).toArray, .bool (true)]) rfl) (show _ = some (.agg (rdkC (noR q)).toArray : Value) from rfl) ?_)
      refine ⟨⟨hb21, trivial⟩, ?_⟩
      refine tree_node (ns := [9, 11]) (by kernel_rfl) ?_
      refine ⟨?_, ?_⟩
      ·refine tree_step (r := [11, 12]) rfl rfl (Yk.extract (vs := [.agg (rdkC (noR q)).toArray, .bool (true)]) (vr (.tuple #[.agg (rdkC (noR q)).toArray, .bool (true)]) rfl) (show _ = some (.bool (true) : Value) from rfl) ?_)
       refine ⟨⟨hb21, trivial⟩, ?_⟩
       refine tree_node (ns := [11]) (by kernel_rfl) (tree_step (r := [12]) rfl rfl (Yk.storeAll (vr (PQ n163 0) rfl) (vr (.agg (rdkC (noR q)).toArray) rfl) hb173 (by simp only [List.size_toArray, rdk_len]) (st_isz (rdk_len _) dwp_isz50) (rdk_one (x := (noR q)) rfl rfl rfl rfl rfl) fun w175 hb176 hg177 hs178 => ?_))
       have hE := row_fresh hE hg177 (Nat.le_trans hz171 (by omega))
       have hb21 := kb hg177 hb21 (by omega)
       have hA169 := row_fresh hA169 hg177 (Nat.le_trans (Nat.le_refl _) (by omega))
       clear hb173
       have hb173 : w175.heap[n163]? = some (.cells (rdkC (noR q)).toArray 50 (0, 0)) := hb176; clear hb176
       have hl179 := bl hb173
       refine ⟨⟨hb21, trivial⟩, ?_⟩
       refine tree_node (ns := [12]) (by kernel_rfl) (tree_step (r := []) rfl rfl (Yk.assign (vr (.bool (true)) rfl) ?_))
       refine ⟨⟨hb21, trivial⟩, ?_⟩
       refine tree_nil ?_
       clear hp59
       exact tN (hJK38 _ _ ⟨n163, T0, T1, T5, T6, T7, T22, rfl, rfl, hE, hb21, hb173, by omega, by omega, trivial⟩)
      refine tree_step (r := [9, 12]) rfl rfl (Yk.storeAll (vr (PQ n163 0) rfl) (vr (.agg (rdkC (noR q)).toArray) rfl) hb173 (by simp only [List.size_toArray, rdk_len]) (st_isz (rdk_len _) dwp_isz50) (rdk_one (x := (noR q)) rfl rfl rfl rfl rfl) fun w180 hb181 hg182 hs183 => ?_)
      have hE := row_fresh hE hg182 (Nat.le_trans hz171 (by omega))
      have hb21 := kb hg182 hb21 (by omega)
      have hA169 := row_fresh hA169 hg182 (Nat.le_trans (Nat.le_refl _) (by omega))
      clear hb173
      have hb173 : w180.heap[n163]? = some (.cells (rdkC (noR q)).toArray 50 (0, 0)) := hb181; clear hb181
      have hl184 := bl hb173
      refine ⟨⟨hb21, trivial⟩, ?_⟩
      refine tree_node (ns := [9]) (by kernel_rfl) (tree_step (r := [12]) rfl rfl (Yk.extract (vs := [.agg (rdkC (noR q)).toArray, .bool (true)]) (vr (.tuple #[.agg (rdkC (noR q)).toArray, .bool (true)]) rfl) (show _ = some (.bool (true) : Value) from rfl) ?_))
      refine ⟨⟨hb21, trivial⟩, ?_⟩
      refine tree_node (ns := [12]) (by kernel_rfl) (tree_step (r := []) rfl rfl (Yk.assign (vr (.bool (true)) rfl) ?_))
      refine ⟨⟨hb21, trivial⟩, ?_⟩
      refine tree_nil ?_
      clear hp59
      exact tN (hJK38 _ _ ⟨n163, T0, T1, T5, T6, T7, T22, rfl, rfl, hE, hb21, hb173, by omega, by omega, trivial⟩)
     refine tree_step (r := [8, 11, 12]) rfl rfl (Yk.extract (vs := [.agg (rdkC (noR q)).toArray, .bool (true)]) (vr (.tuple #[.agg (rdkC (noR q)).toArray, .bool (true)]) rfl) (show _ = some (.bool (true) : Value) from rfl) ?_)
     refine ⟨⟨hb21, trivial⟩, ?_⟩
     refine tree_node (ns := [8]) (by kernel_rfl) (tree_step (r := [11, 12]) rfl rfl (Yk.extract (vs := [.agg (rdkC (noR q)).toArray, .bool (true)]) (vr (.tuple #[.agg (rdkC (noR q)).toArray, .bool (true)]) rfl) (show _ = some (.agg (rdkC (noR q)).toArray : Value) from rfl) ?_))
     refine ⟨⟨hb21, trivial⟩, ?_⟩
     refine tree_node (ns := [11]) (by kernel_rfl) (tree_step (r := [12]) rfl rfl (Yk.storeAll (vr (PQ n163 0) rfl) (vr (.agg (rdkC (noR q)).toArray) rfl) hb173 (by simp only [List.size_toArray, rdk_len]) (st_isz (rdk_len _) dwp_isz50) (rdk_one (x := (noR q)) rfl rfl rfl rfl rfl) fun w185 hb186 hg187 hs188 => ?_))
     have hE := row_fresh hE hg187 (Nat.le_trans hz171 (by omega))
     have hb21 := kb hg187 hb21 (by omega)
     have hA169 := row_fresh hA169 hg187 (Nat.le_trans (Nat.le_refl _) (by omega))
     clear hb173
     have hb173 : w185.heap[n163]? = some (.cells (rdkC (noR q)).toArray 50 (0, 0)) := hb186; clear hb186
     have hl189 := bl hb173
     refine ⟨⟨hb21, trivial⟩, ?_⟩
     refine tree_node (ns := [12]) (by kernel_rfl) (tree_step (r := []) rfl rfl (Yk.assign (vr (.bool (true)) rfl) ?_))
     refine ⟨⟨hb21, trivial⟩, ?_⟩
     refine tree_nil ?_
     clear hp59
     exact tN (hJK38 _ _ ⟨n163, T0, T1, T5, T6, T7, T22, rfl, rfl, hE, hb21, hb173, by omega, by omega, trivial⟩)
    refine tree_step (r := [6, 7, 8, 9, 11, 12]) rfl rfl (Yk.alloc (cs := (rdkC ((⟨false, 0, [], [], [], [], [], 0, 0, false⟩, ⟨.slice none 0 0, .slice none 0 0, .slice none 0 0, .slice none 0 0, .slice none 0 0⟩) : RdkV)).toArray) dwp_al50 fun n190 w191 hn192 hb193 hx194 hs195 => ?_)
    have hA196 := Ext.refl (World.drew w34)
    have hea197 := hE
    have hz198 : w.heap.size ≤ (World.drew w34).heap.size := hE.size
    have hlt199 := lte (bl hb21) hn192
    have hE := hE.trans hx194
    have hb21 := eb hx194 hb21
    have hA196 := hA196.trans hx194
    have hb200 := hb193; clear hb193
    have hl201 : n190 < w191.heap.size := by omega
    refine ⟨⟨hb21, trivial⟩, ?_⟩
    refine tree_node (ns := [6]) (by kernel_rfl) (tree_step (r := [7, 8, 9, 11, 12]) rfl rfl (Yk.callA3 dwp_pl20 (vr (.pointer none) rfl) (vr (.agg (rdkC (noR q)).toArray) rfl) (vr (.agg (xacC (l.getD (i) dXac)).toArray) rfl) ((played_nil _ q (l.getD (i) dXac) (hx.keep hE) hbl hfs).mono ?_)))
    rintro e w203 ⟨rfl, hx202⟩
    refine ⟨_, rfl, ?_⟩
    have hE := hE.trans hx202
    have hb21 := eb hx202 hb21
    have hA196 := hA196.trans hx202
    have hb200 := eb hx202 hb200
    refine ⟨⟨hb21, trivial⟩, ?_⟩
    refine tree_node (ns := [7]) (by kernel_rfl) (tree_step (r := [8, 9, 11, 12]) rfl rfl (Yk.move (vr (.tuple #[.agg (rdkC (noR q)).toArray, .bool (true)]) rfl) ?_))
    refine ⟨⟨hb21, trivial⟩, ?_⟩
    refine tree_node (ns := [8, 9]) (by kernel_rfl) ?_
    refine ⟨?_, ?_⟩
    ·refine tree_step (r := [9, 11, 12]) rfl rfl (Yk.extract (vs := [.agg (rdkC (noR q)).toArray, .bool (true)]) (vr (.tuple #[.agg (rdkC (noR q)).toArray, .bool (true)]) rfl) (show _ = some (.agg (rdkC (noR q)).toArray : Value) from rfl) ?_)
     refine ⟨⟨hb21, trivial⟩, ?_⟩
     refine tree_node (ns := [9, 11]) (by kernel_rfl) ?_
     refine ⟨?_, ?_⟩
     ·refine tree_step (r := [11, 12]) rfl rfl (Yk.extract (vs := [.agg (rdkC (noR q)).toArray, .bool (true)]) (vr (.tuple #[.agg (rdkC (noR q)).toArray, .bool (true)]) rfl) (show _ = some (.bool (true) : Value) from rfl) ?_)
      refine ⟨⟨hb21, trivial⟩, ?_⟩
      refine tree_node (ns := [11]) (by kernel_rfl) (tree_step (r := [12]) rfl rfl (Yk.storeAll (vr (PQ n190 0) rfl) (vr (.agg (rdkC (noR q)).toArray) rfl) hb200 (by simp only [List.size_toArray, rdk_len]) (st_isz (rdk_len _) dwp_isz50) (rdk_one (x := (noR q)) rfl rfl rfl rfl rfl) fun w204 hb205 hg206 hs207 => ?_))
      have hE := row_fresh hE hg206 (Nat.le_trans hz198 (by omega))
      have hb21 := kb hg206 hb21 (by omega)
      have hA196 := row_fresh hA196 hg206 (Nat.le_trans (Nat.le_refl _) (by omega))
      clear hb200
      have hb200 : w204.heap[n190]? = some (.cells (rdkC (noR q)).toArray 50 (0, 0)) := hb205; clear hb205
      have hl208 := bl hb200
      refine ⟨⟨hb21, trivial⟩, ?_⟩
      refine tree_node (ns := [12]) (by kernel_rfl) (tree_step (r := []) rfl rfl (Yk.assign (vr (.bool (true)) rfl) ?_))
      refine ⟨⟨hb21, trivial⟩, ?_⟩
      refine tree_nil ?_
      clear hp59
      exact tN (hJK38 _ _ ⟨n190, T0, T1, T5, T6, T7, T22, rfl, rfl, hE, hb21, hb200, by omega, by omega, trivial⟩)
     refine tree_step (r := [9, 12]) rfl rfl (Yk.storeAll (vr (PQ n190 0) rfl) (vr (.agg (rdkC (noR q)).toArray) rfl) hb200 (by simp only [List.size_toArray, rdk_len]) (st_isz (rdk_len _) dwp_isz50) (rdk_one (x := (noR q)) rfl rfl rfl rfl rfl) fun w209 hb210 hg211 hs212 => ?_)
     have hE := row_fresh hE hg211 (Nat.le_trans hz198 (by omega))
     have hb21 := kb hg211 hb21 (by omega)
     have hA196 := row_fresh hA196 hg211 (Nat.le_trans (Nat.le_refl _) (by omega))
     clear hb200
     have hb200 : w209.heap[n190]? = some (.cells (rdkC (noR q)).toArray 50 (0, 0)) := hb210; clear hb210
     have hl213 := bl hb200
     refine ⟨⟨hb21, trivial⟩, ?_⟩
     refine tree_node (ns := [9]) (by kernel_rfl) (tree_step (r := [12]) rfl rfl (Yk.extract (vs := [.agg (rdkC (noR q)).toArray, .bool (true)]) (vr (.tuple #[.agg (rdkC (noR q)).toArray, .bool (true)]) rfl) (show _ = some (.bool (true) : Value) from rfl) ?_))
     refine ⟨⟨hb21, trivial⟩, ?_⟩
     refine tree_node (ns := [12]) (by kernel_rfl) (tree_step (r := []) rfl rfl (Yk.assign (vr (.bool (true)) rfl) ?_))
     refine ⟨⟨hb21, trivial⟩, ?_⟩
     refine tree_nil ?_
     clear hp59
     exact tN (hJK38 _ _ ⟨n190, T0, T1, T5, T6, T7, T22, rfl, rfl, hE, hb21, hb200, by omega, by omega, trivial⟩)
    refine tree_step (r := [8, 11, 12]) rfl rfl (Yk.extract (vs := [.agg (rdkC (noR q)).toArray, .bool (true)]) (vr (.tuple #[.agg (rdkC (noR q)).toArray, .bool (true)]) rfl) (show _ = some (.bool (true) : Value) from rfl) ?_)
    refine ⟨⟨hb21, trivial⟩, ?_⟩
    refine tree_node (ns := [8]) (by kernel_rfl) (tree_step (r := [11, 12]) rfl rfl (Yk.extract (vs := [.agg (rdkC (noR q)).toArray, .bool (true)]) (vr (.tuple #[.agg (rdkC (noR q)).toArray, .bool (true)]) rfl) (show _ = some (.agg (rdkC (noR q)).toArray : Value) from rfl) ?_))
    refine ⟨⟨hb21, trivial⟩, ?_⟩
    refine tree_node (ns := [11]) (by kernel_rfl) (tree_step (r := [12]) rfl rfl (Yk.storeAll (vr (PQ n190 0) rfl) (vr (.agg (rdkC (noR q)).toArray) rfl) hb200 (by simp only [List.size_toArray, rdk_len]) (st_isz (rdk_len _) dwp_isz50) (rdk_one (x := (noR q)) rfl rfl rfl rfl rfl) fun w214 hb215 hg216 hs217 => ?_))
    have hE := row_fresh hE hg216 (Nat.le_trans hz198 (by omega))
    have hb21 := kb hg216 hb21 (by omega)
    have hA196 := row_fresh hA196 hg216 (Nat.le_trans (Nat.le_refl _) (by omega))
    clear hb200
    have hb200 : w214.heap[n190]? = some (.cells (rdkC (noR q)).toArray 50 (0, 0)) := hb215; clear hb215
    have hl218 := bl hb200
    refine ⟨⟨hb21, trivial⟩, ?_⟩
    refine tree_node (ns := [12]) (by kernel_rfl) (tree_step (r := []) rfl rfl (Yk.assign (vr (.bool (true)) rfl) ?_))
    refine ⟨⟨hb21, trivial⟩, ?_⟩
    refine tree_nil ?_
    clear hp59
    exact tN (hJK38 _ _ ⟨n190, T0, T1, T5, T6, T7, T22, rfl, rfl, hE, hb21, hb200, by omega, by omega, trivial⟩)
   refine tree_step (r := [5, 6, 7, 8, 9, 11, 12]) rfl rfl (Yk.alloc (cs := (rdkC ((⟨false, 0, [], [], [], [], [], 0, 0, false⟩, ⟨.slice none 0 0, .slice none 0 0, .slice none 0 0, .slice none 0 0, .slice none 0 0⟩) : RdkV)).toArray) dwp_al50 fun n219 w220 hn221 hb222 hx223 hs224 => ?_)
   have hA225 := Ext.refl (World.drew w34)
   have hea226 := hE
   have hz227 : w.heap.size ≤ (World.drew w34).heap.size := hE.size
   have hlt228 := lte (bl hb21) hn221
   have hE := hE.trans hx223
   have hb21 := eb hx223 hb21
   have hA225 := hA225.trans hx223
   have hb229 := hb222; clear hb222
   have hl230 : n219 < w220.heap.size := by omega
   refine ⟨⟨hb21, trivial⟩, ?_⟩
   refine tree_node (ns := [5]) (by kernel_rfl) (tree_step (r := [6, 7, 8, 9, 11, 12]) rfl rfl (Yk.loadPR (PR.of (PR.keep hp59 hA225) (vr v58 rfl)) (dwp_ty33).choose_spec rfl (by rw [xac_len]; exact dwp_isz33) ?_))
   refine ⟨⟨hb21, trivial⟩, ?_⟩
   refine tree_node (ns := [6]) (by kernel_rfl) (tree_step (r := [7, 8, 9, 11, 12]) rfl rfl (Yk.callA3 dwp_pl20 (vr (.pointer none) rfl) (vr (.agg (rdkC (noR q)).toArray) rfl) (vr (.agg (xacC (l.getD (i) dXac)).toArray) rfl) ((played_nil _ q (l.getD (i) dXac) (hx.keep hE) hbl hfs).mono ?_)))
   rintro e w232 ⟨rfl, hx231⟩
   refine ⟨_, rfl, ?_⟩
   have hE := hE.trans hx231
   have hb21 := eb hx231 hb21
   have hA225 := hA225.trans hx231
   have hb229 := eb hx231 hb229
   refine ⟨⟨hb21, trivial⟩, ?_⟩
   refine tree_node (ns := [7]) (by kernel_rfl) (tree_step (r := [8, 9, 11, 12]) rfl rfl (Yk.move (vr (.tuple #[.agg (rdkC (noR q)).toArray, .bool (true)]) rfl) ?_))
   refine ⟨⟨hb21, trivial⟩, ?_⟩
   refine tree_node (ns := [8, 9]) (by kernel_rfl) ?_
   refine ⟨?_, ?_⟩
   ·refine tree_step (r := [9, 11, 12]) rfl rfl (Yk.extract (vs := [.agg (rdkC (noR q)).toArray, .bool (true)]) (vr (.tuple #[.agg (rdkC (noR q)).toArray, .bool (true)]) rfl) (show _ = some (.agg (rdkC (noR q)).toArray : Value) from rfl) ?_)
    refine ⟨⟨hb21, trivial⟩, ?_⟩
    refine tree_node (ns := [9, 11]) (by kernel_rfl) ?_
    refine ⟨?_, ?_⟩
    ·refine tree_step (r := [11, 12]) rfl rfl (Yk.extract (vs := [.agg (rdkC (noR q)).toArray, .bool (true)]) (vr (.tuple #[.agg (rdkC (noR q)).toArray, .bool (true)]) rfl) (show _ = some (.bool (true) : Value) from rfl) ?_)
     refine ⟨⟨hb21, trivial⟩, ?_⟩
     refine tree_node (ns := [11]) (by kernel_rfl) (tree_step (r := [12]) rfl rfl (Yk.storeAll (vr (PQ n219 0) rfl) (vr (.agg (rdkC (noR q)).toArray) rfl) hb229 (by simp only [List.size_toArray, rdk_len]) (st_isz (rdk_len _) dwp_isz50) (rdk_one (x := (noR q)) rfl rfl rfl rfl rfl) fun w233 hb234 hg235 hs236 => ?_))
     have hE := row_fresh hE hg235 (Nat.le_trans hz227 (by omega))
     have hb21 := kb hg235 hb21 (by omega)
     have hA225 := row_fresh hA225 hg235 (Nat.le_trans (Nat.le_refl _) (by omega))
     clear hb229
     have hb229 : w233.heap[n219]? = some (.cells (rdkC (noR q)).toArray 50 (0, 0)) := hb234; clear hb234
     have hl237 := bl hb229
     refine ⟨⟨hb21, trivial⟩, ?_⟩
     refine tree_node (ns := [12]) (by kernel_rfl) (tree_step (r := []) rfl rfl (Yk.assign (vr (.bool (true)) rfl) ?_))
     refine ⟨⟨hb21, trivial⟩, ?_⟩
     refine tree_nil ?_
     clear hp59
     exact tN (hJK38 _ _ ⟨n219, T0, T1, T5, T6, T7, T22, rfl, rfl, hE, hb21, hb229, by omega, by omega, trivial⟩)
    refine tree_step (r := [9, 12]) rfl rfl (Yk.storeAll (vr (PQ n219 0) rfl) (vr (.agg (rdkC (noR q)).toArray) rfl) hb229 (by simp only [List.size_toArray, rdk_len]) (st_isz (rdk_len _) dwp_isz50) (rdk_one (x := (noR q)) rfl rfl rfl rfl rfl) fun w238 hb239 hg240 hs241 => ?_)
    have hE := row_fresh hE hg240 (Nat.le_trans hz227 (by omega))
    have hb21 := kb hg240 hb21 (by omega)
    have hA225 := row_fresh hA225 hg240 (Nat.le_trans (Nat.le_refl _) (by omega))
    clear hb229
    have hb229 : w238.heap[n219]? = some (.cells (rdkC (noR q)).toArray 50 (0, 0)) := hb239; clear hb239
    have hl242 := bl hb229
    refine ⟨⟨hb21, trivial⟩, ?_⟩
    refine tree_node (ns := [9]) (by kernel_rfl) (tree_step (r := [12]) rfl rfl (Yk.extract (vs := [.agg (rdkC (noR q)).toArray, .bool (true)]) (vr (.tuple #[.agg (rdkC (noR q)).toArray, .bool (true)]) rfl) (show _ = some (.bool (true) : Value) from rfl) ?_))
    refine ⟨⟨hb21, trivial⟩, ?_⟩
    refine tree_node (ns := [12]) (by kernel_rfl) (tree_step (r := []) rfl rfl (Yk.assign (vr (.bool (true)) rfl) ?_))
    refine ⟨⟨hb21, trivial⟩, ?_⟩
    refine tree_nil ?_
    clear hp59
    exact tN (hJK38 _ _ ⟨n219, T0, T1, T5, T6, T7, T22, rfl, rfl, hE, hb21, hb229, by omega, by omega, trivial⟩)
   refine tree_step (r := [8, 11, 12]) rfl rfl (Yk.extract (vs := [.agg (rdkC (noR q)).toArray, .bool (true)]) (vr (.tuple #[.agg (rdkC (noR q)).toArray, .bool (true)]) rfl) (show _ = some (.bool (true) : Value) from rfl) ?_)
   refine ⟨⟨hb21, trivial⟩, ?_⟩
   refine tree_node (ns := [8]) (by kernel_rfl) (tree_step (r := [11, 12]) rfl rfl (Yk.extract (vs := [.agg (rdkC (noR q)).toArray, .bool (true)]) (vr (.tuple #[.agg (rdkC (noR q)).toArray, .bool (true)]) rfl) (show _ = some (.agg (rdkC (noR q)).toArray : Value) from rfl) ?_))
   refine ⟨⟨hb21, trivial⟩, ?_⟩
   refine tree_node (ns := [11]) (by kernel_rfl) (tree_step (r := [12]) rfl rfl (Yk.storeAll (vr (PQ n219 0) rfl) (vr (.agg (rdkC (noR q)).toArray) rfl) hb229 (by simp only [List.size_toArray, rdk_len]) (st_isz (rdk_len _) dwp_isz50) (rdk_one (x := (noR q)) rfl rfl rfl rfl rfl) fun w243 hb244 hg245 hs246 => ?_))
   have hE := row_fresh hE hg245 (Nat.le_trans hz227 (by omega))
   have hb21 := kb hg245 hb21 (by omega)
   have hA225 := row_fresh hA225 hg245 (Nat.le_trans (Nat.le_refl _) (by omega))
   clear hb229
   have hb229 : w243.heap[n219]? = some (.cells (rdkC (noR q)).toArray 50 (0, 0)) := hb244; clear hb244
   have hl247 := bl hb229
   refine ⟨⟨hb21, trivial⟩, ?_⟩
   refine tree_node (ns := [12]) (by kernel_rfl) (tree_step (r := []) rfl rfl (Yk.assign (vr (.bool (true)) rfl) ?_))
   refine ⟨⟨hb21, trivial⟩, ?_⟩
   refine tree_nil ?_
   clear hp59
   exact tN (hJK38 _ _ ⟨n219, T0, T1, T5, T6, T7, T22, rfl, rfl, hE, hb21, hb229, by omega, by omega, trivial⟩)
  refine tree_step (r := [4, 5, 6, 7, 8, 9, 11, 12]) rfl rfl (Yk.alloc (cs := (rdkC ((⟨false, 0, [], [], [], [], [], 0, 0, false⟩, ⟨.slice none 0 0, .slice none 0 0, .slice none 0 0, .slice none 0 0, .slice none 0 0⟩) : RdkV)).toArray) dwp_al50 fun n248 w249 hn250 hb251 hx252 hs253 => ?_)
  have hA254 := Ext.refl (World.drew w34)
  have hea255 := hE
  have hz256 : w.heap.size ≤ (World.drew w34).heap.size := hE.size
  have hlt257 := lte (bl hb21) hn250
  have hE := hE.trans hx252
  have hb21 := eb hx252 hb21
  have hA254 := hA254.trans hx252
  have hb258 := hb251; clear hb251
  have hl259 : n248 < w249.heap.size := by omega
  refine ⟨⟨hb21, trivial⟩, ?_⟩
  refine tree_node (ns := [4]) (by kernel_rfl) ?_
  have hl262 : (xacC (l.getD (i) dXac)).length = 6 := (RG.elem (hl.keep hE) dXac (by omega))
  refine tree_step (r := [5, 6, 7, 8, 9, 11, 12]) rfl rfl (Yk.atRG dwp_ty22 dwp_szg33 (by decide) dXac (RG.of (hl.keep hE) (vr v rfl)) (vr (NI i) rfl) (by omega) fun v260 hp261 => ?_)
  refine ⟨⟨hb21, trivial⟩, ?_⟩
  refine tree_node (ns := [5]) (by kernel_rfl) (tree_step (r := [6, 7, 8, 9, 11, 12]) rfl rfl (Yk.loadPR (PR.of hp261 (vr v260 rfl)) (dwp_ty33).choose_spec rfl (by rw [xac_len]; exact dwp_isz33) ?_))
  refine ⟨⟨hb21, trivial⟩, ?_⟩
  refine tree_node (ns := [6]) (by kernel_rfl) (tree_step (r := [7, 8, 9, 11, 12]) rfl rfl (Yk.callA3 dwp_pl20 (vr (.pointer none) rfl) (vr (.agg (rdkC (noR q)).toArray) rfl) (vr (.agg (xacC (l.getD (i) dXac)).toArray) rfl) ((played_nil _ q (l.getD (i) dXac) (hx.keep hE) hbl hfs).mono ?_)))
  rintro e w264 ⟨rfl, hx263⟩
  refine ⟨_, rfl, ?_⟩
  have hE := hE.trans hx263
  have hb21 := eb hx263 hb21
  have hA254 := hA254.trans hx263
  have hb258 := eb hx263 hb258
  have hp261 := PR.keep hp261 hx263
  refine ⟨⟨hb21, trivial⟩, ?_⟩
  refine tree_node (ns := [7]) (by kernel_rfl) (tree_step (r := [8, 9, 11, 12]) rfl rfl (Yk.move (vr (.tuple #[.agg (rdkC (noR q)).toArray, .bool (true)]) rfl) ?_))
  refine ⟨⟨hb21, trivial⟩, ?_⟩
  refine tree_node (ns := [8, 9]) (by kernel_rfl) ?_
  refine ⟨?_, ?_⟩
  ·refine tree_step (r := [9, 11, 12]) rfl rfl (Yk.extract (vs := [.agg (rdkC (noR q)).toArray, .bool (true)]) (vr (.tuple #[.agg (rdkC (noR q)).toArray, .bool (true)]) rfl) (show _ = some (.agg (rdkC (noR q)).toArray : Value) from rfl) ?_)
   refine ⟨⟨hb21, trivial⟩, ?_⟩
   refine tree_node (ns := [9, 11]) (by kernel_rfl) ?_
   refine ⟨?_, ?_⟩
   ·refine tree_step (r := [11, 12]) rfl rfl (Yk.extract (vs := [.agg (rdkC (noR q)).toArray, .bool (true)]) (vr (.tuple #[.agg (rdkC (noR q)).toArray, .bool (true)]) rfl) (show _ = some (.bool (true) : Value) from rfl) ?_)
    refine ⟨⟨hb21, trivial⟩, ?_⟩
    refine tree_node (ns := [11]) (by kernel_rfl) (tree_step (r := [12]) rfl rfl (Yk.storeAll (vr (PQ n248 0) rfl) (vr (.agg (rdkC (noR q)).toArray) rfl) hb258 (by simp only [List.size_toArray, rdk_len]) (st_isz (rdk_len _) dwp_isz50) (rdk_one (x := (noR q)) rfl rfl rfl rfl rfl) fun w265 hb266 hg267 hs268 => ?_))
    have hE := row_fresh hE hg267 (Nat.le_trans hz256 (by omega))
    have hb21 := kb hg267 hb21 (by omega)
    have hA254 := row_fresh hA254 hg267 (Nat.le_trans (Nat.le_refl _) (by omega))
    clear hp261
    clear hb258
    have hb258 : w265.heap[n248]? = some (.cells (rdkC (noR q)).toArray 50 (0, 0)) := hb266; clear hb266
    have hl269 := bl hb258
    refine ⟨⟨hb21, trivial⟩, ?_⟩
    refine tree_node (ns := [12]) (by kernel_rfl) (tree_step (r := []) rfl rfl (Yk.assign (vr (.bool (true)) rfl) ?_))
    refine ⟨⟨hb21, trivial⟩, ?_⟩
    refine tree_nil ?_
    exact tN (hJK38 _ _ ⟨n248, T0, T1, T5, T6, T7, T22, rfl, rfl, hE, hb21, hb258, by omega, by omega, trivial⟩)
   refine tree_step (r := [9, 12]) rfl rfl (Yk.storeAll (vr (PQ n248 0) rfl) (vr (.agg (rdkC (noR q)).toArray) rfl) hb258 (by simp only [List.size_toArray, rdk_len]) (st_isz (rdk_len _) dwp_isz50) (rdk_one (x := (noR q)) rfl rfl rfl rfl rfl) fun w270 hb271 hg272 hs273 => ?_)
   have hE := row_fresh hE hg272 (Nat.le_trans hz256 (by omega))
   have hb21 := kb hg272 hb21 (by omega)
   have hA254 := row_fresh hA254 hg272 (Nat.le_trans (Nat.le_refl _) (by omega))
   clear hp261
   clear hb258
   have hb258 : w270.heap[n248]? = some (.cells (rdkC (noR q)).toArray 50 (0, 0)) := hb271; clear hb271
   have hl274 := bl hb258
   refine ⟨⟨hb21, trivial⟩, ?_⟩
   refine tree_node (ns := [9]) (by kernel_rfl) (tree_step (r := [12]) rfl rfl (Yk.extract (vs := [.agg (rdkC (noR q)).toArray, .bool (true)]) (vr (.tuple #[.agg (rdkC (noR q)).toArray, .bool (true)]) rfl) (show _ = some (.bool (true) : Value) from rfl) ?_))
   refine ⟨⟨hb21, trivial⟩, ?_⟩
   refine tree_node (ns := [12]) (by kernel_rfl) (tree_step (r := []) rfl rfl (Yk.assign (vr (.bool (true)) rfl) ?_))
   refine ⟨⟨hb21, trivial⟩, ?_⟩
   refine tree_nil ?_
   exact tN (hJK38 _ _ ⟨n248, T0, T1, T5, T6, T7, T22, rfl, rfl, hE, hb21, hb258, by omega, by omega, trivial⟩)
  refine tree_step (r := [8, 11, 12]) rfl rfl (Yk.extract (vs := [.agg (rdkC (noR q)).toArray, .bool (true)]) (vr (.tuple #[.agg (rdkC (noR q)).toArray, .bool (true)]) rfl) (show _ = some (.bool (true) : Value) from rfl) ?_)
  refine ⟨⟨hb21, trivial⟩, ?_⟩
  refine tree_node (ns := [8]) (by kernel_rfl) (tree_step (r := [11, 12]) rfl rfl (Yk.extract (vs := [.agg (rdkC (noR q)).toArray, .bool (true)]) (vr (.tuple #[.agg (rdkC (noR q)).toArray, .bool (true)]) rfl) (show _ = some (.agg (rdkC (noR q)).toArray : Value) from rfl) ?_))
  refine ⟨⟨hb21, trivial⟩, ?_⟩
  refine tree_node (ns := [11]) (by kernel_rfl) (tree_step (r := [12]) rfl rfl (Yk.storeAll (vr (PQ n248 0) rfl) (vr (.agg (rdkC (noR q)).toArray) rfl) hb258 (by simp only [List.size_toArray, rdk_len]) (st_isz (rdk_len _) dwp_isz50) (rdk_one (x := (noR q)) rfl rfl rfl rfl rfl) fun w275 hb276 hg277 hs278 => ?_))
  have hE := row_fresh hE hg277 (Nat.le_trans hz256 (by omega))
  have hb21 := kb hg277 hb21 (by omega)
  have hA254 := row_fresh hA254 hg277 (Nat.le_trans (Nat.le_refl _) (by omega))
  clear hp261
  clear hb258
  have hb258 : w275.heap[n248]? = some (.cells (rdkC (noR q)).toArray 50 (0, 0)) := hb276; clear hb276
  have hl279 := bl hb258
  refine ⟨⟨hb21, trivial⟩, ?_⟩
  refine tree_node (ns := [12]) (by kernel_rfl) (tree_step (r := []) rfl rfl (Yk.assign (vr (.bool (true)) rfl) ?_))
  refine ⟨⟨hb21, trivial⟩, ?_⟩
  refine tree_nil ?_
  exact tN (hJK38 _ _ ⟨n248, T0, T1, T5, T6, T7, T22, rfl, rfl, hE, hb21, hb258, by omega, by omega, trivial⟩)
 refine wpF_exit (thenF_exit (thenF_exit (inBlockF_hit (tN (hK30 _ _ (sk fun K280 hK280 => (wt (oS rfl (Yk.callA0 dwp_pl16  ((awake06 _).mono ?_))))))))))
 rintro e w282 ⟨rfl, hx281⟩
 refine ⟨_, rfl, ?_⟩
 have hE := hE.trans hx281
 have hb21 := eb hx281 hb21
 refine oA rfl (oZ (tN (hK280 _ _ (wpF_ret (postF_ret (fn := Try.f5) _ rfl [.bool (true)] (.bool (true)) rfl ⟨rfl, trivial⟩ ?_)))))
 exact ⟨rfl, hE⟩

theorem plays_ok (w : World) (q : Nat) (hq : q ≤ 1073741824) (v : Value) (l : List XactV) (hl : RG 6 (xacC) w v l) (hk : ∀ x ∈ l, XactAt w x) :
  Calls Try.prog 5 #[NI q, v] w fun e w' => e = .returned (.bool true) ∧ Ext w w' := by
 refine calls_of_wpF (args := [NI q, v]) Try.func5 rfl 80 rfl (Nat.le_of_ble_eq_true rfl) ?_
 intro ρ0 hb
 have T0 : ρ0 0 = (NI q : Value) := hb.get 0
 have T1 : ρ0 1 = (v : Value) := hb.get 1
 clear hb
 have hE := Ext.refl w
 refine sk fun K1 hK1 => (wt (oA rfl (oZ (tN (hK1 _ _ (sk fun K2 hK2 => (sk fun K3 hK3 => (wt (oM rfl (oS rfl (Yk.callA2 dwp_pl7 T1 (vr (NI 60) rfl) ((light_any _ v l (hl.keep hE) (fun x hx => (hk x hx).keep hE) 60 (by decide)).mono ?_))))))))))))
 rintro e w5 ⟨rfl, hx4⟩
 refine ⟨_, rfl, ?_⟩
 have hE := hE.trans hx4
 refine oS rfl (Yk.notB (vr (.bool ((lightB l 60))) rfl) (oZ (tN (hK3 _ _ ?_))))
 refine wpF_condB (!((lightB l 60))) (vr (.bool (!((lightB l 60)))) rfl) (fun hc0 => ?_) (fun hc0 => ?_)
 ·refine sk fun K6 hK6 => (wt (oA rfl (oZ (tN (hK6 _ _ (wpF_ret (thenF_ret (postF_ret (fn := Try.f5) _ rfl [.bool (true)] (.bool (true)) rfl ⟨rfl, trivial⟩ ?_))))))))
  exact ⟨rfl, hE⟩
 have hL : lightB l 60 = true := by simpa using hc0
 have hln := (lightB_get hL).1
 refine wpF_skip (tN (hK2 _ _ (sk fun K7 hK7 => (wt (oM rfl (oS rfl (Yk.callA1 dwp_pl8 T0 ((new_g w _ hE q hq).mono ?_))))))))
 rintro e w10 ⟨g1, H8, rfl, hD1, hx9⟩
 refine ⟨_, rfl, ?_⟩
 have hE := hE.trans hx9
 have hD := hD1
 refine oM rfl (oS rfl (Yk.callA1 dwp_pl19 T0 ((newR_any _ q hq).mono ?_)))
 rintro e w12 ⟨rfl, hx11⟩
 refine ⟨_, rfl, ?_⟩
 have hE := hE.trans hx11
 have hD : DkG w w12 g1 H8 (newD q) := (hD.keep hx11)
 refine oS rfl (Yk.alloc (cs := (rdkC ((⟨false, 0, [], [], [], [], [], 0, 0, false⟩, ⟨.slice none 0 0, .slice none 0 0, .slice none 0 0, .slice none 0 0, .slice none 0 0⟩) : RdkV)).toArray) dwp_al50 fun n13 w14 hn15 hb16 hx17 hs18 => ?_)
 have hA19 := Ext.refl w12
 have hea20 := hE
 have hz21 := hE.size
 have hE := hE.trans hx17
 have hD : DkG w w14 g1 H8 (newD q) := (hD.keep hx17)
 have hA19 := hA19.trans hx17
 have hb22 := hb16; clear hb16
 have hl23 : n13 < w14.heap.size := by omega
 refine oA rfl (oS rfl (Yk.storeAll (vr (PQ n13 0) rfl) (vr (.agg (rdkC (refP (newD q), V0)).toArray) rfl) hb22 (by simp only [List.size_toArray, rdk_len]) (st_isz (rdk_len _) dwp_isz50) (rdk_one (x := (refP (newD q), V0)) rfl rfl rfl rfl rfl) fun w24 hb25 hg26 hs27 => ?_))
 have hE := row_fresh hE hg26 (Nat.le_trans hz21 (by omega))
 have hD : DkG w w24 g1 H8 (newD q) := DkG.setT hD hg26 hb22 (by omega) (by decide) (by decide) (by decide) (by decide) (by decide) (by decide)
 have hA19 := row_fresh hA19 hg26 (Nat.le_trans (Nat.le_refl _) (by omega))
 clear hb22
 have hb22 : w24.heap[n13]? = some (.cells (rdkC (refP (newD q), V0)).toArray 50 (0, 0)) := hb25; clear hb25
 have hl28 := bl hb22
 refine oZ ?_
 have hR : RdAt (OffQ H8 (newD q).files.length (fun i => i = n13)) w24 (newD q) V0 := rdat_new _ _ _
 refine tN (hK7 _ _ (sk fun K29 hK29 => (sk fun K30 hK30 => (wt (oM rfl (oS rfl (Yk.neqNil dwp_ty29 (vr (PQ g1 0) rfl) (oS rfl (Yk.fieldAt dwp_fo50_0 (vr (PQ n13 0) rfl) (oS rfl (Yk.cell1 dwp_ty4 rfl (vr (PQ n13 0) rfl) (cellAt hb22 (show (rdkC (refP (newD q), V0))[0]? = some (.bool (true) : Value) from rdk_g0 (refP (newD q), V0))) (oS rfl (Yk.neBool (a := true) (b := true) dwp_ty4 (vr (.bool (true)) rfl) (vr (.bool (true)) rfl) (oZ (tN (hK30 _ _ (wpF_false (vr (.bool (false)) (congrArg Value.bool (by decide))) (wpF_skip (tN (hK29 _ _ (sk fun K31 hK31 => (sk fun K32 hK32 => ?_))))))))))))))))))))))
 refine wt (oA rfl (oL_ [(0, NI q), (1, v), (4, .bool (false)), (5, PQ g1 0), (6, PQ n13 0), (7, NI 0), (22, .bool (false))] ⟨T0, T1, rfl, rfl, rfl, rfl, (congrArg Value.bool (by decide)), trivial⟩ fun ρ33 ⟨T0, T1, T4, T5, T6, T7, T22, _⟩ => (tN (hK32 _ _ (wpF_block (wpF_loop (fun (ρ : Slots) (wz : World) => ∃ i : Nat, ∃ Hi : Dk, ∃ V : RdkW, ρ 0 = (NI q : Value) ∧ ρ 1 = (v : Value) ∧ ρ 5 = (PQ g1 0 : Value) ∧ ρ 6 = (PQ n13 0 : Value) ∧ ρ 22 = (.bool (false) : Value) ∧ ρ 7 = (NI i : Value) ∧ Ext w wz ∧ wz.heap[n13]? = some (.cells (rdkC (refP (playN (newD q) l i), V)).toArray 50 (0, 0)) ∧ DkG w wz g1 Hi (playN (newD q) l i) ∧ RdAt (OffQ Hi (playN (newD q) l i).files.length (fun i => i = n13)) wz (playN (newD q) l i) V ∧ (i ≤ l.length) ∧ True) (fun ρ _ => l.length - (intOf (ρ 7)).toNat) ⟨0, H8, V0, T0, T1, T5, T6, T22, T7, hE, hb22, hD, hR, Nat.zero_le _, trivial⟩ ?_))))))
 clear hD
 clear hA19
 clear hb22
 clear hR
 clear hE
 rintro ρ34 w35 ⟨i, Hi, V, T0, T1, T5, T6, T22, T7, hE, hbk, hD, hR, hi, -⟩
 have q7 := T7
 refine sk fun K36 hK36 => (sk fun K37 hK37 => (wt (oM rfl (oM rfl (oS rfl (Yk.lenRG dwp_ty22 (RG.of (hl.keep hE) T1) (oS rfl (Yk.eqI (a := (i : Nat)) (b := (l.length : Nat)) T7 rfl (k_lss _ _ _ _) (oZ (tN (hK37 _ _ ?_)))))))))))
 refine wpF_cond ((i) < (l.length)) (vr (.bool (decide ((i) < (l.length)))) rfl) (fun hc2 => ?_) (fun hc2 => ?_)
 ·have hlt : i < l.length := hc2
  have hmem := getD_mem_ (d := dXac) hlt
  have hx := hk _ hmem
  have hbl := ((lightB_get hL).2 _ hmem).1
  have hfs := ((lightB_get hL).2 _ hmem).2
  have hB := DBd.play (q := q) hq hL (fun x hx => (hk x hx).n) hi
  have hF := nfiles_play (q := q) hq hL (fun x hx => (hk x hx).n) hi
  have hB2 := DBd.play (q := q) hq hL (fun x hx => (hk x hx).n) (show i + 1 ≤ l.length by omega)
  have hL0 := hB.lt (by omega)
  have hL2 := hB2.lt (by omega)
  have hac := hB.acts
  have hnw := hB.now
  refine wpF_skip (tN (hK36 _ _ (sk fun K38 hK38 => (wpF_block (sk fun K39 hK39 => ?_)))))
  have hJK39 : ∀ (ρ : Slots) (wz : World), (∃ H2 : Dk, ∃ V2 : RdkW, ∃ n8 : Nat, ρ 0 = (NI q : Value) ∧ ρ 1 = (v : Value) ∧ ρ 5 = (PQ g1 0 : Value) ∧ ρ 6 = (PQ n13 0 : Value) ∧ ρ 7 = (NI i : Value) ∧ ρ 22 = (.bool (false) : Value) ∧ ρ 8 = (PQ n8 0 : Value) ∧ ρ 9 = (.bool (true) : Value) ∧ Ext w wz ∧ wz.heap[n13]? = some (.cells (rdkC (refP (playN (newD q) l i), V)).toArray 50 (0, 0)) ∧ wz.heap[n8]? = some (.cells (rdkC (refP (playN (newD q) l (i + 1)), V2)).toArray 50 (0, 0)) ∧ DkG w wz g1 H2 (playN (newD q) l (i + 1)) ∧ RdAt (OffQ H2 (playN (newD q) l (i + 1)).files.length (fun i => i = n13)) wz (playN (newD q) l (i + 1)) V2 ∧ (w.heap.size ≤ n8) ∧ (n8 ≠ n13) ∧ True) → K39 ρ wz := by
   clear hE hbk
   rintro ρ41 w42 ⟨H2, V2, n8, T0, T1, T5, T6, T7, T22, T8, T9, hE, hbk, hb8, hD, hR, hn8, hn86, -⟩
   refine hK39 _ _ (sk fun K43 hK43 => (wt (oS rfl (Yk.loadAll T8 hb8 (dwp_ty50).choose_spec rfl (st_isz (rdk_len (refP (playN (newD q) l (i + 1)), V2)) dwp_isz50) ?_))))
   obtain ⟨lq_, -, hq49⟩ := hR.files
   have hq44 := hq49.1
   have hq45 := hR.synced.1
   have hq46 := hR.now.1
   have hq47 := hR.kept.1
   have hq48 := hR.acts.1
   refine oS rfl (Yk.storeAll T6 (vr (.agg (rdkC (refP (playN (newD q) l (i + 1)), V2)).toArray) rfl) hbk (by simp only [List.size_toArray, rdk_len]) (st_isz (rdk_len _) dwp_isz50) (rdk_one (x := (refP (playN (newD q) l (i + 1)), V2)) (RG.one hq44).2 (RG.one hq45).2 (RG.one hq46).2 (RG.one hq47).2 (RG.one hq48).2) fun w50 hb51 hg52 hs53 => ?_)
   have hE := row_fresh hE hg52 (Nat.le_trans hz21 (by omega))
   have hb8 := kb hg52 hb8 (by omega)
   have hD : DkG w w50 g1 H2 ((playN (newD q) l (i + 1))) := DkG.setT hD hg52 hbk (by omega) (by decide) (by decide) (by decide) (by decide) (by decide) (by decide)
   have hR : RdAt (OffQ H2 ((playN (newD q) l (i + 1))).files.length (fun i => i = n13)) w50 ((playN (newD q) l (i + 1))) V2 := RdAt.setQ hR hg52 rfl
   clear hq44
   clear hq45
   clear hq46
   clear hq47
   clear hq48
   clear hbk
   have hbk : w50.heap[n13]? = some (.cells (rdkC (refP (playN (newD q) l (i + 1)), V2)).toArray 50 (0, 0)) := hb51; clear hb51
   have hl54 := bl hbk
   refine oZ ?_
   have hok2 := hD.st.ok
   have hll2 : (listD (playN (newD q) l (i + 1))).length < 1099511627776 := list_len hL2
   refine tN (hK43 _ _ (sk fun K55 hK55 => (wt (oA rfl (oZ ?_)))))
   cases hdn : (playN (newD q) l (i + 1)).down
   ·refine tN (hK55 _ _ (sk fun K56 hK56 => (sk fun K57 hK57 => (wt (oS rfl (Yk.fieldAt dwp_fo50_0 T6 (oS rfl (Yk.cell1 dwp_ty4 rfl (vr (PQ n13 0) rfl) (cellAt hbk (show (rdkC (refP (playN (newD q) l (i + 1)), V2))[0]? = some (.bool (true) : Value) from rdk_g0 (refP (playN (newD q) l (i + 1)), V2))) (oM rfl (oY (d := 42) rfl rfl (vr (.bool (true)) rfl) (Yk.fieldAt dwp_fo50_9 T6 (oY (d := 42) rfl rfl (vr (.bool (true)) rfl) (Yk.cell1 dwp_ty4 rfl (vr (PQ n13 9) rfl) (cellAt hbk (show (rdkC (refP (playN (newD q) l (i + 1)), V2))[9]? = some (.bool false : Value) from (rdk_g9 (refP (playN (newD q) l (i + 1)), V2)).trans (congrArg (fun b => some (Value.bool b)) (show (playN (newD q) l (i + 1)).down = _ from hdn)))) (oY (d := 42) rfl rfl (vr (.bool (true)) rfl) (Yk.notB (vr (.bool (false)) rfl) (oS rfl (Yk.pickT (vr (.bool (true)) rfl) (vr (.bool (true)) rfl) (oZ (tN (hK57 _ _ (wpF_true (vr (.bool (true)) rfl) (wt (oS rfl (Yk.loadAll T6 hbk (dwp_ty50).choose_spec rfl (st_isz (rdk_len (refP (playN (newD q) l (i + 1)), V2)) dwp_isz50) ?_))))))))))))))))))))))))
    refine oS rfl (Yk.callA1 dwp_pl21 (vr (.agg (rdkC (refP (playN (newD q) l (i + 1)), V2)).toArray) rfl) ((used_any _ (playN (newD q) l (i + 1)) V2 hR hok2 hL2).mono ?_))
    rintro e w59 ⟨rfl, hx58⟩
    refine ⟨_, rfl, ?_⟩
    have hE := hE.trans hx58
    have hb8 := eb hx58 hb8
    have hD : DkG w w59 g1 H2 ((playN (newD q) l (i + 1))) := (hD.keep hx58)
    have hR : RdAt (OffQ H2 ((playN (newD q) l (i + 1))).files.length (fun i => i = n13)) w59 ((playN (newD q) l (i + 1))) V2 := (hR.keep hx58)
    have hbk := eb hx58 hbk
    refine oA rfl (oZ (tN (hK56 _ _ (sk fun K60 hK60 => ?_))))
    refine wpF_draw [Is (.bool (true)), Is (.bool (false)), Is (.bool (false)), Is (PQ g1 0), fun x w' => RG 1 (enS) w' x ((listD (playN (newD q) l (i + 1)))), Is (.agg (rdkC (refP (playN (newD q) l (i + 1)), V2)).toArray), fun x w' => RG 1 (enS) w' x ((listD (playN (newD q) l (i + 1)))), Is (.bool (true)), Is (.bool (false)), Is (.bool (false)), Is (.bool (false)), Is (PQ g1 0), Is (NI (usedD (playN (newD q) l (i + 1)))), Is (NI (usedD (playN (newD q) l (i + 1)))), Is (.bool (false)), Is (.bool (false)), Is (.bool (false)), Is (PQ g1 0), Is (.bool (false)), Is (PQ n13 9), Is (.bool (false)), Is (.bool (false)), Is (.bool (false)), Is (.bool (false)), Is (PQ g1 0), Is (NI ((playN (newD q) l (i + 1)).refused)), Is (PQ n13 7), Is (NI (((playN (newD q) l (i + 1))).refused)), Is (.bool (false)), Is (.bool (false))] (by kernel_rfl) [49, 50, 51, 52, 53, 54, 55, 56, 57, 58, 59, 60, 61, 62, 63, 64, 65, 66, 67, 68, 69, 70, 71, 72, 73, 74, 75, 76, 77, 78] (by kernel_rfl) (by kernel_rfl) (si4 ⟨(fun _ _ _ h k => RG.keep h k), Stab.is _, (fun _ _ _ h k => RG.keep h k), (si11 (si12 trivial))⟩) ?hs2014 ?hQ2014
    case hs2014 =>
     refine ⟨?_, ?_, ?_, ?_, ?_, ?_, ?_, ?_, ?_, ?_, ?_, ?_, ?_, ?_, ?_, ?_, ?_, ?_, ?_, ?_, ?_, ?_, ?_, ?_, ?_, ?_, ?_, ?_, ?_, ?_, trivial⟩
     ·refine stepN rfl fun σ w1 hC h => ?_
      have e9 := (eqo (h 9 (by decide))).trans T9
      exact Yk.move e9 ⟨Ext.refl _, rfl⟩
     ·refine stepN rfl fun σ w1 hC h => ?_
      have e49 := eqo (h 49 (by decide))
      exact Yk.notB e49 ⟨Ext.refl _, rfl⟩
     ·refine stepN rfl fun σ w1 hC h => ?_
      have e50 := eqo (h 50 (by decide))
      exact Yk.move e50 ⟨Ext.refl _, rfl⟩
     ·refine stepY 2 false 51 rfl rfl (fun _ _ h => h) fun σ w1 hC h => ?_
      have e5 := (eqo (h 5 (by decide))).trans T5
      exact Yk.move e5 ⟨Ext.refl _, rfl⟩
     ·refine stepY 2 false 51 rfl rfl (fun _ _ h => h) fun σ w1 hC h => ?_
      have e52 := eqo (h 52 (by decide))
      refine Yk.callA1 dwp_pl17 e52 (((hD.keep hC).list hL2).mono ?_)
      rintro e w2 ⟨v_, rfl, ho, hx⟩
      exact ⟨_, rfl, hx, RG.ofOwn ho⟩
     ·refine stepY 2 false 51 rfl rfl (fun _ _ h => h) fun σ w1 hC h => ?_
      have e6 := (eqo (h 6 (by decide))).trans T6
      exact Yk.loadAll e6 (eb hC hbk) (dwp_ty50).choose_spec rfl (st_isz (rdk_len (refP (playN (newD q) l (i + 1)), V2)) dwp_isz50) ⟨Ext.refl _, rfl⟩
     ·refine stepY 2 false 51 rfl rfl (fun _ _ h => h) fun σ w1 hC h => ?_
      have e54 := eqo (h 54 (by decide))
      refine Yk.callA1 dwp_pl23 e54 ((rlist_any _ (playN (newD q) l (i + 1)) V2 (hR.keep hC) hL2).mono ?_)
      rintro e w2 ⟨v_, rfl, ho, hx⟩
      exact ⟨_, rfl, hx, RG.ofOwn ho⟩
     ·refine stepY 2 false 51 rfl rfl (fun _ _ h => h) fun σ w1 hC h => ?_
      have e53 : (fun x w' => RG 1 (enS) w' x ((listD (playN (newD q) l (i + 1))))) (σ 53) w1 := h 53 (by decide)
      have e55 : (fun x w' => RG 1 (enS) w' x ((listD (playN (newD q) l (i + 1))))) (σ 55) w1 := h 55 (by decide)
      refine Yk.callA2 dwp_pl22 rfl rfl ((texts_same _ _ _ _ e53 e55 hll2).mono ?_)
      rintro e w2 ⟨rfl, hx⟩
      exact ⟨_, rfl, hx, rfl⟩
     ·refine stepY 2 false 51 rfl rfl (fun _ _ h => h) fun σ w1 hC h => ?_
      have e56 := eqo (h 56 (by decide))
      exact Yk.notB e56 ⟨Ext.refl _, rfl⟩
     ·refine stepN rfl fun σ w1 hC h => ?_
      have e51 := eqo (h 51 (by decide))
      have e57 := eqo (h 57 (by decide))
      exact Yk.pickF e51 e57 ⟨Ext.refl _, rfl⟩
     ·refine stepN rfl fun σ w1 hC h => ?_
      have e58 := eqo (h 58 (by decide))
      exact Yk.move e58 ⟨Ext.refl _, rfl⟩
     ·refine stepY 10 false 59 rfl rfl (fun _ _ h => h) fun σ w1 hC h => ?_
      have e5 := (eqo (h 5 (by decide))).trans T5
      exact Yk.move e5 ⟨Ext.refl _, rfl⟩
     ·refine stepY 10 false 59 rfl rfl (fun _ _ h => h) fun σ w1 hC h => ?_
      have e60 := eqo (h 60 (by decide))
      refine Yk.callA1 dwp_pl18 e60 ((used_is (hD.keep hC) hL2 hdn).mono ?_)
      rintro e w2 ⟨rfl, hx⟩
      exact ⟨_, rfl, hx, rfl⟩
     ·refine stepY 10 false 59 rfl rfl (fun _ _ h => h) fun σ w1 hC h => ?_
      have e10 : σ 10 = NI (usedD (playN (newD q) l (i + 1))) := (eqo (h 10 (by decide))).trans rfl
      exact Yk.move e10 ⟨Ext.refl _, rfl⟩
     ·refine stepY 10 false 59 rfl rfl (fun _ _ h => h) fun σ w1 hC h => ?_
      have e61 := eqo (h 61 (by decide))
      have e62 := eqo (h 62 (by decide))
      exact Yk.eqI (a := ((usedD (playN (newD q) l (i + 1))) : Nat)) (b := ((usedD (playN (newD q) l (i + 1))) : Nat)) e61 e62 (k_neq _ _ _ _) ⟨Ext.refl _, (congrArg Value.bool (decide_eq_false (fun h => h rfl)))⟩
     ·refine stepN rfl fun σ w1 hC h => ?_
      have e59 := eqo (h 59 (by decide))
      have e63 := eqo (h 63 (by decide))
      exact Yk.pickF e59 e63 ⟨Ext.refl _, rfl⟩
     ·refine stepN rfl fun σ w1 hC h => ?_
      have e64 := eqo (h 64 (by decide))
      exact Yk.move e64 ⟨Ext.refl _, rfl⟩
     ·refine stepY 16 false 65 rfl rfl (fun _ _ h => h) fun σ w1 hC h => ?_
      have e5 := (eqo (h 5 (by decide))).trans T5
      exact Yk.move e5 ⟨Ext.refl _, rfl⟩
     ·refine stepY 16 false 65 rfl rfl (fun _ _ h => h) fun σ w1 hC h => ?_
      have e66 := eqo (h 66 (by decide))
      refine Yk.callA1 dwp_pl10 e66 ((down_is (hD.keep hC) hdn).mono ?_)
      rintro e w2 ⟨rfl, hx⟩
      exact ⟨_, rfl, hx, rfl⟩
     ·refine stepY 16 false 65 rfl rfl (fun _ _ h => h) fun σ w1 hC h => ?_
      have e6 := (eqo (h 6 (by decide))).trans T6
      exact Yk.fieldAt dwp_fo50_9 e6 ⟨Ext.refl _, rfl⟩
     ·refine stepY 16 false 65 rfl rfl (fun _ _ h => h) fun σ w1 hC h => ?_
      have e68 := eqo (h 68 (by decide))
      exact Yk.cell1 dwp_ty4 rfl e68 (cellAt (eb hC hbk) (show (rdkC (refP (playN (newD q) l (i + 1)), V2))[9]? = some (.bool false : Value) from (rdk_g9 (refP (playN (newD q) l (i + 1)), V2)).trans (congrArg (fun b => some (Value.bool b)) (show (playN (newD q) l (i + 1)).down = _ from hdn)))) ⟨Ext.refl _, rfl⟩
     ·refine stepY 16 false 65 rfl rfl (fun _ _ h => h) fun σ w1 hC h => ?_
      have e67 := eqo (h 67 (by decide))
      have e69 := eqo (h 69 (by decide))
      exact Yk.neBool (a := false) (b := false) dwp_ty4 e67 e69 ⟨Ext.refl _, (congrArg Value.bool (by decide))⟩
     ·refine stepN rfl fun σ w1 hC h => ?_
      have e65 := eqo (h 65 (by decide))
      have e70 := eqo (h 70 (by decide))
      exact Yk.pickF e65 e70 ⟨Ext.refl _, rfl⟩
     ·refine stepN rfl fun σ w1 hC h => ?_
      have e71 := eqo (h 71 (by decide))
      exact Yk.move e71 ⟨Ext.refl _, rfl⟩
     ·refine stepY 23 false 72 rfl rfl (fun _ _ h => h) fun σ w1 hC h => ?_
      have e5 := (eqo (h 5 (by decide))).trans T5
      exact Yk.move e5 ⟨Ext.refl _, rfl⟩
     ·refine stepY 23 false 72 rfl rfl (fun _ _ h => h) fun σ w1 hC h => ?_
      have e73 := eqo (h 73 (by decide))
      refine Yk.callA1 dwp_pl24 e73 (((hD.keep hC).refused).mono ?_)
      rintro e w2 ⟨rfl, hx⟩
      exact ⟨_, rfl, hx, rfl⟩
     ·refine stepY 23 false 72 rfl rfl (fun _ _ h => h) fun σ w1 hC h => ?_
      have e6 := (eqo (h 6 (by decide))).trans T6
      exact Yk.fieldAt dwp_fo50_7 e6 ⟨Ext.refl _, rfl⟩
     ·refine stepY 23 false 72 rfl rfl (fun _ _ h => h) fun σ w1 hC h => ?_
      have e75 := eqo (h 75 (by decide))
      exact Yk.cell1 dwp_ty3 rfl e75 (cellAt (eb hC hbk) (show (rdkC (refP (playN (newD q) l (i + 1)), V2))[7]? = some (NI (((playN (newD q) l (i + 1))).refused) : Value) from rdk_g7 (refP (playN (newD q) l (i + 1)), V2))) ⟨Ext.refl _, rfl⟩
     ·refine stepY 23 false 72 rfl rfl (fun _ _ h => h) fun σ w1 hC h => ?_
      have e74 := eqo (h 74 (by decide))
      have e76 := eqo (h 76 (by decide))
      exact Yk.eqI (a := ((playN (newD q) l (i + 1)).refused : Nat)) (b := (((playN (newD q) l (i + 1))).refused : Nat)) e74 e76 (k_neq _ _ _ _) ⟨Ext.refl _, (congrArg Value.bool (decide_eq_false (fun h => h rfl)))⟩
     ·refine stepN rfl fun σ w1 hC h => ?_
      have e72 := eqo (h 72 (by decide))
      have e77 := eqo (h 77 (by decide))
      exact Yk.pickF e72 e77 ⟨Ext.refl _, rfl⟩
    intro ρ61 w62 hx63 he hf
    obtain ⟨-, -, -, -, -, -, -, -, -, -, -, -, -, -, -, -, -, -, -, -, -, -, -, -, -, -, -, -, -, k78, -⟩ := hf
    obtain ⟨T0, T1, T5, T6, T7, T8, T9, T10, T22, T46, -⟩ := he.hold [(0, _), (1, _), (5, _), (6, _), (7, _), (8, _), (9, _), (10, NI (usedD (playN (newD q) l (i + 1)))), (22, _), (46, .bool (true))] ⟨T0, T1, T5, T6, T7, T8, T9, rfl, T22, rfl, trivial⟩ rfl
    clear he
    have hE := hE.trans hx63
    have hb8 := eb hx63 hb8
    have hD : DkG w w62 g1 H2 ((playN (newD q) l (i + 1))) := (hD.keep hx63)
    have hR : RdAt (OffQ H2 ((playN (newD q) l (i + 1))).files.length (fun i => i = n13)) w62 ((playN (newD q) l (i + 1))) V2 := (hR.keep hx63)
    have hbk := eb hx63 hbk
    have T78 : ρ61 78 = .bool (false) := k78
    clear k78
    refine tN (hK60 _ _ (wpF_false T78 (wpF_skip (bN (tN (hK38 _ _ (wt (oM rfl (oS rfl (Yk.bin (xv := NI i) (yv := NI 1) T7 rfl rfl (i64_add _ _ _ (by omega)) (oA rfl (oL_ [(0, NI q), (1, v), (5, PQ g1 0), (6, PQ n13 0), (7, NI ((i) + (1))), (8, PQ n8 0), (9, .bool (true)), (10, NI (usedD (playN (newD q) l (i + 1)))), (22, .bool (false)), (46, .bool (true)), (78, .bool (false))] ⟨T0, T1, T5, T6, rfl, T8, T9, T10, T22, T46, T78, trivial⟩ fun ρ64 ⟨T0, T1, T5, T6, T7, T8, T9, T10, T22, T46, T78, _⟩ => (tN (And.intro ⟨i + 1, H2, V2, T0, T1, T5, T6, T22, T7, hE, hbk, hD, hR, by omega, trivial⟩ ?_))))))))))))))
    show l.length - (intOf (ρ64 7)).toNat < l.length - (intOf (ρ34 7)).toNat
    rw [T7, q7]
    simp only [intOf, Int.toNat_natCast]; omega
   refine tN (hK55 _ _ (sk fun K65 hK65 => (sk fun K66 hK66 => (wt (oS rfl (Yk.fieldAt dwp_fo50_0 T6 (oS rfl (Yk.cell1 dwp_ty4 rfl (vr (PQ n13 0) rfl) (cellAt hbk (show (rdkC (refP (playN (newD q) l (i + 1)), V2))[0]? = some (.bool (true) : Value) from rdk_g0 (refP (playN (newD q) l (i + 1)), V2))) (oM rfl (oY (d := 42) rfl rfl (vr (.bool (true)) rfl) (Yk.fieldAt dwp_fo50_9 T6 (oY (d := 42) rfl rfl (vr (.bool (true)) rfl) (Yk.cell1 dwp_ty4 rfl (vr (PQ n13 9) rfl) (cellAt hbk (show (rdkC (refP (playN (newD q) l (i + 1)), V2))[9]? = some (.bool true : Value) from (rdk_g9 (refP (playN (newD q) l (i + 1)), V2)).trans (congrArg (fun b => some (Value.bool b)) (show (playN (newD q) l (i + 1)).down = _ from hdn)))) (oY (d := 42) rfl rfl (vr (.bool (true)) rfl) (Yk.notB (vr (.bool (true)) rfl) (oS rfl (Yk.pickT (vr (.bool (true)) rfl) (vr (.bool (false)) rfl) (oZ (tN (hK66 _ _ (wpF_false (vr (.bool (false)) rfl) (wpF_skip (tN (hK65 _ _ ?_))))))))))))))))))))))))
   refine sk fun K67 hK67 => ?_
   refine wpF_draw [Is (.bool (true)), Is (.bool (false)), Is (.bool (false)), Is (PQ g1 0), fun x w' => RG 1 (enS) w' x ((listD (playN (newD q) l (i + 1)))), Is (.agg (rdkC (refP (playN (newD q) l (i + 1)), V2)).toArray), fun x w' => RG 1 (enS) w' x ((listD (playN (newD q) l (i + 1)))), Is (.bool (true)), Is (.bool (false)), Is (.bool (false)), Is (.bool (false)), Is (PQ g1 0), Is (NI 0), Is (NI 0), Is (.bool (false)), Is (.bool (false)), Is (.bool (false)), Is (PQ g1 0), Is (.bool (true)), Is (PQ n13 9), Is (.bool (true)), Is (.bool (false)), Is (.bool (false)), Is (.bool (false)), Is (PQ g1 0), Is (NI ((playN (newD q) l (i + 1)).refused)), Is (PQ n13 7), Is (NI (((playN (newD q) l (i + 1))).refused)), Is (.bool (false)), Is (.bool (false))] (by kernel_rfl) [49, 50, 51, 52, 53, 54, 55, 56, 57, 58, 59, 60, 61, 62, 63, 64, 65, 66, 67, 68, 69, 70, 71, 72, 73, 74, 75, 76, 77, 78] (by kernel_rfl) (by kernel_rfl) (si4 ⟨(fun _ _ _ h k => RG.keep h k), Stab.is _, (fun _ _ _ h k => RG.keep h k), (si11 (si12 trivial))⟩) ?hs3014 ?hQ3014
   case hs3014 =>
    refine ⟨?_, ?_, ?_, ?_, ?_, ?_, ?_, ?_, ?_, ?_, ?_, ?_, ?_, ?_, ?_, ?_, ?_, ?_, ?_, ?_, ?_, ?_, ?_, ?_, ?_, ?_, ?_, ?_, ?_, ?_, trivial⟩
    ·refine stepN rfl fun σ w1 hC h => ?_
     have e9 := (eqo (h 9 (by decide))).trans T9
     exact Yk.move e9 ⟨Ext.refl _, rfl⟩
    ·refine stepN rfl fun σ w1 hC h => ?_
     have e49 := eqo (h 49 (by decide))
     exact Yk.notB e49 ⟨Ext.refl _, rfl⟩
    ·refine stepN rfl fun σ w1 hC h => ?_
     have e50 := eqo (h 50 (by decide))
     exact Yk.move e50 ⟨Ext.refl _, rfl⟩
    ·refine stepY 2 false 51 rfl rfl (fun _ _ h => h) fun σ w1 hC h => ?_
     have e5 := (eqo (h 5 (by decide))).trans T5
     exact Yk.move e5 ⟨Ext.refl _, rfl⟩
    ·refine stepY 2 false 51 rfl rfl (fun _ _ h => h) fun σ w1 hC h => ?_
     have e52 := eqo (h 52 (by decide))
     refine Yk.callA1 dwp_pl17 e52 (((hD.keep hC).list hL2).mono ?_)
     rintro e w2 ⟨v_, rfl, ho, hx⟩
     exact ⟨_, rfl, hx, RG.ofOwn ho⟩
    ·refine stepY 2 false 51 rfl rfl (fun _ _ h => h) fun σ w1 hC h => ?_
     have e6 := (eqo (h 6 (by decide))).trans T6
     exact Yk.loadAll e6 (eb hC hbk) (dwp_ty50).choose_spec rfl (st_isz (rdk_len (refP (playN (newD q) l (i + 1)), V2)) dwp_isz50) ⟨Ext.refl _, rfl⟩
    ·refine stepY 2 false 51 rfl rfl (fun _ _ h => h) fun σ w1 hC h => ?_
     have e54 := eqo (h 54 (by decide))
     refine Yk.callA1 dwp_pl23 e54 ((rlist_any _ (playN (newD q) l (i + 1)) V2 (hR.keep hC) hL2).mono ?_)
     rintro e w2 ⟨v_, rfl, ho, hx⟩
     exact ⟨_, rfl, hx, RG.ofOwn ho⟩
    ·refine stepY 2 false 51 rfl rfl (fun _ _ h => h) fun σ w1 hC h => ?_
     have e53 : (fun x w' => RG 1 (enS) w' x ((listD (playN (newD q) l (i + 1))))) (σ 53) w1 := h 53 (by decide)
     have e55 : (fun x w' => RG 1 (enS) w' x ((listD (playN (newD q) l (i + 1))))) (σ 55) w1 := h 55 (by decide)
     refine Yk.callA2 dwp_pl22 rfl rfl ((texts_same _ _ _ _ e53 e55 hll2).mono ?_)
     rintro e w2 ⟨rfl, hx⟩
     exact ⟨_, rfl, hx, rfl⟩
    ·refine stepY 2 false 51 rfl rfl (fun _ _ h => h) fun σ w1 hC h => ?_
     have e56 := eqo (h 56 (by decide))
     exact Yk.notB e56 ⟨Ext.refl _, rfl⟩
    ·refine stepN rfl fun σ w1 hC h => ?_
     have e51 := eqo (h 51 (by decide))
     have e57 := eqo (h 57 (by decide))
     exact Yk.pickF e51 e57 ⟨Ext.refl _, rfl⟩
    ·refine stepN rfl fun σ w1 hC h => ?_
     have e58 := eqo (h 58 (by decide))
     exact Yk.move e58 ⟨Ext.refl _, rfl⟩
    ·refine stepY 10 false 59 rfl rfl (fun _ _ h => h) fun σ w1 hC h => ?_
     have e5 := (eqo (h 5 (by decide))).trans T5
     exact Yk.move e5 ⟨Ext.refl _, rfl⟩
    ·refine stepY 10 false 59 rfl rfl (fun _ _ h => h) fun σ w1 hC h => ?_
     have e60 := eqo (h 60 (by decide))
     refine Yk.callA1 dwp_pl18 e60 ((used_is (hD.keep hC) hL2 hdn).mono ?_)
     rintro e w2 ⟨rfl, hx⟩
     exact ⟨_, rfl, hx, rfl⟩
    ·refine stepY 10 false 59 rfl rfl (fun _ _ h => h) fun σ w1 hC h => ?_
     have e10 : σ 10 = NI 0 := (eqo (h 10 (by decide))).trans rfl
     exact Yk.move e10 ⟨Ext.refl _, rfl⟩
    ·refine stepY 10 false 59 rfl rfl (fun _ _ h => h) fun σ w1 hC h => ?_
     have e61 := eqo (h 61 (by decide))
     have e62 := eqo (h 62 (by decide))
     exact Yk.eqI (a := (0 : Nat)) (b := (0 : Nat)) e61 e62 (k_neq _ _ _ _) ⟨Ext.refl _, (congrArg Value.bool (decide_eq_false (fun h => h rfl)))⟩
    ·refine stepN rfl fun σ w1 hC h => ?_
     have e59 := eqo (h 59 (by decide))
     have e63 := eqo (h 63 (by decide))
     exact Yk.pickF e59 e63 ⟨Ext.refl _, rfl⟩
    ·refine stepN rfl fun σ w1 hC h => ?_
     have e64 := eqo (h 64 (by decide))
     exact Yk.move e64 ⟨Ext.refl _, rfl⟩
    ·refine stepY 16 false 65 rfl rfl (fun _ _ h => h) fun σ w1 hC h => ?_
     have e5 := (eqo (h 5 (by decide))).trans T5
     exact Yk.move e5 ⟨Ext.refl _, rfl⟩
    ·refine stepY 16 false 65 rfl rfl (fun _ _ h => h) fun σ w1 hC h => ?_
     have e66 := eqo (h 66 (by decide))
     refine Yk.callA1 dwp_pl10 e66 ((down_is (hD.keep hC) hdn).mono ?_)
     rintro e w2 ⟨rfl, hx⟩
     exact ⟨_, rfl, hx, rfl⟩
    ·refine stepY 16 false 65 rfl rfl (fun _ _ h => h) fun σ w1 hC h => ?_
     have e6 := (eqo (h 6 (by decide))).trans T6
     exact Yk.fieldAt dwp_fo50_9 e6 ⟨Ext.refl _, rfl⟩
    ·refine stepY 16 false 65 rfl rfl (fun _ _ h => h) fun σ w1 hC h => ?_
     have e68 := eqo (h 68 (by decide))
     exact Yk.cell1 dwp_ty4 rfl e68 (cellAt (eb hC hbk) (show (rdkC (refP (playN (newD q) l (i + 1)), V2))[9]? = some (.bool true : Value) from (rdk_g9 (refP (playN (newD q) l (i + 1)), V2)).trans (congrArg (fun b => some (Value.bool b)) (show (playN (newD q) l (i + 1)).down = _ from hdn)))) ⟨Ext.refl _, rfl⟩
    ·refine stepY 16 false 65 rfl rfl (fun _ _ h => h) fun σ w1 hC h => ?_
     have e67 := eqo (h 67 (by decide))
     have e69 := eqo (h 69 (by decide))
     exact Yk.neBool (a := true) (b := true) dwp_ty4 e67 e69 ⟨Ext.refl _, (congrArg Value.bool (by decide))⟩
    ·refine stepN rfl fun σ w1 hC h => ?_
     have e65 := eqo (h 65 (by decide))
     have e70 := eqo (h 70 (by decide))
     exact Yk.pickF e65 e70 ⟨Ext.refl _, rfl⟩
    ·refine stepN rfl fun σ w1 hC h => ?_
     have e71 := eqo (h 71 (by decide))
     exact Yk.move e71 ⟨Ext.refl _, rfl⟩
    ·refine stepY 23 false 72 rfl rfl (fun _ _ h => h) fun σ w1 hC h => ?_
     have e5 := (eqo (h 5 (by decide))).trans T5
     exact Yk.move e5 ⟨Ext.refl _, rfl⟩
    ·refine stepY 23 false 72 rfl rfl (fun _ _ h => h) fun σ w1 hC h => ?_
     have e73 := eqo (h 73 (by decide))
     refine Yk.callA1 dwp_pl24 e73 (((hD.keep hC).refused).mono ?_)
     rintro e w2 ⟨rfl, hx⟩
     exact ⟨_, rfl, hx, rfl⟩
    ·refine stepY 23 false 72 rfl rfl (fun _ _ h => h) fun σ w1 hC h => ?_
     have e6 := (eqo (h 6 (by decide))).trans T6
     exact Yk.fieldAt dwp_fo50_7 e6 ⟨Ext.refl _, rfl⟩
    ·refine stepY 23 false 72 rfl rfl (fun _ _ h => h) fun σ w1 hC h => ?_
     have e75 := eqo (h 75 (by decide))
     exact Yk.cell1 dwp_ty3 rfl e75 (cellAt (eb hC hbk) (show (rdkC (refP (playN (newD q) l (i + 1)), V2))[7]? = some (NI (((playN (newD q) l (i + 1))).refused) : Value) from rdk_g7 (refP (playN (newD q) l (i + 1)), V2))) ⟨Ext.refl _, rfl⟩
    ·refine stepY 23 false 72 rfl rfl (fun _ _ h => h) fun σ w1 hC h => ?_
     have e74 := eqo (h 74 (by decide))
     have e76 := eqo (h 76 (by decide))
     exact Yk.eqI (a := ((playN (newD q) l (i + 1)).refused : Nat)) (b := (((playN (newD q) l (i + 1))).refused : Nat)) e74 e76 (k_neq _ _ _ _) ⟨Ext.refl _, (congrArg Value.bool (decide_eq_false (fun h => h rfl)))⟩
    ·refine stepN rfl fun σ w1 hC h => ?_
     have e72 := eqo (h 72 (by decide))
     have e77 := eqo (h 77 (by decide))
     exact Yk.pickF e72 e77 ⟨Ext.refl _, rfl⟩
   intro ρ68 w69 hx70 he hf
   obtain ⟨-, -, -, -, -, -, -, -, -, -, -, -, -, -, -, -, -, -, -, -, -, -, -, -, -, -, -, -, -, k78, -⟩ := hf
   obtain ⟨T0, T1, T5, T6, T7, T8, T9, T10, T22, T46, -⟩ := he.hold [(0, _), (1, _), (5, _), (6, _), (7, _), (8, _), (9, _), (10, NI 0), (22, _), (46, .bool (false))] ⟨T0, T1, T5, T6, T7, T8, T9, rfl, T22, rfl, trivial⟩ rfl
   clear he
   have hE := hE.trans hx70
   have hb8 := eb hx70 hb8
   have hD : DkG w w69 g1 H2 ((playN (newD q) l (i + 1))) := (hD.keep hx70)
   have hR : RdAt (OffQ H2 ((playN (newD q) l (i + 1))).files.length (fun i => i = n13)) w69 ((playN (newD q) l (i + 1))) V2 := (hR.keep hx70)
   have hbk := eb hx70 hbk
   have T78 : ρ68 78 = .bool (false) := k78
   clear k78
   refine tN (hK67 _ _ (wpF_false T78 (wpF_skip (bN (tN (hK38 _ _ (wt (oM rfl (oS rfl (Yk.bin (xv := NI i) (yv := NI 1) T7 rfl rfl (i64_add _ _ _ (by omega)) (oA rfl (oL_ [(0, NI q), (1, v), (5, PQ g1 0), (6, PQ n13 0), (7, NI ((i) + (1))), (8, PQ n8 0), (9, .bool (true)), (10, NI 0), (22, .bool (false)), (46, .bool (false)), (78, .bool (false))] ⟨T0, T1, T5, T6, rfl, T8, T9, T10, T22, T46, T78, trivial⟩ fun ρ71 ⟨T0, T1, T5, T6, T7, T8, T9, T10, T22, T46, T78, _⟩ => (tN (And.intro ⟨i + 1, H2, V2, T0, T1, T5, T6, T22, T7, hE, hbk, hD, hR, by omega, trivial⟩ ?_))))))))))))))
   show l.length - (intOf (ρ71 7)).toNat < l.length - (intOf (ρ34 7)).toNat
   rw [T7, q7]
   simp only [intOf, Int.toNat_natCast]; omega
  clear hK39
  have hx72 : Ext w35 (World.drew w35) := (Below.refl _ _).drew
  have hE := hE.trans hx72
  have hbk := eb hx72 hbk
  have hD : DkG w (World.drew w35) g1 Hi ((playN (newD q) l i)) := (hD.keep hx72)
  have hR : RdAt (OffQ Hi ((playN (newD q) l i)).files.length (fun i => i = n13)) (World.drew w35) ((playN (newD q) l i)) V := (hR.keep hx72)
  refine wpF_tree [(0, 30, PQ g1 0), (1, 31, .agg (rdkC (refP (playN (newD q) l i), V)).toArray), (2, 32, v), (3, 33, NI i)] [4, 5, 6, 7, 8, 9, 10, 11, 12] (fun wz => wz.heap[n13]? = some (.cells (rdkC (refP (playN (newD q) l i), V)).toArray 50 (0, 0)) ∧ True) 9 (by kernel_rfl) (by kernel_rfl) (by kernel_rfl) rfl ⟨hbk, trivial⟩ ⟨fun w73 ⟨hbk, _⟩ => Yk.move T5 ⟨rfl, rfl⟩, fun w73 ⟨hbk, _⟩ => Yk.loadAll T6 hbk (dwp_ty50).choose_spec rfl (st_isz (rdk_len (refP (playN (newD q) l i), V)) dwp_isz50) ⟨rfl, rfl⟩, fun w73 ⟨hbk, _⟩ => Yk.move T1 ⟨rfl, rfl⟩, fun w73 ⟨hbk, _⟩ => Yk.move T7 ⟨rfl, rfl⟩, trivial⟩ (tree_node (ns := [4, 10]) (by kernel_rfl) ?_)
  refine ⟨?_, ?_⟩
  ·have hl76 : (xacC (l.getD (i) dXac)).length = 6 := (RG.elem (hl.keep hE) dXac (by omega))
   refine tree_step (r := [5, 6, 7, 8, 9, 10, 11, 12]) rfl rfl (Yk.atRG dwp_ty22 dwp_szg33 (by decide) dXac (RG.of (hl.keep hE) (vr v rfl)) (vr (NI i) rfl) (by omega) fun v74 hp75 => ?_)
   refine ⟨⟨hbk, trivial⟩, ?_⟩
   refine tree_node (ns := [5, 10]) (by kernel_rfl) ?_
   refine ⟨?_, ?_⟩
   ·refine tree_step (r := [6, 7, 8, 9, 10, 11, 12]) rfl rfl (Yk.loadPR (PR.of hp75 (vr v74 rfl)) (dwp_ty33).choose_spec rfl (by rw [xac_len]; exact dwp_isz33) ?_)
    refine ⟨⟨hbk, trivial⟩, ?_⟩
    refine tree_node (ns := [6, 10]) (by kernel_rfl) ?_
    refine ⟨?_, ?_⟩
    ·have hDc := hD
     have hRc := hR
     have h6l := (bl hbk)
     have hQ3 : ∀ i, (fun i => i = n13) i → i < (World.drew w35).heap.size := fun i q => by have q : i = n13 := q; omega
     refine tree_step (r := [7, 8, 9, 10, 11, 12]) rfl rfl (Yk.callA3 dwp_pl20 (vr (PQ g1 0) rfl) (vr (.agg (rdkC (refP (playN (newD q) l i), V)).toArray) rfl) (vr (.agg (xacC (l.getD (i) dXac)).toArray) rfl) ((played_to w _ g1 _ _ hDc _ _ hQ3 hRc (l.getD (i) dXac) hx hbl hfs hL0 (by omega) (by omega) (by omega) (by omega) (playN_succ hlt)).mono ?_))
     rintro e w81 ⟨H77, V78, rfl, hW79, hR80⟩
     refine ⟨_, rfl, ?_⟩
     have hE : Ext w w81 := hW79.g.ext
     have hbk : w81.heap[n13]? = some (.cells (rdkC (refP (playN (newD q) l i), V)).toArray 50 (0, 0)) := DkG.box hDc hW79.chg hbk (by decide) (by decide) (by decide) (by decide)
     clear hD
     clear hR
     clear hp75
     have hD := hW79.g
     have hR := hR80
     refine ⟨⟨hbk, trivial⟩, ?_⟩
     refine tree_node (ns := [7, 10]) (by kernel_rfl) ?_
     refine ⟨?_, ?_⟩
     ·refine tree_step (r := [8, 9, 10, 11, 12]) rfl rfl (Yk.move (vr (.tuple #[.agg (rdkC (refP (playN (newD q) l (i + 1)), V78)).toArray, .bool (true)]) rfl) ?_)
      refine ⟨⟨hbk, trivial⟩, ?_⟩
      refine tree_node (ns := [8, 9, 10]) (by kernel_rfl) ?_
      refine ⟨?_, ?_, ?_⟩
      ·refine tree_step (r := [9, 10, 11, 12]) rfl rfl (Yk.extract (vs := [.agg (rdkC (refP (playN (newD q) l (i + 1)), V78)).toArray, .bool (true)]) (vr (.tuple #[.agg (rdkC (refP (playN (newD q) l (i + 1)), V78)).toArray, .bool (true)]) rfl) (show _ = some (.agg (rdkC (refP (playN (newD q) l (i + 1)), V78)).toArray : Value) from rfl) ?_)
       refine ⟨⟨hbk, trivial⟩, ?_⟩
       refine tree_node (ns := [9, 10]) (by kernel_rfl) ?_
       refine ⟨?_, ?_⟩
       ·refine tree_step (r := [10, 11, 12]) rfl rfl (Yk.extract (vs := [.agg (rdkC (refP (playN (newD q) l (i + 1)), V78)).toArray, .bool (true)]) (vr (.tuple #[.agg (rdkC (refP (playN (newD q) l (i + 1)), V78)).toArray, .bool (true)]) rfl) (show _ = some (.bool (true) : Value) from rfl) ?_)
        refine ⟨⟨hbk, trivial⟩, ?_⟩
        refine tree_node (ns := [10]) (by kernel_rfl) ?_
        have hRp := hR
        have hRp := hR
        refine tree_step (r := [11, 12]) rfl rfl (Yk.alloc (cs := (rdkC ((⟨false, 0, [], [], [], [], [], 0, 0, false⟩, ⟨.slice none 0 0, .slice none 0 0, .slice none 0 0, .slice none 0 0, .slice none 0 0⟩) : RdkV)).toArray) dwp_al50 fun n82 w83 hn84 hb85 hx86 hs87 => ?_)
        have hA88 := Ext.refl w81
        have hea89 := hE
        have hz90 := hE.size
        have hlt91 := lte (bl hbk) hn84
        have hE := hE.trans hx86
        have hbk := eb hx86 hbk
        have hD : DkG w w83 g1 H77 ((playN (newD q) l (i + 1))) := (hD.keep hx86)
        have hR : RdAt (OffQ H77 ((playN (newD q) l (i + 1))).files.length (fun i => i = n13)) w83 ((playN (newD q) l (i + 1))) V78 := (hR.keep hx86)
        have hA88 := hA88.trans hx86
        have hb92 := hb85; clear hb85
        have hl93 : n82 < w83.heap.size := by omega
        have hR := RdAt.addQ hRp hx86 (a := n82) (b := n82) (by omega) (by omega)
        refine ⟨⟨hbk, trivial⟩, ?_⟩
        refine tree_node (ns := [11]) (by kernel_rfl) ?_
        obtain ⟨lq_, -, hq99⟩ := hR.files
        have hq94 := hq99.1
        have hq95 := hR.synced.1
        have hq96 := hR.now.1
        have hq97 := hR.kept.1
        have hq98 := hR.acts.1
        refine tree_step (r := [12]) rfl rfl (Yk.storeAll (vr (PQ n82 0) rfl) (vr (.agg (rdkC (refP (playN (newD q) l (i + 1)), V78)).toArray) rfl) hb92 (by simp only [List.size_toArray, rdk_len]) (st_isz (rdk_len _) dwp_isz50) (rdk_one (x := (refP (playN (newD q) l (i + 1)), V78)) (RG.one hq94).2 (RG.one hq95).2 (RG.one hq96).2 (RG.one hq97).2 (RG.one hq98).2) fun w100 hb101 hg102 hs103 => ?_)
        have hE := row_fresh hE hg102 (Nat.le_trans hz90 (by omega))
        have hbk := kb hg102 hbk (by omega)
        have hD : DkG w w100 g1 H77 ((playN (newD q) l (i + 1))) := DkG.setT hD hg102 hb92 (by omega) (by decide) (by decide) (by decide) (by decide) (by decide) (by decide)
        have hR : RdAt (OffQ H77 ((playN (newD q) l (i + 1))).files.length (fun i => (fun i => i = n13) i ∨ i = n82 ∨ i = n82)) w100 ((playN (newD q) l (i + 1))) V78 := RdAt.setQ hR hg102 (.inr (.inl rfl))
        have hA88 := row_fresh hA88 hg102 (Nat.le_trans (Nat.le_refl _) (by omega))
        clear hq94
        clear hq95
        clear hq96
        clear hq97
        clear hq98
        clear hb92
        have hb92 : w100.heap[n82]? = some (.cells (rdkC (refP (playN (newD q) l (i + 1)), V78)).toArray 50 (0, 0)) := hb101; clear hb101
        have hl104 := bl hb92
        refine ⟨⟨hbk, trivial⟩, ?_⟩
        refine tree_node (ns := [12]) (by kernel_rfl) (tree_step (r := []) rfl rfl (Yk.assign (vr (.bool (true)) rfl) ?_))
        refine ⟨⟨hbk, trivial⟩, ?_⟩
        refine tree_nil ?_
        exact tN (hJK39 _ _ ⟨H77, V78, n82, T0, T1, T5, T6, T7, T22, rfl, rfl, hE, hbk, hb92, hD, RdAt.subQ hR (fun i q => .inl q), by omega, by omega, trivial⟩)
       have hRp := hR
       have hRp := hR
       refine tree_step (r := [9, 11, 12]) rfl rfl (Yk.alloc (cs := (rdkC ((⟨false, 0, [], [], [], [], [], 0, 0, false⟩, ⟨.slice none 0 0, .slice none 0 0, .slice none 0 0, .slice none 0 0, .slice none 0 0⟩) : RdkV)).toArray) dwp_al50 fun n105 w106 hn107 hb108 hx109 hs110 => ?_)
       have hA111 := Ext.refl w81
       have hea112 := hE
       have hz113 := hE.size
       have hlt114 := lte (bl hbk) hn107
       have hE := hE.trans hx109
       have hbk := eb hx109 hbk
       have hD : DkG w w106 g1 H77 ((playN (newD q) l (i + 1))) := (hD.keep hx109)
       have hR : RdAt (OffQ H77 ((playN (newD q) l (i + 1))).files.length (fun i => i = n13)) w106 ((playN (newD q) l (i + 1))) V78 := (hR.keep hx109)
       have hA111 := hA111.trans hx109
       have hb115 := hb108; clear hb108
       have hl116 : n105 < w106.heap.size := by omega
       have hR := RdAt.addQ hRp hx109 (a := n105) (b := n105) (by omega) (by omega)
       refine ⟨⟨hbk, trivial⟩, ?_⟩
       refine tree_node (ns := [9, 11]) (by kernel_rfl) ?_
       refine ⟨?_, ?_⟩
       ·refine tree_step (r := [11, 12]) rfl rfl (Yk.extract (vs := [.agg (rdkC (refP (playN (newD q) l (i + 1)), V78)).toArray, .bool (true)]) (vr (.tuple #[.agg (rdkC (refP (playN (newD q) l (i + 1)), V78)).toArray, .bool (true)]) rfl) (show _ = some (.bool (true) : Value) from rfl) ?_)
        refine ⟨⟨hbk, trivial⟩, ?_⟩
        refine tree_node (ns := [11]) (by kernel_rfl) ?_
        obtain ⟨lq_, -, hq122⟩ := hR.files
        have hq117 := hq122.1
        have hq118 := hR.synced.1
        have hq119 := hR.now.1
        have hq120 := hR.kept.1
        have hq121 := hR.acts.1
        refine tree_step (r := [12]) rfl rfl (Yk.storeAll (vr (PQ n105 0) rfl) (vr (.agg (rdkC (refP (playN (newD q) l (i + 1)), V78)).toArray) rfl) hb115 (by simp only [List.size_toArray, rdk_len]) (st_isz (rdk_len _) dwp_isz50) (rdk_one (x := (refP (playN (newD q) l (i + 1)), V78)) (RG.one hq117).2 (RG.one hq118).2 (RG.one hq119).2 (RG.one hq120).2 (RG.one hq121).2) fun w123 hb124 hg125 hs126 => ?_)
        have hE := row_fresh hE hg125 (Nat.le_trans hz113 (by omega))
        have hbk := kb hg125 hbk (by omega)
        have hD : DkG w w123 g1 H77 ((playN (newD q) l (i + 1))) := DkG.setT hD hg125 hb115 (by omega) (by decide) (by decide) (by decide) (by decide) (by decide) (by decide)
        have hR : RdAt (OffQ H77 ((playN (newD q) l (i + 1))).files.length (fun i => (fun i => i = n13) i ∨ i = n105 ∨ i = n105)) w123 ((playN (newD q) l (i + 1))) V78 := RdAt.setQ hR hg125 (.inr (.inl rfl))
        have hA111 := row_fresh hA111 hg125 (Nat.le_trans (Nat.le_refl _) (by omega))
        clear hq117
        clear hq118
        clear hq119
        clear hq120
        clear hq121
        clear hb115
        have hb115 : w123.heap[n105]? = some (.cells (rdkC (refP (playN (newD q) l (i + 1)), V78)).toArray 50 (0, 0)) := hb124; clear hb124
        have hl127 := bl hb115
        refine ⟨⟨hbk, trivial⟩, ?_⟩
        refine tree_node (ns := [12]) (by kernel_rfl) (tree_step (r := []) rfl rfl (Yk.assign (vr (.bool (true)) rfl) ?_))
        refine ⟨⟨hbk, trivial⟩, ?_⟩
        refine tree_nil ?_
        exact tN (hJK39 _ _ ⟨H77, V78, n105, T0, T1, T5, T6, T7, T22, rfl, rfl, hE, hbk, hb115, hD, RdAt.subQ hR (fun i q => .inl q), by omega, by omega, trivial⟩)
       obtain ⟨lq_, -, hq133⟩ := hR.files
       have hq128 := hq133.1
       have hq129 := hR.synced.1
       have hq130 := hR.now.1
       have hq131 := hR.kept.1
       have hq132 := hR.acts.1
       refine tree_step (r := [9, 12]) rfl rfl (Yk.storeAll (vr (PQ n105 0) rfl) (vr (.agg (rdkC (refP (playN (newD q) l (i + 1)), V78)).toArray) rfl) hb115 (by simp only [List.size_toArray, rdk_len]) (st_isz (rdk_len _) dwp_isz50) (rdk_one (x := (refP (playN (newD q) l (i + 1)), V78)) (RG.one hq128).2 (RG.one hq129).2 (RG.one hq130).2 (RG.one hq131).2 (RG.one hq132).2) fun w134 hb135 hg136 hs137 => ?_)
       have hE := row_fresh hE hg136 (Nat.le_trans hz113 (by omega))
       have hbk := kb hg136 hbk (by omega)
       have hD : DkG w w134 g1 H77 ((playN (newD q) l (i + 1))) := DkG.setT hD hg136 hb115 (by omega) (by decide) (by decide) (by decide) (by decide) (by decide) (by decide)
       have hR : RdAt (OffQ H77 ((playN (newD q) l (i + 1))).files.length (fun i => (fun i => i = n13) i ∨ i = n105 ∨ i = n105)) w134 ((playN (newD q) l (i + 1))) V78 := RdAt.setQ hR hg136 (.inr (.inl rfl))
       have hA111 := row_fresh hA111 hg136 (Nat.le_trans (Nat.le_refl _) (by omega))
       clear hq128
       clear hq129
       clear hq130
       clear hq131
       clear hq132
       clear hb115
       have hb115 : w134.heap[n105]? = some (.cells (rdkC (refP (playN (newD q) l (i + 1)), V78)).toArray 50 (0, 0)) := hb135; clear hb135
       have hl138 := bl hb115
       refine ⟨⟨hbk, trivial⟩, ?_⟩
       refine tree_node (ns := [9]) (by kernel_rfl) (tree_step (r := [12]) rfl rfl (Yk.extract (vs := [.agg (rdkC (refP (playN (newD q) l (i + 1)), V78)).toArray, .bool (true)]) (vr (.tuple #[.agg (rdkC (refP (playN (newD q) l (i + 1)), V78)).toArray, .bool (true)]) rfl) (show _ = some (.bool (true) : Value) from rfl) ?_))
       refine ⟨⟨hbk, trivial⟩, ?_⟩
       refine tree_node (ns := [12]) (by kernel_rfl) (tree_step (r := []) rfl rfl (Yk.assign (vr (.bool (true)) rfl) ?_))
       refine ⟨⟨hbk, trivial⟩, ?_⟩
       refine tree_nil ?_
       exact tN (hJK39 _ _ ⟨H77, V78, n105, T0, T1, T5, T6, T7, T22, rfl, rfl, hE, hbk, hb115, hD, RdAt.subQ hR (fun i q => .inl q), by omega, by omega, trivial⟩)
      ·refine tree_step (r := [8, 10, 11, 12]) rfl rfl (Yk.extract (vs := [.agg (rdkC (refP (playN (newD q) l (i + 1)), V78)).toArray, .bool (true)]) (vr (.tuple #[.agg (rdkC (refP (playN (newD q) l (i + 1)), V78)).toArray, .bool (true)]) rfl) (show _ = some (.bool (true) : Value) from rfl) ?_)
       refine ⟨⟨hbk, trivial⟩, ?_⟩
       refine tree_node (ns := [8, 10]) (by kernel_rfl) ?_
       refine ⟨?_, ?_⟩
       ·refine tree_step (r := [10, 11, 12]) rfl rfl (Yk.extract (vs := [.agg (rdkC (refP (playN (newD q) l (i + 1)), V78)).toArray, .bool (true)]) (vr (.tuple #[.agg (rdkC (refP (playN (newD q) l (i + 1)), V78)).toArray, .bool (true)]) rfl) (show _ = some (.agg (rdkC (refP (playN (newD q) l (i + 1)), V78)).toArray : Value) from rfl) ?_)
        refine ⟨⟨hbk, trivial⟩, ?_⟩
        refine tree_node (ns := [10]) (by kernel_rfl) ?_
        have hRp := hR
        have hRp := hR
        refine tree_step (r := [11, 12]) rfl rfl (Yk.alloc (cs := (rdkC ((⟨false, 0, [], [], [], [], [], 0, 0, false⟩, ⟨.slice none 0 0, .slice none 0 0, .slice none 0 0, .slice none 0 0, .slice none 0 0⟩) : RdkV)).toArray) dwp_al50 fun n139 w140 hn141 hb142 hx143 hs144 => ?_)
        have hA145 := Ext.refl w81
        have hea146 := hE
        have hz147 := hE.size
        have hlt148 := lte (bl hbk) hn141
        have hE := hE.trans hx143
        have hbk := eb hx143 hbk
        have hD : DkG w w140 g1 H77 ((playN (newD q) l (i + 1))) := (hD.keep hx143)
        have hR : RdAt (OffQ H77 ((playN (newD q) l (i + 1))).files.length (fun i => i = n13)) w140 ((playN (newD q) l (i + 1))) V78 := (hR.keep hx143)
        have hA145 := hA145.trans hx143
        have hb149 := hb142; clear hb142
        have hl150 : n139 < w140.heap.size := by omega
        have hR := RdAt.addQ hRp hx143 (a := n139) (b := n139) (by omega) (by omega)
        refine ⟨⟨hbk, trivial⟩, ?_⟩
        refine tree_node (ns := [11]) (by kernel_rfl) ?_
        obtain ⟨lq_, -, hq156⟩ := hR.files
        have hq151 := hq156.1
        have hq152 := hR.synced.1
        have hq153 := hR.now.1
        have hq154 := hR.kept.1
        have hq155 := hR.acts.1
        refine tree_step (r := [12]) rfl rfl (Yk.storeAll (vr (PQ n139 0) rfl) (vr (.agg (rdkC (refP (playN (newD q) l (i + 1)), V78)).toArray) rfl) hb149 (by simp only [List.size_toArray, rdk_len]) (st_isz (rdk_len _) dwp_isz50) (rdk_one (x := (refP (playN (newD q) l (i + 1)), V78)) (RG.one hq151).2 (RG.one hq152).2 (RG.one hq153).2 (RG.one hq154).2 (RG.one hq155).2) fun w157 hb158 hg159 hs160 => ?_)
        have hE := row_fresh hE hg159 (Nat.le_trans hz147 (by omega))
        have hbk := kb hg159 hbk (by omega)
        have hD : DkG w w157 g1 H77 ((playN (newD q) l (i + 1))) := DkG.setT hD hg159 hb149 (by omega) (by decide) (by decide) (by decide) (by decide) (by decide) (by decide)
        have hR : RdAt (OffQ H77 ((playN (newD q) l (i + 1))).files.length (fun i => (fun i => i = n13) i ∨ i = n139 ∨ i = n139)) w157 ((playN (newD q) l (i + 1))) V78 := RdAt.setQ hR hg159 (.inr (.inl rfl))
        have hA145 := row_fresh hA145 hg159 (Nat.le_trans (Nat.le_refl _) (by omega))
        clear hq151
        clear hq152
        clear hq153
        clear hq154
        clear hq155
        clear hb149
        have hb149 : w157.heap[n139]? = some (.cells (rdkC (refP (playN (newD q) l (i + 1)), V78)).toArray 50 (0, 0)) := hb158; clear hb158
        have hl161 := bl hb149
        refine ⟨⟨hbk, trivial⟩, ?_⟩
        refine tree_node (ns := [12]) (by kernel_rfl) (tree_step (r := []) rfl rfl (Yk.assign (vr (.bool (true)) rfl) ?_))
        refine ⟨⟨hbk, trivial⟩, ?_⟩
        refine tree_nil ?_
        exact tN (hJK39 _ _ ⟨H77, V78, n139, T0, T1, T5, T6, T7, T22, rfl, rfl, hE, hbk, hb149, hD, RdAt.subQ hR (fun i q => .inl q), by omega, by omega, trivial⟩)
       have hRp := hR
       have hRp := hR
       refine tree_step (r := [8, 11, 12]) rfl rfl (Yk.alloc (cs := (rdkC ((⟨false, 0, [], [], [], [], [], 0, 0, false⟩, ⟨.slice none 0 0, .slice none 0 0, .slice none 0 0, .slice none 0 0, .slice none 0 0⟩) : RdkV)).toArray) dwp_al50 fun n162 w163 hn164 hb165 hx166 hs167 => ?_)
       have hA168 := Ext.refl w81
       have hea169 := hE
       have hz170 := hE.size
       have hlt171 := lte (bl hbk) hn164
       have hE := hE.trans hx166
       have hbk := eb hx166 hbk
       have hD : DkG w w163 g1 H77 ((playN (newD q) l (i + 1))) := (hD.keep hx166)
       have hR : RdAt (OffQ H77 ((playN (newD q) l (i + 1))).files.length (fun i => i = n13)) w163 ((playN (newD q) l (i + 1))) V78 := (hR.keep hx166)
       have hA168 := hA168.trans hx166
       have hb172 := hb165; clear hb165
       have hl173 : n162 < w163.heap.size := by omega
       have hR := RdAt.addQ hRp hx166 (a := n162) (b := n162) (by omega) (by omega)
       refine ⟨⟨hbk, trivial⟩, ?_⟩
       refine tree_node (ns := [8]) (by kernel_rfl) (tree_step (r := [11, 12]) rfl rfl (Yk.extract (vs := [.agg (rdkC (refP (playN (newD q) l (i + 1)), V78)).toArray, .bool (true)]) (vr (.tuple #[.agg (rdkC (refP (playN (newD q) l (i + 1)), V78)).toArray, .bool (true)]) rfl) (show _ = some (.agg (rdkC (refP (playN (newD q) l (i + 1)), V78)).toArray : Value) from rfl) ?_))
       refine ⟨⟨hbk, trivial⟩, ?_⟩
       refine tree_node (ns := [11]) (by kernel_rfl) ?_
       obtain ⟨lq_, -, hq179⟩ := hR.files
       have hq174 := hq179.1
       have hq175 := hR.synced.1
       have hq176 := hR.now.1
       have hq177 := hR.kept.1
       have hq178 := hR.acts.1
       refine tree_step (r := [12]) rfl rfl (Yk.storeAll (vr (PQ n162 0) rfl) (vr (.agg (rdkC (refP (playN (newD q) l (i + 1)), V78)).toArray) rfl) hb172 (by simp only [List.size_toArray, rdk_len]) (st_isz (rdk_len _) dwp_isz50) (rdk_one (x := (refP (playN (newD q) l (i + 1)), V78)) (RG.one hq174).2 (RG.one hq175).2 (RG.one hq176).2 (RG.one hq177).2 (RG.one hq178).2) fun w180 hb181 hg182 hs183 => ?_)
       have hE := row_fresh hE hg182 (Nat.le_trans hz170 (by omega))
       have hbk := kb hg182 hbk (by omega)
       have hD : DkG w w180 g1 H77 ((playN (newD q) l (i + 1))) := DkG.setT hD hg182 hb172 (by omega) (by decide) (by decide) (by decide) (by decide) (by decide) (by decide)
       have hR : RdAt (OffQ H77 ((playN (newD q) l (i + 1))).files.length (fun i => (fun i => i = n13) i ∨ i = n162 ∨ i = n162)) w180 ((playN (newD q) l (i + 1))) V78 := RdAt.setQ hR hg182 (.inr (.inl rfl))
       have hA168 := row_fresh hA168 hg182 (Nat.le_trans (Nat.le_refl _) (by omega))
       clear hq174
       clear hq175
       clear hq176
       clear hq177
       clear hq178
       clear hb172
       have hb172 : w180.heap[n162]? = some (.cells (rdkC (refP (playN (newD q) l (i + 1)), V78)).toArray 50 (0, 0)) := hb181; clear hb181
       have hl184 := bl hb172
       refine ⟨⟨hbk, trivial⟩, ?_⟩
       refine tree_node (ns := [12]) (by kernel_rfl) (tree_step (r := []) rfl rfl (Yk.assign (vr (.bool (true)) rfl) ?_))
       refine ⟨⟨hbk, trivial⟩, ?_⟩
       refine tree_nil ?_
       exact tN (hJK39 _ _ ⟨H77, V78, n162, T0, T1, T5, T6, T7, T22, rfl, rfl, hE, hbk, hb172, hD, RdAt.subQ hR (fun i q => .inl q), by omega, by omega, trivial⟩)
      have hRp := hR
      have hRp := hR
      refine tree_step (r := [8, 9, 11, 12]) rfl rfl (Yk.alloc (cs := (rdkC ((⟨false, 0, [], [], [], [], [], 0, 0, false⟩, ⟨.slice none 0 0, .slice none 0 0, .slice none 0 0, .slice none 0 0, .slice none 0 0⟩) : RdkV)).toArray) dwp_al50 fun n185 w186 hn187 hb188 hx189 hs190 => ?_)
      have hA191 := Ext.refl w81
      have hea192 := hE
      have hz193 := hE.size
      have hlt194 := lte (bl hbk) hn187
      have hE := hE.trans hx189
      have hbk := eb hx189 hbk
      have hD : DkG w w186 g1 H77 ((playN (newD q) l (i + 1))) := (hD.keep hx189)
      have hR : RdAt (OffQ H77 ((playN (newD q) l (i + 1))).files.length (fun i => i = n13)) w186 ((playN (newD q) l (i + 1))) V78 := (hR.keep hx189)
      have hA191 := hA191.trans hx189
      have hb195 := hb188; clear hb188
      have hl196 : n185 < w186.heap.size := by omega
      have hR := RdAt.addQ hRp hx189 (a := n185) (b := n185) (by omega) (by omega)
      refine ⟨⟨hbk, trivial⟩, ?_⟩
      refine tree_node (ns := [8, 9]) (by kernel_rfl) ?_
      refine ⟨?_, ?_⟩
      ·refine tree_step (r := [9, 11, 12]) rfl rfl (Yk.extract (vs := [.agg (rdkC (refP (playN (newD q) l (i + 1)), V78)).toArray, .bool (true)]) (vr (.tuple #[.agg (rdkC (refP (playN (newD q) l (i + 1)), V78)).toArray, .bool (true)]) rfl) (show _ = some (.agg (rdkC (refP (playN (newD q) l (i + 1)), V78)).toArray : Value) from rfl) ?_)
       refine ⟨⟨hbk, trivial⟩, ?_⟩
       refine tree_node (ns := [9, 11]) (by kernel_rfl) ?_
       refine ⟨?_, ?_⟩
       ·refine tree_step (r := [11, 12]) rfl rfl (Yk.extract (vs := [.agg (rdkC (refP (playN (newD q) l (i + 1)), V78)).toArray, .bool (true)]) (vr (.tuple #[.agg (rdkC (refP (playN (newD q) l (i + 1)), V78)).toArray, .bool (true)]) rfl) (show _ = some (.bool (true) : Value) from rfl) ?_)
        refine ⟨⟨hbk, trivial⟩, ?_⟩
        refine tree_node (ns := [11]) (by kernel_rfl) ?_
        obtain ⟨lq_, -, hq202⟩ := hR.files
        have hq197 := hq202.1
        have hq198 := hR.synced.1
        have hq199 := hR.now.1
        have hq200 := hR.kept.1
        have hq201 := hR.acts.1
        refine tree_step (r := [12]) rfl rfl (Yk.storeAll (vr (PQ n185 0) rfl) (vr (.agg (rdkC (refP (playN (newD q) l (i + 1)), V78)).toArray) rfl) hb195 (by simp only [List.size_toArray, rdk_len]) (st_isz (rdk_len _) dwp_isz50) (rdk_one (x := (refP (playN (newD q) l (i + 1)), V78)) (RG.one hq197).2 (RG.one hq198).2 (RG.one hq199).2 (RG.one hq200).2 (RG.one hq201).2) fun w203 hb204 hg205 hs206 => ?_)
        have hE := row_fresh hE hg205 (Nat.le_trans hz193 (by omega))
        have hbk := kb hg205 hbk (by omega)
        have hD : DkG w w203 g1 H77 ((playN (newD q) l (i + 1))) := DkG.setT hD hg205 hb195 (by omega) (by decide) (by decide) (by decide) (by decide) (by decide) (by decide)
        have hR : RdAt (OffQ H77 ((playN (newD q) l (i + 1))).files.length (fun i => (fun i => i = n13) i ∨ i = n185 ∨ i = n185)) w203 ((playN (newD q) l (i + 1))) V78 := RdAt.setQ hR hg205 (.inr (.inl rfl))
        have hA191 := row_fresh hA191 hg205 (Nat.le_trans (Nat.le_refl _) (by omega))
        clear hq197
        clear hq198
        clear hq199
        clear hq200
        clear hq201
        clear hb195
        have hb195 : w203.heap[n185]? = some (.cells (rdkC (refP (playN (newD q) l (i + 1)), V78)).toArray 50 (0, 0)) := hb204; clear hb204
        have hl207 := bl hb195
        refine ⟨⟨hbk, trivial⟩, ?_⟩
        refine tree_node (ns := [12]) (by kernel_rfl) (tree_step (r := []) rfl rfl (Yk.assign (vr (.bool (true)) rfl) ?_))
        refine ⟨⟨hbk, trivial⟩, ?_⟩
        refine tree_nil ?_
        exact tN (hJK39 _ _ ⟨H77, V78, n185, T0, T1, T5, T6, T7, T22, rfl, rfl, hE, hbk, hb195, hD, RdAt.subQ hR (fun i q => .inl q), by omega, by omega, trivial⟩)
       obtain ⟨lq_, -, hq213⟩ := hR.files
       have hq208 := hq213.1
       have hq209 := hR.synced.1
       have hq210 := hR.now.1
       have hq211 := hR.kept.1
       have hq212 := hR.acts.1
       refine tree_step (r := [9, 12]) rfl rfl (Yk.storeAll (vr (PQ n185 0) rfl) (vr (.agg (rdkC (refP (playN (newD q) l (i + 1)), V78)).toArray) rfl) hb195 (by simp only [List.size_toArray, rdk_len]) (st_isz (rdk_len _) dwp_isz50) (rdk_one (x := (refP (playN (newD q) l (i + 1)), V78)) (RG.one hq208).2 (RG.one hq209).2 (RG.one hq210).2 (RG.one hq211).2 (RG.one hq212).2) fun w214 hb215 hg216 hs217 => ?_)
       have hE := row_fresh hE hg216 (Nat.le_trans hz193 (by omega))
       have hbk := kb hg216 hbk (by omega)
       have hD : DkG w w214 g1 H77 ((playN (newD q) l (i + 1))) := DkG.setT hD hg216 hb195 (by omega) (by decide) (by decide) (by decide) (by decide) (by decide) (by decide)
       have hR : RdAt (OffQ H77 ((playN (newD q) l (i + 1))).files.length (fun i => (fun i => i = n13) i ∨ i = n185 ∨ i = n185)) w214 ((playN (newD q) l (i + 1))) V78 := RdAt.setQ hR hg216 (.inr (.inl rfl))
       have hA191 := row_fresh hA191 hg216 (Nat.le_trans (Nat.le_refl _) (by omega))
       clear hq208
       clear hq209
       clear hq210
       clear hq211
       clear hq212
       clear hb195
       have hb195 : w214.heap[n185]? = some (.cells (rdkC (refP (playN (newD q) l (i + 1)), V78)).toArray 50 (0, 0)) := hb215; clear hb215
       have hl218 := bl hb195
       refine ⟨⟨hbk, trivial⟩, ?_⟩
       refine tree_node (ns := [9]) (by kernel_rfl) (tree_step (r := [12]) rfl rfl (Yk.extract (vs := [.agg (rdkC (refP (playN (newD q) l (i + 1)), V78)).toArray, .bool (true)]) (vr (.tuple #[.agg (rdkC (refP (playN (newD q) l (i + 1)), V78)).toArray, .bool (true)]) rfl) (show _ = some (.bool (true) : Value) from rfl) ?_))
       refine ⟨⟨hbk, trivial⟩, ?_⟩
       refine tree_node (ns := [12]) (by kernel_rfl) (tree_step (r := []) rfl rfl (Yk.assign (vr (.bool (true)) rfl) ?_))
       refine ⟨⟨hbk, trivial⟩, ?_⟩
       refine tree_nil ?_
       exact tN (hJK39 _ _ ⟨H77, V78, n185, T0, T1, T5, T6, T7, T22, rfl, rfl, hE, hbk, hb195, hD, RdAt.subQ hR (fun i q => .inl q), by omega, by omega, trivial⟩)
      refine tree_step (r := [8, 11, 12]) rfl rfl (Yk.extract (vs := [.agg (rdkC (refP (playN (newD q) l (i + 1)), V78)).toArray, .bool (true)]) (vr (.tuple #[.agg (rdkC (refP (playN (newD q) l (i + 1)), V78)).toArray, .bool (true)]) rfl) (show _ = some (.bool (true) : Value) from rfl) ?_)
      refine ⟨⟨hbk, trivial⟩, ?_⟩
      refine tree_node (ns := [8]) (by kernel_rfl) (tree_step (r := [11, 12]) rfl rfl (Yk.extract (vs := [.agg (rdkC (refP (playN (newD q) l (i + 1)), V78)).toArray, .bool (true)]) (vr (.tuple #[.agg (rdkC (refP (playN (newD q) l (i + 1)), V78)).toArray, .bool (true)]) rfl) (show _ = some (.agg (rdkC (refP (playN (newD q) l (i + 1)), V78)).toArray : Value) from rfl) ?_))
      refine ⟨⟨hbk, trivial⟩, ?_⟩
      refine tree_node (ns := [11]) (by kernel_rfl) ?_
      obtain ⟨lq_, -, hq224⟩ := hR.files
      have hq219 := hq224.1
      have hq220 := hR.synced.1
      have hq221 := hR.now.1
      have hq222 := hR.kept.1
      have hq223 := hR.acts.1
      refine tree_step (r := [12]) rfl rfl (Yk.storeAll (vr (PQ n185 0) rfl) (vr (.agg (rdkC (refP (playN (newD q) l (i + 1)), V78)).toArray) rfl) hb195 (by simp only [List.size_toArray, rdk_len]) (st_isz (rdk_len _) dwp_isz50) (rdk_one (x := (refP (playN (newD q) l (i + 1)), V78)) (RG.one hq219).2 (RG.one hq220).2 (RG.one hq221).2 (RG.one hq222).2 (RG.one hq223).2) fun w225 hb226 hg227 hs228 => ?_)
      have hE := row_fresh hE hg227 (Nat.le_trans hz193 (by omega))
      have hbk := kb hg227 hbk (by omega)
      have hD : DkG w w225 g1 H77 ((playN (newD q) l (i + 1))) := DkG.setT hD hg227 hb195 (by omega) (by decide) (by decide) (by decide) (by decide) (by decide) (by decide)
      have hR : RdAt (OffQ H77 ((playN (newD q) l (i + 1))).files.length (fun i => (fun i => i = n13) i ∨ i = n185 ∨ i = n185)) w225 ((playN (newD q) l (i + 1))) V78 := RdAt.setQ hR hg227 (.inr (.inl rfl))
      have hA191 := row_fresh hA191 hg227 (Nat.le_trans (Nat.le_refl _) (by omega))
      clear hq219
      clear hq220
      clear hq221
      clear hq222
      clear hq223
      clear hb195
      have hb195 : w225.heap[n185]? = some (.cells (rdkC (refP (playN (newD q) l (i + 1)), V78)).toArray 50 (0, 0)) := hb226; clear hb226
      have hl229 := bl hb195
      refine ⟨⟨hbk, trivial⟩, ?_⟩
      refine tree_node (ns := [12]) (by kernel_rfl) (tree_step (r := []) rfl rfl (Yk.assign (vr (.bool (true)) rfl) ?_))
      refine ⟨⟨hbk, trivial⟩, ?_⟩
      refine tree_nil ?_
      exact tN (hJK39 _ _ ⟨H77, V78, n185, T0, T1, T5, T6, T7, T22, rfl, rfl, hE, hbk, hb195, hD, RdAt.subQ hR (fun i q => .inl q), by omega, by omega, trivial⟩)
     have hRp := hR
     have hRp := hR
     refine tree_step (r := [7, 8, 9, 11, 12]) rfl rfl (Yk.alloc (cs := (rdkC ((⟨false, 0, [], [], [], [], [], 0, 0, false⟩, ⟨.slice none 0 0, .slice none 0 0, .slice none 0 0, .slice none 0 0, .slice none 0 0⟩) : RdkV)).toArray) dwp_al50 fun n230 w231 hn232 hb233 hx234 hs235 => ?_)
     have hA236 := Ext.refl w81
     have hea237 := hE
     have hz238 := hE.size
     have hlt239 := lte (bl hbk) hn232
     have hE := hE.trans hx234
     have hbk := eb hx234 hbk
     have hD : DkG w w231 g1 H77 ((playN (newD q) l (i + 1))) := (hD.keep hx234)
     have hR : RdAt (OffQ H77 ((playN (newD q) l (i + 1))).files.length (fun i => i = n13)) w231 ((playN (newD q) l (i + 1))) V78 := (hR.keep hx234)
     have hA236 := hA236.trans hx234
     have hb240 := hb233; clear hb233
     have hl241 : n230 < w231.heap.size := by omega
     have hR := RdAt.addQ hRp hx234 (a := n230) (b := n230) (by omega) (by omega)
     refine ⟨⟨hbk, trivial⟩, ?_⟩
     refine tree_node (ns := [7]) (by kernel_rfl) (tree_step (r := [8, 9, 11, 12]) rfl rfl (Yk.move (vr (.tuple #[.agg (rdkC (refP (playN (newD q) l (i + 1)), V78)).toArray, .bool (true)]) rfl) ?_))
     refine ⟨⟨hbk, trivial⟩, ?_⟩
     refine tree_node (ns := [8, 9]) (by kernel_rfl) ?_
     refine ⟨?_, ?_⟩
     ·refine tree_step (r := [9, 11, 12]) rfl rfl (Yk.extract (vs := [.agg (rdkC (refP (playN (newD q) l (i + 1)), V78)).toArray, .bool (true)]) (vr (.tuple #[.agg (rdkC (refP (playN (newD q) l (i + 1)), V78)).toArray, .bool (true)]) rfl) (show _ = some (.agg (rdkC (refP (playN (newD q) l (i + 1)), V78)).toArray : Value) from rfl) ?_)
      refine ⟨⟨hbk, trivial⟩, ?_⟩
      refine tree_node (ns := [9, 11]) (by kernel_rfl) ?_
      refine ⟨?_, ?_⟩
      ·refine tree_step (r := [11, 12]) rfl rfl (Yk.extract (vs := [.agg (rdkC (refP (playN (newD q) l (i + 1)), V78)).toArray, .bool (true)]) (vr (.tuple #[.agg (rdkC (refP (playN (newD q) l (i + 1)), V78)).toArray, .bool (true)]) rfl) (show _ = some (.bool (true) : Value) from rfl) ?_)
       refine ⟨⟨hbk, trivial⟩, ?_⟩
       refine tree_node (ns := [11]) (by kernel_rfl) ?_
       obtain ⟨lq_, -, hq247⟩ := hR.files
       have hq242 := hq247.1
       have hq243 := hR.synced.1
       have hq244 := hR.now.1
       have hq245 := hR.kept.1
       have hq246 := hR.acts.1
       refine tree_step (r := [12]) rfl rfl (Yk.storeAll (vr (PQ n230 0) rfl) (vr (.agg (rdkC (refP (playN (newD q) l (i + 1)), V78)).toArray) rfl) hb240 (by simp only [List.size_toArray, rdk_len]) (st_isz (rdk_len _) dwp_isz50) (rdk_one (x := (refP (playN (newD q) l (i + 1)), V78)) (RG.one hq242).2 (RG.one hq243).2 (RG.one hq244).2 (RG.one hq245).2 (RG.one hq246).2) fun w248 hb249 hg250 hs251 => ?_)
       have hE := row_fresh hE hg250 (Nat.le_trans hz238 (by omega))
       have hbk := kb hg250 hbk (by omega)
       have hD : DkG w w248 g1 H77 ((playN (newD q) l (i + 1))) := DkG.setT hD hg250 hb240 (by omega) (by decide) (by decide) (by decide) (by decide) (by decide) (by decide)
       have hR : RdAt (OffQ H77 ((playN (newD q) l (i + 1))).files.length (fun i => (fun i => i = n13) i ∨ i = n230 ∨ i = n230)) w248 ((playN (newD q) l (i + 1))) V78 := RdAt.setQ hR hg250 (.inr (.inl rfl))
       have hA236 := row_fresh hA236 hg250 (Nat.le_trans (Nat.le_refl _) (by omega))
       clear hq242
       clear hq243
       clear hq244
       clear hq245
       clear hq246
       clear hb240
       have hb240 : w248.heap[n230]? = some (.cells (rdkC (refP (playN (newD q) l (i + 1)), V78)).toArray 50 (0, 0)) := hb249; clear hb249
       have hl252 := bl hb240
       refine ⟨⟨hbk, trivial⟩, ?_⟩
       refine tree_node (ns := [12]) (by kernel_rfl) (tree_step (r := []) rfl rfl (Yk.assign (vr (.bool (true)) rfl) ?_))
       refine ⟨⟨hbk, trivial⟩, ?_⟩
       refine tree_nil ?_
       exact tN (hJK39 _ _ ⟨H77, V78, n230, T0, T1, T5, T6, T7, T22, rfl, rfl, hE, hbk, hb240, hD, RdAt.subQ hR (fun i q => .inl q), by omega, by omega, trivial⟩)
      obtain ⟨lq_, -, hq258⟩ := hR.files
      have hq253 := hq258.1
      have hq254 := hR.synced.1
      have hq255 := hR.now.1
      have hq256 := hR.kept.1
      have hq257 := hR.acts.1
      refine tree_step (r := [9, 12]) rfl rfl (Yk.storeAll (vr (PQ n230 0) rfl) (vr (.agg (rdkC (refP (playN (newD q) l (i + 1)), V78)).toArray) rfl) hb240 (by simp only [List.size_toArray, rdk_len]) (st_isz (rdk_len _) dwp_isz50) (rdk_one (x := (refP (playN (newD q) l (i + 1)), V78)) (RG.one hq253).2 (RG.one hq254).2 (RG.one hq255).2 (RG.one hq256).2 (RG.one hq257).2) fun w259 hb260 hg261 hs262 => ?_)
      have hE := row_fresh hE hg261 (Nat.le_trans hz238 (by omega))
      have hbk := kb hg261 hbk (by omega)
      have hD : DkG w w259 g1 H77 ((playN (newD q) l (i + 1))) := DkG.setT hD hg261 hb240 (by omega) (by decide) (by decide) (by decide) (by decide) (by decide) (by decide)
      have hR : RdAt (OffQ H77 ((playN (newD q) l (i + 1))).files.length (fun i => (fun i => i = n13) i ∨ i = n230 ∨ i = n230)) w259 ((playN (newD q) l (i + 1))) V78 := RdAt.setQ hR hg261 (.inr (.inl rfl))
      have hA236 := row_fresh hA236 hg261 (Nat.le_trans (Nat.le_refl _) (by omega))
      clear hq253
      clear hq254
      clear hq255
      clear hq256
      clear hq257
      clear hb240
      have hb240 : w259.heap[n230]? = some (.cells (rdkC (refP (playN (newD q) l (i + 1)), V78)).toArray 50 (0, 0)) := hb260; clear hb260
      have hl263 := bl hb240
      refine ⟨⟨hbk, trivial⟩, ?_⟩
      refine tree_node (ns := [9]) (by kernel_rfl) (tree_step (r := [12]) rfl rfl (Yk.extract (vs := [.agg (rdkC (refP (playN (newD q) l (i + 1)), V78)).toArray, .bool (true)]) (vr (.tuple #[.agg (rdkC (refP (playN (newD q) l (i + 1)), V78)).toArray, .bool (true)]) rfl) (show _ = some (.bool (true) : Value) from rfl) ?_))
      refine ⟨⟨hbk, trivial⟩, ?_⟩
      refine tree_node (ns := [12]) (by kernel_rfl) (tree_step (r := []) rfl rfl (Yk.assign (vr (.bool (true)) rfl) ?_))
      refine ⟨⟨hbk, trivial⟩, ?_⟩
      refine tree_nil ?_
      exact tN (hJK39 _ _ ⟨H77, V78, n230, T0, T1, T5, T6, T7, T22, rfl, rfl, hE, hbk, hb240, hD, RdAt.subQ hR (fun i q => .inl q), by omega, by omega, trivial⟩)
     refine tree_step (r := [8, 11, 12]) rfl rfl (Yk.extract (vs := [.agg (rdkC (refP (playN (newD q) l (i + 1)), V78)).toArray, .bool (true)]) (vr (.tuple #[.agg (rdkC (refP (playN (newD q) l (i + 1)), V78)).toArray, .bool (true)]) rfl) (show _ = some (.bool (true) : Value) from rfl) ?_)
     refine ⟨⟨hbk, trivial⟩, ?_⟩
     refine tree_node (ns := [8]) (by kernel_rfl) (tree_step (r := [11, 12]) rfl rfl (Yk.extract (vs := [.agg (rdkC (refP (playN (newD q) l (i + 1)), V78)).toArray, .bool (true)]) (vr (.tuple #[.agg (rdkC (refP (playN (newD q) l (i + 1)), V78)).toArray, .bool (true)]) rfl) (show _ = some (.agg (rdkC (refP (playN (newD q) l (i + 1)), V78)).toArray : Value) from rfl) ?_))
     refine ⟨⟨hbk, trivial⟩, ?_⟩
     refine tree_node (ns := [11]) (by kernel_rfl) ?_
     obtain ⟨lq_, -, hq269⟩ := hR.files
     have hq264 := hq269.1
     have hq265 := hR.synced.1
     have hq266 := hR.now.1
     have hq267 := hR.kept.1
     have hq268 := hR.acts.1
     refine tree_step (r := [12]) rfl rfl (Yk.storeAll (vr (PQ n230 0) rfl) (vr (.agg (rdkC (refP (playN (newD q) l (i + 1)), V78)).toArray) rfl) hb240 (by simp only [List.size_toArray, rdk_len]) (st_isz (rdk_len _) dwp_isz50) (rdk_one (x := (refP (playN (newD q) l (i + 1)), V78)) (RG.one hq264).2 (RG.one hq265).2 (RG.one hq266).2 (RG.one hq267).2 (RG.one hq268).2) fun w270 hb271 hg272 hs273 => ?_)
     have hE := row_fresh hE hg272 (Nat.le_trans hz238 (by omega))
     have hbk := kb hg272 hbk (by omega)
     have hD : DkG w w270 g1 H77 ((playN (newD q) l (i + 1))) := DkG.setT hD hg272 hb240 (by omega) (by decide) (by decide) (by decide) (by decide) (by decide) (by decide)
     have hR : RdAt (OffQ H77 ((playN (newD q) l (i + 1))).files.length (fun i => (fun i => i = n13) i ∨ i = n230 ∨ i = n230)) w270 ((playN (newD q) l (i + 1))) V78 := RdAt.setQ hR hg272 (.inr (.inl rfl))
     have hA236 := row_fresh hA236 hg272 (Nat.le_trans (Nat.le_refl _) (by omega))
     clear hq264
     clear hq265
     clear hq266
     clear hq267
     clear hq268
     clear hb240
     have hb240 : w270.heap[n230]? = some (.cells (rdkC (refP (playN (newD q) l (i + 1)), V78)).toArray 50 (0, 0)) := hb271; clear hb271
     have hl274 := bl hb240
     refine ⟨⟨hbk, trivial⟩, ?_⟩
     refine tree_node (ns := [12]) (by kernel_rfl) (tree_step (r := []) rfl rfl (Yk.assign (vr (.bool (true)) rfl) ?_))
     refine ⟨⟨hbk, trivial⟩, ?_⟩
     refine tree_nil ?_
     exact tN (hJK39 _ _ ⟨H77, V78, n230, T0, T1, T5, T6, T7, T22, rfl, rfl, hE, hbk, hb240, hD, RdAt.subQ hR (fun i q => .inl q), by omega, by omega, trivial⟩)
    have hRp := hR
    have hRp := hR
    refine tree_step (r := [6, 7, 8, 9, 11, 12]) rfl rfl (Yk.alloc (cs := (rdkC ((⟨false, 0, [], [], [], [], [], 0, 0, false⟩, ⟨.slice none 0 0, .slice none 0 0, .slice none 0 0, .slice none 0 0, .slice none 0 0⟩) : RdkV)).toArray) dwp_al50 fun n275 w276 hn277 hb278 hx279 hs280 => ?_)
    have hA281 := Ext.refl (World.drew w35)
    have hea282 := hE
    have hz283 : w.heap.size ≤ (World.drew w35).heap.size := hE.size
    have hlt284 := lte (bl hbk) hn277
    have hE := hE.trans hx279
    have hbk := eb hx279 hbk
    have hD : DkG w w276 g1 Hi ((playN (newD q) l i)) := (hD.keep hx279)
    have hR : RdAt (OffQ Hi ((playN (newD q) l i)).files.length (fun i => i = n13)) w276 ((playN (newD q) l i)) V := (hR.keep hx279)
    have hA281 := hA281.trans hx279
    have hb285 := hb278; clear hb278
    have hl286 : n275 < w276.heap.size := by omega
    have hR := RdAt.addQ hRp hx279 (a := n275) (b := n275) (by omega) (by omega)
    refine ⟨⟨hbk, trivial⟩, ?_⟩
    refine tree_node (ns := [6]) (by kernel_rfl) ?_
    have hDc := hD
    have hRc := hR
    have h6l := (bl hbk)
    have h8l := (bl hb285)
    have hQ3 : ∀ i, (fun i => (fun i => i = n13) i ∨ i = n275 ∨ i = n275) i → i < w276.heap.size := fun i q => by rcases q with q | q | q; have q : i = n13 := q; omega; omega; omega
    refine tree_step (r := [7, 8, 9, 11, 12]) rfl rfl (Yk.callA3 dwp_pl20 (vr (PQ g1 0) rfl) (vr (.agg (rdkC (refP (playN (newD q) l i), V)).toArray) rfl) (vr (.agg (xacC (l.getD (i) dXac)).toArray) rfl) ((played_to w _ g1 _ _ hDc _ _ hQ3 hRc (l.getD (i) dXac) hx hbl hfs hL0 (by omega) (by omega) (by omega) (by omega) (playN_succ hlt)).mono ?_))
    rintro e w291 ⟨H287, V288, rfl, hW289, hR290⟩
    refine ⟨_, rfl, ?_⟩
    have hE : Ext w w291 := hW289.g.ext
    have hbk : w291.heap[n13]? = some (.cells (rdkC (refP (playN (newD q) l i), V)).toArray 50 (0, 0)) := DkG.box hDc hW289.chg hbk (by decide) (by decide) (by decide) (by decide)
    have hb285 : w291.heap[n275]? = some (.cells (rdkC ((⟨false, 0, [], [], [], [], [], 0, 0, false⟩, ⟨.slice none 0 0, .slice none 0 0, .slice none 0 0, .slice none 0 0, .slice none 0 0⟩) : RdkV)).toArray 50 (0, 0)) := DkG.box hDc hW289.chg hb285 (by decide) (by decide) (by decide) (by decide)
    clear hD
    clear hR
    clear hA281
    have hD := hW289.g
    have hR := hR290
    refine ⟨⟨hbk, trivial⟩, ?_⟩
    refine tree_node (ns := [7]) (by kernel_rfl) (tree_step (r := [8, 9, 11, 12]) rfl rfl (Yk.move (vr (.tuple #[.agg (rdkC (refP (playN (newD q) l (i + 1)), V288)).toArray, .bool (true)]) rfl) ?_))
    refine ⟨⟨hbk, trivial⟩, ?_⟩
    refine tree_node (ns := [8, 9]) (by kernel_rfl) ?_
    refine ⟨?_, ?_⟩
    ·refine tree_step (r := [9, 11, 12]) rfl rfl (Yk.extract (vs := [.agg (rdkC (refP (playN (newD q) l (i + 1)), V288)).toArray, .bool (true)]) (vr (.tuple #[.agg (rdkC (refP (playN (newD q) l (i + 1)), V288)).toArray, .bool (true)]) rfl) (show _ = some (.agg (rdkC (refP (playN (newD q) l (i + 1)), V288)).toArray : Value) from rfl) ?_)
     refine ⟨⟨hbk, trivial⟩, ?_⟩
     refine tree_node (ns := [9, 11]) (by kernel_rfl) ?_
     refine ⟨?_, ?_⟩
     ·refine tree_step (r := [11, 12]) rfl rfl (Yk.extract (vs := [.agg (rdkC (refP (playN (newD q) l (i + 1)), V288)).toArray, .bool (true)]) (vr (.tuple #[.agg (rdkC (refP (playN (newD q) l (i + 1)), V288)).toArray, .bool (true)]) rfl) (show _ = some (.bool (true) : Value) from rfl) ?_)
      refine ⟨⟨hbk, trivial⟩, ?_⟩
      refine tree_node (ns := [11]) (by kernel_rfl) ?_
      obtain ⟨lq_, -, hq297⟩ := hR.files
      have hq292 := hq297.1
      have hq293 := hR.synced.1
      have hq294 := hR.now.1
      have hq295 := hR.kept.1
      have hq296 := hR.acts.1
      refine tree_step (r := [12]) rfl rfl (Yk.storeAll (vr (PQ n275 0) rfl) (vr (.agg (rdkC (refP (playN (newD q) l (i + 1)), V288)).toArray) rfl) hb285 (by simp only [List.size_toArray, rdk_len]) (st_isz (rdk_len _) dwp_isz50) (rdk_one (x := (refP (playN (newD q) l (i + 1)), V288)) (RG.one hq292).2 (RG.one hq293).2 (RG.one hq294).2 (RG.one hq295).2 (RG.one hq296).2) fun w298 hb299 hg300 hs301 => ?_)
      have hE := row_fresh hE hg300 (Nat.le_trans hz283 (by omega))
      have hbk := kb hg300 hbk (by omega)
      have hD : DkG w w298 g1 H287 ((playN (newD q) l (i + 1))) := DkG.setT hD hg300 hb285 (by omega) (by decide) (by decide) (by decide) (by decide) (by decide) (by decide)
      have hR : RdAt (OffQ H287 ((playN (newD q) l (i + 1))).files.length (fun i => (fun i => i = n13) i ∨ i = n275 ∨ i = n275)) w298 ((playN (newD q) l (i + 1))) V288 := RdAt.setQ hR hg300 (.inr (.inl rfl))
      clear hq292
      clear hq293
      clear hq294
      clear hq295
      clear hq296
      clear hb285
      have hb285 : w298.heap[n275]? = some (.cells (rdkC (refP (playN (newD q) l (i + 1)), V288)).toArray 50 (0, 0)) := hb299; clear hb299
      have hl302 := bl hb285
      refine ⟨⟨hbk, trivial⟩, ?_⟩
      refine tree_node (ns := [12]) (by kernel_rfl) (tree_step (r := []) rfl rfl (Yk.assign (vr (.bool (true)) rfl) ?_))
      refine ⟨⟨hbk, trivial⟩, ?_⟩
      refine tree_nil ?_
      exact tN (hJK39 _ _ ⟨H287, V288, n275, T0, T1, T5, T6, T7, T22, rfl, rfl, hE, hbk, hb285, hD, RdAt.subQ hR (fun i q => .inl q), by omega, by omega, trivial⟩)
     obtain ⟨lq_, -, hq308⟩ := hR.files
     have hq303 := hq308.1
     have hq304 := hR.synced.1
     have hq305 := hR.now.1
     have hq306 := hR.kept.1
     have hq307 := hR.acts.1
     refine tree_step (r := [9, 12]) rfl rfl (Yk.storeAll (vr (PQ n275 0) rfl) (vr (.agg (rdkC (refP (playN (newD q) l (i + 1)), V288)).toArray) rfl) hb285 (by simp only [List.size_toArray, rdk_len]) (st_isz (rdk_len _) dwp_isz50) (rdk_one (x := (refP (playN (newD q) l (i + 1)), V288)) (RG.one hq303).2 (RG.one hq304).2 (RG.one hq305).2 (RG.one hq306).2 (RG.one hq307).2) fun w309 hb310 hg311 hs312 => ?_)
     have hE := row_fresh hE hg311 (Nat.le_trans hz283 (by omega))
     have hbk := kb hg311 hbk (by omega)
     have hD : DkG w w309 g1 H287 ((playN (newD q) l (i + 1))) := DkG.setT hD hg311 hb285 (by omega) (by decide) (by decide) (by decide) (by decide) (by decide) (by decide)
     have hR : RdAt (OffQ H287 ((playN (newD q) l (i + 1))).files.length (fun i => (fun i => i = n13) i ∨ i = n275 ∨ i = n275)) w309 ((playN (newD q) l (i + 1))) V288 := RdAt.setQ hR hg311 (.inr (.inl rfl))
     clear hq303
     clear hq304
     clear hq305
     clear hq306
     clear hq307
     clear hb285
     have hb285 : w309.heap[n275]? = some (.cells (rdkC (refP (playN (newD q) l (i + 1)), V288)).toArray 50 (0, 0)) := hb310; clear hb310
     have hl313 := bl hb285
     refine ⟨⟨hbk, trivial⟩, ?_⟩
     refine tree_node (ns := [9]) (by kernel_rfl) (tree_step (r := [12]) rfl rfl (Yk.extract (vs := [.agg (rdkC (refP (playN (newD q) l (i + 1)), V288)).toArray, .bool (true)]) (vr (.tuple #[.agg (rdkC (refP (playN (newD q) l (i + 1)), V288)).toArray, .bool (true)]) rfl) (show _ = some (.bool (true) : Value) from rfl) ?_))
     refine ⟨⟨hbk, trivial⟩, ?_⟩
     refine tree_node (ns := [12]) (by kernel_rfl) (tree_step (r := []) rfl rfl (Yk.assign (vr (.bool (true)) rfl) ?_))
     refine ⟨⟨hbk, trivial⟩, ?_⟩
     refine tree_nil ?_
     exact tN (hJK39 _ _ ⟨H287, V288, n275, T0, T1, T5, T6, T7, T22, rfl, rfl, hE, hbk, hb285, hD, RdAt.subQ hR (fun i q => .inl q), by omega, by omega, trivial⟩)
    refine tree_step (r := [8, 11, 12]) rfl rfl (Yk.extract (vs := [.agg (rdkC (refP (playN (newD q) l (i + 1)), V288)).toArray, .bool (true)]) (vr (.tuple #[.agg (rdkC (refP (playN (newD q) l (i + 1)), V288)).toArray, .bool (true)]) rfl) (show _ = some (.bool (true) : Value) from rfl) ?_)
    refine ⟨⟨hbk, trivial⟩, ?_⟩
    refine tree_node (ns := [8]) (by kernel_rfl) (tree_step (r := [11, 12]) rfl rfl (Yk.extract (vs := [.agg (rdkC (refP (playN (newD q) l (i + 1)), V288)).toArray, .bool (true)]) (vr (.tuple #[.agg (rdkC (refP (playN (newD q) l (i + 1)), V288)).toArray, .bool (true)]) rfl) (show _ = some (.agg (rdkC (refP (playN (newD q) l (i + 1)), V288)).toArray : Value) from rfl) ?_))
    refine ⟨⟨hbk, trivial⟩, ?_⟩
    refine tree_node (ns := [11]) (by kernel_rfl) ?_
    obtain ⟨lq_, -, hq319⟩ := hR.files
    have hq314 := hq319.1
    have hq315 := hR.synced.1
    have hq316 := hR.now.1
    have hq317 := hR.kept.1
    have hq318 := hR.acts.1
    refine tree_step (r := [12]) rfl rfl (Yk.storeAll (vr (PQ n275 0) rfl) (vr (.agg (rdkC (refP (playN (newD q) l (i + 1)), V288)).toArray) rfl) hb285 (by simp only [List.size_toArray, rdk_len]) (st_isz (rdk_len _) dwp_isz50) (rdk_one (x := (refP (playN (newD q) l (i + 1)), V288)) (RG.one hq314).2 (RG.one hq315).2 (RG.one hq316).2 (RG.one hq317).2 (RG.one hq318).2) fun w320 hb321 hg322 hs323 => ?_)
    have hE := row_fresh hE hg322 (Nat.le_trans hz283 (by omega))
    have hbk := kb hg322 hbk (by omega)
    have hD : DkG w w320 g1 H287 ((playN (newD q) l (i + 1))) := DkG.setT hD hg322 hb285 (by omega) (by decide) (by decide) (by decide) (by decide) (by decide) (by decide)
    have hR : RdAt (OffQ H287 ((playN (newD q) l (i + 1))).files.length (fun i => (fun i => i = n13) i ∨ i = n275 ∨ i = n275)) w320 ((playN (newD q) l (i + 1))) V288 := RdAt.setQ hR hg322 (.inr (.inl rfl))
    clear hq314
    clear hq315
    clear hq316
    clear hq317
    clear hq318
    clear hb285
    have hb285 : w320.heap[n275]? = some (.cells (rdkC (refP (playN (newD q) l (i + 1)), V288)).toArray 50 (0, 0)) := hb321; clear hb321
    have hl324 := bl hb285
    refine ⟨⟨hbk, trivial⟩, ?_⟩
    refine tree_node (ns := [12]) (by kernel_rfl) (tree_step (r := []) rfl rfl (Yk.assign (vr (.bool (true)) rfl) ?_))
    refine ⟨⟨hbk, trivial⟩, ?_⟩
    refine tree_nil ?_
    exact tN (hJK39 _ _ ⟨H287, V288, n275, T0, T1, T5, T6, T7, T22, rfl, rfl, hE, hbk, hb285, hD, RdAt.subQ hR (fun i q => .inl q), by omega, by omega, trivial⟩)
   have hRp := hR
   have hRp := hR
   refine tree_step (r := [5, 6, 7, 8, 9, 11, 12]) rfl rfl (Yk.alloc (cs := (rdkC ((⟨false, 0, [], [], [], [], [], 0, 0, false⟩, ⟨.slice none 0 0, .slice none 0 0, .slice none 0 0, .slice none 0 0, .slice none 0 0⟩) : RdkV)).toArray) dwp_al50 fun n325 w326 hn327 hb328 hx329 hs330 => ?_)
   have hA331 := Ext.refl (World.drew w35)
   have hea332 := hE
   have hz333 : w.heap.size ≤ (World.drew w35).heap.size := hE.size
   have hlt334 := lte (bl hbk) hn327
   have hE := hE.trans hx329
   have hbk := eb hx329 hbk
   have hD : DkG w w326 g1 Hi ((playN (newD q) l i)) := (hD.keep hx329)
   have hR : RdAt (OffQ Hi ((playN (newD q) l i)).files.length (fun i => i = n13)) w326 ((playN (newD q) l i)) V := (hR.keep hx329)
   have hA331 := hA331.trans hx329
   have hb335 := hb328; clear hb328
   have hl336 : n325 < w326.heap.size := by omega
   have hR := RdAt.addQ hRp hx329 (a := n325) (b := n325) (by omega) (by omega)
   refine ⟨⟨hbk, trivial⟩, ?_⟩
   refine tree_node (ns := [5]) (by kernel_rfl) (tree_step (r := [6, 7, 8, 9, 11, 12]) rfl rfl (Yk.loadPR (PR.of (PR.keep hp75 hA331) (vr v74 rfl)) (dwp_ty33).choose_spec rfl (by rw [xac_len]; exact dwp_isz33) ?_))
   refine ⟨⟨hbk, trivial⟩, ?_⟩
   refine tree_node (ns := [6]) (by kernel_rfl) ?_
   have hDc := hD
   have hRc := hR
   have h6l := (bl hbk)
   have h8l := (bl hb335)
   have hQ3 : ∀ i, (fun i => (fun i => i = n13) i ∨ i = n325 ∨ i = n325) i → i < w326.heap.size := fun i q => by rcases q with q | q | q; have q : i = n13 := q; omega; omega; omega
   refine tree_step (r := [7, 8, 9, 11, 12]) rfl rfl (Yk.callA3 dwp_pl20 (vr (PQ g1 0) rfl) (vr (.agg (rdkC (refP (playN (newD q) l i), V)).toArray) rfl) (vr (.agg (xacC (l.getD (i) dXac)).toArray) rfl) ((played_to w _ g1 _ _ hDc _ _ hQ3 hRc (l.getD (i) dXac) hx hbl hfs hL0 (by omega) (by omega) (by omega) (by omega) (playN_succ hlt)).mono ?_))
   rintro e w341 ⟨H337, V338, rfl, hW339, hR340⟩
   refine ⟨_, rfl, ?_⟩
   have hE : Ext w w341 := hW339.g.ext
   have hbk : w341.heap[n13]? = some (.cells (rdkC (refP (playN (newD q) l i), V)).toArray 50 (0, 0)) := DkG.box hDc hW339.chg hbk (by decide) (by decide) (by decide) (by decide)
   have hb335 : w341.heap[n325]? = some (.cells (rdkC ((⟨false, 0, [], [], [], [], [], 0, 0, false⟩, ⟨.slice none 0 0, .slice none 0 0, .slice none 0 0, .slice none 0 0, .slice none 0 0⟩) : RdkV)).toArray 50 (0, 0)) := DkG.box hDc hW339.chg hb335 (by decide) (by decide) (by decide) (by decide)
   clear hD
   clear hR
   clear hA331
   have hD := hW339.g
   have hR := hR340
   refine ⟨⟨hbk, trivial⟩, ?_⟩
   refine tree_node (ns := [7]) (by kernel_rfl) (tree_step (r := [8, 9, 11, 12]) rfl rfl (Yk.move (vr (.tuple #[.agg (rdkC (refP (playN (newD q) l (i + 1)), V338)).toArray, .bool (true)]) rfl) ?_))
   refine ⟨⟨hbk, trivial⟩, ?_⟩
   refine tree_node (ns := [8, 9]) (by kernel_rfl) ?_
   refine ⟨?_, ?_⟩
   ·refine tree_step (r := [9, 11, 12]) rfl rfl (Yk.extract (vs := [.agg (rdkC (refP (playN (newD q) l (i + 1)), V338)).toArray, .bool (true)]) (vr (.tuple #[.agg (rdkC (refP (playN (newD q) l (i + 1)), V338)).toArray, .bool (true)]) rfl) (show _ = some (.agg (rdkC (refP (playN (newD q) l (i + 1)), V338)).toArray : Value) from rfl) ?_)
    refine ⟨⟨hbk, trivial⟩, ?_⟩
    refine tree_node (ns := [9, 11]) (by kernel_rfl) ?_
    refine ⟨?_, ?_⟩
    ·refine tree_step (r := [11, 12]) rfl rfl (Yk.extract (vs := [.agg (rdkC (refP (playN (newD q) l (i + 1)), V338)).toArray, .bool (true)]) (vr (.tuple #[.agg (rdkC (refP (playN (newD q) l (i + 1)), V338)).toArray, .bool (true)]) rfl) (show _ = some (.bool (true) : Value) from rfl) ?_)
     refine ⟨⟨hbk, trivial⟩, ?_⟩
     refine tree_node (ns := [11]) (by kernel_rfl) ?_
     obtain ⟨lq_, -, hq347⟩ := hR.files
     have hq342 := hq347.1
     have hq343 := hR.synced.1
     have hq344 := hR.now.1
     have hq345 := hR.kept.1
     have hq346 := hR.acts.1
     refine tree_step (r := [12]) rfl rfl (Yk.storeAll (vr (PQ n325 0) rfl) (vr (.agg (rdkC (refP (playN (newD q) l (i + 1)), V338)).toArray) rfl) hb335 (by simp only [List.size_toArray, rdk_len]) (st_isz (rdk_len _) dwp_isz50) (rdk_one (x := (refP (playN (newD q) l (i + 1)), V338)) (RG.one hq342).2 (RG.one hq343).2 (RG.one hq344).2 (RG.one hq345).2 (RG.one hq346).2) fun w348 hb349 hg350 hs351 => ?_)
     have hE := row_fresh hE hg350 (Nat.le_trans hz333 (by omega))
     have hbk := kb hg350 hbk (by omega)
     have hD : DkG w w348 g1 H337 ((playN (newD q) l (i + 1))) := DkG.setT hD hg350 hb335 (by omega) (by decide) (by decide) (by decide) (by decide) (by decide) (by decide)
     have hR : RdAt (OffQ H337 ((playN (newD q) l (i + 1))).files.length (fun i => (fun i => i = n13) i ∨ i = n325 ∨ i = n325)) w348 ((playN (newD q) l (i + 1))) V338 := RdAt.setQ hR hg350 (.inr (.inl rfl))
     clear hq342
     clear hq343
     clear hq344
     clear hq345
     clear hq346
     clear hb335
     have hb335 : w348.heap[n325]? = some (.cells (rdkC (refP (playN (newD q) l (i + 1)), V338)).toArray 50 (0, 0)) := hb349; clear hb349
     have hl352 := bl hb335
     refine ⟨⟨hbk, trivial⟩, ?_⟩
     refine tree_node (ns := [12]) (by kernel_rfl) (tree_step (r := []) rfl rfl (Yk.assign (vr (.bool (true)) rfl) ?_))
     refine ⟨⟨hbk, trivial⟩, ?_⟩
     refine tree_nil ?_
     exact tN (hJK39 _ _ ⟨H337, V338, n325, T0, T1, T5, T6, T7, T22, rfl, rfl, hE, hbk, hb335, hD, RdAt.subQ hR (fun i q => .inl q), by omega, by omega, trivial⟩)
    obtain ⟨lq_, -, hq358⟩ := hR.files
    have hq353 := hq358.1
    have hq354 := hR.synced.1
    have hq355 := hR.now.1
    have hq356 := hR.kept.1
    have hq357 := hR.acts.1
    refine tree_step (r := [9, 12]) rfl rfl (Yk.storeAll (vr (PQ n325 0) rfl) (vr (.agg (rdkC (refP (playN (newD q) l (i + 1)), V338)).toArray) rfl) hb335 (by simp only [List.size_toArray, rdk_len]) (st_isz (rdk_len _) dwp_isz50) (rdk_one (x := (refP (playN (newD q) l (i + 1)), V338)) (RG.one hq353).2 (RG.one hq354).2 (RG.one hq355).2 (RG.one hq356).2 (RG.one hq357).2) fun w359 hb360 hg361 hs362 => ?_)
    have hE := row_fresh hE hg361 (Nat.le_trans hz333 (by omega))
    have hbk := kb hg361 hbk (by omega)
    have hD : DkG w w359 g1 H337 ((playN (newD q) l (i + 1))) := DkG.setT hD hg361 hb335 (by omega) (by decide) (by decide) (by decide) (by decide) (by decide) (by decide)
    have hR : RdAt (OffQ H337 ((playN (newD q) l (i + 1))).files.length (fun i => (fun i => i = n13) i ∨ i = n325 ∨ i = n325)) w359 ((playN (newD q) l (i + 1))) V338 := RdAt.setQ hR hg361 (.inr (.inl rfl))
    clear hq353
    clear hq354
    clear hq355
    clear hq356
    clear hq357
    clear hb335
    have hb335 : w359.heap[n325]? = some (.cells (rdkC (refP (playN (newD q) l (i + 1)), V338)).toArray 50 (0, 0)) := hb360; clear hb360
    have hl363 := bl hb335
    refine ⟨⟨hbk, trivial⟩, ?_⟩
    refine tree_node (ns := [9]) (by kernel_rfl) (tree_step (r := [12]) rfl rfl (Yk.extract (vs := [.agg (rdkC (refP (playN (newD q) l (i + 1)), V338)).toArray, .bool (true)]) (vr (.tuple #[.agg (rdkC (refP (playN (newD q) l (i + 1)), V338)).toArray, .bool (true)]) rfl) (show _ = some (.bool (true) : Value) from rfl) ?_))
    refine ⟨⟨hbk, trivial⟩, ?_⟩
    refine tree_node (ns := [12]) (by kernel_rfl) (tree_step (r := []) rfl rfl (Yk.assign (vr (.bool (true)) rfl) ?_))
    refine ⟨⟨hbk, trivial⟩, ?_⟩
    refine tree_nil ?_
    exact tN (hJK39 _ _ ⟨H337, V338, n325, T0, T1, T5, T6, T7, T22, rfl, rfl, hE, hbk, hb335, hD, RdAt.subQ hR (fun i q => .inl q), by omega, by omega, trivial⟩)
   refine tree_step (r := [8, 11, 12]) rfl rfl (Yk.extract (vs := [.agg (rdkC (refP (playN (newD q) l (i + 1)), V338)).toArray, .bool (true)]) (vr (.tuple #[.agg (rdkC (refP (playN (newD q) l (i + 1)), V338)).toArray, .bool (true)]) rfl) (show _ = some (.bool (true) : Value) from rfl) ?_)
   refine ⟨⟨hbk, trivial⟩, ?_⟩
   refine tree_node (ns := [8]) (by kernel_rfl) (tree_step (r := [11, 12]) rfl rfl (Yk.extract (vs := [.agg (rdkC (refP (playN (newD q) l (i + 1)), V338)).toArray, .bool (true)]) (vr (.tuple #[.agg (rdkC (refP (playN (newD q) l (i + 1)), V338)).toArray, .bool (true)]) rfl) (show _ = some (.agg (rdkC (refP (playN (newD q) l (i + 1)), V338)).toArray : Value) from rfl) ?_))
   refine ⟨⟨hbk, trivial⟩, ?_⟩
   refine tree_node (ns := [11]) (by kernel_rfl) ?_
   obtain ⟨lq_, -, hq369⟩ := hR.files
   have hq364 := hq369.1
   have hq365 := hR.synced.1
   have hq366 := hR.now.1
   have hq367 := hR.kept.1
   have hq368 := hR.acts.1
   refine tree_step (r := [12]) rfl rfl (Yk.storeAll (vr (PQ n325 0) rfl) (vr (.agg (rdkC (refP (playN (newD q) l (i + 1)), V338)).toArray) rfl) hb335 (by simp only [List.size_toArray, rdk_len]) (st_isz (rdk_len _) dwp_isz50) (rdk_one (x := (refP (playN (newD q) l (i + 1)), V338)) (RG.one hq364).2 (RG.one hq365).2 (RG.one hq366).2 (RG.one hq367).2 (RG.one hq368).2) fun w370 hb371 hg372 hs373 => ?_)
   have hE := row_fresh hE hg372 (Nat.le_trans hz333 (by omega))
   have hbk := kb hg372 hbk (by omega)
   have hD : DkG w w370 g1 H337 ((playN (newD q) l (i + 1))) := DkG.setT hD hg372 hb335 (by omega) (by decide) (by decide) (by decide) (by decide) (by decide) (by decide)
   have hR : RdAt (OffQ H337 ((playN (newD q) l (i + 1))).files.length (fun i => (fun i => i = n13) i ∨ i = n325 ∨ i = n325)) w370 ((playN (newD q) l (i + 1))) V338 := RdAt.setQ hR hg372 (.inr (.inl rfl))
   clear hq364
   clear hq365
   clear hq366
   clear hq367
   clear hq368
   clear hb335
   have hb335 : w370.heap[n325]? = some (.cells (rdkC (refP (playN (newD q) l (i + 1)), V338)).toArray 50 (0, 0)) := hb371; clear hb371
   have hl374 := bl hb335
   refine ⟨⟨hbk, trivial⟩, ?_⟩
   refine tree_node (ns := [12]) (by kernel_rfl) (tree_step (r := []) rfl rfl (Yk.assign (vr (.bool (true)) rfl) ?_))
   refine ⟨⟨hbk, trivial⟩, ?_⟩
   refine tree_nil ?_
   exact tN (hJK39 _ _ ⟨H337, V338, n325, T0, T1, T5, T6, T7, T22, rfl, rfl, hE, hbk, hb335, hD, RdAt.subQ hR (fun i q => .inl q), by omega, by omega, trivial⟩)
  have hRp := hR
  have hRp := hR
  refine tree_step (r := [4, 5, 6, 7, 8, 9, 11, 12]) rfl rfl (Yk.alloc (cs := (rdkC ((⟨false, 0, [], [], [], [], [], 0, 0, false⟩, ⟨.slice none 0 0, .slice none 0 0, .slice none 0 0, .slice none 0 0, .slice none 0 0⟩) : RdkV)).toArray) dwp_al50 fun n375 w376 hn377 hb378 hx379 hs380 => ?_)
  have hA381 := Ext.refl (World.drew w35)
  have hea382 := hE
  have hz383 : w.heap.size ≤ (World.drew w35).heap.size := hE.size
  have hlt384 := lte (bl hbk) hn377
  have hE := hE.trans hx379
  have hbk := eb hx379 hbk
  have hD : DkG w w376 g1 Hi ((playN (newD q) l i)) := (hD.keep hx379)
  have hR : RdAt (OffQ Hi ((playN (newD q) l i)).files.length (fun i => i = n13)) w376 ((playN (newD q) l i)) V := (hR.keep hx379)
  have hA381 := hA381.trans hx379
  have hb385 := hb378; clear hb378
  have hl386 : n375 < w376.heap.size := by omega
  have hR := RdAt.addQ hRp hx379 (a := n375) (b := n375) (by omega) (by omega)
  refine ⟨⟨hbk, trivial⟩, ?_⟩
  refine tree_node (ns := [4]) (by kernel_rfl) ?_
  have hl389 : (xacC (l.getD (i) dXac)).length = 6 := (RG.elem (hl.keep hE) dXac (by omega))
  refine tree_step (r := [5, 6, 7, 8, 9, 11, 12]) rfl rfl (Yk.atRG dwp_ty22 dwp_szg33 (by decide) dXac (RG.of (hl.keep hE) (vr v rfl)) (vr (NI i) rfl) (by omega) fun v387 hp388 => ?_)
  refine ⟨⟨hbk, trivial⟩, ?_⟩
  refine tree_node (ns := [5]) (by kernel_rfl) (tree_step (r := [6, 7, 8, 9, 11, 12]) rfl rfl (Yk.loadPR (PR.of hp388 (vr v387 rfl)) (dwp_ty33).choose_spec rfl (by rw [xac_len]; exact dwp_isz33) ?_))
  refine ⟨⟨hbk, trivial⟩, ?_⟩
  refine tree_node (ns := [6]) (by kernel_rfl) ?_
  have hDc := hD
  have hRc := hR
  have h6l := (bl hbk)
  have h8l := (bl hb385)
  have hQ3 : ∀ i, (fun i => (fun i => i = n13) i ∨ i = n375 ∨ i = n375) i → i < w376.heap.size := fun i q => by rcases q with q | q | q; have q : i = n13 := q; omega; omega; omega
  refine tree_step (r := [7, 8, 9, 11, 12]) rfl rfl (Yk.callA3 dwp_pl20 (vr (PQ g1 0) rfl) (vr (.agg (rdkC (refP (playN (newD q) l i), V)).toArray) rfl) (vr (.agg (xacC (l.getD (i) dXac)).toArray) rfl) ((played_to w _ g1 _ _ hDc _ _ hQ3 hRc (l.getD (i) dXac) hx hbl hfs hL0 (by omega) (by omega) (by omega) (by omega) (playN_succ hlt)).mono ?_))
  rintro e w394 ⟨H390, V391, rfl, hW392, hR393⟩
  refine ⟨_, rfl, ?_⟩
  have hE : Ext w w394 := hW392.g.ext
  have hbk : w394.heap[n13]? = some (.cells (rdkC (refP (playN (newD q) l i), V)).toArray 50 (0, 0)) := DkG.box hDc hW392.chg hbk (by decide) (by decide) (by decide) (by decide)
  have hb385 : w394.heap[n375]? = some (.cells (rdkC ((⟨false, 0, [], [], [], [], [], 0, 0, false⟩, ⟨.slice none 0 0, .slice none 0 0, .slice none 0 0, .slice none 0 0, .slice none 0 0⟩) : RdkV)).toArray 50 (0, 0)) := DkG.box hDc hW392.chg hb385 (by decide) (by decide) (by decide) (by decide)
  clear hD
  clear hR
  clear hA381
  clear hp388
  have hD := hW392.g
  have hR := hR393
  refine ⟨⟨hbk, trivial⟩, ?_⟩
  refine tree_node (ns := [7]) (by kernel_rfl) (tree_step (r := [8, 9, 11, 12]) rfl rfl (Yk.move (vr (.tuple #[.agg (rdkC (refP (playN (newD q) l (i + 1)), V391)).toArray, .bool (true)]) rfl) ?_))
  refine ⟨⟨hbk, trivial⟩, ?_⟩
  refine tree_node (ns := [8, 9]) (by kernel_rfl) ?_
  refine ⟨?_, ?_⟩
  ·refine tree_step (r := [9, 11, 12]) rfl rfl (Yk.extract (vs := [.agg (rdkC (refP (playN (newD q) l (i + 1)), V391)).toArray, .bool (true)]) (vr (.tuple #[.agg (rdkC (refP (playN (newD q) l (i + 1)), V391)).toArray, .bool (true)]) rfl) (show _ = some (.agg (rdkC (refP (playN (newD q) l (i + 1)), V391)).toArray : Value) from rfl) ?_)
   refine ⟨⟨hbk, trivial⟩, ?_⟩
   refine tree_node (ns := [9, 11]) (by kernel_rfl) ?_
   refine ⟨?_, ?_⟩
   ·refine tree_step (r := [11, 12]) rfl rfl (Yk.extract (vs := [.agg (rdkC (refP (playN (newD q) l (i + 1)), V391)).toArray, .bool (true)]) (vr (.tuple #[.agg (rdkC (refP (playN (newD q) l (i + 1)), V391)).toArray, .bool (true)]) rfl) (show _ = some (.bool (true) : Value) from rfl) ?_)
    refine ⟨⟨hbk, trivial⟩, ?_⟩
    refine tree_node (ns := [11]) (by kernel_rfl) ?_
    obtain ⟨lq_, -, hq400⟩ := hR.files
    have hq395 := hq400.1
    have hq396 := hR.synced.1
    have hq397 := hR.now.1
    have hq398 := hR.kept.1
    have hq399 := hR.acts.1
    refine tree_step (r := [12]) rfl rfl (Yk.storeAll (vr (PQ n375 0) rfl) (vr (.agg (rdkC (refP (playN (newD q) l (i + 1)), V391)).toArray) rfl) hb385 (by simp only [List.size_toArray, rdk_len]) (st_isz (rdk_len _) dwp_isz50) (rdk_one (x := (refP (playN (newD q) l (i + 1)), V391)) (RG.one hq395).2 (RG.one hq396).2 (RG.one hq397).2 (RG.one hq398).2 (RG.one hq399).2) fun w401 hb402 hg403 hs404 => ?_)
    have hE := row_fresh hE hg403 (Nat.le_trans hz383 (by omega))
    have hbk := kb hg403 hbk (by omega)
    have hD : DkG w w401 g1 H390 ((playN (newD q) l (i + 1))) := DkG.setT hD hg403 hb385 (by omega) (by decide) (by decide) (by decide) (by decide) (by decide) (by decide)
    have hR : RdAt (OffQ H390 ((playN (newD q) l (i + 1))).files.length (fun i => (fun i => i = n13) i ∨ i = n375 ∨ i = n375)) w401 ((playN (newD q) l (i + 1))) V391 := RdAt.setQ hR hg403 (.inr (.inl rfl))
    clear hq395
    clear hq396
    clear hq397
    clear hq398
    clear hq399
    clear hb385
    have hb385 : w401.heap[n375]? = some (.cells (rdkC (refP (playN (newD q) l (i + 1)), V391)).toArray 50 (0, 0)) := hb402; clear hb402
    have hl405 := bl hb385
    refine ⟨⟨hbk, trivial⟩, ?_⟩
    refine tree_node (ns := [12]) (by kernel_rfl) (tree_step (r := []) rfl rfl (Yk.assign (vr (.bool (true)) rfl) ?_))
    refine ⟨⟨hbk, trivial⟩, ?_⟩
    refine tree_nil ?_
    exact tN (hJK39 _ _ ⟨H390, V391, n375, T0, T1, T5, T6, T7, T22, rfl, rfl, hE, hbk, hb385, hD, RdAt.subQ hR (fun i q => .inl q), by omega, by omega, trivial⟩)
   obtain ⟨lq_, -, hq411⟩ := hR.files
   have hq406 := hq411.1
   have hq407 := hR.synced.1
   have hq408 := hR.now.1
   have hq409 := hR.kept.1
   have hq410 := hR.acts.1
   refine tree_step (r := [9, 12]) rfl rfl (Yk.storeAll (vr (PQ n375 0) rfl) (vr (.agg (rdkC (refP (playN (newD q) l (i + 1)), V391)).toArray) rfl) hb385 (by simp only [List.size_toArray, rdk_len]) (st_isz (rdk_len _) dwp_isz50) (rdk_one (x := (refP (playN (newD q) l (i + 1)), V391)) (RG.one hq406).2 (RG.one hq407).2 (RG.one hq408).2 (RG.one hq409).2 (RG.one hq410).2) fun w412 hb413 hg414 hs415 => ?_)
   have hE := row_fresh hE hg414 (Nat.le_trans hz383 (by omega))
   have hbk := kb hg414 hbk (by omega)
   have hD : DkG w w412 g1 H390 ((playN (newD q) l (i + 1))) := DkG.setT hD hg414 hb385 (by omega) (by decide) (by decide) (by decide) (by decide) (by decide) (by decide)
   have hR : RdAt (OffQ H390 ((playN (newD q) l (i + 1))).files.length (fun i => (fun i => i = n13) i ∨ i = n375 ∨ i = n375)) w412 ((playN (newD q) l (i + 1))) V391 := RdAt.setQ hR hg414 (.inr (.inl rfl))
   clear hq406
   clear hq407
   clear hq408
   clear hq409
   clear hq410
   clear hb385
   have hb385 : w412.heap[n375]? = some (.cells (rdkC (refP (playN (newD q) l (i + 1)), V391)).toArray 50 (0, 0)) := hb413; clear hb413
   have hl416 := bl hb385
   refine ⟨⟨hbk, trivial⟩, ?_⟩
   refine tree_node (ns := [9]) (by kernel_rfl) (tree_step (r := [12]) rfl rfl (Yk.extract (vs := [.agg (rdkC (refP (playN (newD q) l (i + 1)), V391)).toArray, .bool (true)]) (vr (.tuple #[.agg (rdkC (refP (playN (newD q) l (i + 1)), V391)).toArray, .bool (true)]) rfl) (show _ = some (.bool (true) : Value) from rfl) ?_))
   refine ⟨⟨hbk, trivial⟩, ?_⟩
   refine tree_node (ns := [12]) (by kernel_rfl) (tree_step (r := []) rfl rfl (Yk.assign (vr (.bool (true)) rfl) ?_))
   refine ⟨⟨hbk, trivial⟩, ?_⟩
   refine tree_nil ?_
   exact tN (hJK39 _ _ ⟨H390, V391, n375, T0, T1, T5, T6, T7, T22, rfl, rfl, hE, hbk, hb385, hD, RdAt.subQ hR (fun i q => .inl q), by omega, by omega, trivial⟩)
  refine tree_step (r := [8, 11, 12]) rfl rfl (Yk.extract (vs := [.agg (rdkC (refP (playN (newD q) l (i + 1)), V391)).toArray, .bool (true)]) (vr (.tuple #[.agg (rdkC (refP (playN (newD q) l (i + 1)), V391)).toArray, .bool (true)]) rfl) (show _ = some (.bool (true) : Value) from rfl) ?_)
  refine ⟨⟨hbk, trivial⟩, ?_⟩
  refine tree_node (ns := [8]) (by kernel_rfl) (tree_step (r := [11, 12]) rfl rfl (Yk.extract (vs := [.agg (rdkC (refP (playN (newD q) l (i + 1)), V391)).toArray, .bool (true)]) (vr (.tuple #[.agg (rdkC (refP (playN (newD q) l (i + 1)), V391)).toArray, .bool (true)]) rfl) (show _ = some (.agg (rdkC (refP (playN (newD q) l (i + 1)), V391)).toArray : Value) from rfl) ?_))
  refine ⟨⟨hbk, trivial⟩, ?_⟩
  refine tree_node (ns := [11]) (by kernel_rfl) ?_
  obtain ⟨lq_, -, hq422⟩ := hR.files
  have hq417 := hq422.1
  have hq418 := hR.synced.1
  have hq419 := hR.now.1
  have hq420 := hR.kept.1
  have hq421 := hR.acts.1
  refine tree_step (r := [12]) rfl rfl (Yk.storeAll (vr (PQ n375 0) rfl) (vr (.agg (rdkC (refP (playN (newD q) l (i + 1)), V391)).toArray) rfl) hb385 (by simp only [List.size_toArray, rdk_len]) (st_isz (rdk_len _) dwp_isz50) (rdk_one (x := (refP (playN (newD q) l (i + 1)), V391)) (RG.one hq417).2 (RG.one hq418).2 (RG.one hq419).2 (RG.one hq420).2 (RG.one hq421).2) fun w423 hb424 hg425 hs426 => ?_)
  have hE := row_fresh hE hg425 (Nat.le_trans hz383 (by omega))
  have hbk := kb hg425 hbk (by omega)
  have hD : DkG w w423 g1 H390 ((playN (newD q) l (i + 1))) := DkG.setT hD hg425 hb385 (by omega) (by decide) (by decide) (by decide) (by decide) (by decide) (by decide)
  have hR : RdAt (OffQ H390 ((playN (newD q) l (i + 1))).files.length (fun i => (fun i => i = n13) i ∨ i = n375 ∨ i = n375)) w423 ((playN (newD q) l (i + 1))) V391 := RdAt.setQ hR hg425 (.inr (.inl rfl))
  clear hq417
  clear hq418
  clear hq419
  clear hq420
  clear hq421
  clear hb385
  have hb385 : w423.heap[n375]? = some (.cells (rdkC (refP (playN (newD q) l (i + 1)), V391)).toArray 50 (0, 0)) := hb424; clear hb424
  have hl427 := bl hb385
  refine ⟨⟨hbk, trivial⟩, ?_⟩
  refine tree_node (ns := [12]) (by kernel_rfl) (tree_step (r := []) rfl rfl (Yk.assign (vr (.bool (true)) rfl) ?_))
  refine ⟨⟨hbk, trivial⟩, ?_⟩
  refine tree_nil ?_
  exact tN (hJK39 _ _ ⟨H390, V391, n375, T0, T1, T5, T6, T7, T22, rfl, rfl, hE, hbk, hb385, hD, RdAt.subQ hR (fun i q => .inl q), by omega, by omega, trivial⟩)
 refine wpF_exit (thenF_exit (thenF_exit (inBlockF_hit (tN (hK31 _ _ (sk fun K428 hK428 => (wt (oS rfl (Yk.callA0 dwp_pl16  ((awake06 _).mono ?_))))))))))
 rintro e w430 ⟨rfl, hx429⟩
 refine ⟨_, rfl, ?_⟩
 have hE := hE.trans hx429
 have hbk := eb hx429 hbk
 have hD : DkG w w430 g1 Hi ((playN (newD q) l i)) := (hD.keep hx429)
 have hR : RdAt (OffQ Hi ((playN (newD q) l i)).files.length (fun i => i = n13)) w430 ((playN (newD q) l i)) V := (hR.keep hx429)
 refine oA rfl (oZ (tN (hK428 _ _ (wpF_ret (postF_ret (fn := Try.f5) _ rfl [.bool (true)] (.bool (true)) rfl ⟨rfl, trivial⟩ ?_)))))
 exact ⟨rfl, hE⟩

theorem diskPlays_walk (w : World) (q : Int) (hb : -9223372036854775808 ≤ q ∧ q ≤ 9223372036854775807) (v : Value) (l : List XactV) (hl : RG 6 (xacC) w v l) (hk : ∀ x ∈ l, XactAt w x) :
  Calls Try.prog 5 #[.int .i64 q, v] w fun e w' => e = .returned (.bool true) ∧ Ext w w' := by
 by_cases h : 0 ≤ q ∧ q ≤ 1073741824
 ·obtain ⟨n, rfl⟩ : ∃ n : Nat, q = ((n : Nat) : Int) := ⟨q.toNat, by omega⟩
  exact plays_ok w n (by omega) v l hl hk
 ·exact plays_no w q (by omega) v l hl hk
end Go.Proofs.Ytejpjjhkjdpeaaa
