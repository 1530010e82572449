/- Part 4 of what stands behind these statements: laws and walks of the functions that are reached. Conditions: those that each theorem names. -/
import Derived.Test.YtmonlobfofkbdaaDoorM3
set_option linter.unusedVariables false
set_option linter.unusedSimpArgs false
namespace Go.Proofs.YtmonlobfofkbdaaDoor
open Go.RowKit
set_option maxRecDepth 100000
theorem index_any (w : World) (c : UInt8) : Calls Tryd.prog 130 #[St ([48, 49, 50, 51, 52, 53, 54, 55, 56, 57, 97, 98, 99, 100, 101, 102] : List UInt8), B8 c] w fun e w' => e = .returned (.int .i64 (dgI c)) ∧ w' = w := by
 have h := shelf_IndexByte (⟨([48, 49, 50, 51, 52, 53, 54, 55, 56, 57, 97, 98, 99, 100, 101, 102] : List UInt8).toArray⟩ : ByteArray) (c.toNat : Int) w
 have e : Lib.indexByte (⟨([48, 49, 50, 51, 52, 53, 54, 55, 56, 57, 97, 98, 99, 100, 101, 102] : List UInt8).toArray⟩ : ByteArray).data.toList ((c.toNat : Int).toNat.toUInt8) = dgI c := by
  rw [← index_dg c]
  simp [digs]
 rw [e] at h
 exact h
theorem byteAt_of {s : List UInt8} {i k1 k2 : Nat} (h1 : dg (s.getD (2 * i) 0) = some k1) (h2 : dg (s.getD (2 * i + 1) 0) = some k2) (_ : k2 < 16) : byteAt s i = UInt8.ofNat (16 * k1 + k2) := by
 unfold byteAt
 rw [h1, h2]
 rfl
theorem byteAt_or {s : List UInt8} {i k1 k2 : Nat} (h1 : dg (s.getD (2 * i) 0) = some k1) (h2 : dg (s.getD (2 * i + 1) 0) = some k2) (hn : k2 < 16) : byteAt s i = UInt8.ofNat (k1 * 2 ^ 4 ||| k2) := by
 rw [byteAt_of h1 h2 hn, shl_or _ _ _ hn, Nat.mul_comm]
theorem ok_next {s : List UInt8} {i k1 k2 : Nat} (h : ∀ j, j < i → okAt s j = true) (h1 : dg (s.getD (2 * i) 0) = some k1) (h2 : dg (s.getD (2 * i + 1) 0) = some k2) : ∀ j, j < i + 1 → okAt s j = true := fun j hj => by
 by_cases he : j = i
 ·subst he
  unfold okAt
  rw [h1, h2]
  rfl
 ·exact h j (by omega)
theorem wr49_ty9 : Tryd.prog.underlying 9 = some (.string) := by kernel_rfl
theorem wr49_pl130 : Plain Tryd.prog 130 := fun _ _ => by kernel_rfl
theorem wr49_ty5 : Tryd.prog.underlying 5 = some (.int .u8) := by kernel_rfl
theorem wr49_ty3 : Tryd.prog.underlying 3 = some (.int .i64) := by kernel_rfl
theorem wr49_isz25 : (Tryd.prog.info? 25).map (·.size) = some 32 := by kernel_rfl
theorem wr49_al25 {d : Option Tmp} {ty : TypeId} {pos : String} {af : Array Edge} {gd : Option (Nat × Bool)} (σ : Operand → Value) (w : World) : (execOp σ ⟨d, .alloc 25, ty, pos, af, gd⟩).run Tryd.prog w = .ok (.value (PQ w.heap.size 0)) (w.alloc (.cells (Lib.byteCells (List.replicate 32 0)).toArray 25)) := by kernel_rfl
theorem wr49_ty25 : Tryd.prog.underlying 25 = some (.array 32 5) := by kernel_rfl
theorem wr49_pl129 : Plain Tryd.prog 129 := fun _ _ => by kernel_rfl
theorem wr49_sz5 : ∀ w' : World, (sizeOf 5).run Tryd.prog w' = .ok 1 w' := fun _ => by kernel_rfl
theorem wr49_isz5 : (Tryd.prog.info? 5).map (·.size) = some 1 := by kernel_rfl
theorem wr49_pl131 : Plain Tryd.prog 131 := fun _ _ => by kernel_rfl
set_option maxHeartbeats 1600000
theorem digit_any (w : World) (b : Nat) (s : List UInt8) (hb : w.heap[b]? = some (.cells ([St s] : List Value).toArray 9 (0, 0))) (i : Nat) (hi : i < s.length) :
  Calls Tryd.prog 129 #[NI i, PQ b 0] w fun e w' => e = .returned (.int .i64 (dgI (s.getD i 0))) ∧ Ext w w' := by
 refine calls_of_wpF (args := [NI i, PQ b 0]) Tryd.func129 rfl 8 rfl (Nat.le_of_ble_eq_true rfl) ?_
 intro ρ0 hb
 have T0 : ρ0 0 = (NI i : Value) := hb.get 0
 have T1 : ρ0 1 = (PQ b 0 : Value) := hb.get 1
 clear hb
 have hE := Ext.refl w
 refine sk fun K1 hK1 => (wt (oA rfl (oZ (tN (hK1 _ _ (sk fun K2 hK2 => (wt (oS rfl (Yk.cell1 wr49_ty9 rfl T1 (cellAt hb (show _ = some (St (s) : Value) from rfl)) (oM rfl (oS rfl (Yk.idxSt (l := s) (i := i) wr49_ty9 (vr (St (s)) rfl) T0 (hi) (oS rfl (Yk.callA2 wr49_pl130 (vr (St (([48, 49, 50, 51, 52, 53, 54, 55, 56, 57, 97, 98, 99, 100, 101, 102] : List UInt8))) rfl) (vr (B8 (s.getD (i) 0)) rfl) ((index_any _ (s.getD (i) 0)).mono ?_)))))))))))))))
 rintro e w3 ⟨rfl, hq⟩
 refine ⟨_, rfl, ?_⟩
 have hb := eb (show Ext w w3 from by rw [hq]; exact Ext.refl _) hb
 have hE := hE.trans (show Ext w w3 from by rw [hq]; exact Ext.refl _)
 refine oA rfl (oZ (tN (hK2 _ _ (wpF_ret (postF_ret (fn := Tryd.f129) _ rfl [.int .i64 (dgI (s.getD (i) 0) : Int)] (.int .i64 (dgI (s.getD (i) 0) : Int)) rfl ⟨rfl, trivial⟩ ?_)))))
 exact ⟨rfl, hE⟩

theorem refDigit_0 (w : World) (c : UInt8) (h1 : 48 ≤ c.toNat) (h2 : c.toNat ≤ 57) :
  Calls Tryd.prog 131 #[B8 c] w fun e w' => e = .returned (.int .i64 (dgI c)) ∧ Ext w w' := by
 have hlt := c.toNat_lt
 refine calls_of_wpF (args := [B8 (c)]) Tryd.func131 rfl 22 rfl (Nat.le_of_ble_eq_true rfl) ?_
 intro ρ0 hb
 have T0 : ρ0 0 = (B8 (c) : Value) := hb.get 0
 clear hb
 have hE := Ext.refl w
 refine sk fun K1 hK1 => (wt (oA rfl (oZ (tN (hK1 _ _ (sk fun K2 hK2 => (sk fun K3 hK3 => (wt (oM rfl (oS rfl (Yk.eqI (a := ((c).toNat : Nat)) (b := (48 : Nat)) T0 rfl (k_geq _ _ _ _) (oM rfl (oY (d := 5) rfl rfl (vr (.bool (true)) (congrArg Value.bool (decide_eq_true (h1)))) (Yk.move T0 (oY (d := 5) rfl rfl (vr (.bool (true)) (congrArg Value.bool (decide_eq_true (h1)))) (Yk.eqI (a := ((c).toNat : Nat)) (b := (57 : Nat)) rfl rfl (k_leq _ _ _ _) (oS rfl (Yk.pickT (vr (.bool (true)) (congrArg Value.bool (decide_eq_true (h1)))) (vr (.bool (true)) (congrArg Value.bool (decide_eq_true (h2)))) (oZ (tN (hK3 _ _ ?_)))))))))))))))))))))
 refine wpF_true (vr (.bool (true)) rfl) (sk fun K4 hK4 => (wt (oM rfl (oS rfl (Yk.convI wr49_ty5 wr49_ty3 T0 (ofByte .i64 (c) (fun n hn => wrap_i64 n (by omega))) (oS rfl (Yk.bin (xv := NI ((c).toNat)) (yv := NI 48) rfl rfl rfl (i64_sub _ _ _ (by omega) (by omega)) (oA rfl (oZ (tN (hK4 _ _ (wpF_ret (thenF_ret (postF_ret (fn := Tryd.f131) _ rfl [NI (((c).toNat) - (48))] (NI (((c).toNat) - (48))) rfl ⟨rfl, trivial⟩ ?_))))))))))))))
 exact ⟨by simp [dgI, dg, h1, h2], hE⟩

theorem refDigit_1 (w : World) (c : UInt8) (h1 : 97 ≤ c.toNat) (h2 : c.toNat ≤ 102) :
  Calls Tryd.prog 131 #[B8 c] w fun e w' => e = .returned (.int .i64 (dgI c)) ∧ Ext w w' := by
 have hlt := c.toNat_lt
 refine calls_of_wpF (args := [B8 (c)]) Tryd.func131 rfl 22 rfl (Nat.le_of_ble_eq_true rfl) ?_
 intro ρ0 hb
 have T0 : ρ0 0 = (B8 (c) : Value) := hb.get 0
 clear hb
 have hE := Ext.refl w
 refine sk fun K1 hK1 => (wt (oA rfl (oZ (tN (hK1 _ _ (sk fun K2 hK2 => (sk fun K3 hK3 => (wt (oM rfl (oS rfl (Yk.eqI (a := ((c).toNat : Nat)) (b := (48 : Nat)) T0 rfl (k_geq _ _ _ _) (oM rfl (oY (d := 5) rfl rfl (vr (.bool (true)) (congrArg Value.bool (decide_eq_true (by omega)))) (Yk.move T0 (oY (d := 5) rfl rfl (vr (.bool (true)) (congrArg Value.bool (decide_eq_true (by omega)))) (Yk.eqI (a := ((c).toNat : Nat)) (b := (57 : Nat)) rfl rfl (k_leq _ _ _ _) (oS rfl (Yk.pickT (vr (.bool (true)) (congrArg Value.bool (decide_eq_true (by omega)))) (vr (.bool (false)) (congrArg Value.bool (decide_eq_false (by omega)))) (oZ (tN (hK3 _ _ ?_)))))))))))))))))))))
 refine wpF_false (vr (.bool (false)) rfl) (wpF_skip (tN (hK2 _ _ (sk fun K4 hK4 => (sk fun K5 hK5 => (wt (oM rfl (oS rfl (Yk.eqI (a := ((c).toNat : Nat)) (b := (97 : Nat)) T0 rfl (k_geq _ _ _ _) (oM rfl (oY (d := 14) rfl rfl (vr (.bool (true)) (congrArg Value.bool (decide_eq_true (h1)))) (Yk.move T0 (oY (d := 14) rfl rfl (vr (.bool (true)) (congrArg Value.bool (decide_eq_true (h1)))) (Yk.eqI (a := ((c).toNat : Nat)) (b := (102 : Nat)) rfl rfl (k_leq _ _ _ _) (oS rfl (Yk.pickT (vr (.bool (true)) (congrArg Value.bool (decide_eq_true (h1)))) (vr (.bool (true)) (congrArg Value.bool (decide_eq_true (h2)))) (oZ (tN (hK5 _ _ (wpF_true (vr (.bool (true)) rfl) (sk fun K6 hK6 => ?_)))))))))))))))))))))
 refine wt (oM rfl (oS rfl (Yk.convI wr49_ty5 wr49_ty3 T0 (ofByte .i64 (c) (fun n hn => wrap_i64 n (by omega))) (oS rfl (Yk.bin (xv := NI ((c).toNat)) (yv := NI 97) rfl rfl rfl (i64_sub _ _ _ (by omega) (by omega)) (oS rfl (Yk.bin (xv := NI (((c).toNat) - (97))) (yv := NI 10) rfl rfl rfl (i64_add _ _ _ (by omega)) (oA rfl (oZ (tN (hK6 _ _ (wpF_ret (thenF_ret (postF_ret (fn := Tryd.f131) _ rfl [NI ((((c).toNat) - (97)) + (10))] (NI ((((c).toNat) - (97)) + (10))) rfl ⟨rfl, trivial⟩ ?_))))))))))))))
 exact ⟨by unfold dgI; rw [show dg c = some (c.toNat - 87) by unfold dg; rw [if_neg (by omega), if_pos ⟨h1, h2⟩]] <;> (show _ = Ending.returned (NI (c.toNat - 87)); rw [show (c.toNat) - (97) + (10) = c.toNat - 87 by omega]), hE⟩

theorem refDigit_2 (w : World) (c : UInt8) (h : c.toNat < 48) :
  Calls Tryd.prog 131 #[B8 c] w fun e w' => e = .returned (.int .i64 (dgI c)) ∧ Ext w w' := by
 have hlt := c.toNat_lt
 refine calls_of_wpF (args := [B8 (c)]) Tryd.func131 rfl 22 rfl (Nat.le_of_ble_eq_true rfl) ?_
 intro ρ0 hb
 have T0 : ρ0 0 = (B8 (c) : Value) := hb.get 0
 clear hb
 have hE := Ext.refl w
 refine sk fun K1 hK1 => (wt (oA rfl (oZ (tN (hK1 _ _ (sk fun K2 hK2 => (sk fun K3 hK3 => (wt (oM rfl (oS rfl (Yk.eqI (a := ((c).toNat : Nat)) (b := (48 : Nat)) T0 rfl (k_geq _ _ _ _) (oM rfl (oN (d := 5) rfl rfl rfl (vr (.bool (false)) (congrArg Value.bool (decide_eq_false (by omega)))) rfl (oN (d := 5) rfl rfl rfl (vr (.bool (false)) (congrArg Value.bool (decide_eq_false (by omega)))) rfl (oS rfl (Yk.pickF (vr (.bool (false)) (congrArg Value.bool (decide_eq_false (by omega)))) (vr (.bool (false)) rfl) (oZ (tN (hK3 _ _ ?_)))))))))))))))))))
 refine wpF_false (vr (.bool (false)) rfl) (wpF_skip (tN (hK2 _ _ (sk fun K4 hK4 => (sk fun K5 hK5 => (wt (oM rfl (oS rfl (Yk.eqI (a := ((c).toNat : Nat)) (b := (97 : Nat)) T0 rfl (k_geq _ _ _ _) (oM rfl (oN (d := 14) rfl rfl rfl (vr (.bool (false)) (congrArg Value.bool (decide_eq_false (by omega)))) rfl (oN (d := 14) rfl rfl rfl (vr (.bool (false)) (congrArg Value.bool (decide_eq_false (by omega)))) rfl (oS rfl (Yk.pickF (vr (.bool (false)) (congrArg Value.bool (decide_eq_false (by omega)))) (vr (.bool (false)) rfl) (oZ (tN (hK5 _ _ (wpF_false (vr (.bool (false)) rfl) (wpF_skip ?_)))))))))))))))))))
 refine tN (hK4 _ _ (sk fun K6 hK6 => (wt (oA rfl (oZ (tN (hK6 _ _ (wpF_ret (postF_ret (fn := Tryd.f131) _ rfl [.int .i64 (-1 : Int)] (.int .i64 (-1 : Int)) rfl ⟨rfl, trivial⟩ ?_)))))))))
 exact ⟨by unfold dgI; rw [show dg c = none by unfold dg; rw [if_neg (by omega), if_neg (by omega)]], hE⟩

theorem refDigit_3 (w : World) (c : UInt8) (h1 : 57 < c.toNat) (h2 : c.toNat < 97) :
  Calls Tryd.prog 131 #[B8 c] w fun e w' => e = .returned (.int .i64 (dgI c)) ∧ Ext w w' := by
 have hlt := c.toNat_lt
 refine calls_of_wpF (args := [B8 (c)]) Tryd.func131 rfl 22 rfl (Nat.le_of_ble_eq_true rfl) ?_
 intro ρ0 hb
 have T0 : ρ0 0 = (B8 (c) : Value) := hb.get 0
 clear hb
 have hE := Ext.refl w
 refine sk fun K1 hK1 => (wt (oA rfl (oZ (tN (hK1 _ _ (sk fun K2 hK2 => (sk fun K3 hK3 => (wt (oM rfl (oS rfl (Yk.eqI (a := ((c).toNat : Nat)) (b := (48 : Nat)) T0 rfl (k_geq _ _ _ _) (oM rfl (oY (d := 5) rfl rfl (vr (.bool (true)) (congrArg Value.bool (decide_eq_true (by omega)))) (Yk.move T0 (oY (d := 5) rfl rfl (vr (.bool (true)) (congrArg Value.bool (decide_eq_true (by omega)))) (Yk.eqI (a := ((c).toNat : Nat)) (b := (57 : Nat)) rfl rfl (k_leq _ _ _ _) (oS rfl (Yk.pickT (vr (.bool (true)) (congrArg Value.bool (decide_eq_true (by omega)))) (vr (.bool (false)) (congrArg Value.bool (decide_eq_false (by omega)))) (oZ (tN (hK3 _ _ ?_)))))))))))))))))))))
 refine wpF_false (vr (.bool (false)) rfl) (wpF_skip (tN (hK2 _ _ (sk fun K4 hK4 => (sk fun K5 hK5 => (wt (oM rfl (oS rfl (Yk.eqI (a := ((c).toNat : Nat)) (b := (97 : Nat)) T0 rfl (k_geq _ _ _ _) (oM rfl (oN (d := 14) rfl rfl rfl (vr (.bool (false)) (congrArg Value.bool (decide_eq_false (by omega)))) rfl (oN (d := 14) rfl rfl rfl (vr (.bool (false)) (congrArg Value.bool (decide_eq_false (by omega)))) rfl (oS rfl (Yk.pickF (vr (.bool (false)) (congrArg Value.bool (decide_eq_false (by omega)))) (vr (.bool (false)) rfl) (oZ (tN (hK5 _ _ (wpF_false (vr (.bool (false)) rfl) (wpF_skip ?_)))))))))))))))))))
 refine tN (hK4 _ _ (sk fun K6 hK6 => (wt (oA rfl (oZ (tN (hK6 _ _ (wpF_ret (postF_ret (fn := Tryd.f131) _ rfl [.int .i64 (-1 : Int)] (.int .i64 (-1 : Int)) rfl ⟨rfl, trivial⟩ ?_)))))))))
 exact ⟨by unfold dgI; rw [show dg c = none by unfold dg; rw [if_neg (by omega), if_neg (by omega)]], hE⟩

theorem refDigit_4 (w : World) (c : UInt8) (h : 102 < c.toNat) :
  Calls Tryd.prog 131 #[B8 c] w fun e w' => e = .returned (.int .i64 (dgI c)) ∧ Ext w w' := by
 have hlt := c.toNat_lt
 refine calls_of_wpF (args := [B8 (c)]) Tryd.func131 rfl 22 rfl (Nat.le_of_ble_eq_true rfl) ?_
 intro ρ0 hb
 have T0 : ρ0 0 = (B8 (c) : Value) := hb.get 0
 clear hb
 have hE := Ext.refl w
 refine sk fun K1 hK1 => (wt (oA rfl (oZ (tN (hK1 _ _ (sk fun K2 hK2 => (sk fun K3 hK3 => (wt (oM rfl (oS rfl (Yk.eqI (a := ((c).toNat : Nat)) (b := (48 : Nat)) T0 rfl (k_geq _ _ _ _) (oM rfl (oY (d := 5) rfl rfl (vr (.bool (true)) (congrArg Value.bool (decide_eq_true (by omega)))) (Yk.move T0 (oY (d := 5) rfl rfl (vr (.bool (true)) (congrArg Value.bool (decide_eq_true (by omega)))) (Yk.eqI (a := ((c).toNat : Nat)) (b := (57 : Nat)) rfl rfl (k_leq _ _ _ _) (oS rfl (Yk.pickT (vr (.bool (true)) (congrArg Value.bool (decide_eq_true (by omega)))) (vr (.bool (false)) (congrArg Value.bool (decide_eq_false (by omega)))) (oZ (tN (hK3 _ _ ?_)))))))))))))))))))))
 refine wpF_false (vr (.bool (false)) rfl) (wpF_skip (tN (hK2 _ _ (sk fun K4 hK4 => (sk fun K5 hK5 => (wt (oM rfl (oS rfl (Yk.eqI (a := ((c).toNat : Nat)) (b := (97 : Nat)) T0 rfl (k_geq _ _ _ _) (oM rfl (oY (d := 14) rfl rfl (vr (.bool (true)) (congrArg Value.bool (decide_eq_true (by omega)))) (Yk.move T0 (oY (d := 14) rfl rfl (vr (.bool (true)) (congrArg Value.bool (decide_eq_true (by omega)))) (Yk.eqI (a := ((c).toNat : Nat)) (b := (102 : Nat)) rfl rfl (k_leq _ _ _ _) (oS rfl (Yk.pickT (vr (.bool (true)) (congrArg Value.bool (decide_eq_true (by omega)))) (vr (.bool (false)) (congrArg Value.bool (decide_eq_false (by omega)))) (oZ (tN (hK5 _ _ (wpF_false (vr (.bool (false)) rfl) (wpF_skip ?_)))))))))))))))))))))
 refine tN (hK4 _ _ (sk fun K6 hK6 => (wt (oA rfl (oZ (tN (hK6 _ _ (wpF_ret (postF_ret (fn := Tryd.f131) _ rfl [.int .i64 (-1 : Int)] (.int .i64 (-1 : Int)) rfl ⟨rfl, trivial⟩ ?_)))))))))
 exact ⟨by unfold dgI; rw [show dg c = none by unfold dg; rw [if_neg (by omega), if_neg (by omega)]], hE⟩

theorem refDigit_any (w : World) (c : UInt8) : Calls Tryd.prog 131 #[B8 c] w fun e w' => e = .returned (.int .i64 (dgI c)) ∧ Ext w w' := by
 by_cases h1 : c.toNat < 48
 ·exact refDigit_2 w c h1
 ·by_cases h2 : c.toNat ≤ 57
  ·exact refDigit_0 w c (by omega) h2
  ·by_cases h3 : c.toNat < 97
   ·exact refDigit_3 w c (by omega) h3
   ·by_cases h4 : c.toNat ≤ 102
    ·exact refDigit_1 w c (by omega) h4
    ·exact refDigit_4 w c (by omega)

theorem unhex_any (w : World) (s : List UInt8) (hs : s.length ≤ 9223372036854775807) :
  Calls Tryd.prog 89 #[St s] w fun e w' => e = .returned (.tuple #[AB ((unhex s).1), .bool (unhex s).2]) ∧ Ext w w' := by
 refine calls_of_wpF (args := [St (s)]) Tryd.func89 rfl 42 rfl (Nat.le_of_ble_eq_true rfl) ?_
 intro ρ0 hb
 have T0 : ρ0 0 = (St (s) : Value) := hb.get 0
 clear hb
 have hE := Ext.refl w
 refine sk fun K1 hK1 => (wt (oS rfl (Yk.box1 T0 rfl fun n2 w3 hn4 hb5 hx6 hs7 => ?_)))
 have hE := hE.trans hx6
 have hb8 := hb5; clear hb5
 have hl9 : n2 < w3.heap.size := by omega
 refine oS rfl (Yk.alloc (cs := (Lib.byteCells (List.replicate 32 0)).toArray) wr49_al25 fun n10 w11 hn12 hb13 hx14 hs15 => ?_)
 have hA16 := Ext.refl w3
 have hea17 := hE
 have hz18 := hE.size
 have hlt19 := lte (bl hb8) hn12
 have hE := hE.trans hx14
 have hb8 := eb hx14 hb8
 have hA16 := hA16.trans hx14
 have hb20 := hb13; clear hb13
 have hl21 : n10 < w11.heap.size := by omega
 refine oA rfl (oZ (tN (hK1 _ _ (sk fun K22 hK22 => (wt (oS rfl (Yk.alloc (cs := (Lib.byteCells (List.replicate 32 0)).toArray) wr49_al25 fun n23 w24 hn25 hb26 hx27 hs28 => ?_)))))))
 have hA29 := Ext.refl w11
 have hea30 := hE
 have hea31 := hA16
 have hz32 := hE.size
 have hz33 := hA16.size
 have hlt34 := lte (bl hb8) hn25
 have hlt35 := lte (bl hb20) hn25
 have hE := hE.trans hx27
 have hb8 := eb hx27 hb8
 have hA16 := hA16.trans hx27
 have hb20 := eb hx27 hb20
 have hA29 := hA29.trans hx27
 have hb36 := hb26; clear hb26
 have hl37 : n23 < w24.heap.size := by omega
 refine oZ (tN (hK22 _ _ (sk fun K38 hK38 => (sk fun K39 hK39 => (wt (oS rfl (Yk.cell1 wr49_ty9 rfl (vr (PQ n2 0) rfl) (cellAt hb8 (show _ = some (St (s) : Value) from rfl)) (oS rfl (Yk.lenSt (l := s) wr49_ty9 (vr (St (s)) rfl) (oS rfl (Yk.eqI (a := (s.length : Nat)) (b := (64 : Nat)) rfl rfl (k_neq _ _ _ _) (oZ (tN (hK39 _ _ ?_))))))))))))))
 refine wpF_cond ((s.length : Nat) ≠ (64)) (vr (.bool (decide ((s.length : Nat) ≠ (64)))) rfl) (fun h64 => ?_) (fun h64 => ?_)
 ·have hun := unhex_no (s := s) (fun h => h64 h.1)
  refine sk fun K40 hK40 => (wt (oS rfl (Yk.run (v := AB (List.replicate 32 0)) (by kernel_rfl) (oS rfl (Yk.storeAll (vr (PQ n10 0) rfl) (vr (AB (List.replicate 32 0)) rfl) hb20 (by first | rfl | (rw [List.size_toArray, Lib.byteCells_length, List.length_replicate];  rfl)) (by rw [List.size_toArray, Lib.byteCells_length, List.length_replicate]; exact wr49_isz25) (byteCells_one _) fun w41 hb42 hg43 hs44 => ?_)))))
  have hE := row_fresh hE hg43 (Nat.le_trans hz18 (by omega))
  have hb8 := kb hg43 hb8 (by omega)
  have hA16 := row_fresh hA16 hg43 (Nat.le_trans (Nat.le_refl _) (by omega))
  clear hA29
  have hb36 := kb hg43 hb36 (by omega)
  clear hb20
  have hb20 := hb42; clear hb42
  have hl45 := bl hb20
  refine oA rfl (oZ (tN (hK40 _ _ (wpF_ret (thenF_ret (postF_ret (fn := Tryd.f89) _ rfl [AB (List.replicate 32 0), .bool (false)] (.tuple #[AB (List.replicate 32 0), .bool (false)]) rfl ⟨ResF.row rfl hb20 wr49_ty25 rfl (by rw [List.size_toArray, Lib.byteCells_length]; first | (rw [List.length_replicate]; exact wr49_isz25) | (rw [pre_length _ _ (by omega)]; exact wr49_isz25)), rfl, trivial⟩ ?_))))))
  refine ⟨?_, hE⟩
  rw [hun]
 have hs64 : s.length = 64 := by omega
 refine wpF_skip (tN (hK38 _ _ (sk fun K46 hK46 => (wt (oS rfl (Yk.mkFunc (vs := #[PQ n2 0]) (by simp only [List.map_toArray, List.map_cons, List.map_nil]; exact congrArg List.toArray (list1 (vr (PQ n2 0) rfl))) (oA rfl (oZ (tN (hK46 _ _ (sk fun K47 hK47 => (sk fun K48 hK48 => (wt (oM rfl (oL_ [(0, St (s)), (1, PQ n2 0), (2, PQ n10 0), (3, .bool (false)), (4, PQ n23 0), (5, .func (.func 129) #[] #[PQ n2 0]), (14, NI 0)] ⟨T0, rfl, rfl, rfl, rfl, rfl, rfl, trivial⟩ fun ρ49 ⟨T0, T1, T2, T3, T4, T5, T14, _⟩ => (tN (hK48 _ _ (wpF_block (wpF_loop (fun (ρ : Slots) (wz : World) => ∃ i : Nat, ρ 0 = (St (s) : Value) ∧ ρ 1 = (PQ n2 0 : Value) ∧ ρ 2 = (PQ n10 0 : Value) ∧ ρ 4 = (PQ n23 0 : Value) ∧ ρ 5 = (.func (.func 129) #[] #[PQ n2 0] : Value) ∧ ρ 14 = (NI i : Value) ∧ Ext w wz ∧ wz.heap[n2]? = some (.cells (([St (s)] : List Value)).toArray 9 (0, 0)) ∧ Ext w3 wz ∧ wz.heap[n10]? = some (.cells (Lib.byteCells (List.replicate 32 0)).toArray 25 (0, 0)) ∧ Ext w11 wz ∧ wz.heap[n23]? = some (.cells (Lib.byteCells (pre s i)).toArray 25 (0, 0)) ∧ (i ≤ 32) ∧ (∀ j, j < i → okAt s j = true) ∧ True) (fun ρ _ => 32 - (intOf (ρ 14)).toNat) ⟨0, T0, T1, T2, T4, T5, T14, hE, hb8, hA16, hb20, hA29, blk_eq hb36 (rfl), Nat.zero_le _, fun j hj => by omega, trivial⟩ ?_)))))))))))))))))))
 clear hb36
 clear hE hb8 hA16 hb20 hA29
 rintro ρ50 w51 ⟨i, T0, T1, T2, T4, T5, T14, hE, hb8, hA16, hb20, hA29, hb36l, hi, hall, -⟩
 have q14 := T14
 have hpl := pre_length s i hi
 refine sk fun K52 hK52 => (wt (oS rfl (Yk.eqI (a := (i : Nat)) (b := (32 : Nat)) T14 rfl (k_lss _ _ _ _) (oZ (tN (hK52 _ _ (sk fun K53 hK53 => ?_)))))))
 refine wpF_cond ((i) < (32)) (vr (.bool (decide ((i) < (32)))) rfl) (fun hc1 => ?_) (fun hc1 => ?_)
 ·refine wpF_skip (tN (hK53 _ _ (sk fun K54 hK54 => (wpF_block (sk fun K55 hK55 => (wt (oM rfl (oA rfl (oZ (tN (hK55 _ _ (sk fun K56 hK56 => (wt (oM rfl (oM rfl (oS rfl (Yk.bin (xv := NI 2) (yv := NI i) rfl T14 rfl (i64_mul _ _ _ (by omega)) (oS rfl (Yk.clo wr49_pl129 (caps := #[PQ n2 0]) T5 #[NI ((2) * (i)), PQ n2 0] (by simp only [List.map_toArray, List.map_cons, List.map_nil, List.append_toArray, List.cons_append, List.nil_append]; exact congrArg List.toArray (list2 (vr (NI ((2) * (i))) rfl) rfl)) ?_)))))))))))))))))))
  refine (digit_any _ n2 s hb8 ((2) * (i)) (by omega)).mono ?_
  rintro e w58 ⟨rfl, hx57⟩
  refine ⟨_, rfl, ?_⟩
  have hE := hE.trans hx57
  have hb8 := eb hx57 hb8
  have hA16 := hA16.trans hx57
  have hb20 := eb hx57 hb20
  have hA29 := hA29.trans hx57
  have hb36l := eb hx57 hb36l
  refine oM rfl (oM rfl (oS rfl (Yk.bin (xv := NI 2) (yv := NI i) rfl T14 rfl (i64_mul _ _ _ (by omega)) (oS rfl (Yk.bin (xv := NI ((2) * (i))) (yv := NI 1) rfl rfl rfl (i64_add _ _ _ (by omega)) (oS rfl (Yk.clo wr49_pl129 (caps := #[PQ n2 0]) T5 #[NI (((2) * (i)) + (1)), PQ n2 0] (by simp only [List.map_toArray, List.map_cons, List.map_nil, List.append_toArray, List.cons_append, List.nil_append]; exact congrArg List.toArray (list2 (vr (NI (((2) * (i)) + (1))) rfl) rfl)) ((digit_any _ n2 s hb8 (((2) * (i)) + (1)) (by omega)).mono ?_))))))))
  rintro e w60 ⟨rfl, hx59⟩
  refine ⟨_, rfl, ?_⟩
  have hE := hE.trans hx59
  have hb8 := eb hx59 hb8
  have hA16 := hA16.trans hx59
  have hb20 := eb hx59 hb20
  have hA29 := hA29.trans hx59
  have hb36l := eb hx59 hb36l
  refine oA rfl (oA rfl (oL_ [(0, St (s)), (1, PQ n2 0), (2, PQ n10 0), (4, PQ n23 0), (5, .func (.func 129) #[] #[PQ n2 0]), (6, NI i), (7, .int .i64 (dgI (s.getD (2 * i) 0) : Int)), (8, .int .i64 (dgI (s.getD (2 * i + 1) 0) : Int)), (14, NI i)] ⟨T0, T1, T2, T4, T5, T14, rfl, rfl, T14, trivial⟩ fun ρ61 ⟨T0, T1, T2, T4, T5, T6, T7, T8, T14, _⟩ => ?_))
  obtain ⟨x1, hx1⟩ : ∃ x, x = dg (s.getD (2 * i) 0) := ⟨_, rfl⟩
  obtain ⟨x2, hx2⟩ : ∃ x, x = dg (s.getD (2 * i + 1) 0) := ⟨_, rfl⟩
  rcases x1 with _ | k1
  ·have hno : okAt s i = false := by unfold okAt; rw [← hx1]; rfl
   have T7 := T7.trans (show Value.int .i64 (dgI (s.getD (2 * i) 0)) = .int .i64 (-1) by unfold dgI; rw [← hx1])
   refine tN (hK56 _ _ (sk fun K62 hK62 => (sk fun K63 hK63 => (wt (oM rfl (oS rfl (Yk.eqI T7 (vr (NI 0) rfl) (z_lss _ .i64 (-1 : Int) ((0 : Nat) : Int)) (oM rfl (oN (d := 28) rfl rfl rfl (vr (.bool (true)) (congrArg Value.bool (decide_eq_true (by decide)))) rfl (oN (d := 28) rfl rfl rfl (vr (.bool (true)) (congrArg Value.bool (decide_eq_true (by decide)))) rfl (oS rfl (Yk.pickT (vr (.bool (true)) (congrArg Value.bool (decide_eq_true (by decide)))) (vr (.bool (true)) rfl) (oZ (tN (hK63 _ _ (wpF_true (vr (.bool (true)) rfl) (sk fun K64 hK64 => (wt (oS rfl (Yk.run (v := AB (List.replicate 32 0)) (by kernel_rfl) ?_))))))))))))))))))))
   refine oS rfl (Yk.storeAll T2 (vr (AB (List.replicate 32 0)) rfl) hb20 (by first | rfl | (rw [List.size_toArray, Lib.byteCells_length, List.length_replicate];  rfl)) (by rw [List.size_toArray, Lib.byteCells_length, List.length_replicate]; exact wr49_isz25) (byteCells_one _) fun w65 hb66 hg67 hs68 => ?_)
   have hE := row_fresh hE hg67 (Nat.le_trans hz18 (by omega))
   have hb8 := kb hg67 hb8 (by omega)
   have hA16 := row_fresh hA16 hg67 (Nat.le_trans (Nat.le_refl _) (by omega))
   clear hA29
   have hb36l := kb hg67 hb36l (by omega)
   clear hb20
   have hb20 := hb66; clear hb66
   have hl69 := bl hb20
   refine oA rfl (oZ ?_)
   have hun := unhex_no (s := s) (fun h => by have := List.all_eq_true.1 h.2 i (by simp; omega); rw [hno] at this; cases this)
   refine tN (hK64 _ _ (wpF_ret (thenF_ret (inBlockF_ret (thenF_ret (thenF_ret (inBlockF_ret (thenF_ret (postF_ret (fn := Tryd.f89) _ rfl [AB (List.replicate 32 0), .bool (false)] (.tuple #[AB (List.replicate 32 0), .bool (false)]) rfl ⟨ResF.row T2 hb20 wr49_ty25 rfl (by rw [List.size_toArray, Lib.byteCells_length]; first | (rw [List.length_replicate]; exact wr49_isz25) | (rw [pre_length _ _ (by omega)]; exact wr49_isz25)), rfl, trivial⟩ ?_)))))))))
   refine ⟨?_, hE⟩
   rw [hun]
  have hd1 := hx1.symm
  have hk1 := dg_lt hd1
  have T7 := T7.trans (show Value.int .i64 (dgI (s.getD (2 * i) 0)) = NI k1 by unfold dgI; rw [← hx1])
  rcases x2 with _ | k2
  ·have hno : okAt s i = false := by unfold okAt; rw [← hx2]; simp
   have T8 := T8.trans (show Value.int .i64 (dgI (s.getD (2 * i + 1) 0)) = .int .i64 (-1) by unfold dgI; rw [← hx2])
   refine tN (hK56 _ _ (sk fun K70 hK70 => (sk fun K71 hK71 => (wt (oM rfl (oS rfl (Yk.eqI (a := (k1 : Nat)) (b := (0 : Nat)) T7 rfl (k_lss _ _ _ _) (oM rfl (oY (d := 28) rfl rfl (vr (.bool (false)) (congrArg Value.bool (decide_eq_false (by omega)))) (Yk.move T8 (oY (d := 28) rfl rfl (vr (.bool (false)) (congrArg Value.bool (decide_eq_false (by omega)))) (Yk.eqI (vr (.int .i64 (-1 : Int)) rfl) (vr (NI 0) rfl) (z_lss _ .i64 (-1 : Int) ((0 : Nat) : Int)) (oS rfl (Yk.pickF (vr (.bool (false)) (congrArg Value.bool (decide_eq_false (by omega)))) (vr (.bool (true)) (congrArg Value.bool (decide_eq_true (by decide)))) (oZ (tN (hK71 _ _ (wpF_true (vr (.bool (true)) rfl) (sk fun K72 hK72 => (wt (oS rfl (Yk.run (v := AB (List.replicate 32 0)) (by kernel_rfl) ?_))))))))))))))))))))))
   refine oS rfl (Yk.storeAll T2 (vr (AB (List.replicate 32 0)) rfl) hb20 (by first | rfl | (rw [List.size_toArray, Lib.byteCells_length, List.length_replicate];  rfl)) (by rw [List.size_toArray, Lib.byteCells_length, List.length_replicate]; exact wr49_isz25) (byteCells_one _) fun w73 hb74 hg75 hs76 => ?_)
   have hE := row_fresh hE hg75 (Nat.le_trans hz18 (by omega))
   have hb8 := kb hg75 hb8 (by omega)
   have hA16 := row_fresh hA16 hg75 (Nat.le_trans (Nat.le_refl _) (by omega))
   clear hA29
   have hb36l := kb hg75 hb36l (by omega)
   clear hb20
   have hb20 := hb74; clear hb74
   have hl77 := bl hb20
   refine oA rfl (oZ ?_)
   have hun := unhex_no (s := s) (fun h => by have := List.all_eq_true.1 h.2 i (by simp; omega); rw [hno] at this; cases this)
   refine tN (hK72 _ _ (wpF_ret (thenF_ret (inBlockF_ret (thenF_ret (thenF_ret (inBlockF_ret (thenF_ret (postF_ret (fn := Tryd.f89) _ rfl [AB (List.replicate 32 0), .bool (false)] (.tuple #[AB (List.replicate 32 0), .bool (false)]) rfl ⟨ResF.row T2 hb20 wr49_ty25 rfl (by rw [List.size_toArray, Lib.byteCells_length]; first | (rw [List.length_replicate]; exact wr49_isz25) | (rw [pre_length _ _ (by omega)]; exact wr49_isz25)), rfl, trivial⟩ ?_)))))))))
   refine ⟨?_, hE⟩
   rw [hun]
  have hd2 := hx2.symm
  have hk2 := dg_lt hd2
  have T8 := T8.trans (show Value.int .i64 (dgI (s.getD (2 * i + 1) 0)) = NI k2 by unfold dgI; rw [← hx2])
  refine tN (hK56 _ _ (sk fun K78 hK78 => (sk fun K79 hK79 => (wt (oM rfl (oS rfl (Yk.eqI (a := (k1 : Nat)) (b := (0 : Nat)) T7 rfl (k_lss _ _ _ _) (oM rfl (oY (d := 28) rfl rfl (vr (.bool (false)) (congrArg Value.bool (decide_eq_false (by omega)))) (Yk.move T8 (oY (d := 28) rfl rfl (vr (.bool (false)) (congrArg Value.bool (decide_eq_false (by omega)))) (Yk.eqI (a := (k2 : Nat)) (b := (0 : Nat)) rfl rfl (k_lss _ _ _ _) (oS rfl (Yk.pickF (vr (.bool (false)) (congrArg Value.bool (decide_eq_false (by omega)))) (vr (.bool (false)) (congrArg Value.bool (decide_eq_false (by omega)))) (oZ (tN (hK79 _ _ (wpF_false (vr (.bool (false)) rfl) (wpF_skip (tN (hK78 _ _ (wt ?_))))))))))))))))))))))
  refine oM rfl (oM rfl (oS rfl (Yk.bin (xv := NI k1) (yv := .int .u64 ((4 : Nat) : Int)) T7 rfl rfl (i64_shl _ _ _ _ (by omega) (by omega)) (oM rfl (oS rfl (Yk.bin (xv := NI ((k1) * 2 ^ (4))) (yv := NI k2) rfl T8 rfl (i64_or _ _ _ (by omega) (by omega)) (oS rfl (Yk.convI wr49_ty3 wr49_ty5 (vr (NI (((k1) * 2 ^ (4)) ||| (k2))) rfl) (toByte (((k1) * 2 ^ (4)) ||| (k2))) (oS rfl (Yk.atArr0 (i := i) wr49_ty25 wr49_sz5 T4 T6 (by omega) (oS rfl (Yk.storeB8 (i := i) (v := UInt8.ofNat (((k1) * 2 ^ (4)) ||| (k2))) (vr (PQ n23 i) rfl) (vr (B8 (UInt8.ofNat (((k1) * 2 ^ (4)) ||| (k2)))) rfl) hb36l (by rw [hpl]; omega) wr49_isz5 fun w80 hb81 hg82 hs83 => ?_))))))))))))
  have hE := row_fresh hE hg82 (Nat.le_trans hz32 (by omega))
  have hb8 := kb hg82 hb8 (by omega)
  have hA16 := row_fresh hA16 hg82 (Nat.le_trans hz33 (by omega))
  have hb20 := kb hg82 hb20 (by omega)
  have hA29 := row_fresh hA29 hg82 (Nat.le_trans (Nat.le_refl _) (by omega))
  clear hb36l
  have hb36l := hb81; clear hb81
  have hl84 := bl hb36l
  refine oZ (bN (tN (hK54 _ _ (wt (oS rfl (Yk.bin (xv := NI i) (yv := NI 1) T14 rfl rfl (i64_add _ _ _ (by omega)) (oM rfl (oL_ [(0, St (s)), (1, PQ n2 0), (2, PQ n10 0), (4, PQ n23 0), (5, .func (.func 129) #[] #[PQ n2 0]), (6, NI i), (7, NI k1), (8, NI k2), (14, NI ((i) + (1))), (31, .bool (false))] ⟨T0, T1, T2, T4, T5, T6, T7, T8, rfl, rfl, trivial⟩ fun ρ85 ⟨T0, T1, T2, T4, T5, T6, T7, T8, T14, T31, _⟩ => (tN (And.intro ⟨i + 1, T0, T1, T2, T4, T5, T14, hE, hb8, hA16, hb20, hA29, blk_eq hb36l (congrArg Lib.byteCells (by rw [← pre_step s i (by omega), byteAt_or hd1 hd2 hk2])), by omega, ok_next hall hd1 hd2, trivial⟩ ?_))))))))))
  show 32 - (intOf (ρ85 14)).toNat < 32 - (intOf (ρ50 14)).toNat
  rw [T14, q14]
  simp only [intOf, Int.toNat_natCast]; omega
 have hi32 : i = 32 := by omega
 have hun : unhex s = (pre s i, true) := by rw [hi32, pre_all]; exact unhex_yes hs64 (fun j hj => hall j (by omega))
 refine wpF_exit (thenF_exit (thenF_exit (inBlockF_hit (tN (hK47 _ _ (sk fun K86 hK86 => (wt (oS rfl (Yk.loadAll T4 hb36l wr49_ty25 rfl (by rw [List.size_toArray, Lib.byteCells_length, pre_length _ _ (by omega)]; exact wr49_isz25) (oS rfl (Yk.storeAll T2 (vr (AB (pre s i)) rfl) hb20 (by first | rfl | (rw [List.size_toArray, Lib.byteCells_length, pre_length _ _ (by omega)];  rfl)) (by rw [List.size_toArray, Lib.byteCells_length, pre_length _ _ (by omega)]; exact wr49_isz25) (byteCells_one _) fun w87 hb88 hg89 hs90 => ?_)))))))))))
 have hE := row_fresh hE hg89 (Nat.le_trans hz18 (by omega))
 have hb8 := kb hg89 hb8 (by omega)
 have hA16 := row_fresh hA16 hg89 (Nat.le_trans (Nat.le_refl _) (by omega))
 clear hA29
 have hb36l := kb hg89 hb36l (by omega)
 clear hb20
 have hb20 := hb88; clear hb88
 have hl91 := bl hb20
 refine oA rfl (oZ (tN (hK86 _ _ (wpF_ret (postF_ret (fn := Tryd.f89) _ rfl [AB (pre s i), .bool (true)] (.tuple #[AB (pre s i), .bool (true)]) rfl ⟨ResF.row T2 hb20 wr49_ty25 rfl (by rw [List.size_toArray, Lib.byteCells_length]; first | (rw [List.length_replicate]; exact wr49_isz25) | (rw [pre_length _ _ (by omega)]; exact wr49_isz25)), rfl, trivial⟩ ?_)))))
 refine ⟨?_, hE⟩
 rw [hun]

theorem refUnhex_any (w : World) (s : List UInt8) (hs : s.length ≤ 9223372036854775807) :
  Calls Tryd.prog 91 #[St s] w fun e w' => e = .returned (.tuple #[AB ((unhex s).1), .bool (unhex s).2]) ∧ Ext w w' := by
 refine calls_of_wpF (args := [St (s)]) Tryd.func91 rfl 42 rfl (Nat.le_of_ble_eq_true rfl) ?_
 intro ρ0 hb
 have T0 : ρ0 0 = (St (s) : Value) := hb.get 0
 clear hb
 have hE := Ext.refl w
 refine sk fun K1 hK1 => (wt (oS rfl (Yk.alloc (cs := (Lib.byteCells (List.replicate 32 0)).toArray) wr49_al25 fun n2 w3 hn4 hb5 hx6 hs7 => ?_)))
 have hE := hE.trans hx6
 have hb8 := hb5; clear hb5
 have hl9 : n2 < w3.heap.size := by omega
 refine oA rfl (oZ (tN (hK1 _ _ (sk fun K10 hK10 => (wt (oS rfl (Yk.alloc (cs := (Lib.byteCells (List.replicate 32 0)).toArray) wr49_al25 fun n11 w12 hn13 hb14 hx15 hs16 => ?_)))))))
 have hA17 := Ext.refl w3
 have hea18 := hE
 have hz19 := hE.size
 have hlt20 := lte (bl hb8) hn13
 have hE := hE.trans hx15
 have hb8 := eb hx15 hb8
 have hA17 := hA17.trans hx15
 have hb21 := hb14; clear hb14
 have hl22 : n11 < w12.heap.size := by omega
 refine oZ (tN (hK10 _ _ (sk fun K23 hK23 => (sk fun K24 hK24 => (wt (oM rfl (oS rfl (Yk.lenSt (l := s) wr49_ty9 T0 (oS rfl (Yk.eqI (a := (s.length : Nat)) (b := (64 : Nat)) rfl rfl (k_neq _ _ _ _) (oZ (tN (hK24 _ _ ?_)))))))))))))
 refine wpF_cond ((s.length : Nat) ≠ (64)) (vr (.bool (decide ((s.length : Nat) ≠ (64)))) rfl) (fun h64 => ?_) (fun h64 => ?_)
 ·have hun := unhex_no (s := s) (fun h => h64 h.1)
  refine sk fun K25 hK25 => (wt (oS rfl (Yk.loadAll (vr (PQ n11 0) rfl) hb21 wr49_ty25 rfl (by rw [List.size_toArray, Lib.byteCells_length, List.length_replicate]; exact wr49_isz25) (oS rfl (Yk.storeAll (vr (PQ n2 0) rfl) (vr (AB (List.replicate 32 0)) rfl) hb8 (by first | rfl | (rw [List.size_toArray, Lib.byteCells_length, List.length_replicate];  rfl)) (by rw [List.size_toArray, Lib.byteCells_length, List.length_replicate]; exact wr49_isz25) (byteCells_one _) fun w26 hb27 hg28 hs29 => ?_)))))
  have hE := row_fresh hE hg28 (Nat.le_trans (Nat.le_refl _) (by omega))
  clear hA17
  have hb21 := kb hg28 hb21 (by omega)
  clear hb8
  have hb8 := hb27; clear hb27
  have hl30 := bl hb8
  refine oA rfl (oZ (tN (hK25 _ _ (wpF_ret (thenF_ret (postF_ret (fn := Tryd.f91) _ rfl [AB (List.replicate 32 0), .bool (false)] (.tuple #[AB (List.replicate 32 0), .bool (false)]) rfl ⟨ResF.row rfl hb8 wr49_ty25 rfl (by rw [List.size_toArray, Lib.byteCells_length]; first | (rw [List.length_replicate]; exact wr49_isz25) | (rw [pre_length _ _ (by omega)]; exact wr49_isz25)), rfl, trivial⟩ ?_))))))
  refine ⟨?_, hE⟩
  rw [hun]
 have hs64 : s.length = 64 := by omega
 refine wpF_skip (tN (hK23 _ _ (sk fun K31 hK31 => (sk fun K32 hK32 => (wt (oA rfl (oL_ [(0, St (s)), (2, PQ n2 0), (3, .bool (false)), (4, PQ n11 0), (5, NI 0)] ⟨T0, rfl, rfl, rfl, rfl, trivial⟩ fun ρ33 ⟨T0, T2, T3, T4, T5, _⟩ => (tN (hK32 _ _ (wpF_block (wpF_loop (fun (ρ : Slots) (wz : World) => ∃ i : Nat, ρ 0 = (St (s) : Value) ∧ ρ 2 = (PQ n2 0 : Value) ∧ ρ 4 = (PQ n11 0 : Value) ∧ ρ 5 = (NI i : Value) ∧ Ext w wz ∧ wz.heap[n2]? = some (.cells (Lib.byteCells (List.replicate 32 0)).toArray 25 (0, 0)) ∧ Ext w3 wz ∧ wz.heap[n11]? = some (.cells (Lib.byteCells (pre s i)).toArray 25 (0, 0)) ∧ (i ≤ 32) ∧ (∀ j, j < i → okAt s j = true) ∧ True) (fun ρ _ => 32 - (intOf (ρ 5)).toNat) ⟨0, T0, T2, T4, T5, hE, hb8, hA17, blk_eq hb21 (rfl), Nat.zero_le _, fun j hj => by omega, trivial⟩ ?_)))))))))))
 clear hb21
 clear hE hb8 hA17
 rintro ρ34 w35 ⟨i, T0, T2, T4, T5, hE, hb8, hA17, hb21l, hi, hall, -⟩
 have q5 := T5
 have hpl := pre_length s i hi
 refine sk fun K36 hK36 => (sk fun K37 hK37 => (wt (oM rfl (oS rfl (Yk.eqI (a := (i : Nat)) (b := (32 : Nat)) T5 rfl (k_lss _ _ _ _) (oZ (tN (hK37 _ _ ?_))))))))
 refine wpF_cond ((i) < (32)) (vr (.bool (decide ((i) < (32)))) rfl) (fun hc1 => ?_) (fun hc1 => ?_)
 ·refine wpF_skip (tN (hK36 _ _ (sk fun K38 hK38 => (wpF_block (sk fun K39 hK39 => ?_)))))
  refine wpF_draw [Is (St (s)), Is (NI i), Is (NI ((2) * (i))), Is (B8 (s.getD ((2) * (i)) 0)), Is (.int .i64 (dgI (s.getD (2 * i) 0) : Int)), Is (St (s)), Is (NI i), Is (NI ((2) * (i))), Is (NI (((2) * (i)) + (1))), Is (B8 (s.getD (((2) * (i)) + (1)) 0)), Is (.int .i64 (dgI (s.getD (2 * i + 1) 0) : Int)), Is (.int .i64 (dgI (s.getD (2 * i) 0) : Int)), Is (.int .i64 (dgI (s.getD (2 * i + 1) 0) : Int))] (by kernel_rfl) [16, 17, 18, 19, 20, 21, 22, 23, 24, 25, 26, 6, 7] (by kernel_rfl) (by kernel_rfl) ⟨Stab.is _, (si12 trivial)⟩ ?hs1007 ?hQ1007
  case hs1007 =>
   refine ⟨?_, ?_, ?_, ?_, ?_, ?_, ?_, ?_, ?_, ?_, ?_, ?_, ?_, trivial⟩
   ·refine stepN rfl fun σ w1 hC h => ?_
    have e0 := (eqo (h 0 (by decide))).trans T0
    exact Yk.move e0 ⟨Ext.refl _, rfl⟩
   ·refine stepN rfl fun σ w1 hC h => ?_
    have e5 := (eqo (h 5 (by decide))).trans T5
    exact Yk.move e5 ⟨Ext.refl _, rfl⟩
   ·refine stepN rfl fun σ w1 hC h => ?_
    have e17 := eqo (h 17 (by decide))
    exact Yk.bin (xv := NI 2) (yv := NI i) rfl e17 rfl (i64_mul _ _ _ (by omega)) ⟨Ext.refl _, rfl⟩
   ·refine stepN rfl fun σ w1 hC h => ?_
    have e16 := eqo (h 16 (by decide))
    have e18 := eqo (h 18 (by decide))
    exact Yk.idxSt (l := s) (i := (2) * (i)) wr49_ty9 e16 e18 (by omega) ⟨Ext.refl _, rfl⟩
   ·refine stepN rfl fun σ w1 hC h => ?_
    have e19 := eqo (h 19 (by decide))
    refine Yk.callA1 wr49_pl131 e19 ((refDigit_any _ (s.getD ((2) * (i)) 0)).mono ?_)
    rintro e w2 ⟨rfl, hx⟩
    exact ⟨_, rfl, hx, rfl⟩
   ·refine stepN rfl fun σ w1 hC h => ?_
    have e0 := (eqo (h 0 (by decide))).trans T0
    exact Yk.move e0 ⟨Ext.refl _, rfl⟩
   ·refine stepN rfl fun σ w1 hC h => ?_
    have e5 := (eqo (h 5 (by decide))).trans T5
    exact Yk.move e5 ⟨Ext.refl _, rfl⟩
   ·refine stepN rfl fun σ w1 hC h => ?_
    have e22 := eqo (h 22 (by decide))
    exact Yk.bin (xv := NI 2) (yv := NI i) rfl e22 rfl (i64_mul _ _ _ (by omega)) ⟨Ext.refl _, rfl⟩
   ·refine stepN rfl fun σ w1 hC h => ?_
    have e23 := eqo (h 23 (by decide))
    exact Yk.bin (xv := NI ((2) * (i))) (yv := NI 1) e23 rfl rfl (i64_add _ _ _ (by omega)) ⟨Ext.refl _, rfl⟩
   ·refine stepN rfl fun σ w1 hC h => ?_
    have e21 := eqo (h 21 (by decide))
    have e24 := eqo (h 24 (by decide))
    exact Yk.idxSt (l := s) (i := ((2) * (i)) + (1)) wr49_ty9 e21 e24 (by omega) ⟨Ext.refl _, rfl⟩
   ·refine stepN rfl fun σ w1 hC h => ?_
    have e25 := eqo (h 25 (by decide))
    refine Yk.callA1 wr49_pl131 e25 ((refDigit_any _ (s.getD (((2) * (i)) + (1)) 0)).mono ?_)
    rintro e w2 ⟨rfl, hx⟩
    exact ⟨_, rfl, hx, rfl⟩
   ·refine stepN rfl fun σ w1 hC h => ?_
    have e20 := eqo (h 20 (by decide))
    exact Yk.assign e20 ⟨Ext.refl _, rfl⟩
   ·refine stepN rfl fun σ w1 hC h => ?_
    have e26 := eqo (h 26 (by decide))
    exact Yk.assign e26 ⟨Ext.refl _, rfl⟩
  intro ρ40 w41 hx42 he hf
  obtain ⟨-, -, -, -, -, -, -, -, -, -, -, k6, k7, -⟩ := hf
  obtain ⟨T0, T2, T4, T5, -⟩ := he.hold [(0, _), (2, _), (4, _), (5, _)] ⟨T0, T2, T4, T5, trivial⟩ rfl
  clear he
  have hE := hE.trans hx42
  have hb8 := eb hx42 hb8
  have hA17 := hA17.trans hx42
  have hb21l := eb hx42 hb21l
  have T6 : ρ40 6 = .int .i64 (dgI (s.getD (2 * i) 0) : Int) := k6
  have T7 : ρ40 7 = .int .i64 (dgI (s.getD (2 * i + 1) 0) : Int) := k7
  clear k6 k7
  obtain ⟨x1, hx1⟩ : ∃ x, x = dg (s.getD (2 * i) 0) := ⟨_, rfl⟩
  obtain ⟨x2, hx2⟩ : ∃ x, x = dg (s.getD (2 * i + 1) 0) := ⟨_, rfl⟩
  rcases x1 with _ | k1
  ·have hno : okAt s i = false := by unfold okAt; rw [← hx1]; rfl
   have T6 := T6.trans (show Value.int .i64 (dgI (s.getD (2 * i) 0)) = .int .i64 (-1) by unfold dgI; rw [← hx1])
   refine tN (hK39 _ _ (sk fun K43 hK43 => (sk fun K44 hK44 => (wt (oM rfl (oS rfl (Yk.eqI T6 (vr (NI 0) rfl) (z_lss _ .i64 (-1 : Int) ((0 : Nat) : Int)) (oM rfl (oN (d := 29) rfl rfl rfl (vr (.bool (true)) (congrArg Value.bool (decide_eq_true (by decide)))) rfl (oN (d := 29) rfl rfl rfl (vr (.bool (true)) (congrArg Value.bool (decide_eq_true (by decide)))) rfl (oS rfl (Yk.pickT (vr (.bool (true)) (congrArg Value.bool (decide_eq_true (by decide)))) (vr (.bool (true)) rfl) (oZ (tN (hK44 _ _ (wpF_true (vr (.bool (true)) rfl) (sk fun K45 hK45 => (wt (oS rfl (Yk.run (v := AB (List.replicate 32 0)) (by kernel_rfl) ?_))))))))))))))))))))
   refine oS rfl (Yk.storeAll T2 (vr (AB (List.replicate 32 0)) rfl) hb8 (by first | rfl | (rw [List.size_toArray, Lib.byteCells_length, List.length_replicate];  rfl)) (by rw [List.size_toArray, Lib.byteCells_length, List.length_replicate]; exact wr49_isz25) (byteCells_one _) fun w46 hb47 hg48 hs49 => ?_)
   have hE := row_fresh hE hg48 (Nat.le_trans (Nat.le_refl _) (by omega))
   clear hA17
   have hb21l := kb hg48 hb21l (by omega)
   clear hb8
   have hb8 := hb47; clear hb47
   have hl50 := bl hb8
   refine oA rfl (oZ ?_)
   have hun := unhex_no (s := s) (fun h => by have := List.all_eq_true.1 h.2 i (by simp; omega); rw [hno] at this; cases this)
   refine tN (hK45 _ _ (wpF_ret (thenF_ret (inBlockF_ret (thenF_ret (thenF_ret (inBlockF_ret (thenF_ret (postF_ret (fn := Tryd.f91) _ rfl [AB (List.replicate 32 0), .bool (false)] (.tuple #[AB (List.replicate 32 0), .bool (false)]) rfl ⟨ResF.row T2 hb8 wr49_ty25 rfl (by rw [List.size_toArray, Lib.byteCells_length]; first | (rw [List.length_replicate]; exact wr49_isz25) | (rw [pre_length _ _ (by omega)]; exact wr49_isz25)), rfl, trivial⟩ ?_)))))))))
   refine ⟨?_, hE⟩
   rw [hun]
  have hd1 := hx1.symm
  have hk1 := dg_lt hd1
  have T6 := T6.trans (show Value.int .i64 (dgI (s.getD (2 * i) 0)) = NI k1 by unfold dgI; rw [← hx1])
  rcases x2 with _ | k2
  ·have hno : okAt s i = false := by unfold okAt; rw [← hx2]; simp
   have T7 := T7.trans (show Value.int .i64 (dgI (s.getD (2 * i + 1) 0)) = .int .i64 (-1) by unfold dgI; rw [← hx2])
   refine tN (hK39 _ _ (sk fun K51 hK51 => (sk fun K52 hK52 => (wt (oM rfl (oS rfl (Yk.eqI (a := (k1 : Nat)) (b := (0 : Nat)) T6 rfl (k_lss _ _ _ _) (oM rfl (oY (d := 29) rfl rfl (vr (.bool (false)) (congrArg Value.bool (decide_eq_false (by omega)))) (Yk.move T7 (oY (d := 29) rfl rfl (vr (.bool (false)) (congrArg Value.bool (decide_eq_false (by omega)))) (Yk.eqI (vr (.int .i64 (-1 : Int)) rfl) (vr (NI 0) rfl) (z_lss _ .i64 (-1 : Int) ((0 : Nat) : Int)) (oS rfl (Yk.pickF (vr (.bool (false)) (congrArg Value.bool (decide_eq_false (by omega)))) (vr (.bool (true)) (congrArg Value.bool (decide_eq_true (by decide)))) (oZ (tN (hK52 _ _ (wpF_true (vr (.bool (true)) rfl) (sk fun K53 hK53 => (wt (oS rfl (Yk.run (v := AB (List.replicate 32 0)) (by kernel_rfl) ?_))))))))))))))))))))))
   refine oS rfl (Yk.storeAll T2 (vr (AB (List.replicate 32 0)) rfl) hb8 (by first | rfl | (rw [List.size_toArray, Lib.byteCells_length, List.length_replicate];  rfl)) (by rw [List.size_toArray, Lib.byteCells_length, List.length_replicate]; exact wr49_isz25) (byteCells_one _) fun w54 hb55 hg56 hs57 => ?_)
   have hE := row_fresh hE hg56 (Nat.le_trans (Nat.le_refl _) (by omega))
   clear hA17
   have hb21l := kb hg56 hb21l (by omega)
   clear hb8
   have hb8 := hb55; clear hb55
   have hl58 := bl hb8
   refine oA rfl (oZ ?_)
   have hun := unhex_no (s := s) (fun h => by have := List.all_eq_true.1 h.2 i (by simp; omega); rw [hno] at this; cases this)
   refine tN (hK53 _ _ (wpF_ret (thenF_ret (inBlockF_ret (thenF_ret (thenF_ret (inBlockF_ret (thenF_ret (postF_ret (fn := Tryd.f91) _ rfl [AB (List.replicate 32 0), .bool (false)] (.tuple #[AB (List.replicate 32 0), .bool (false)]) rfl ⟨ResF.row T2 hb8 wr49_ty25 rfl (by rw [List.size_toArray, Lib.byteCells_length]; first | (rw [List.length_replicate]; exact wr49_isz25) | (rw [pre_length _ _ (by omega)]; exact wr49_isz25)), rfl, trivial⟩ ?_)))))))))
   refine ⟨?_, hE⟩
   rw [hun]
  have hd2 := hx2.symm
  have hk2 := dg_lt hd2
  have T7 := T7.trans (show Value.int .i64 (dgI (s.getD (2 * i + 1) 0)) = NI k2 by unfold dgI; rw [← hx2])
  refine tN (hK39 _ _ (sk fun K59 hK59 => (sk fun K60 hK60 => (wt (oM rfl (oS rfl (Yk.eqI (a := (k1 : Nat)) (b := (0 : Nat)) T6 rfl (k_lss _ _ _ _) (oM rfl (oY (d := 29) rfl rfl (vr (.bool (false)) (congrArg Value.bool (decide_eq_false (by omega)))) (Yk.move T7 (oY (d := 29) rfl rfl (vr (.bool (false)) (congrArg Value.bool (decide_eq_false (by omega)))) (Yk.eqI (a := (k2 : Nat)) (b := (0 : Nat)) rfl rfl (k_lss _ _ _ _) (oS rfl (Yk.pickF (vr (.bool (false)) (congrArg Value.bool (decide_eq_false (by omega)))) (vr (.bool (false)) (congrArg Value.bool (decide_eq_false (by omega)))) (oZ (tN (hK60 _ _ (wpF_false (vr (.bool (false)) rfl) (wpF_skip (tN (hK59 _ _ (wt ?_))))))))))))))))))))))
  refine oM rfl (oM rfl (oS rfl (Yk.bin (xv := NI 16) (yv := NI k1) rfl T6 rfl (i64_mul _ _ _ (by omega)) (oM rfl (oS rfl (Yk.bin (xv := NI ((16) * (k1))) (yv := NI k2) rfl T7 rfl (i64_add _ _ _ (by omega)) (oS rfl (Yk.convI wr49_ty3 wr49_ty5 (vr (NI (((16) * (k1)) + (k2))) rfl) (toByte (((16) * (k1)) + (k2))) (oS rfl (Yk.atArr0 (i := i) wr49_ty25 wr49_sz5 T4 T5 (by omega) (oS rfl (Yk.storeB8 (i := i) (v := UInt8.ofNat (((16) * (k1)) + (k2))) (vr (PQ n11 i) rfl) (vr (B8 (UInt8.ofNat (((16) * (k1)) + (k2)))) rfl) hb21l (by rw [hpl]; omega) wr49_isz5 fun w61 hb62 hg63 hs64 => ?_))))))))))))
  have hE := row_fresh hE hg63 (Nat.le_trans hz19 (by omega))
  have hb8 := kb hg63 hb8 (by omega)
  have hA17 := row_fresh hA17 hg63 (Nat.le_trans (Nat.le_refl _) (by omega))
  clear hb21l
  have hb21l := hb62; clear hb62
  have hl65 := bl hb21l
  refine oZ (bN (tN (hK38 _ _ (wt (oM rfl (oS rfl (Yk.bin (xv := NI i) (yv := NI 1) T5 rfl rfl (i64_add _ _ _ (by omega)) (oA rfl (oL_ [(0, St (s)), (2, PQ n2 0), (4, PQ n11 0), (5, NI ((i) + (1))), (6, NI k1), (7, NI k2), (32, .bool (false))] ⟨T0, T2, T4, rfl, T6, T7, rfl, trivial⟩ fun ρ66 ⟨T0, T2, T4, T5, T6, T7, T32, _⟩ => (tN (And.intro ⟨i + 1, T0, T2, T4, T5, hE, hb8, hA17, blk_eq hb21l (congrArg Lib.byteCells (by rw [← pre_step s i (by omega), byteAt_of hd1 hd2 hk2])), by omega, ok_next hall hd1 hd2, trivial⟩ ?_)))))))))))
  show 32 - (intOf (ρ66 5)).toNat < 32 - (intOf (ρ34 5)).toNat
  rw [T5, q5]
  simp only [intOf, Int.toNat_natCast]; omega
 have hi32 : i = 32 := by omega
 have hun : unhex s = (pre s i, true) := by rw [hi32, pre_all]; exact unhex_yes hs64 (fun j hj => hall j (by omega))
 refine wpF_exit (thenF_exit (thenF_exit (inBlockF_hit (tN (hK31 _ _ (sk fun K67 hK67 => (wt (oS rfl (Yk.loadAll T4 hb21l wr49_ty25 rfl (by rw [List.size_toArray, Lib.byteCells_length, pre_length _ _ (by omega)]; exact wr49_isz25) (oS rfl (Yk.storeAll T2 (vr (AB (pre s i)) rfl) hb8 (by first | rfl | (rw [List.size_toArray, Lib.byteCells_length, pre_length _ _ (by omega)];  rfl)) (by rw [List.size_toArray, Lib.byteCells_length, pre_length _ _ (by omega)]; exact wr49_isz25) (byteCells_one _) fun w68 hb69 hg70 hs71 => ?_)))))))))))
 have hE := row_fresh hE hg70 (Nat.le_trans (Nat.le_refl _) (by omega))
 clear hA17
 have hb21l := kb hg70 hb21l (by omega)
 clear hb8
 have hb8 := hb69; clear hb69
 have hl72 := bl hb8
 refine oA rfl (oZ (tN (hK67 _ _ (wpF_ret (postF_ret (fn := Tryd.f91) _ rfl [AB (pre s i), .bool (true)] (.tuple #[AB (pre s i), .bool (true)]) rfl ⟨ResF.row T2 hb8 wr49_ty25 rfl (by rw [List.size_toArray, Lib.byteCells_length]; first | (rw [List.length_replicate]; exact wr49_isz25) | (rw [pre_length _ _ (by omega)]; exact wr49_isz25)), rfl, trivial⟩ ?_)))))
 refine ⟨?_, hE⟩
 rw [hun]
open Go.RowKit
set_option maxRecDepth 100000
noncomputable def lookP (r : Refs) (s : Bs) : Bs × Nat :=
 if rightF r = true then
  if s = [] then (if r.head = [] then (r.at_.1, 0) else if foundN r.branches r.head (placeN r.branches r.head) = true then ((r.branches.getD (placeN r.branches r.head) dNmd).id.1, 0) else (zid.1, 4))
  else if foundN r.branches s (placeN r.branches s) = true then ((r.branches.getD (placeN r.branches s) dNmd).id.1, 0)
  else if foundN r.tags s (placeN r.tags s) = true then ((r.tags.getD (placeN r.tags s) dNmd).id.1, 0)
  else if (unhex s).2 = true then ((unhex s).1, 0) else (zid.1, 4)
 else (zid.1, 1)
section
variable {P : Program} {K : Value → World → Prop} {ρ : Slots} {w : World} {d : Option Tmp} {ty : TypeId} {pos : String} {af : Array Edge} {gd : Option (Nat × Bool)} {t : TypeId}
theorem Yk.arr2 {a b : Value} (hr : ∀ w : World, (Instr.build t #[(0, a), (1, b)]).run P w = .ok (.agg #[a, b]) w) {x y : Operand} (hx : evalR ρ x = a) (hy : evalR ρ y = b) (hk : K (.agg #[a, b]) w) :
  Yk P K ((execOp (evalR ρ) ⟨d, .build t #[(0, x), (1, y)], ty, pos, af, gd⟩).run P w) := by
 refine Yk.value (v := .agg #[a, b]) (w' := w) ?_ hk
 unfold execOp
 simp only [List.map_toArray, List.map_cons, List.map_nil, hx, hy, Sem.run_bind, hr, Result.andThen_ok, Sem.run_pure]
theorem Yk.arr2at {a b c : Value} {n : Nat} (hr : ∀ w : World, (Instr.index t (.agg #[a, b]) (NI n)).run P w = .ok c w) {x y : Operand} (hx : evalR ρ x = .agg #[a, b]) (hy : evalR ρ y = NI n) (hk : K c w) :
  Yk P K ((execOp (evalR ρ) ⟨d, .index t x y, ty, pos, af, gd⟩).run P w) := by
 refine Yk.value (v := c) (w' := w) ?_ hk
 unfold execOp
 simp only [hx, hy, Sem.run_bind, hr, Result.andThen_ok, Sem.run_pure]
end
theorem wr50_al25 {d : Option Tmp} {ty : TypeId} {pos : String} {af : Array Edge} {gd : Option (Nat × Bool)} (σ : Operand → Value) (w : World) : (execOp σ ⟨d, .alloc 25, ty, pos, af, gd⟩).run Tryd.prog w = .ok (.value (PQ w.heap.size 0)) (w.alloc (.cells (Lib.byteCells (List.replicate 32 0)).toArray 25)) := by kernel_rfl
theorem wr50_ty53 : ∃ fs, Tryd.prog.underlying 53 = some (.struct fs) := struct_of (by kernel_rfl)
theorem wr50_isz53 : (Tryd.prog.info? 53).map (·.size) = some 36 := by kernel_rfl
theorem wr50_pl31 : Plain Tryd.prog 31 := fun _ _ => by kernel_rfl
theorem wr50_ty25 : Tryd.prog.underlying 25 = some (.array 32 5) := by kernel_rfl
theorem wr50_fo53_2 : FieldOff Tryd.prog 53 2 2 := fun b o w => by simp [go_sem]
theorem wr50_ty9 : Tryd.prog.underlying 9 = some (.string) := by kernel_rfl
theorem wr50_fo53_3 : FieldOff Tryd.prog 53 3 3 := fun b o w => by simp [go_sem]
theorem wr50_fo53_0 : FieldOff Tryd.prog 53 0 0 := fun b o w => by simp [go_sem]
theorem wr50_ty51 : Tryd.prog.underlying 51 = some (.slice 70) := by kernel_rfl
theorem wr50_pl88 : Plain Tryd.prog 88 := fun _ _ => by kernel_rfl
theorem wr50_szg70 : ∀ w' : World, (sizeOf 70).run Tryd.prog w' = .ok 33 w' := fun _ => by kernel_rfl
theorem wr50_fo70_1 : FieldOff Tryd.prog 70 1 1 := fun b o w => by simp [go_sem]
theorem wr50_isz25 : (Tryd.prog.info? 25).map (·.size) = some 32 := by kernel_rfl
theorem wr50_fo53_1 : FieldOff Tryd.prog 53 1 1 := fun b o w => by simp [go_sem]
theorem wr50_ba {a b : Value} (ha : ∃ o n c, a = .slice o n c) (hb : ∃ o n c, b = .slice o n c) (w : World) : (Instr.build 139 #[(0, a), (1, b)]).run Tryd.prog w = .ok (.agg #[a, b]) w := by
 obtain ⟨_, _, _, rfl⟩ := ha
 obtain ⟨_, _, _, rfl⟩ := hb
 kernel_rfl
theorem wr50_ix0 {a b : Value} (ha : ∃ o n c, a = .slice o n c) (hb : ∃ o n c, b = .slice o n c) (w : World) : (Instr.index 139 (.agg #[a, b]) (NI 0)).run Tryd.prog w = .ok a w := by
 obtain ⟨_, _, _, rfl⟩ := ha
 obtain ⟨_, _, _, rfl⟩ := hb
 kernel_rfl
theorem wr50_ix1 {a b : Value} (ha : ∃ o n c, a = .slice o n c) (hb : ∃ o n c, b = .slice o n c) (w : World) : (Instr.index 139 (.agg #[a, b]) (NI 1)).run Tryd.prog w = .ok b w := by
 obtain ⟨_, _, _, rfl⟩ := ha
 obtain ⟨_, _, _, rfl⟩ := hb
 kernel_rfl
theorem wr50_pl89 : Plain Tryd.prog 89 := fun _ _ => by kernel_rfl
set_option maxHeartbeats 1600000
theorem look_any (w : World) (z : RefsV) (hm : RefsAt w z) (hL : RefsLt z.1) (s : Bs) (hsl : s.length ≤ 9223372036854775807) :
  Calls Tryd.prog 39 #[.agg (refsC z).toArray, St s] w fun e w' => e = .returned (.tuple #[AB ((lookP z.1 s).1), NI (lookP z.1 s).2]) ∧ Ext w w' := by
 have hmt := hm.branches
 have hmg := hm.tags
 have hml := hm.log
 refine calls_of_wpF (args := [.agg (refsC z).toArray, St (s)]) Tryd.func39 rfl 70 rfl (Nat.le_of_ble_eq_true rfl) ?_
 intro ρ0 hb
 have T0 : ρ0 0 = (.agg (refsC z).toArray : Value) := hb.get 0
 have T1 : ρ0 1 = (St (s) : Value) := hb.get 1
 clear hb
 have hE := Ext.refl w
 refine sk fun K1 hK1 => (wt (oS rfl (Yk.box (cs := (refsC z : List Value).toArray) T0 fun n2 w3 hn4 hb5 hx6 hs7 => ?_)))
 have hE := hE.trans hx6
 have hb8 := hb5; clear hb5
 have hl9 : n2 < w3.heap.size := by omega
 refine oS rfl (Yk.alloc (cs := (Lib.byteCells (List.replicate 32 0)).toArray) wr50_al25 fun n10 w11 hn12 hb13 hx14 hs15 => ?_)
 have hA16 := Ext.refl w3
 have hea17 := hE
 have hz18 := hE.size
 have hlt19 := lte (bl hb8) hn12
 have hE := hE.trans hx14
 have hb8 := eb hx14 hb8
 have hA16 := hA16.trans hx14
 have hb20 := hb13; clear hb13
 have hl21 : n10 < w11.heap.size := by omega
 refine oA rfl (oZ (tN (hK1 _ _ (sk fun K22 hK22 => (sk fun K23 hK23 => (wt (oS rfl (Yk.loadAll (vr (PQ n2 0) rfl) hb8 (wr50_ty53).choose_spec rfl (st_isz (refs_len z) wr50_isz53) (oS rfl (Yk.callA1 wr50_pl31 (vr (.agg (refsC z).toArray) rfl) ((fright_any _ z ⟨(hmt.keep hE), (hmg.keep hE), (hml.keep hE)⟩ hL).mono ?_)))))))))))
 rintro e w25 ⟨rfl, hx24⟩
 refine ⟨_, rfl, ?_⟩
 have hE := hE.trans hx24
 have hb8 := eb hx24 hb8
 have hA16 := hA16.trans hx24
 have hb20 := eb hx24 hb20
 refine oS rfl (Yk.notB (vr (.bool (rightF z.1)) rfl) (oZ (tN (hK23 _ _ ?_))))
 refine wpF_condB (!(rightF z.1)) (vr (.bool (!(rightF z.1))) rfl) (fun hc0 => ?_) (fun hc0 => ?_)
 ·have hrt : rightF z.1 = false := by simpa using hc0
  refine sk fun K26 hK26 => (wt (oS rfl (Yk.run (v := AB (List.replicate 32 0)) (by kernel_rfl) (oS rfl (Yk.storeAll (vr (PQ n10 0) rfl) (vr (AB (List.replicate 32 0)) rfl) hb20 (by exact idsize List.length_replicate List.length_replicate) (by exact sizeId_of List.length_replicate) (byteCells_one _) fun w27 hb28 hg29 hs30 => ?_)))))
  have hE := row_fresh hE hg29 (Nat.le_trans hz18 (by omega))
  have hb8 := kb hg29 hb8 (by omega)
  have hA16 := row_fresh hA16 hg29 (Nat.le_trans (Nat.le_refl _) (by omega))
  clear hb20
  have hb20 := hb28; clear hb28
  have hl31 := bl hb20
  refine oA rfl (oZ (tN (hK26 _ _ (wpF_ret (thenF_ret (postF_ret (fn := Tryd.f39) _ rfl [AB (List.replicate 32 0), NI 1] (.tuple #[AB (List.replicate 32 0), NI 1]) rfl ⟨ResF.row rfl hb20 wr50_ty25 rfl (by exact sizeId_of List.length_replicate), rfl, trivial⟩ ?_))))))
  have hT : lookP z.1 s = (zid.1, 1) := by unfold lookP; rw [if_neg (by rw [hrt]; decide)]
  exact ⟨by rw [hT]; try rfl, hE⟩
 have hrt : rightF z.1 = true := by simpa using hc0
 have hS := rightF_sorted hrt
 refine wpF_skip (tN (hK22 _ _ (sk fun K32 hK32 => (sk fun K33 hK33 => (wt (oM rfl (oS rfl (Yk.eqSt (l := s) (m := ([] : List UInt8)) (.inl rfl) T1 (vr (St (([] : List UInt8))) rfl) (decide (s = (([] : List UInt8) : List UInt8))) rfl (oZ (tN (hK33 _ _ ?_)))))))))))
 refine wpF_cond (s = (([] : List UInt8) : List UInt8)) (vr (.bool (decide (s = (([] : List UInt8) : List UInt8)))) rfl) (fun hc1 => ?_) (fun hc1 => ?_)
 ·have hs : s = [] := hc1
  refine sk fun K34 hK34 => (sk fun K35 hK35 => (wt (oS rfl (Yk.fieldAt wr50_fo53_2 (vr (PQ n2 0) rfl) (oS rfl (Yk.cell1 wr50_ty9 rfl (vr (PQ n2 2) rfl) (cellAt hb8 (show (refsC z)[2]? = some (St (z.1.head) : Value) from refs_g2 z)) (oS rfl (Yk.eqSt (l := z.1.head) (m := ([] : List UInt8)) (.inl rfl) (vr (St (z.1.head)) rfl) (vr (St (([] : List UInt8))) rfl) (decide ((z.1.head : List UInt8) = (([] : List UInt8) : List UInt8))) rfl (oZ (tN (hK35 _ _ ?_)))))))))))
  refine wpF_cond ((z.1.head : List UInt8) = (([] : List UInt8) : List UInt8)) (vr (.bool (decide ((z.1.head : List UInt8) = (([] : List UInt8) : List UInt8)))) rfl) (fun hc2 => ?_) (fun hc2 => ?_)
  ·have hh := hc2
   refine sk fun K36 hK36 => (wt (oS rfl (Yk.fieldAt wr50_fo53_3 (vr (PQ n2 0) rfl) (oS rfl (Yk.loadPR (PR.blk hb8 (refs_m3 z) (refs_n3 z) (vr (PQ n2 3) rfl)) wr50_ty25 rfl (sizeId_of z.1.at_.2) (oS rfl (Yk.storeAll (vr (PQ n10 0) rfl) (vr (AB z.1.at_.1) rfl) hb20 (by exact idsize z.1.at_.2 List.length_replicate) (by exact sizeId_of z.1.at_.2) (byteCells_one _) fun w37 hb38 hg39 hs40 => ?_)))))))
   have hE := row_fresh hE hg39 (Nat.le_trans hz18 (by omega))
   have hb8 := kb hg39 hb8 (by omega)
   have hA16 := row_fresh hA16 hg39 (Nat.le_trans (Nat.le_refl _) (by omega))
   clear hb20
   have hb20 := hb38; clear hb38
   have hl41 := bl hb20
   refine oA rfl (oZ (tN (hK36 _ _ (wpF_ret (thenF_ret (thenF_ret (postF_ret (fn := Tryd.f39) _ rfl [AB z.1.at_.1, NI 0] (.tuple #[AB z.1.at_.1, NI 0]) rfl ⟨ResF.row rfl hb20 wr50_ty25 rfl (by exact sizeId_of z.1.at_.2), rfl, trivial⟩ ?_)))))))
   have hT : lookP z.1 s = (z.1.at_.1, 0) := by unfold lookP; rw [if_pos hrt, if_pos hs, if_pos hh]
   exact ⟨by rw [hT]; try rfl, hE⟩
  have hh := hc2
  refine wpF_skip (tN (hK34 _ _ (sk fun K42 hK42 => (sk fun K43 hK43 => (wt (oS rfl (Yk.fieldAt wr50_fo53_0 (vr (PQ n2 0) rfl) (oS rfl (Yk.cell1 wr50_ty51 rfl (vr (PQ n2 0) rfl) (cellAt hb8 (show (refsC z)[0]? = some (z.2.branches : Value) from refs_g0 z)) (oS rfl (Yk.fieldAt wr50_fo53_2 (vr (PQ n2 0) rfl) (oS rfl (Yk.cell1 wr50_ty9 rfl (vr (PQ n2 2) rfl) (cellAt hb8 (show (refsC z)[2]? = some (St (z.1.head) : Value) from refs_g2 z)) (oS rfl (Yk.callA2 wr50_pl88 (vr z.2.branches rfl) (vr (St (z.1.head)) rfl) ((place_any _ _ z.1.branches (hmt.keep hE) (by have := hS.bl; omega) hS.br z.1.head).mono ?_))))))))))))))))
  rintro e w45 ⟨⟨p, rfl, hp⟩, hx44⟩
  refine ⟨_, rfl, ?_⟩
  have hE := hE.trans hx44
  have hb8 := eb hx44 hb8
  have hA16 := hA16.trans hx44
  have hb20 := eb hx44 hb20
  refine oM rfl (oS rfl (Yk.extract (vs := [NI p, .bool (foundN z.1.branches z.1.head p)]) (vr (.tuple #[NI p, .bool (foundN z.1.branches z.1.head p)]) rfl) (show _ = some (NI p : Value) from rfl) (oS rfl (Yk.extract (vs := [NI p, .bool (foundN z.1.branches z.1.head p)]) (vr (.tuple #[NI p, .bool (foundN z.1.branches z.1.head p)]) rfl) (show _ = some (.bool (foundN z.1.branches z.1.head p) : Value) from rfl) (oA rfl (oA rfl (oZ (tN (hK43 _ _ (sk fun K46 hK46 => (wt (oM rfl (oZ (tN (hK46 _ _ ?_)))))))))))))))
  refine wpF_condB (foundN z.1.branches z.1.head p) (vr (.bool (foundN z.1.branches z.1.head p)) rfl) (fun hc3 => ?_) (fun hc3 => ?_)
  ·have hf := hc3
   have hlt := found_lt hf
   refine sk fun K47 hK47 => (wt (oS rfl (Yk.fieldAt wr50_fo53_0 (vr (PQ n2 0) rfl) (oS rfl (Yk.cell1 wr50_ty51 rfl (vr (PQ n2 0) rfl) (cellAt hb8 (show (refsC z)[0]? = some (z.2.branches : Value) from refs_g0 z)) (oM rfl ?_))))))
   have hl50 : (nmdC ((z.1.branches).getD (p) dNmd)).length = 33 := (RG.elem (hmt.keep hE) dNmd (hlt))
   refine oS rfl (Yk.atRG wr50_ty51 wr50_szg70 (by decide) dNmd (RG.of (hmt.keep hE) (vr z.2.branches rfl)) (vr (NI p) rfl) (hlt) fun v48 hp49 => ?_)
   have hl53 : (Lib.byteCells ((z.1.branches).getD (p) dNmd).id.1).length = 32 := by rw [Lib.byteCells_length, ((z.1.branches).getD (p) dNmd).id.2]
   refine oS rfl (Yk.fieldPR (n := 32) wr50_fo70_1 (PR.of hp49 (vr v48 rfl)) fun v51 hp52 => ?_)
   have hp52 : PR (Lib.byteCells ((z.1.branches).getD (p) dNmd).id.1) v51 w45 := (nmd_f1 ((z.1.branches).getD (p) dNmd)) ▸ hp52
   refine oS rfl (Yk.loadPR (PR.of hp52 (vr v51 rfl)) wr50_ty25 rfl (by rw [hl53]; exact wr50_isz25) (oS rfl (Yk.storeAll (vr (PQ n10 0) rfl) (vr (AB (((z.1.branches).getD (p) dNmd).id.1)) rfl) hb20 (by exact idsize (bytes_len32 (hl53)) List.length_replicate) (by exact sizeId_of (bytes_len32 (hl53))) (byteCells_one _) fun w54 hb55 hg56 hs57 => ?_)))
   have hE := row_fresh hE hg56 (Nat.le_trans hz18 (by omega))
   have hb8 := kb hg56 hb8 (by omega)
   have hA16 := row_fresh hA16 hg56 (Nat.le_trans (Nat.le_refl _) (by omega))
   clear hp49
   clear hp52
   clear hb20
   have hb20 := hb55; clear hb55
   have hl58 := bl hb20
   refine oA rfl (oZ (tN (hK47 _ _ (wpF_ret (thenF_ret (thenF_ret (postF_ret (fn := Tryd.f39) _ rfl [AB (((z.1.branches).getD (p) dNmd).id.1), NI 0] (.tuple #[AB (((z.1.branches).getD (p) dNmd).id.1), NI 0]) rfl ⟨ResF.row rfl hb20 wr50_ty25 rfl (by exact sizeId_of (bytes_len32 (hl53))), rfl, trivial⟩ ?_)))))))
   have hT : lookP z.1 s = ((z.1.branches.getD p dNmd).id.1, 0) := by unfold lookP; rw [if_pos hrt, if_pos hs, if_neg hh, ← place_uniq hp, if_pos hf]
   exact ⟨by rw [hT]; try rfl, hE⟩
  have hf := hc3
  refine wpF_skip (tN (hK42 _ _ (sk fun K59 hK59 => (wt (oS rfl (Yk.run (v := AB (List.replicate 32 0)) (by kernel_rfl) (oS rfl (Yk.storeAll (vr (PQ n10 0) rfl) (vr (AB (List.replicate 32 0)) rfl) hb20 (by exact idsize List.length_replicate List.length_replicate) (by exact sizeId_of List.length_replicate) (byteCells_one _) fun w60 hb61 hg62 hs63 => ?_))))))))
  have hE := row_fresh hE hg62 (Nat.le_trans hz18 (by omega))
  have hb8 := kb hg62 hb8 (by omega)
  have hA16 := row_fresh hA16 hg62 (Nat.le_trans (Nat.le_refl _) (by omega))
  clear hb20
  have hb20 := hb61; clear hb61
  have hl64 := bl hb20
  refine oA rfl (oZ (tN (hK59 _ _ (wpF_ret (thenF_ret (postF_ret (fn := Tryd.f39) _ rfl [AB (List.replicate 32 0), NI 4] (.tuple #[AB (List.replicate 32 0), NI 4]) rfl ⟨ResF.row rfl hb20 wr50_ty25 rfl (by exact sizeId_of List.length_replicate), rfl, trivial⟩ ?_))))))
  have hT : lookP z.1 s = (zid.1, 4) := by unfold lookP; rw [if_pos hrt, if_pos hs, if_neg hh, ← place_uniq hp, if_neg (by rw [hf]; decide)]
  exact ⟨by rw [hT]; try rfl, hE⟩
 have hs : ¬ s = [] := hc1
 refine wpF_skip (tN (hK32 _ _ (sk fun K65 hK65 => (sk fun K66 hK66 => (wt (oS rfl (Yk.fieldAt wr50_fo53_0 (vr (PQ n2 0) rfl) (oS rfl (Yk.cell1 wr50_ty51 rfl (vr (PQ n2 0) rfl) (cellAt hb8 (show (refsC z)[0]? = some (z.2.branches : Value) from refs_g0 z)) (oS rfl (Yk.fieldAt wr50_fo53_1 (vr (PQ n2 0) rfl) (oS rfl (Yk.cell1 wr50_ty51 rfl (vr (PQ n2 1) rfl) (cellAt hb8 (show (refsC z)[1]? = some (z.2.tags : Value) from refs_g1 z)) (oS rfl (Yk.arr2 (wr50_ba (RG.slice (hmt.keep hE)) (RG.slice (hmg.keep hE))) (vr z.2.branches rfl) (vr z.2.tags rfl) (oM rfl (oL_ [(0, .agg (refsC z).toArray), (1, St (s)), (2, PQ n2 0), (4, PQ n10 0), (5, NI 0), (45, .agg #[z.2.branches, z.2.tags]), (46, NI 0)] ⟨T0, T1, rfl, rfl, rfl, rfl, rfl, trivial⟩ fun ρ67 ⟨T0, T1, T2, T4, T5, T45, T46, _⟩ => (tN (hK66 _ _ (wpF_block (wpF_loop (fun (ρ : Slots) (wz : World) => ∃ i : Nat, ρ 0 = (.agg (refsC z).toArray : Value) ∧ ρ 1 = (St (s) : Value) ∧ ρ 2 = (PQ n2 0 : Value) ∧ ρ 4 = (PQ n10 0 : Value) ∧ ρ 45 = (.agg #[z.2.branches, z.2.tags] : Value) ∧ ρ 46 = (NI i : Value) ∧ Ext w wz ∧ wz.heap[n2]? = some (.cells (refsC z).toArray 53 (0, 0)) ∧ Ext w3 wz ∧ wz.heap[n10]? = some (.cells (Lib.byteCells (List.replicate 32 0)).toArray 25 (0, 0)) ∧ (i ≤ 2) ∧ (0 < i → foundN z.1.branches s (placeN z.1.branches s) = false) ∧ (1 < i → foundN z.1.tags s (placeN z.1.tags s) = false) ∧ True) (fun ρ _ => 2 - (intOf (ρ 46)).toNat) ⟨0, T0, T1, T2, T4, T45, T46, hE, hb8, hA16, hb20, Nat.zero_le _, fun h => absurd h (by omega), fun h => absurd h (by omega), trivial⟩ ?_)))))))))))))))))))))
 clear hE hb8 hA16 hb20
 rintro ρ68 w69 ⟨i, T0, T1, T2, T4, T45, T46, hE, hb8, hA16, hb20, hi, hf0, hf1, -⟩
 have q46 := T46
 refine sk fun K70 hK70 => (wt (oS rfl (Yk.eqI (a := (i : Nat)) (b := (2 : Nat)) T46 rfl (k_lss _ _ _ _) (oL_ [(0, .agg (refsC z).toArray), (1, St (s)), (2, PQ n2 0), (4, PQ n10 0), (45, .agg #[z.2.branches, z.2.tags]), (46, NI i), (47, .bool (decide ((i) < (2))))] ⟨T0, T1, T2, T4, T45, T46, rfl, trivial⟩ fun ρ71 ⟨T0, T1, T2, T4, T45, T46, T47, _⟩ => (tN (hK70 _ _ (sk fun K72 hK72 => ?_)))))))
 refine wpF_cond ((i) < (2)) T47 (fun hc4 => ?_) (fun hc4 => ?_)
 ·have h01 : i = 0 ∨ i = 1 := by omega
  rcases h01 with h0 | h0
  ·have T46 : ρ71 46 = NI 0 := T46.trans (by rw [h0])
   refine wpF_skip (tN (hK72 _ _ (sk fun K73 hK73 => (wpF_block (sk fun K74 hK74 => (wt (oS rfl (Yk.arr2at (wr50_ix0 (RG.slice (hmt.keep hE)) (RG.slice (hmg.keep hE))) T45 T46 (oA rfl (oZ (tN (hK74 _ _ (sk fun K75 hK75 => (wt (oM rfl (oM rfl (oS rfl (Yk.callA2 wr50_pl88 (vr z.2.branches rfl) T1 ((place_any _ _ z.1.branches (hmt.keep hE) (by have := hS.bl; omega) hS.br s).mono ?_)))))))))))))))))))
   rintro e w77 ⟨⟨p, rfl, hp⟩, hx76⟩
   refine ⟨_, rfl, ?_⟩
   have hE := hE.trans hx76
   have hb8 := eb hx76 hb8
   have hA16 := hA16.trans hx76
   have hb20 := eb hx76 hb20
   refine oM rfl (oS rfl (Yk.extract (vs := [NI p, .bool (foundN z.1.branches s p)]) (vr (.tuple #[NI p, .bool (foundN z.1.branches s p)]) rfl) (show _ = some (NI p : Value) from rfl) (oS rfl (Yk.extract (vs := [NI p, .bool (foundN z.1.branches s p)]) (vr (.tuple #[NI p, .bool (foundN z.1.branches s p)]) rfl) (show _ = some (.bool (foundN z.1.branches s p) : Value) from rfl) (oA rfl (oA rfl (oZ (tN (hK75 _ _ (sk fun K78 hK78 => (wt (oM rfl (oL_ [(0, .agg (refsC z).toArray), (1, St (s)), (2, PQ n2 0), (4, PQ n10 0), (9, z.2.branches), (10, NI p), (11, .bool (foundN z.1.branches s p)), (45, .agg #[z.2.branches, z.2.tags]), (46, NI 0), (55, .bool (foundN z.1.branches s p))] ⟨T0, T1, T2, T4, rfl, rfl, rfl, T45, T46, rfl, trivial⟩ fun ρ79 ⟨T0, T1, T2, T4, T9, T10, T11, T45, T46, T55, _⟩ => (tN (hK78 _ _ ?_)))))))))))))))
   refine wpF_condB (foundN z.1.branches s p) T55 (fun hc5 => ?_) (fun hc5 => ?_)
   ·have hf := hc5
    have hlt := found_lt hf
    have hq := place_uniq hp
    refine sk fun K80 hK80 => (wt (oM rfl (oM rfl ?_)))
    have hl83 : (nmdC ((z.1.branches).getD (p) dNmd)).length = 33 := (RG.elem (hmt.keep hE) dNmd (hlt))
    refine oS rfl (Yk.atRG wr50_ty51 wr50_szg70 (by decide) dNmd (RG.of (hmt.keep hE) T9) T10 (hlt) fun v81 hp82 => ?_)
    have hl86 : (Lib.byteCells ((z.1.branches).getD (p) dNmd).id.1).length = 32 := by rw [Lib.byteCells_length, ((z.1.branches).getD (p) dNmd).id.2]
    refine oS rfl (Yk.fieldPR (n := 32) wr50_fo70_1 (PR.of hp82 (vr v81 rfl)) fun v84 hp85 => ?_)
    have hp85 : PR (Lib.byteCells ((z.1.branches).getD (p) dNmd).id.1) v84 w77 := (nmd_f1 ((z.1.branches).getD (p) dNmd)) ▸ hp85
    refine oS rfl (Yk.loadPR (PR.of hp85 (vr v84 rfl)) wr50_ty25 rfl (by rw [hl86]; exact wr50_isz25) (oS rfl (Yk.storeAll T4 (vr (AB (((z.1.branches).getD (p) dNmd).id.1)) rfl) hb20 (by exact idsize (bytes_len32 (hl86)) List.length_replicate) (by exact sizeId_of (bytes_len32 (hl86))) (byteCells_one _) fun w87 hb88 hg89 hs90 => ?_)))
    have hE := row_fresh hE hg89 (Nat.le_trans hz18 (by omega))
    have hb8 := kb hg89 hb8 (by omega)
    have hA16 := row_fresh hA16 hg89 (Nat.le_trans (Nat.le_refl _) (by omega))
    clear hp82
    clear hp85
    clear hb20
    have hb20 := hb88; clear hb88
    have hl91 := bl hb20
    refine oA rfl (oZ (tN (hK80 _ _ (wpF_ret (inBlockF_ret (thenF_ret (thenF_ret (inBlockF_ret (thenF_ret (postF_ret (fn := Tryd.f39) _ rfl [AB (((z.1.branches).getD (p) dNmd).id.1), NI 0] (.tuple #[AB (((z.1.branches).getD (p) dNmd).id.1), NI 0]) rfl ⟨ResF.row T4 hb20 wr50_ty25 rfl (by exact sizeId_of (bytes_len32 (hl86))), rfl, trivial⟩ ?_))))))))))
    have hT : lookP z.1 s = ((z.1.branches.getD p dNmd).id.1, 0) := by unfold lookP; rw [if_pos hrt, if_neg hs, ← hq, if_pos hf]
    exact ⟨by rw [hT]; try rfl, hE⟩
   have hnf : foundN z.1.branches s (placeN z.1.branches s) = false := by rw [← place_uniq hp]; exact hc5
   have T46 : ρ79 46 = NI i := T46.trans (by rw [h0])
   refine wpF_skip (bN (tN (hK73 _ _ (wt (oS rfl (Yk.bin (xv := NI i) (yv := NI 1) T46 rfl rfl (i64_add _ _ _ (by omega)) (oM rfl (oL_ [(0, .agg (refsC z).toArray), (1, St (s)), (2, PQ n2 0), (4, PQ n10 0), (9, z.2.branches), (10, NI p), (11, .bool (foundN z.1.branches s p)), (45, .agg #[z.2.branches, z.2.tags]), (46, NI ((i) + (1)))] ⟨T0, T1, T2, T4, T9, T10, T11, T45, rfl, trivial⟩ fun ρ92 ⟨T0, T1, T2, T4, T9, T10, T11, T45, T46, _⟩ => (tN (And.intro ⟨i + 1, T0, T1, T2, T4, T45, T46, hE, hb8, hA16, hb20, by omega, (fun _ => by first | exact hnf | exact hf0 (by omega)), (fun h => by first | (exfalso; omega) | exact hnf), trivial⟩ ?_))))))))))
   show 2 - (intOf (ρ92 46)).toNat < 2 - (intOf (ρ68 46)).toNat
   rw [T46, q46]
   simp only [intOf, Int.toNat_natCast]; omega
  have T46 : ρ71 46 = NI 1 := T46.trans (by rw [h0])
  refine wpF_skip (tN (hK72 _ _ (sk fun K93 hK93 => (wpF_block (sk fun K94 hK94 => (wt (oS rfl (Yk.arr2at (wr50_ix1 (RG.slice (hmt.keep hE)) (RG.slice (hmg.keep hE))) T45 T46 (oA rfl (oZ (tN (hK94 _ _ (sk fun K95 hK95 => (wt (oM rfl (oM rfl (oS rfl (Yk.callA2 wr50_pl88 (vr z.2.tags rfl) T1 ((place_any _ _ z.1.tags (hmg.keep hE) (by have := hS.tl; omega) hS.tg s).mono ?_)))))))))))))))))))
  rintro e w97 ⟨⟨p, rfl, hp⟩, hx96⟩
  refine ⟨_, rfl, ?_⟩
  have hE := hE.trans hx96
  have hb8 := eb hx96 hb8
  have hA16 := hA16.trans hx96
  have hb20 := eb hx96 hb20
  refine oM rfl (oS rfl (Yk.extract (vs := [NI p, .bool (foundN z.1.tags s p)]) (vr (.tuple #[NI p, .bool (foundN z.1.tags s p)]) rfl) (show _ = some (NI p : Value) from rfl) (oS rfl (Yk.extract (vs := [NI p, .bool (foundN z.1.tags s p)]) (vr (.tuple #[NI p, .bool (foundN z.1.tags s p)]) rfl) (show _ = some (.bool (foundN z.1.tags s p) : Value) from rfl) (oA rfl (oA rfl (oZ (tN (hK95 _ _ (sk fun K98 hK98 => (wt (oM rfl (oL_ [(0, .agg (refsC z).toArray), (1, St (s)), (2, PQ n2 0), (4, PQ n10 0), (9, z.2.tags), (10, NI p), (11, .bool (foundN z.1.tags s p)), (45, .agg #[z.2.branches, z.2.tags]), (46, NI 1), (55, .bool (foundN z.1.tags s p))] ⟨T0, T1, T2, T4, rfl, rfl, rfl, T45, T46, rfl, trivial⟩ fun ρ99 ⟨T0, T1, T2, T4, T9, T10, T11, T45, T46, T55, _⟩ => (tN (hK98 _ _ ?_)))))))))))))))
  refine wpF_condB (foundN z.1.tags s p) T55 (fun hc5 => ?_) (fun hc5 => ?_)
  ·have hf := hc5
   have hlt := found_lt hf
   have hq := place_uniq hp
   have hf0 := hf0 (by omega)
   refine sk fun K100 hK100 => (wt (oM rfl (oM rfl ?_)))
   have hl103 : (nmdC ((z.1.tags).getD (p) dNmd)).length = 33 := (RG.elem (hmg.keep hE) dNmd (hlt))
   refine oS rfl (Yk.atRG wr50_ty51 wr50_szg70 (by decide) dNmd (RG.of (hmg.keep hE) T9) T10 (hlt) fun v101 hp102 => ?_)
   have hl106 : (Lib.byteCells ((z.1.tags).getD (p) dNmd).id.1).length = 32 := by rw [Lib.byteCells_length, ((z.1.tags).getD (p) dNmd).id.2]
   refine oS rfl (Yk.fieldPR (n := 32) wr50_fo70_1 (PR.of hp102 (vr v101 rfl)) fun v104 hp105 => ?_)
   have hp105 : PR (Lib.byteCells ((z.1.tags).getD (p) dNmd).id.1) v104 w97 := (nmd_f1 ((z.1.tags).getD (p) dNmd)) ▸ hp105
   refine oS rfl (Yk.loadPR (PR.of hp105 (vr v104 rfl)) wr50_ty25 rfl (by rw [hl106]; exact wr50_isz25) (oS rfl (Yk.storeAll T4 (vr (AB (((z.1.tags).getD (p) dNmd).id.1)) rfl) hb20 (by exact idsize (bytes_len32 (hl106)) List.length_replicate) (by exact sizeId_of (bytes_len32 (hl106))) (byteCells_one _) fun w107 hb108 hg109 hs110 => ?_)))
   have hE := row_fresh hE hg109 (Nat.le_trans hz18 (by omega))
   have hb8 := kb hg109 hb8 (by omega)
   have hA16 := row_fresh hA16 hg109 (Nat.le_trans (Nat.le_refl _) (by omega))
   clear hp102
   clear hp105
   clear hb20
   have hb20 := hb108; clear hb108
   have hl111 := bl hb20
   refine oA rfl (oZ (tN (hK100 _ _ (wpF_ret (inBlockF_ret (thenF_ret (thenF_ret (inBlockF_ret (thenF_ret (postF_ret (fn := Tryd.f39) _ rfl [AB (((z.1.tags).getD (p) dNmd).id.1), NI 0] (.tuple #[AB (((z.1.tags).getD (p) dNmd).id.1), NI 0]) rfl ⟨ResF.row T4 hb20 wr50_ty25 rfl (by exact sizeId_of (bytes_len32 (hl106))), rfl, trivial⟩ ?_))))))))))
   have hT : lookP z.1 s = ((z.1.tags.getD p dNmd).id.1, 0) := by unfold lookP; rw [if_pos hrt, if_neg hs, if_neg (by rw [hf0]; decide), ← hq, if_pos hf]
   exact ⟨by rw [hT]; try rfl, hE⟩
  have hnf : foundN z.1.tags s (placeN z.1.tags s) = false := by rw [← place_uniq hp]; exact hc5
  have T46 : ρ99 46 = NI i := T46.trans (by rw [h0])
  refine wpF_skip (bN (tN (hK93 _ _ (wt (oS rfl (Yk.bin (xv := NI i) (yv := NI 1) T46 rfl rfl (i64_add _ _ _ (by omega)) (oM rfl (oL_ [(0, .agg (refsC z).toArray), (1, St (s)), (2, PQ n2 0), (4, PQ n10 0), (9, z.2.tags), (10, NI p), (11, .bool (foundN z.1.tags s p)), (45, .agg #[z.2.branches, z.2.tags]), (46, NI ((i) + (1)))] ⟨T0, T1, T2, T4, T9, T10, T11, T45, rfl, trivial⟩ fun ρ112 ⟨T0, T1, T2, T4, T9, T10, T11, T45, T46, _⟩ => (tN (And.intro ⟨i + 1, T0, T1, T2, T4, T45, T46, hE, hb8, hA16, hb20, by omega, (fun _ => by first | exact hnf | exact hf0 (by omega)), (fun h => by first | (exfalso; omega) | exact hnf), trivial⟩ ?_))))))))))
  show 2 - (intOf (ρ112 46)).toNat < 2 - (intOf (ρ68 46)).toNat
  rw [T46, q46]
  simp only [intOf, Int.toNat_natCast]; omega
 have hf0 := hf0 (by omega)
 have hf1 := hf1 (by omega)
 refine wpF_exit (thenF_exit (thenF_exit (inBlockF_hit (tN (hK65 _ _ (sk fun K113 hK113 => (sk fun K114 hK114 => (wt (oM rfl (oS rfl (Yk.callA1 wr50_pl89 T1 ((unhex_any _ s hsl).mono ?_))))))))))))
 rintro e w116 ⟨rfl, hx115⟩
 refine ⟨_, rfl, ?_⟩
 have hE := hE.trans hx115
 have hb8 := eb hx115 hb8
 have hA16 := hA16.trans hx115
 have hb20 := eb hx115 hb20
 refine oM rfl (oS rfl (Yk.extract (vs := [AB ((unhex s).1), .bool ((unhex s).2)]) (vr (.tuple #[AB ((unhex s).1), .bool ((unhex s).2)]) rfl) (show _ = some (AB ((unhex s).1) : Value) from rfl) (oS rfl (Yk.extract (vs := [AB ((unhex s).1), .bool ((unhex s).2)]) (vr (.tuple #[AB ((unhex s).1), .bool ((unhex s).2)]) rfl) (show _ = some (.bool ((unhex s).2) : Value) from rfl) (oS rfl (Yk.alloc (cs := (Lib.byteCells (List.replicate 32 0)).toArray) wr50_al25 fun n117 w118 hn119 hb120 hx121 hs122 => ?_))))))
 have hA123 := Ext.refl w116
 have hea124 := hE
 have hea125 := hA16
 have hz126 := hE.size
 have hz127 := hA16.size
 have hlt128 := lte (bl hb8) hn119
 have hlt129 := lte (bl hb20) hn119
 have hE := hE.trans hx121
 have hb8 := eb hx121 hb8
 have hA16 := hA16.trans hx121
 have hb20 := eb hx121 hb20
 have hA123 := hA123.trans hx121
 have hb130 := hb120; clear hb120
 have hl131 : n117 < w118.heap.size := by omega
 refine oS rfl (Yk.storeAll (vr (PQ n117 0) rfl) (vr (AB ((unhex s).1)) rfl) hb130 (by exact idsize (unhex_length s) List.length_replicate) (by exact sizeId_of (unhex_length s)) (byteCells_one _) fun w132 hb133 hg134 hs135 => ?_)
 have hE := row_fresh hE hg134 (Nat.le_trans hz126 (by omega))
 have hb8 := kb hg134 hb8 (by omega)
 have hA16 := row_fresh hA16 hg134 (Nat.le_trans hz127 (by omega))
 have hb20 := kb hg134 hb20 (by omega)
 have hA123 := row_fresh hA123 hg134 (Nat.le_trans (Nat.le_refl _) (by omega))
 clear hb130
 have hb130 := hb133; clear hb133
 have hl136 := bl hb130
 refine oA rfl (oZ (tN (hK114 _ _ (sk fun K137 hK137 => (wt (oM rfl (oZ (tN (hK137 _ _ ?_)))))))))
 refine wpF_condB ((unhex s).2) (vr (.bool ((unhex s).2)) rfl) (fun hc6 => ?_) (fun hc6 => ?_)
 ·have hu := hc6
  refine sk fun K138 hK138 => (wt (oS rfl (Yk.loadAll (vr (PQ n117 0) rfl) hb130 wr50_ty25 rfl (by exact sizeId_of (unhex_length s)) (oS rfl (Yk.storeAll T4 (vr (AB ((unhex s).1)) rfl) hb20 (by exact idsize (unhex_length s) List.length_replicate) (by exact sizeId_of (unhex_length s)) (byteCells_one _) fun w139 hb140 hg141 hs142 => ?_)))))
  have hE := row_fresh hE hg141 (Nat.le_trans hz18 (by omega))
  have hb8 := kb hg141 hb8 (by omega)
  have hA16 := row_fresh hA16 hg141 (Nat.le_trans (Nat.le_refl _) (by omega))
  clear hA123
  have hb130 := kb hg141 hb130 (by omega)
  clear hb20
  have hb20 := hb140; clear hb140
  have hl143 := bl hb20
  refine oA rfl (oZ (tN (hK138 _ _ (wpF_ret (thenF_ret (postF_ret (fn := Tryd.f39) _ rfl [AB ((unhex s).1), NI 0] (.tuple #[AB ((unhex s).1), NI 0]) rfl ⟨ResF.row T4 hb20 wr50_ty25 rfl (by exact sizeId_of (unhex_length s)), rfl, trivial⟩ ?_))))))
  have hT : lookP z.1 s = ((unhex s).1, 0) := by unfold lookP; rw [if_pos hrt, if_neg hs, if_neg (by rw [hf0]; decide), if_neg (by rw [hf1]; decide), if_pos hu]
  exact ⟨by rw [hT]; try rfl, hE⟩
 have hu := hc6
 refine wpF_skip (tN (hK113 _ _ (sk fun K144 hK144 => (wt (oS rfl (Yk.run (v := AB (List.replicate 32 0)) (by kernel_rfl) (oS rfl (Yk.storeAll T4 (vr (AB (List.replicate 32 0)) rfl) hb20 (by exact idsize List.length_replicate List.length_replicate) (by exact sizeId_of List.length_replicate) (byteCells_one _) fun w145 hb146 hg147 hs148 => ?_))))))))
 have hE := row_fresh hE hg147 (Nat.le_trans hz18 (by omega))
 have hb8 := kb hg147 hb8 (by omega)
 have hA16 := row_fresh hA16 hg147 (Nat.le_trans (Nat.le_refl _) (by omega))
 clear hA123
 have hb130 := kb hg147 hb130 (by omega)
 clear hb20
 have hb20 := hb146; clear hb146
 have hl149 := bl hb20
 refine oA rfl (oZ (tN (hK144 _ _ (wpF_ret (postF_ret (fn := Tryd.f39) _ rfl [AB (List.replicate 32 0), NI 4] (.tuple #[AB (List.replicate 32 0), NI 4]) rfl ⟨ResF.row T4 hb20 wr50_ty25 rfl (by exact sizeId_of List.length_replicate), rfl, trivial⟩ ?_)))))
 have hT : lookP z.1 s = (zid.1, 4) := by unfold lookP; rw [if_pos hrt, if_neg hs, if_neg (by rw [hf0]; decide), if_neg (by rw [hf1]; decide), if_neg (by rw [hu]; decide)]
 exact ⟨by rw [hT]; try rfl, hE⟩
open Go.RowKit
set_option maxRecDepth 100000
def refIdP (r : Refs) (s : Bs) : Id32 := if s = [] then (if r.head = [] then r.at_ else lookN r.branches r.head) else if zeroB (lookN r.branches s) = true then lookN r.tags s else lookN r.branches s
noncomputable def refLookP (r : Refs) (s : Bs) : Bs × Nat :=
 if rightF r = true then (if zeroB (refIdP r s) = true then (if s = [] then (zid.1, 4) else if (unhex s).2 = true then ((unhex s).1, 0) else (zid.1, 4)) else ((refIdP r s).1, 0)) else (zid.1, 1)
theorem wr51_al25 {d : Option Tmp} {ty : TypeId} {pos : String} {af : Array Edge} {gd : Option (Nat × Bool)} (σ : Operand → Value) (w : World) : (execOp σ ⟨d, .alloc 25, ty, pos, af, gd⟩).run Tryd.prog w = .ok (.value (PQ w.heap.size 0)) (w.alloc (.cells (Lib.byteCells (List.replicate 32 0)).toArray 25)) := by kernel_rfl
theorem wr51_ty49 : ∃ fs, Tryd.prog.underlying 49 = some (.struct fs) := struct_of (by kernel_rfl)
theorem wr51_isz49 : (Tryd.prog.info? 49).map (·.size) = some 36 := by kernel_rfl
theorem wr51_pl32 : Plain Tryd.prog 32 := fun _ _ => by kernel_rfl
theorem wr51_ty25 : Tryd.prog.underlying 25 = some (.array 32 5) := by kernel_rfl
theorem wr51_fo49_3 : FieldOff Tryd.prog 49 3 3 := fun b o w => by simp [go_sem]
theorem wr51_fo49_2 : FieldOff Tryd.prog 49 2 2 := fun b o w => by simp [go_sem]
theorem wr51_ty9 : Tryd.prog.underlying 9 = some (.string) := by kernel_rfl
theorem wr51_fo49_0 : FieldOff Tryd.prog 49 0 0 := fun b o w => by simp [go_sem]
theorem wr51_ty46 : Tryd.prog.underlying 46 = some (.slice 69) := by kernel_rfl
theorem wr51_pl90 : Plain Tryd.prog 90 := fun _ _ => by kernel_rfl
theorem wr51_pl86 : Plain Tryd.prog 86 := fun _ _ => by kernel_rfl
theorem wr51_fo49_1 : FieldOff Tryd.prog 49 1 1 := fun b o w => by simp [go_sem]
theorem wr51_pl91 : Plain Tryd.prog 91 := fun _ _ => by kernel_rfl
set_option maxHeartbeats 1600000
theorem refLookF_any (w : World) (z : RefsV) (hm : RefsAt w z) (hL : RefsLt z.1) (s : Bs) (hsl : s.length ≤ 9223372036854775807) :
  Calls Tryd.prog 40 #[.agg (refsC z).toArray, St s] w fun e w' => e = .returned (.tuple #[AB ((refLookP z.1 s).1), NI (refLookP z.1 s).2]) ∧ Ext w w' := by
 have hmt := hm.branches
 have hmg := hm.tags
 have hml := hm.log
 refine calls_of_wpF (args := [.agg (refsC z).toArray, St (s)]) Tryd.func40 rfl 51 rfl (Nat.le_of_ble_eq_true rfl) ?_
 intro ρ0 hb
 have T0 : ρ0 0 = (.agg (refsC z).toArray : Value) := hb.get 0
 have T1 : ρ0 1 = (St (s) : Value) := hb.get 1
 clear hb
 have hE := Ext.refl w
 refine sk fun K1 hK1 => (wt (oS rfl (Yk.box (cs := (refsC z : List Value).toArray) T0 fun n2 w3 hn4 hb5 hx6 hs7 => ?_)))
 have hE := hE.trans hx6
 have hb8 := hb5; clear hb5
 have hl9 : n2 < w3.heap.size := by omega
 refine oS rfl (Yk.alloc (cs := (Lib.byteCells (List.replicate 32 0)).toArray) wr51_al25 fun n10 w11 hn12 hb13 hx14 hs15 => ?_)
 have hA16 := Ext.refl w3
 have hea17 := hE
 have hz18 := hE.size
 have hlt19 := lte (bl hb8) hn12
 have hE := hE.trans hx14
 have hb8 := eb hx14 hb8
 have hA16 := hA16.trans hx14
 have hb20 := hb13; clear hb13
 have hl21 : n10 < w11.heap.size := by omega
 refine oA rfl (oZ (tN (hK1 _ _ (sk fun K22 hK22 => (sk fun K23 hK23 => (wt (oS rfl (Yk.loadAll (vr (PQ n2 0) rfl) hb8 (wr51_ty49).choose_spec rfl (st_isz (refs_len z) wr51_isz49) (oS rfl (Yk.callA1 wr51_pl32 (vr (.agg (refsC z).toArray) rfl) ((rfright_any _ z ⟨(hmt.keep hE), (hmg.keep hE), (hml.keep hE)⟩ hL).mono ?_)))))))))))
 rintro e w25 ⟨rfl, hx24⟩
 refine ⟨_, rfl, ?_⟩
 have hE := hE.trans hx24
 have hb8 := eb hx24 hb8
 have hA16 := hA16.trans hx24
 have hb20 := eb hx24 hb20
 refine oS rfl (Yk.notB (vr (.bool (rightF z.1)) rfl) (oZ (tN (hK23 _ _ ?_))))
 refine wpF_condB (!(rightF z.1)) (vr (.bool (!(rightF z.1))) rfl) (fun hc0 => ?_) (fun hc0 => ?_)
 ·have hrt : rightF z.1 = false := by simpa using hc0
  refine sk fun K26 hK26 => (wt (oS rfl (Yk.run (v := AB (List.replicate 32 0)) (by kernel_rfl) (oS rfl (Yk.storeAll (vr (PQ n10 0) rfl) (vr (AB (List.replicate 32 0)) rfl) hb20 (by exact idsize List.length_replicate List.length_replicate) (by exact sizeId_of List.length_replicate) (byteCells_one _) fun w27 hb28 hg29 hs30 => ?_)))))
  have hE := row_fresh hE hg29 (Nat.le_trans hz18 (by omega))
  have hb8 := kb hg29 hb8 (by omega)
  have hA16 := row_fresh hA16 hg29 (Nat.le_trans (Nat.le_refl _) (by omega))
  clear hb20
  have hb20 := hb28; clear hb28
  have hl31 := bl hb20
  refine oA rfl (oZ (tN (hK26 _ _ (wpF_ret (thenF_ret (postF_ret (fn := Tryd.f40) _ rfl [AB (List.replicate 32 0), NI 1] (.tuple #[AB (List.replicate 32 0), NI 1]) rfl ⟨ResF.row rfl hb20 wr51_ty25 rfl (by exact sizeId_of List.length_replicate), rfl, trivial⟩ ?_))))))
  have hT : refLookP z.1 s = (zid.1, 1) := by unfold refLookP; rw [if_neg (by rw [hrt]; decide)]
  exact ⟨by rw [hT]; try rfl, hE⟩
 have hrt : rightF z.1 = true := by simpa using hc0
 refine wpF_skip (tN (hK22 _ _ (sk fun K32 hK32 => (wt (oS rfl (Yk.run (v := AB (List.replicate 32 0)) (by kernel_rfl) (oS rfl (Yk.alloc (cs := (Lib.byteCells (List.replicate 32 0)).toArray) wr51_al25 fun n33 w34 hn35 hb36 hx37 hs38 => ?_))))))))
 have hA39 := Ext.refl w25
 have hea40 := hE
 have hea41 := hA16
 have hz42 := hE.size
 have hz43 := hA16.size
 have hlt44 := lte (bl hb8) hn35
 have hlt45 := lte (bl hb20) hn35
 have hE := hE.trans hx37
 have hb8 := eb hx37 hb8
 have hA16 := hA16.trans hx37
 have hb20 := eb hx37 hb20
 have hA39 := hA39.trans hx37
 have hb46 := hb36; clear hb36
 have hl47 : n33 < w34.heap.size := by omega
 refine oS rfl (Yk.storeAll (vr (PQ n33 0) rfl) (vr (AB (List.replicate 32 0)) rfl) hb46 (by exact idsize List.length_replicate List.length_replicate) (by exact sizeId_of List.length_replicate) (byteCells_one _) fun w48 hb49 hg50 hs51 => ?_)
 have hE := row_fresh hE hg50 (Nat.le_trans hz42 (by omega))
 have hb8 := kb hg50 hb8 (by omega)
 have hA16 := row_fresh hA16 hg50 (Nat.le_trans hz43 (by omega))
 have hb20 := kb hg50 hb20 (by omega)
 have hA39 := row_fresh hA39 hg50 (Nat.le_trans (Nat.le_refl _) (by omega))
 clear hb46
 have hb46 := hb49; clear hb49
 have hl52 := bl hb46
 refine oZ (tN (hK32 _ _ (sk fun K53 hK53 => (sk fun K54 hK54 => (wt (oM rfl (oS rfl (Yk.eqSt (l := s) (m := ([] : List UInt8)) (.inl rfl) T1 (vr (St (([] : List UInt8))) rfl) (decide (s = (([] : List UInt8) : List UInt8))) rfl (oZ (tN (hK54 _ _ ?_)))))))))))
 refine wpF_cond (s = (([] : List UInt8) : List UInt8)) (vr (.bool (decide (s = (([] : List UInt8) : List UInt8)))) rfl) (fun hc1 => ?_) (fun hc1 => ?_)
 ·have hs : s = [] := hc1
  refine sk fun K55 hK55 => (wt (oS rfl (Yk.fieldAt wr51_fo49_3 (vr (PQ n2 0) rfl) (oS rfl (Yk.loadPR (PR.blk hb8 (refs_m3 z) (refs_n3 z) (vr (PQ n2 3) rfl)) wr51_ty25 rfl (sizeId_of z.1.at_.2) (oS rfl (Yk.storeAll (vr (PQ n33 0) rfl) (vr (AB z.1.at_.1) rfl) hb46 (by exact idsize z.1.at_.2 List.length_replicate) (by exact sizeId_of z.1.at_.2) (byteCells_one _) fun w56 hb57 hg58 hs59 => ?_)))))))
  have hE := row_fresh hE hg58 (Nat.le_trans hz42 (by omega))
  have hb8 := kb hg58 hb8 (by omega)
  have hA16 := row_fresh hA16 hg58 (Nat.le_trans hz43 (by omega))
  have hb20 := kb hg58 hb20 (by omega)
  have hA39 := row_fresh hA39 hg58 (Nat.le_trans (Nat.le_refl _) (by omega))
  clear hb46
  have hb46 := hb57; clear hb57
  have hl60 := bl hb46
  refine oZ (tN (hK55 _ _ (sk fun K61 hK61 => (wt (oS rfl (Yk.fieldAt wr51_fo49_2 (vr (PQ n2 0) rfl) (oS rfl (Yk.cell1 wr51_ty9 rfl (vr (PQ n2 2) rfl) (cellAt hb8 (show (refsC z)[2]? = some (St (z.1.head) : Value) from refs_g2 z)) (oS rfl (Yk.eqSt (l := z.1.head) (m := ([] : List UInt8)) (.inr rfl) (vr (St (z.1.head)) rfl) (vr (St (([] : List UInt8))) rfl) (decide ((z.1.head : List UInt8) ≠ (([] : List UInt8) : List UInt8))) rfl (oZ (tN (hK61 _ _ ?_)))))))))))))
  refine wpF_cond ((z.1.head : List UInt8) ≠ (([] : List UInt8) : List UInt8)) (vr (.bool (decide ((z.1.head : List UInt8) ≠ (([] : List UInt8) : List UInt8)))) rfl) (fun hc2 => ?_) (fun hc2 => ?_)
  ·have hh : ¬ z.1.head = [] := hc2
   have hid : refIdP z.1 s = lookN z.1.branches z.1.head := by unfold refIdP; rw [if_pos hs, if_neg hh]
   refine wt (oS rfl (Yk.fieldAt wr51_fo49_0 (vr (PQ n2 0) rfl) (oS rfl (Yk.cell1 wr51_ty46 rfl (vr (PQ n2 0) rfl) (cellAt hb8 (show (refsC z)[0]? = some (z.2.branches : Value) from refs_g0 z)) (oS rfl (Yk.fieldAt wr51_fo49_2 (vr (PQ n2 0) rfl) (oS rfl (Yk.cell1 wr51_ty9 rfl (vr (PQ n2 2) rfl) (cellAt hb8 (show (refsC z)[2]? = some (St (z.1.head) : Value) from refs_g2 z)) (oS rfl (Yk.callA2 wr51_pl90 (vr z.2.branches rfl) (vr (St (z.1.head)) rfl) ((refLook_any _ z.2.branches z.1.branches (hmt.keep hE) (by have := hL.branches; omega) z.1.head).mono ?_)))))))))))
   rintro e w63 ⟨rfl, hx62⟩
   refine ⟨_, rfl, ?_⟩
   have hE := hE.trans hx62
   have hb8 := eb hx62 hb8
   have hA16 := hA16.trans hx62
   have hb20 := eb hx62 hb20
   have hA39 := hA39.trans hx62
   have hb46 := eb hx62 hb46
   refine oS rfl (Yk.storeAll (vr (PQ n33 0) rfl) (vr (AB ((lookN z.1.branches z.1.head).1)) rfl) hb46 (by exact idsize (lookN z.1.branches z.1.head).2 z.1.at_.2) (by exact sizeId_of (lookN z.1.branches z.1.head).2) (byteCells_one _) fun w64 hb65 hg66 hs67 => ?_)
   have hE := row_fresh hE hg66 (Nat.le_trans hz42 (by omega))
   have hb8 := kb hg66 hb8 (by omega)
   have hA16 := row_fresh hA16 hg66 (Nat.le_trans hz43 (by omega))
   have hb20 := kb hg66 hb20 (by omega)
   have hA39 := row_fresh hA39 hg66 (Nat.le_trans (Nat.le_refl _) (by omega))
   clear hb46
   have hb46 := hb65; clear hb65
   have hl68 := bl hb46
   refine oZ (tN (hK53 _ _ (sk fun K69 hK69 => (sk fun K70 hK70 => (wt (oS rfl (Yk.loadAll (vr (PQ n33 0) rfl) hb46 wr51_ty25 rfl (by exact sizeId_of (lookN z.1.branches z.1.head).2) (oS rfl (Yk.callA1 wr51_pl86 (vr (AB ((lookN z.1.branches z.1.head).1)) rfl) ((rfzero_any _ (lookN z.1.branches z.1.head)).mono ?_))))))))))
   rintro e w72 ⟨rfl, hx71⟩
   refine ⟨_, rfl, ?_⟩
   have hE := hE.trans hx71
   have hb8 := eb hx71 hb8
   have hA16 := hA16.trans hx71
   have hb20 := eb hx71 hb20
   have hA39 := hA39.trans hx71
   have hb46 := eb hx71 hb46
   refine oZ (tN (hK70 _ _ ?_))
   refine wpF_condB (zeroB (lookN z.1.branches z.1.head)) (vr (.bool (zeroB (lookN z.1.branches z.1.head))) rfl) (fun hc5 => ?_) (fun hc5 => ?_)
   ·have h5 : zeroB (lookN z.1.branches z.1.head) = true := by simpa using hc5
    refine sk fun K73 hK73 => (wt (oS rfl (Yk.run (v := AB (List.replicate 32 0)) (by kernel_rfl) (oS rfl (Yk.storeAll (vr (PQ n10 0) rfl) (vr (AB (List.replicate 32 0)) rfl) hb20 (by exact idsize List.length_replicate List.length_replicate) (by exact sizeId_of List.length_replicate) (byteCells_one _) fun w74 hb75 hg76 hs77 => ?_)))))
    have hE := row_fresh hE hg76 (Nat.le_trans hz18 (by omega))
    have hb8 := kb hg76 hb8 (by omega)
    have hA16 := row_fresh hA16 hg76 (Nat.le_trans (Nat.le_refl _) (by omega))
    clear hA39
    have hb46 := kb hg76 hb46 (by omega)
    clear hb20
    have hb20 := hb75; clear hb75
    have hl78 := bl hb20
    refine oA rfl (oZ (tN (hK73 _ _ (wpF_ret (thenF_ret (postF_ret (fn := Tryd.f40) _ rfl [AB (List.replicate 32 0), NI 4] (.tuple #[AB (List.replicate 32 0), NI 4]) rfl ⟨ResF.row rfl hb20 wr51_ty25 rfl (by exact sizeId_of List.length_replicate), rfl, trivial⟩ ?_))))))
    have hT : refLookP z.1 s = (zid.1, 4) := by unfold refLookP; rw [if_pos hrt, hid, if_pos h5, if_pos hs]
    exact ⟨by rw [hT]; try rfl, hE⟩
   have h5 : zeroB (lookN z.1.branches z.1.head) = false := by simpa using hc5
   refine wpF_skip (tN (hK69 _ _ (sk fun K79 hK79 => (wt (oS rfl (Yk.loadAll (vr (PQ n33 0) rfl) hb46 wr51_ty25 rfl (by exact sizeId_of (lookN z.1.branches z.1.head).2) (oS rfl (Yk.storeAll (vr (PQ n10 0) rfl) (vr (AB ((lookN z.1.branches z.1.head).1)) rfl) hb20 (by exact idsize (lookN z.1.branches z.1.head).2 List.length_replicate) (by exact sizeId_of (lookN z.1.branches z.1.head).2) (byteCells_one _) fun w80 hb81 hg82 hs83 => ?_))))))))
   have hE := row_fresh hE hg82 (Nat.le_trans hz18 (by omega))
   have hb8 := kb hg82 hb8 (by omega)
   have hA16 := row_fresh hA16 hg82 (Nat.le_trans (Nat.le_refl _) (by omega))
   clear hA39
   have hb46 := kb hg82 hb46 (by omega)
   clear hb20
   have hb20 := hb81; clear hb81
   have hl84 := bl hb20
   refine oA rfl (oZ (tN (hK79 _ _ (wpF_ret (postF_ret (fn := Tryd.f40) _ rfl [AB ((lookN z.1.branches z.1.head).1), NI 0] (.tuple #[AB ((lookN z.1.branches z.1.head).1), NI 0]) rfl ⟨ResF.row rfl hb20 wr51_ty25 rfl (by exact sizeId_of (lookN z.1.branches z.1.head).2), rfl, trivial⟩ ?_)))))
   have hT : refLookP z.1 s = ((lookN z.1.branches z.1.head).1, 0) := by unfold refLookP; rw [if_pos hrt, hid, if_neg (by rw [h5]; decide)]
   exact ⟨by rw [hT]; try rfl, hE⟩
  have hh : z.1.head = [] := by simpa using hc2
  have hid : refIdP z.1 s = z.1.at_ := by unfold refIdP; rw [if_pos hs, if_pos hh]
  refine wpF_skip (tN (hK53 _ _ (sk fun K85 hK85 => (sk fun K86 hK86 => (wt (oS rfl (Yk.loadAll (vr (PQ n33 0) rfl) hb46 wr51_ty25 rfl (by exact sizeId_of z.1.at_.2) (oS rfl (Yk.callA1 wr51_pl86 (vr (AB z.1.at_.1) rfl) ((rfzero_any _ z.1.at_).mono ?_))))))))))
  rintro e w88 ⟨rfl, hx87⟩
  refine ⟨_, rfl, ?_⟩
  have hE := hE.trans hx87
  have hb8 := eb hx87 hb8
  have hA16 := hA16.trans hx87
  have hb20 := eb hx87 hb20
  have hA39 := hA39.trans hx87
  have hb46 := eb hx87 hb46
  refine oZ (tN (hK86 _ _ ?_))
  refine wpF_condB (zeroB z.1.at_) (vr (.bool (zeroB z.1.at_)) rfl) (fun hc5 => ?_) (fun hc5 => ?_)
  ·have h5 : zeroB (z.1.at_) = true := by simpa using hc5
   refine sk fun K89 hK89 => (wt (oS rfl (Yk.run (v := AB (List.replicate 32 0)) (by kernel_rfl) (oS rfl (Yk.storeAll (vr (PQ n10 0) rfl) (vr (AB (List.replicate 32 0)) rfl) hb20 (by exact idsize List.length_replicate List.length_replicate) (by exact sizeId_of List.length_replicate) (byteCells_one _) fun w90 hb91 hg92 hs93 => ?_)))))
   have hE := row_fresh hE hg92 (Nat.le_trans hz18 (by omega))
   have hb8 := kb hg92 hb8 (by omega)
   have hA16 := row_fresh hA16 hg92 (Nat.le_trans (Nat.le_refl _) (by omega))
   clear hA39
   have hb46 := kb hg92 hb46 (by omega)
   clear hb20
   have hb20 := hb91; clear hb91
   have hl94 := bl hb20
   refine oA rfl (oZ (tN (hK89 _ _ (wpF_ret (thenF_ret (postF_ret (fn := Tryd.f40) _ rfl [AB (List.replicate 32 0), NI 4] (.tuple #[AB (List.replicate 32 0), NI 4]) rfl ⟨ResF.row rfl hb20 wr51_ty25 rfl (by exact sizeId_of List.length_replicate), rfl, trivial⟩ ?_))))))
   have hT : refLookP z.1 s = (zid.1, 4) := by unfold refLookP; rw [if_pos hrt, hid, if_pos h5, if_pos hs]
   exact ⟨by rw [hT]; try rfl, hE⟩
  have h5 : zeroB (z.1.at_) = false := by simpa using hc5
  refine wpF_skip (tN (hK85 _ _ (sk fun K95 hK95 => (wt (oS rfl (Yk.loadAll (vr (PQ n33 0) rfl) hb46 wr51_ty25 rfl (by exact sizeId_of z.1.at_.2) (oS rfl (Yk.storeAll (vr (PQ n10 0) rfl) (vr (AB z.1.at_.1) rfl) hb20 (by exact idsize z.1.at_.2 List.length_replicate) (by exact sizeId_of z.1.at_.2) (byteCells_one _) fun w96 hb97 hg98 hs99 => ?_))))))))
  have hE := row_fresh hE hg98 (Nat.le_trans hz18 (by omega))
  have hb8 := kb hg98 hb8 (by omega)
  have hA16 := row_fresh hA16 hg98 (Nat.le_trans (Nat.le_refl _) (by omega))
  clear hA39
  have hb46 := kb hg98 hb46 (by omega)
  clear hb20
  have hb20 := hb97; clear hb97
  have hl100 := bl hb20
  refine oA rfl (oZ (tN (hK95 _ _ (wpF_ret (postF_ret (fn := Tryd.f40) _ rfl [AB z.1.at_.1, NI 0] (.tuple #[AB z.1.at_.1, NI 0]) rfl ⟨ResF.row rfl hb20 wr51_ty25 rfl (by exact sizeId_of z.1.at_.2), rfl, trivial⟩ ?_)))))
  have hT : refLookP z.1 s = ((z.1.at_).1, 0) := by unfold refLookP; rw [if_pos hrt, hid, if_neg (by rw [h5]; decide)]
  exact ⟨by rw [hT]; try rfl, hE⟩
 have hs : ¬ s = [] := hc1
 refine sk fun K101 hK101 => (wt (oS rfl (Yk.fieldAt wr51_fo49_0 (vr (PQ n2 0) rfl) (oS rfl (Yk.cell1 wr51_ty46 rfl (vr (PQ n2 0) rfl) (cellAt hb8 (show (refsC z)[0]? = some (z.2.branches : Value) from refs_g0 z)) (oM rfl (oS rfl (Yk.callA2 wr51_pl90 (vr z.2.branches rfl) T1 ((refLook_any _ z.2.branches z.1.branches (hmt.keep hE) (by have := hL.branches; omega) s).mono ?_)))))))))
 rintro e w103 ⟨rfl, hx102⟩
 refine ⟨_, rfl, ?_⟩
 have hE := hE.trans hx102
 have hb8 := eb hx102 hb8
 have hA16 := hA16.trans hx102
 have hb20 := eb hx102 hb20
 have hA39 := hA39.trans hx102
 have hb46 := eb hx102 hb46
 refine oS rfl (Yk.storeAll (vr (PQ n33 0) rfl) (vr (AB ((lookN z.1.branches s).1)) rfl) hb46 (by exact idsize (lookN z.1.branches s).2 List.length_replicate) (by exact sizeId_of (lookN z.1.branches s).2) (byteCells_one _) fun w104 hb105 hg106 hs107 => ?_)
 have hE := row_fresh hE hg106 (Nat.le_trans hz42 (by omega))
 have hb8 := kb hg106 hb8 (by omega)
 have hA16 := row_fresh hA16 hg106 (Nat.le_trans hz43 (by omega))
 have hb20 := kb hg106 hb20 (by omega)
 have hA39 := row_fresh hA39 hg106 (Nat.le_trans (Nat.le_refl _) (by omega))
 clear hb46
 have hb46 := hb105; clear hb105
 have hl108 := bl hb46
 refine oZ (tN (hK101 _ _ (sk fun K109 hK109 => (sk fun K110 hK110 => (wt (oS rfl (Yk.loadAll (vr (PQ n33 0) rfl) hb46 wr51_ty25 rfl (by exact sizeId_of (lookN z.1.branches s).2) (oS rfl (Yk.callA1 wr51_pl86 (vr (AB ((lookN z.1.branches s).1)) rfl) ((rfzero_any _ (lookN z.1.branches s)).mono ?_))))))))))
 rintro e w112 ⟨rfl, hx111⟩
 refine ⟨_, rfl, ?_⟩
 have hE := hE.trans hx111
 have hb8 := eb hx111 hb8
 have hA16 := hA16.trans hx111
 have hb20 := eb hx111 hb20
 have hA39 := hA39.trans hx111
 have hb46 := eb hx111 hb46
 refine oZ (tN (hK110 _ _ ?_))
 refine wpF_condB (zeroB (lookN z.1.branches s)) (vr (.bool (zeroB (lookN z.1.branches s))) rfl) (fun hc3 => ?_) (fun hc3 => ?_)
 ·have hz : zeroB (lookN z.1.branches s) = true := hc3
  have hid : refIdP z.1 s = lookN z.1.tags s := by unfold refIdP; rw [if_neg hs, if_pos hz]
  refine wt (oS rfl (Yk.fieldAt wr51_fo49_1 (vr (PQ n2 0) rfl) (oS rfl (Yk.cell1 wr51_ty46 rfl (vr (PQ n2 1) rfl) (cellAt hb8 (show (refsC z)[1]? = some (z.2.tags : Value) from refs_g1 z)) (oM rfl (oS rfl (Yk.callA2 wr51_pl90 (vr z.2.tags rfl) T1 ((refLook_any _ z.2.tags z.1.tags (hmg.keep hE) (by have := hL.tags; omega) s).mono ?_))))))))
  rintro e w114 ⟨rfl, hx113⟩
  refine ⟨_, rfl, ?_⟩
  have hE := hE.trans hx113
  have hb8 := eb hx113 hb8
  have hA16 := hA16.trans hx113
  have hb20 := eb hx113 hb20
  have hA39 := hA39.trans hx113
  have hb46 := eb hx113 hb46
  refine oS rfl (Yk.storeAll (vr (PQ n33 0) rfl) (vr (AB ((lookN z.1.tags s).1)) rfl) hb46 (by exact idsize (lookN z.1.tags s).2 (lookN z.1.branches s).2) (by exact sizeId_of (lookN z.1.tags s).2) (byteCells_one _) fun w115 hb116 hg117 hs118 => ?_)
  have hE := row_fresh hE hg117 (Nat.le_trans hz42 (by omega))
  have hb8 := kb hg117 hb8 (by omega)
  have hA16 := row_fresh hA16 hg117 (Nat.le_trans hz43 (by omega))
  have hb20 := kb hg117 hb20 (by omega)
  have hA39 := row_fresh hA39 hg117 (Nat.le_trans (Nat.le_refl _) (by omega))
  clear hb46
  have hb46 := hb116; clear hb116
  have hl119 := bl hb46
  refine oZ (tN (hK109 _ _ (sk fun K120 hK120 => (wt (oM rfl (oS rfl (Yk.callA1 wr51_pl91 T1 ((refUnhex_any _ s hsl).mono ?_))))))))
  rintro e w122 ⟨rfl, hx121⟩
  refine ⟨_, rfl, ?_⟩
  have hE := hE.trans hx121
  have hb8 := eb hx121 hb8
  have hA16 := hA16.trans hx121
  have hb20 := eb hx121 hb20
  have hA39 := hA39.trans hx121
  have hb46 := eb hx121 hb46
  refine oM rfl (oS rfl (Yk.extract (vs := [AB ((unhex s).1), .bool ((unhex s).2)]) (vr (.tuple #[AB ((unhex s).1), .bool ((unhex s).2)]) rfl) (show _ = some (AB ((unhex s).1) : Value) from rfl) (oS rfl (Yk.extract (vs := [AB ((unhex s).1), .bool ((unhex s).2)]) (vr (.tuple #[AB ((unhex s).1), .bool ((unhex s).2)]) rfl) (show _ = some (.bool ((unhex s).2) : Value) from rfl) (oS rfl (Yk.alloc (cs := (Lib.byteCells (List.replicate 32 0)).toArray) wr51_al25 fun n123 w124 hn125 hb126 hx127 hs128 => ?_))))))
  have hA129 := Ext.refl w122
  have hea130 := hE
  have hea131 := hA16
  have hea132 := hA39
  have hz133 := hE.size
  have hz134 := hA16.size
  have hz135 := hA39.size
  have hlt136 := lte (bl hb8) hn125
  have hlt137 := lte (bl hb20) hn125
  have hlt138 := lte (bl hb46) hn125
  have hE := hE.trans hx127
  have hb8 := eb hx127 hb8
  have hA16 := hA16.trans hx127
  have hb20 := eb hx127 hb20
  have hA39 := hA39.trans hx127
  have hb46 := eb hx127 hb46
  have hA129 := hA129.trans hx127
  have hb139 := hb126; clear hb126
  have hl140 : n123 < w124.heap.size := by omega
  refine oS rfl (Yk.storeAll (vr (PQ n123 0) rfl) (vr (AB ((unhex s).1)) rfl) hb139 (by exact idsize (unhex_length s) List.length_replicate) (by exact sizeId_of (unhex_length s)) (byteCells_one _) fun w141 hb142 hg143 hs144 => ?_)
  have hE := row_fresh hE hg143 (Nat.le_trans hz133 (by omega))
  have hb8 := kb hg143 hb8 (by omega)
  have hA16 := row_fresh hA16 hg143 (Nat.le_trans hz134 (by omega))
  have hb20 := kb hg143 hb20 (by omega)
  have hA39 := row_fresh hA39 hg143 (Nat.le_trans hz135 (by omega))
  have hb46 := kb hg143 hb46 (by omega)
  have hA129 := row_fresh hA129 hg143 (Nat.le_trans (Nat.le_refl _) (by omega))
  clear hb139
  have hb139 := hb142; clear hb142
  have hl145 := bl hb139
  refine oA rfl (oZ (tN (hK120 _ _ (sk fun K146 hK146 => (wt (oS rfl (Yk.loadAll (vr (PQ n33 0) rfl) hb46 wr51_ty25 rfl (by exact sizeId_of (lookN z.1.tags s).2) (oS rfl (Yk.callA1 wr51_pl86 (vr (AB ((lookN z.1.tags s).1)) rfl) ((rfzero_any _ (lookN z.1.tags s)).mono ?_))))))))))
  rintro e w148 ⟨rfl, hx147⟩
  refine ⟨_, rfl, ?_⟩
  have hE := hE.trans hx147
  have hb8 := eb hx147 hb8
  have hA16 := hA16.trans hx147
  have hb20 := eb hx147 hb20
  have hA39 := hA39.trans hx147
  have hb46 := eb hx147 hb46
  have hA129 := hA129.trans hx147
  have hb139 := eb hx147 hb139
  refine oM rfl (opsF_mayV (.bool ((unhex s).2)) rfl rfl (gT (vr (.bool (zeroB (lookN z.1.tags s))) rfl)) (fun hG149 => Yk.move (vr (.bool ((unhex s).2)) rfl) ⟨rfl, rfl⟩) (oS rfl (Yk.pickAndN (vr (.bool (zeroB (lookN z.1.tags s))) rfl) (fun hA => (mayT (vr (cond ((zeroB (lookN z.1.tags s))) (.bool ((unhex s).2)) undef) rfl) hA)) (vr (.bool (false)) rfl) fun bb150 hbb151 => (oZ (tN (hK146 _ _ ?_))))))
  refine wpF_condB (bb150) (vr (.bool (bb150)) rfl) (fun hc4 => ?_) (fun hc4 => ?_)
  ·subst hbb151
   have h4 : zeroB (lookN z.1.tags s) = true ∧ (unhex s).2 = true := by simpa using hc4
   refine sk fun K152 hK152 => (wt (oS rfl (Yk.loadAll (vr (PQ n123 0) rfl) hb139 wr51_ty25 rfl (by exact sizeId_of (unhex_length s)) (oS rfl (Yk.storeAll (vr (PQ n10 0) rfl) (vr (AB ((unhex s).1)) rfl) hb20 (by exact idsize (unhex_length s) List.length_replicate) (by exact sizeId_of (unhex_length s)) (byteCells_one _) fun w153 hb154 hg155 hs156 => ?_)))))
   have hE := row_fresh hE hg155 (Nat.le_trans hz18 (by omega))
   have hb8 := kb hg155 hb8 (by omega)
   have hA16 := row_fresh hA16 hg155 (Nat.le_trans (Nat.le_refl _) (by omega))
   clear hA39
   have hb46 := kb hg155 hb46 (by omega)
   clear hA129
   have hb139 := kb hg155 hb139 (by omega)
   clear hb20
   have hb20 := hb154; clear hb154
   have hl157 := bl hb20
   refine oA rfl (oZ (tN (hK152 _ _ (wpF_ret (thenF_ret (postF_ret (fn := Tryd.f40) _ rfl [AB ((unhex s).1), NI 0] (.tuple #[AB ((unhex s).1), NI 0]) rfl ⟨ResF.row rfl hb20 wr51_ty25 rfl (by exact sizeId_of (unhex_length s)), rfl, trivial⟩ ?_))))))
   have hT : refLookP z.1 s = ((unhex s).1, 0) := by unfold refLookP; rw [if_pos hrt, hid, if_pos h4.1, if_neg hs, if_pos h4.2]
   exact ⟨by rw [hT]; try rfl, hE⟩
  subst hbb151
  have h4 := hc4
  refine wpF_skip (tN (hK53 _ _ (sk fun K158 hK158 => (sk fun K159 hK159 => (wt (oS rfl (Yk.loadAll (vr (PQ n33 0) rfl) hb46 wr51_ty25 rfl (by exact sizeId_of (lookN z.1.tags s).2) (oS rfl (Yk.callA1 wr51_pl86 (vr (AB ((lookN z.1.tags s).1)) rfl) ((rfzero_any _ (lookN z.1.tags s)).mono ?_))))))))))
  rintro e w161 ⟨rfl, hx160⟩
  refine ⟨_, rfl, ?_⟩
  have hE := hE.trans hx160
  have hb8 := eb hx160 hb8
  have hA16 := hA16.trans hx160
  have hb20 := eb hx160 hb20
  have hA39 := hA39.trans hx160
  have hb46 := eb hx160 hb46
  have hA129 := hA129.trans hx160
  have hb139 := eb hx160 hb139
  refine oZ (tN (hK159 _ _ ?_))
  refine wpF_condB (zeroB (lookN z.1.tags s)) (vr (.bool (zeroB (lookN z.1.tags s))) rfl) (fun hc5 => ?_) (fun hc5 => ?_)
  ·have h5 : zeroB (lookN z.1.tags s) = true := by simpa using hc5
   have hu : (unhex s).2 = false := by rw [h5] at h4; simpa using h4
   refine sk fun K162 hK162 => (wt (oS rfl (Yk.run (v := AB (List.replicate 32 0)) (by kernel_rfl) (oS rfl (Yk.storeAll (vr (PQ n10 0) rfl) (vr (AB (List.replicate 32 0)) rfl) hb20 (by exact idsize List.length_replicate List.length_replicate) (by exact sizeId_of List.length_replicate) (byteCells_one _) fun w163 hb164 hg165 hs166 => ?_)))))
   have hE := row_fresh hE hg165 (Nat.le_trans hz18 (by omega))
   have hb8 := kb hg165 hb8 (by omega)
   have hA16 := row_fresh hA16 hg165 (Nat.le_trans (Nat.le_refl _) (by omega))
   clear hA39
   have hb46 := kb hg165 hb46 (by omega)
   clear hA129
   have hb139 := kb hg165 hb139 (by omega)
   clear hb20
   have hb20 := hb164; clear hb164
   have hl167 := bl hb20
   refine oA rfl (oZ (tN (hK162 _ _ (wpF_ret (thenF_ret (postF_ret (fn := Tryd.f40) _ rfl [AB (List.replicate 32 0), NI 4] (.tuple #[AB (List.replicate 32 0), NI 4]) rfl ⟨ResF.row rfl hb20 wr51_ty25 rfl (by exact sizeId_of List.length_replicate), rfl, trivial⟩ ?_))))))
   have hT : refLookP z.1 s = (zid.1, 4) := by unfold refLookP; rw [if_pos hrt, hid, if_pos h5, if_neg hs, if_neg (by rw [hu]; decide)]
   exact ⟨by rw [hT]; try rfl, hE⟩
  have h5 : zeroB (lookN z.1.tags s) = false := by simpa using hc5
  refine wpF_skip (tN (hK158 _ _ (sk fun K168 hK168 => (wt (oS rfl (Yk.loadAll (vr (PQ n33 0) rfl) hb46 wr51_ty25 rfl (by exact sizeId_of (lookN z.1.tags s).2) (oS rfl (Yk.storeAll (vr (PQ n10 0) rfl) (vr (AB ((lookN z.1.tags s).1)) rfl) hb20 (by exact idsize (lookN z.1.tags s).2 List.length_replicate) (by exact sizeId_of (lookN z.1.tags s).2) (byteCells_one _) fun w169 hb170 hg171 hs172 => ?_))))))))
  have hE := row_fresh hE hg171 (Nat.le_trans hz18 (by omega))
  have hb8 := kb hg171 hb8 (by omega)
  have hA16 := row_fresh hA16 hg171 (Nat.le_trans (Nat.le_refl _) (by omega))
  clear hA39
  have hb46 := kb hg171 hb46 (by omega)
  clear hA129
  have hb139 := kb hg171 hb139 (by omega)
  clear hb20
  have hb20 := hb170; clear hb170
  have hl173 := bl hb20
  refine oA rfl (oZ (tN (hK168 _ _ (wpF_ret (postF_ret (fn := Tryd.f40) _ rfl [AB ((lookN z.1.tags s).1), NI 0] (.tuple #[AB ((lookN z.1.tags s).1), NI 0]) rfl ⟨ResF.row rfl hb20 wr51_ty25 rfl (by exact sizeId_of (lookN z.1.tags s).2), rfl, trivial⟩ ?_)))))
  have hT : refLookP z.1 s = ((lookN z.1.tags s).1, 0) := by unfold refLookP; rw [if_pos hrt, hid, if_neg (by rw [h5]; decide)]
  exact ⟨by rw [hT]; try rfl, hE⟩
 have hz : zeroB (lookN z.1.branches s) = false := hc3
 have hid : refIdP z.1 s = lookN z.1.branches s := by unfold refIdP; rw [if_neg hs, if_neg (by rw [hz]; decide)]
 refine wpF_skip (tN (hK109 _ _ (sk fun K174 hK174 => (wt (oM rfl (oS rfl (Yk.callA1 wr51_pl91 T1 ((refUnhex_any _ s hsl).mono ?_))))))))
 rintro e w176 ⟨rfl, hx175⟩
 refine ⟨_, rfl, ?_⟩
 have hE := hE.trans hx175
 have hb8 := eb hx175 hb8
 have hA16 := hA16.trans hx175
 have hb20 := eb hx175 hb20
 have hA39 := hA39.trans hx175
 have hb46 := eb hx175 hb46
 refine oM rfl (oS rfl (Yk.extract (vs := [AB ((unhex s).1), .bool ((unhex s).2)]) (vr (.tuple #[AB ((unhex s).1), .bool ((unhex s).2)]) rfl) (show _ = some (AB ((unhex s).1) : Value) from rfl) (oS rfl (Yk.extract (vs := [AB ((unhex s).1), .bool ((unhex s).2)]) (vr (.tuple #[AB ((unhex s).1), .bool ((unhex s).2)]) rfl) (show _ = some (.bool ((unhex s).2) : Value) from rfl) (oS rfl (Yk.alloc (cs := (Lib.byteCells (List.replicate 32 0)).toArray) wr51_al25 fun n177 w178 hn179 hb180 hx181 hs182 => ?_))))))
 have hA183 := Ext.refl w176
 have hea184 := hE
 have hea185 := hA16
 have hea186 := hA39
 have hz187 := hE.size
 have hz188 := hA16.size
 have hz189 := hA39.size
 have hlt190 := lte (bl hb8) hn179
 have hlt191 := lte (bl hb20) hn179
 have hlt192 := lte (bl hb46) hn179
 have hE := hE.trans hx181
 have hb8 := eb hx181 hb8
 have hA16 := hA16.trans hx181
 have hb20 := eb hx181 hb20
 have hA39 := hA39.trans hx181
 have hb46 := eb hx181 hb46
 have hA183 := hA183.trans hx181
 have hb193 := hb180; clear hb180
 have hl194 : n177 < w178.heap.size := by omega
 refine oS rfl (Yk.storeAll (vr (PQ n177 0) rfl) (vr (AB ((unhex s).1)) rfl) hb193 (by exact idsize (unhex_length s) List.length_replicate) (by exact sizeId_of (unhex_length s)) (byteCells_one _) fun w195 hb196 hg197 hs198 => ?_)
 have hE := row_fresh hE hg197 (Nat.le_trans hz187 (by omega))
 have hb8 := kb hg197 hb8 (by omega)
 have hA16 := row_fresh hA16 hg197 (Nat.le_trans hz188 (by omega))
 have hb20 := kb hg197 hb20 (by omega)
 have hA39 := row_fresh hA39 hg197 (Nat.le_trans hz189 (by omega))
 have hb46 := kb hg197 hb46 (by omega)
 have hA183 := row_fresh hA183 hg197 (Nat.le_trans (Nat.le_refl _) (by omega))
 clear hb193
 have hb193 := hb196; clear hb196
 have hl199 := bl hb193
 refine oA rfl (oZ (tN (hK174 _ _ (sk fun K200 hK200 => (wt (oS rfl (Yk.loadAll (vr (PQ n33 0) rfl) hb46 wr51_ty25 rfl (by exact sizeId_of (lookN z.1.branches s).2) (oS rfl (Yk.callA1 wr51_pl86 (vr (AB ((lookN z.1.branches s).1)) rfl) ((rfzero_any _ (lookN z.1.branches s)).mono ?_))))))))))
 rintro e w202 ⟨rfl, hx201⟩
 refine ⟨_, rfl, ?_⟩
 have hE := hE.trans hx201
 have hb8 := eb hx201 hb8
 have hA16 := hA16.trans hx201
 have hb20 := eb hx201 hb20
 have hA39 := hA39.trans hx201
 have hb46 := eb hx201 hb46
 have hA183 := hA183.trans hx201
 have hb193 := eb hx201 hb193
 refine oM rfl (opsF_mayV (.bool ((unhex s).2)) rfl rfl (gT (vr (.bool (zeroB (lookN z.1.branches s))) rfl)) (fun hG203 => Yk.move (vr (.bool ((unhex s).2)) rfl) ⟨rfl, rfl⟩) (oS rfl (Yk.pickAndN (vr (.bool (zeroB (lookN z.1.branches s))) rfl) (fun hA => (mayT (vr (cond ((zeroB (lookN z.1.branches s))) (.bool ((unhex s).2)) undef) rfl) hA)) (vr (.bool (false)) rfl) fun bb204 hbb205 => (oZ (tN (hK200 _ _ ?_))))))
 refine wpF_condB (bb204) (vr (.bool (bb204)) rfl) (fun hc4 => ?_) (fun hc4 => ?_)
 ·subst hbb205
  have h4 : zeroB (lookN z.1.branches s) = true ∧ (unhex s).2 = true := by simpa using hc4
  refine sk fun K206 hK206 => (wt (oS rfl (Yk.loadAll (vr (PQ n177 0) rfl) hb193 wr51_ty25 rfl (by exact sizeId_of (unhex_length s)) (oS rfl (Yk.storeAll (vr (PQ n10 0) rfl) (vr (AB ((unhex s).1)) rfl) hb20 (by exact idsize (unhex_length s) List.length_replicate) (by exact sizeId_of (unhex_length s)) (byteCells_one _) fun w207 hb208 hg209 hs210 => ?_)))))
  have hE := row_fresh hE hg209 (Nat.le_trans hz18 (by omega))
  have hb8 := kb hg209 hb8 (by omega)
  have hA16 := row_fresh hA16 hg209 (Nat.le_trans (Nat.le_refl _) (by omega))
  clear hA39
  have hb46 := kb hg209 hb46 (by omega)
  clear hA183
  have hb193 := kb hg209 hb193 (by omega)
  clear hb20
  have hb20 := hb208; clear hb208
  have hl211 := bl hb20
  refine oA rfl (oZ (tN (hK206 _ _ (wpF_ret (thenF_ret (postF_ret (fn := Tryd.f40) _ rfl [AB ((unhex s).1), NI 0] (.tuple #[AB ((unhex s).1), NI 0]) rfl ⟨ResF.row rfl hb20 wr51_ty25 rfl (by exact sizeId_of (unhex_length s)), rfl, trivial⟩ ?_))))))
  have hT : refLookP z.1 s = ((unhex s).1, 0) := by unfold refLookP; rw [if_pos hrt, hid, if_pos h4.1, if_neg hs, if_pos h4.2]
  exact ⟨by rw [hT]; try rfl, hE⟩
 subst hbb205
 have h4 := hc4
 refine wpF_skip (tN (hK53 _ _ (sk fun K212 hK212 => (sk fun K213 hK213 => (wt (oS rfl (Yk.loadAll (vr (PQ n33 0) rfl) hb46 wr51_ty25 rfl (by exact sizeId_of (lookN z.1.branches s).2) (oS rfl (Yk.callA1 wr51_pl86 (vr (AB ((lookN z.1.branches s).1)) rfl) ((rfzero_any _ (lookN z.1.branches s)).mono ?_))))))))))
 rintro e w215 ⟨rfl, hx214⟩
 refine ⟨_, rfl, ?_⟩
 have hE := hE.trans hx214
 have hb8 := eb hx214 hb8
 have hA16 := hA16.trans hx214
 have hb20 := eb hx214 hb20
 have hA39 := hA39.trans hx214
 have hb46 := eb hx214 hb46
 have hA183 := hA183.trans hx214
 have hb193 := eb hx214 hb193
 refine oZ (tN (hK213 _ _ ?_))
 refine wpF_condB (zeroB (lookN z.1.branches s)) (vr (.bool (zeroB (lookN z.1.branches s))) rfl) (fun hc5 => ?_) (fun hc5 => ?_)
 ·have h5 : zeroB (lookN z.1.branches s) = true := by simpa using hc5
  have hu : (unhex s).2 = false := by rw [h5] at h4; simpa using h4
  refine sk fun K216 hK216 => (wt (oS rfl (Yk.run (v := AB (List.replicate 32 0)) (by kernel_rfl) (oS rfl (Yk.storeAll (vr (PQ n10 0) rfl) (vr (AB (List.replicate 32 0)) rfl) hb20 (by exact idsize List.length_replicate List.length_replicate) (by exact sizeId_of List.length_replicate) (byteCells_one _) fun w217 hb218 hg219 hs220 => ?_)))))
  have hE := row_fresh hE hg219 (Nat.le_trans hz18 (by omega))
  have hb8 := kb hg219 hb8 (by omega)
  have hA16 := row_fresh hA16 hg219 (Nat.le_trans (Nat.le_refl _) (by omega))
  clear hA39
  have hb46 := kb hg219 hb46 (by omega)
  clear hA183
  have hb193 := kb hg219 hb193 (by omega)
  clear hb20
  have hb20 := hb218; clear hb218
  have hl221 := bl hb20
  refine oA rfl (oZ (tN (hK216 _ _ (wpF_ret (thenF_ret (postF_ret (fn := Tryd.f40) _ rfl [AB (List.replicate 32 0), NI 4] (.tuple #[AB (List.replicate 32 0), NI 4]) rfl ⟨ResF.row rfl hb20 wr51_ty25 rfl (by exact sizeId_of List.length_replicate), rfl, trivial⟩ ?_))))))
  have hT : refLookP z.1 s = (zid.1, 4) := by unfold refLookP; rw [if_pos hrt, hid, if_pos h5, if_neg hs, if_neg (by rw [hu]; decide)]
  exact ⟨by rw [hT]; try rfl, hE⟩
 have h5 : zeroB (lookN z.1.branches s) = false := by simpa using hc5
 refine wpF_skip (tN (hK212 _ _ (sk fun K222 hK222 => (wt (oS rfl (Yk.loadAll (vr (PQ n33 0) rfl) hb46 wr51_ty25 rfl (by exact sizeId_of (lookN z.1.branches s).2) (oS rfl (Yk.storeAll (vr (PQ n10 0) rfl) (vr (AB ((lookN z.1.branches s).1)) rfl) hb20 (by exact idsize (lookN z.1.branches s).2 List.length_replicate) (by exact sizeId_of (lookN z.1.branches s).2) (byteCells_one _) fun w223 hb224 hg225 hs226 => ?_))))))))
 have hE := row_fresh hE hg225 (Nat.le_trans hz18 (by omega))
 have hb8 := kb hg225 hb8 (by omega)
 have hA16 := row_fresh hA16 hg225 (Nat.le_trans (Nat.le_refl _) (by omega))
 clear hA39
 have hb46 := kb hg225 hb46 (by omega)
 clear hA183
 have hb193 := kb hg225 hb193 (by omega)
 clear hb20
 have hb20 := hb224; clear hb224
 have hl227 := bl hb20
 refine oA rfl (oZ (tN (hK222 _ _ (wpF_ret (postF_ret (fn := Tryd.f40) _ rfl [AB ((lookN z.1.branches s).1), NI 0] (.tuple #[AB ((lookN z.1.branches s).1), NI 0]) rfl ⟨ResF.row rfl hb20 wr51_ty25 rfl (by exact sizeId_of (lookN z.1.branches s).2), rfl, trivial⟩ ?_)))))
 have hT : refLookP z.1 s = ((lookN z.1.branches s).1, 0) := by unfold refLookP; rw [if_pos hrt, hid, if_neg (by rw [h5]; decide)]
 exact ⟨by rw [hT]; try rfl, hE⟩
open Go.RowKit
theorem zero_zid : zeroB zid = true := by decide
theorem look_found {l : List Nmd} {s : Bs} (h : nlistB l = true) (hf : foundN l s (placeN l s) = true) : zeroB (l.getD (placeN l s) dNmd).id = false := by
  have h1 := nlistB_iff.1 h
  exact (h1.1 _ (getD_mem dNmd (found_lt hf))).2
theorem look_eq (r : Refs) (s : Bs) : lookP r s = refLookP r s := by
  unfold lookP refLookP refIdP
  by_cases hr : rightF r = true
  · rw [if_pos hr, if_pos hr]
    obtain ⟨h1, h2⟩ := rightF_iff.1 hr
    have hb := (nlistB_iff.1 h1.br).2.1
    have ht := (nlistB_iff.1 h1.tg).2.1
    by_cases hs : s = []
    · rw [if_pos hs, if_pos hs]
      by_cases hh : r.head = []
      · have hz : zeroB r.at_ = false := by
          have h3 := h1.hd
          unfold rE2 at h3
          cases hq : zeroB r.at_ with
          | false => rfl
          | true => rw [hq, hh] at h3; simp at h3
        rw [if_pos hh, if_pos hh, hz, if_neg (by decide)]
      · rw [if_neg hh, if_neg hh, lookN_eq hb]
        cases hf : foundN r.branches r.head (placeN r.branches r.head) with
        | true => have hz := look_found h1.br hf; generalize (List.getD r.branches _ dNmd).id = q at hz ⊢; simp [hz]
        | false => simp [zero_zid, hs]
    · rw [if_neg hs, if_neg hs, lookN_eq hb]
      cases hf : foundN r.branches s (placeN r.branches s) with
      | true => have hz := look_found h1.br hf; generalize (List.getD r.branches _ dNmd).id = q at hz ⊢; simp [hz]
      | false =>
        rw [lookN_eq ht]
        cases hg : foundN r.tags s (placeN r.tags s) with
        | true => have hz := look_found h1.tg hg; generalize (List.getD r.tags _ dNmd).id = q at hz ⊢; simp [zero_zid, hz]
        | false => simp [zero_zid, hs]
  · rw [if_neg hr, if_neg hr]
open Go.RowKit
section
variable {P : Program} {n : Nat} {ρ : Slots} {w : World} {Q : PostF}
def rowR (B : Nat) (cs : List Nat) (m : Nat) : World → World → Prop := bif cs.contains m then Below B else Ext
def lsOk (l : List Oper) (cs : List Nat) (ks ls : Nat → List Nat) : Bool := cs.all fun m => (ls m).all fun i => (ks m).contains i || Nat.beq i m || ((masks l []).getD i 0).testBit m
def AllCh (S : World → World → Prop) (ls : Nat → List Nat) (Φs : List Fact) : List Nat → Prop
  | [] => True
  | m :: r => AllStabX S (ls m) 0 Φs ∧ AllCh S ls Φs r
theorem AllCh.get {S : World → World → Prop} {ls : Nat → List Nat} {Φs : List Fact} : ∀ (cs : List Nat), AllCh S ls Φs cs → ∀ m, cs.contains m = true → AllStabX S (ls m) 0 Φs
  | [], _, m, h => by simp at h
  | c :: r, h, m, hm => by
    by_cases e : m = c
    · subst e; exact h.1
    · exact AllCh.get r h.2 m (by simpa [e] using hm)
theorem wpF_draw_rowsB {l : List Oper} (B : Nat) (hB : B ≤ w.heap.size) (cs : List Nat) (ks ls : Nat → List Nat) (Φs : List Fact) {id : Nat} (hm : P.follows .mixedOrders = true) (ds : List Tmp) (hg : goodB l n = true) (hkl : killB l ks = true) (hds : slotsW l = ds)
    (hls : lsOk l cs ks ls = true) (hgc : (cs.all fun m => ((l[m]?).bind (·.guard)).isNone) = true) (hst : AllStab Ext Φs) (hsB : AllCh (Below B) ls Φs cs)
    (hs : StepsF P l (fun _ => Below B w) (rowR B cs) (facts Φs) ρ 0 l)
    (hQ : ∀ (ρ' : Slots) w', Below B w w' → EndF ds ρ ρ' → EndFacts l ks (facts Φs) ρ' w' ds → Q .normal ρ' w') : wpF P n (.region id l.toArray true) Q ρ w := by
  have step : ∀ m a b, Below B w a → rowR B cs m a b → Below B w b := fun m a b h k => by
    unfold rowR at k
    cases hc : cs.contains m <;> rw [hc] at k
    · exact Below.trans h (Below.mono k (Nat.le_trans hB h.size))
    · exact Below.trans h k
  intro a ha
  obtain ⟨T, df⟩ := a
  have hz : T.size = n := ha.size
  subst hz
  refine wp_region_core ks (fun _ => Below B w) (fun _ w' => Below B w w') _ (facts Φs) hm T df hg hkl ds hds (fun m i _ _ _ _ w1 w' hc hr => step m _ _ hc hr) (fun m listed w1 w' _ _ _ _ hE hR => step m _ _ hE hR) (fun m i hm' hi hni hne hbit v w1 w' h hr => ?_) (fun m o w1 ho hgo => ?_) (fun _ _ => (Below.refl _ _).drew) (Below.refl _ _).drew (StepsF.ok ha.get l 0 hs) (fun u listed w' hall hE hf => ?_)
  · unfold rowR at hr
    cases hc : cs.contains m <;> rw [hc] at hr
    · exact hst.get Φs i v w1 w' h hr
    · refine (AllCh.get cs hsB m hc).get Φs 0 i ?_ v w1 w' h hr
      rw [Nat.zero_add]
      intro hmem
      unfold lsOk at hls
      have h1 := List.all_eq_true.1 (List.all_eq_true.1 hls m (by simpa using hc)) i hmem
      simp only [Bool.or_eq_true] at h1
      rcases h1 with (h1 | h1) | h1
      · exact hni (by simpa using h1)
      · exact hne (Nat.eq_of_beq_eq_true h1)
      · rw [h1] at hbit
        cases hbit
  · unfold rowR
    cases hc : cs.contains m
    · exact Ext.refl w1
    · have := List.all_eq_true.1 hgc m (by simpa using hc)
      rw [ho] at this
      simp only [Option.bind_some, Option.isNone_iff_eq_none] at this
      rw [this] at hgo
      cases hgo
  · have hw := wrote_slots ha.get ds (good_room hg ds hds) u
    refine ⟨fun t => if t ∈ ds then u t else ρ t, ⟨by rw [wrote_size], ha.defers, hw⟩, hQ _ w' hE ⟨fun t ht => if_neg (by simpa using ht)⟩ ?_⟩
    have key : ∀ es : List Tmp, (∀ d ∈ es, d ∈ ds) → EndFacts l ks (facts Φs) u w' es → EndFacts l ks (facts Φs) (fun t => if t ∈ ds then u t else ρ t) w' es := by
      intro es
      induction es with
      | nil => exact fun _ _ => trivial
      | cons d es ih =>
        intro hm h
        refine ⟨?_, ih (fun x hx => hm x (by simp [hx])) h.2⟩
        have := h.1
        simp only [if_pos (hm d (by simp))]
        exact this
    exact key ds (fun _ h => h) hf
end
open Go.RowKit
structure BX (N : Nat) (r : Option Nat) (w w' : World) : Prop where
  os : w'.os = w.os
  tape : w'.tape = w.tape
  output : w'.output = w.output
  size : w.heap.size ≤ w'.heap.size
  block : ∀ k, k < N → some k ≠ r → w'.heap[k]? = w.heap[k]?
section
variable {N B : Nat} {r : Option Nat} {w w' w1 w0 : World} {e t : TypeId}
theorem BX.trans {a b c : World} (h : BX N r a b) (k : BX N r b c) : BX N r a c := ⟨k.os.trans h.os, k.tape.trans h.tape, k.output.trans h.output, Nat.le_trans h.size k.size, fun i hi hr => (k.block i hi hr).trans (h.block i hi hr)⟩
theorem BX.ofExt (h : Ext w w') (hN : N ≤ w.heap.size) : BX N r w w' := ⟨h.os, h.tape, h.output, h.size, fun k hk _ => h.block k (Nat.lt_of_lt_of_le hk hN)⟩
theorem BX.ofGrown {q : Option Nat} (h : w.grownBy w' q) (hN : N ≤ w.heap.size) (hq : ∀ k, q = some k → r = some k ∨ N ≤ k) : BX N r w w' :=
  ⟨h.os, h.tape, h.output, h.size, fun k hk hr => h.block k (Nat.lt_of_lt_of_le hk hN) (fun e => (hq k e.symm).elim (fun x => hr x.symm) (fun x => by omega))⟩
theorem BX.grown (h : BX w.heap.size r w w') : w.grownBy w' r := ⟨h.os, h.tape, h.output, h.size, h.block⟩
theorem ext_bx (h : Ext w0 w) (k : BX N r w w1) (hle : w0.heap.size ≤ N) (hr : ∀ k, r = some k → w0.heap.size ≤ k) : Ext w0 w1 :=
  Below.trans h ⟨k.os, k.tape, k.output, k.size, fun i hi => k.block i (Nat.lt_of_lt_of_le hi hle) (fun e => by have := hr i e.symm; omega)⟩
theorem BX.blk {g : Nat} {o : Obj} (k : BX w.heap.size r w w1) (h : w.heap[g]? = some o) (hne : r ≠ some g) : w1.heap[g]? = some o := (k.block g (Array.getElem?_eq_some_iff.1 h).1 (fun e => hne e.symm)).trans h
end
section
variable {P : Program} {n : Nat} {ρ : Slots} {w : World} {Q : PostF}
def rowXC (w : World) (r : Option Nat) (es : List Nat) (m : Nat) : World → Prop := bif es.contains m then Ext w else BX w.heap.size r w
def rowXR (N : Nat) (r : Option Nat) (cs : List Nat) (m : Nat) : World → World → Prop := bif cs.contains m then BX N r else Ext
def esOk (l : List Oper) (cs es : List Nat) : Bool := cs.all fun m => es.all fun i => ((masks l []).getD m 0).testBit i
theorem wpF_draw_rowsX {l : List Oper} (r : Option Nat) (cs es : List Nat) (ks ls : Nat → List Nat) (Φs : List Fact) {id : Nat} (hm : P.follows .mixedOrders = true) (ds : List Tmp) (hg : goodB l n = true) (hkl : killB l ks = true) (hds : slotsW l = ds)
    (hls : lsOk l cs ks ls = true) (hes : esOk l cs es = true) (hgc : (cs.all fun m => ((l[m]?).bind (·.guard)).isNone) = true) (hst : AllStab Ext Φs) (hsB : AllCh (BX w.heap.size r) ls Φs cs)
    (hs : StepsF P l (rowXC w r es) (rowXR w.heap.size r cs) (facts Φs) ρ 0 l)
    (hQ : ∀ (ρ' : Slots) w', BX w.heap.size r w w' → EndF ds ρ ρ' → EndFacts l ks (facts Φs) ρ' w' ds → Q .normal ρ' w') : wpF P n (.region id l.toArray true) Q ρ w := by
  have stepR : ∀ m a b, BX w.heap.size r w a → rowXR w.heap.size r cs m a b → BX w.heap.size r w b := fun m a b h k => by
    unfold rowXR at k
    cases hc : cs.contains m <;> rw [hc] at k
    · exact h.trans (BX.ofExt k h.size)
    · exact h.trans k
  have drew : Ext w w.drew := (Below.refl _ _).drew
  intro a ha
  obtain ⟨T, df⟩ := a
  have hz : T.size = n := ha.size
  subst hz
  refine wp_region_core ks (rowXC w r es) (fun _ w' => BX w.heap.size r w w') _ (facts Φs) hm T df hg hkl ds hds (fun m i _ _ hne hbit w1 w' hc hr => ?_) (fun m listed w1 w' _ _ _ _ hE hR => stepR m _ _ hE hR) (fun m i hm' hi hni hne hbit v w1 w' h hr => ?_) (fun m o w1 ho hgo => ?_) (fun m _ => ?_) (BX.ofExt drew (Nat.le_refl _)) (StepsF.ok ha.get l 0 hs) (fun u listed w' hall hE hf => ?_)
  · unfold rowXC at hc ⊢
    cases he : es.contains i <;> rw [he] at hc
    · exact stepR m _ _ hc hr
    · unfold rowXR at hr
      cases hcm : cs.contains m <;> rw [hcm] at hr
      · exact Ext.trans hc hr
      · unfold esOk at hes
        have := List.all_eq_true.1 (List.all_eq_true.1 hes m (by simpa using hcm)) i (by simpa using he)
        rw [this] at hbit
        cases hbit
  · unfold rowXR at hr
    cases hc : cs.contains m <;> rw [hc] at hr
    · exact hst.get Φs i v w1 w' h hr
    · refine (AllCh.get cs hsB m hc).get Φs 0 i ?_ v w1 w' h hr
      rw [Nat.zero_add]
      intro hmem
      unfold lsOk at hls
      have h1 := List.all_eq_true.1 (List.all_eq_true.1 hls m (by simpa using hc)) i hmem
      simp only [Bool.or_eq_true] at h1
      rcases h1 with (h1 | h1) | h1
      · exact hni (by simpa using h1)
      · exact hne (Nat.eq_of_beq_eq_true h1)
      · rw [h1] at hbit
        cases hbit
  · unfold rowXR
    cases hc : cs.contains m
    · exact Ext.refl w1
    · have := List.all_eq_true.1 hgc m (by simpa using hc)
      rw [ho] at this
      simp only [Option.bind_some, Option.isNone_iff_eq_none] at this
      rw [this] at hgo
      cases hgo
  · unfold rowXC
    cases es.contains m
    · exact BX.ofExt drew (Nat.le_refl _)
    · exact drew
  · have hw := wrote_slots ha.get ds (good_room hg ds hds) u
    refine ⟨fun t => if t ∈ ds then u t else ρ t, ⟨by rw [wrote_size], ha.defers, hw⟩, hQ _ w' hE ⟨fun t ht => if_neg (by simpa using ht)⟩ ?_⟩
    have key : ∀ es : List Tmp, (∀ d ∈ es, d ∈ ds) → EndFacts l ks (facts Φs) u w' es → EndFacts l ks (facts Φs) (fun t => if t ∈ ds then u t else ρ t) w' es := by
      intro es
      induction es with
      | nil => exact fun _ _ => trivial
      | cons d es ih =>
        intro hm h
        refine ⟨?_, ih (fun x hx => hm x (by simp [hx])) h.2⟩
        have := h.1
        simp only [if_pos (hm d (by simp))]
        exact this
    exact key ds (fun _ h => h) hf
end
open Go.RowKit
theorem cmp_self : ∀ a : List UInt8, Lib.compareBytes a a = 0
  | [] => rfl
  | x :: a => by simp [Lib.compareBytes, UInt8.lt_irrefl, cmp_self a]
theorem cmp_range : ∀ a b : List UInt8, Lib.compareBytes a b = -1 ∨ Lib.compareBytes a b = 0 ∨ Lib.compareBytes a b = 1
  | [], [] => .inr (.inl rfl)
  | [], _ :: _ => .inl rfl
  | _ :: _, [] => .inr (.inr rfl)
  | x :: a, y :: b => by
    unfold Lib.compareBytes
    split
    · exact .inl rfl
    · split
      · exact .inr (.inr rfl)
      · exact cmp_range a b
theorem cmp_zero : ∀ {a b : List UInt8}, Lib.compareBytes a b = 0 → a = b
  | [], [], _ => rfl
  | [], _ :: _, h => by simp [Lib.compareBytes] at h
  | _ :: _, [], h => by simp [Lib.compareBytes] at h
  | x :: a, y :: b, h => by
    unfold Lib.compareBytes at h
    split at h
    · cases h
    · split at h
      · cases h
      · rename_i h1 h2
        have hxy : x = y := UInt8.le_antisymm (UInt8.not_lt.1 h2) (UInt8.not_lt.1 h1)
        rw [hxy, cmp_zero h]
theorem cmp_neg : ∀ a b : List UInt8, Lib.compareBytes a b = - Lib.compareBytes b a
  | [], [] => rfl
  | [], _ :: _ => rfl
  | _ :: _, [] => rfl
  | x :: a, y :: b => by
    unfold Lib.compareBytes
    by_cases h1 : x < y
    · rw [if_pos h1, if_neg (UInt8.lt_asymm h1), if_pos h1]
    · by_cases h2 : y < x
      · rw [if_neg h1, if_pos h2, if_pos h2]; rfl
      · rw [if_neg h1, if_neg h2, if_neg h2, if_neg h1]
        exact cmp_neg a b
theorem cmp_trans : ∀ {a b c : List UInt8}, Lib.compareBytes a b ≤ 0 → Lib.compareBytes b c ≤ 0 → Lib.compareBytes a c ≤ 0
  | [], _, [], _, _ => by simp [Lib.compareBytes]
  | [], _, _ :: _, _, _ => by simp [Lib.compareBytes]
  | _ :: _, [], _, h, _ => by simp [Lib.compareBytes] at h
  | _ :: _, _ :: _, [], _, h => by simp [Lib.compareBytes] at h
  | x :: a, y :: b, z :: c, h1, h2 => by
    unfold Lib.compareBytes at h1 h2 ⊢
    by_cases xy : x < y
    · by_cases yz : y < z
      · rw [if_pos (UInt8.lt_trans xy yz)]; decide
      · by_cases zy : z < y
        · rw [if_neg yz, if_pos zy] at h2; exact absurd h2 (by decide)
        · have : y = z := UInt8.le_antisymm (UInt8.not_lt.1 zy) (UInt8.not_lt.1 yz)
          rw [← this, if_pos xy]; decide
    · by_cases yx : y < x
      · rw [if_neg xy, if_pos yx] at h1; exact absurd h1 (by decide)
      · have e : x = y := UInt8.le_antisymm (UInt8.not_lt.1 yx) (UInt8.not_lt.1 xy)
        subst e
        rw [if_neg xy, if_neg xy] at h1
        by_cases xz : x < z
        · rw [if_pos xz]; decide
        · by_cases zx : z < x
          · rw [if_neg xz, if_pos zx] at h2; exact absurd h2 (by decide)
          · rw [if_neg xz, if_neg zx] at h2 ⊢
            exact cmp_trans h1 h2
def Asc (l : List (List UInt8)) : Prop := l.Pairwise fun a b => Lib.compareBytes a b ≤ 0
theorem asc_perm : ∀ {l m : List (List UInt8)}, Asc l → Asc m → l.Perm m → l = m
  | [], m, _, _, h => (List.nil_perm.1 h).symm
  | l, [], _, _, h => List.perm_nil.1 h
  | a :: l, b :: m, h1, h2, h => by
    have ha := List.pairwise_cons.1 h1
    have hb := List.pairwise_cons.1 h2
    have e : a = b := by
      have m1 : a ∈ b :: m := h.subset (by simp)
      have m2 : b ∈ a :: l := h.symm.subset (by simp)
      rcases List.mem_cons.1 m1 with e | m1
      · exact e
      · rcases List.mem_cons.1 m2 with e | m2
        · exact e.symm
        · have k1 := hb.1 a m1
          have k2 := ha.1 b m2
          have k3 := cmp_neg a b
          exact cmp_zero (by omega)
    subst e
    rw [asc_perm ha.2 hb.2 (List.Perm.cons_inv h)]
def insB (x : List UInt8) : List (List UInt8) → List (List UInt8)
  | [] => [x]
  | a :: r => if Lib.compareBytes x a ≤ 0 then x :: a :: r else a :: insB x r
def sortB : List (List UInt8) → List (List UInt8)
  | [] => []
  | a :: r => insB a (sortB r)
theorem insB_perm (x : List UInt8) : ∀ l, (insB x l).Perm (x :: l)
  | [] => List.Perm.refl _
  | a :: r => by
    unfold insB
    split
    · exact List.Perm.refl _
    · exact ((insB_perm x r).cons a).trans (List.Perm.swap x a r)
theorem sortB_perm : ∀ l, (sortB l).Perm l
  | [] => List.Perm.refl _
  | a :: r => (insB_perm a _).trans ((sortB_perm r).cons a)
theorem insB_asc (x : List UInt8) : ∀ l, Asc l → Asc (insB x l)
  | [], _ => by simp [insB, Asc]
  | a :: r, h => by
    have hr := List.pairwise_cons.1 h
    unfold insB
    split
    · rename_i hx
      refine List.pairwise_cons.2 ⟨fun c hc => ?_, h⟩
      rcases List.mem_cons.1 hc with rfl | hc
      · exact hx
      · exact cmp_trans hx (hr.1 c hc)
    · rename_i hx
      refine List.pairwise_cons.2 ⟨fun c hc => ?_, insB_asc x r hr.2⟩
      rcases List.mem_cons.1 ((insB_perm x r).subset hc) with rfl | hc
      · have := cmp_neg c a
        omega
      · exact hr.1 c hc
theorem sortB_asc : ∀ l, Asc (sortB l)
  | [] => List.Pairwise.nil
  | a :: r => insB_asc a _ (sortB_asc r)
theorem sortB_len (l : List (List UInt8)) : (sortB l).length = l.length := (sortB_perm l).length_eq
theorem asc_sortB {l m : List (List UInt8)} (h : Asc m) (hp : m.Perm l) : m = sortB l := asc_perm h (sortB_asc l) (hp.trans (sortB_perm l).symm)
open Go.RowKit
section
variable {P : Program} {K : Value → World → Prop} {ρ : Slots} {w w0 : World} {d : Option Tmp} {ty : TypeId} {pos : String} {af : Array Edge} {gd : Option (Nat × Bool)}
variable {α : Type} {k : Nat} {enc : α → List Value} {t e : TypeId}
theorem Yk.makeG (base : Nat) (z : Value) (bytes : Nat) (ht : P.underlying t = some (.slice e)) (hi : (P.info? e).map (fun i => (i.zero, i.size, i.bytes)) = some (some z, k, bytes)) {x y : Operand} {kl kc : IntKind} {n : Nat} (hx : evalR ρ x = .int kl 0) (hy : evalR ρ y = .int kc (n : Int)) (hb : bytes * n ≤ 281474976710656) (hn : n ≤ 9223372036854775807) (hbase : base ≤ w.heap.size)
    (hk : ∀ v w', OG base e k enc w' v ([] : List α) → Ext w w' → K v w') : Yk P K ((execOp (evalR ρ) ⟨d, .makeSlice t x y, ty, pos, af, gd⟩).run P w) := by
  obtain ⟨i, hi, hz, hsize, hby⟩ := info_parts hi
  obtain ⟨w', hr, h2, h3⟩ := run_make_own (P := P) (w := w) base t e i z k ht hi hz hsize kl kc n (by rw [hby]; exact hb) (by unfold maxLen; omega) hbase
  refine Yk.value (v := .slice (some ⟨w.heap.size, 0, none⟩) 0 n) (w' := w') ?_ (hk _ w' ⟨by simp, h2⟩ (Ext.of h3))
  unfold execOp
  simp only [hx, hy, hr, Sem.run_bind, Sem.run_pure, Result.andThen_ok]
theorem OG.base {α : Type} {b b' k : Nat} {e : TypeId} {enc : α → List Value} {v : Value} {l : List α} (h : OG b e k enc w v l) (hb : b' ≤ b) : OG b' e k enc w v l := ⟨h.1, ownsRow_base h.2 hb⟩
def RowG {α : Type} (B N : Nat) (e : TypeId) (k : Nat) (enc : α → List Value) (r : Option Nat) (l : List α) (x : Value) (w' : World) : Prop := OG B e k enc w' x l ∧ ∀ k, x.ownBlock = some k → r = some k ∨ N ≤ k
theorem RG.nilOwn (w : World) (b : Nat) (e : TypeId) : OG b e k enc w (.slice none 0 0) ([] : List α) := OG.nil b e k enc w
structure MI (l O A B : List (List UInt8)) : Prop where
  perm : (O ++ (A ++ B)).Perm l
  ascO : Asc O
  ascA : Asc A
  ascB : Asc B
  le : ∀ x ∈ O, ∀ y ∈ A ++ B, Lib.compareBytes x y ≤ 0
theorem MI.start {l A B : List (List UInt8)} {h : Nat} (hA : A.Perm (l.take h)) (hB : B.Perm (l.drop h)) (a1 : Asc A) (b1 : Asc B) : MI l [] A B :=
  ⟨by rw [List.nil_append]; exact (hA.append hB).trans (by rw [List.take_append_drop]), List.Pairwise.nil, a1, b1, by simp⟩
theorem MI.left {l O A B : List (List UInt8)} (h : MI l O A B) (hA : 0 < A.length) (hB : 0 < B.length) (hc : Lib.compareBytes (A.getD 0 []) (B.getD 0 []) ≤ 0) : MI l (O ++ [A.getD 0 []]) (A.drop 1) B := by
  match A, B, hA, hB, h, hc with
  | a :: A, b :: B, _, _, h, hc =>
    simp only [List.getD_cons_zero, List.drop_succ_cons, List.drop_zero] at hc ⊢
    have hp := List.pairwise_cons.1 h.ascA
    have hq := List.pairwise_cons.1 h.ascB
    have hall : ∀ y ∈ A ++ b :: B, Lib.compareBytes a y ≤ 0 := fun y hy => by
      rcases List.mem_append.1 hy with h1 | h1
      · exact hp.1 y h1
      · rcases List.mem_cons.1 h1 with rfl | h1
        · exact hc
        · exact cmp_trans hc (hq.1 y h1)
    refine ⟨by rw [List.append_assoc]; exact h.perm, ?_, hp.2, h.ascB, ?_⟩
    · unfold Asc
      rw [List.pairwise_append]
      exact ⟨h.ascO, by simp, fun x hx y hy => by rw [List.mem_singleton.1 hy]; exact h.le x hx a (by simp)⟩
    · intro x hx y hy
      rcases List.mem_append.1 hx with h1 | h1
      · exact h.le x h1 y (by simp only [List.cons_append, List.mem_cons]; exact .inr hy)
      · rw [List.mem_singleton.1 h1]; exact hall y hy
theorem MI.right {l O A B : List (List UInt8)} (h : MI l O A B) (hA : 0 < A.length) (hB : 0 < B.length) (hc : ¬ Lib.compareBytes (A.getD 0 []) (B.getD 0 []) ≤ 0) : MI l (O ++ [B.getD 0 []]) A (B.drop 1) := by
  match A, B, hA, hB, h, hc with
  | a :: A, b :: B, _, _, h, hc =>
    simp only [List.getD_cons_zero, List.drop_succ_cons, List.drop_zero] at hc ⊢
    have hp := List.pairwise_cons.1 h.ascA
    have hq := List.pairwise_cons.1 h.ascB
    have hba : Lib.compareBytes b a ≤ 0 := by have := cmp_neg a b; omega
    have hall : ∀ y ∈ a :: A ++ B, Lib.compareBytes b y ≤ 0 := fun y hy => by
      rcases List.mem_append.1 hy with h1 | h1
      · rcases List.mem_cons.1 h1 with rfl | h1
        · exact hba
        · exact cmp_trans hba (hp.1 y h1)
      · exact hq.1 y h1
    refine ⟨?_, ?_, h.ascA, hq.2, ?_⟩
    · refine List.Perm.trans ?_ h.perm
      rw [List.append_assoc]
      refine List.Perm.append_left O ?_
      simp only [List.singleton_append]
      exact (List.perm_middle (l₁ := a :: A) (l₂ := B) (a := b)).symm
    · unfold Asc
      rw [List.pairwise_append]
      exact ⟨h.ascO, by simp, fun x hx y hy => by rw [List.mem_singleton.1 hy]; exact h.le x hx b (by simp)⟩
    · intro x hx y hy
      rcases List.mem_append.1 hx with h1 | h1
      · exact h.le x h1 y (by
          rcases List.mem_append.1 hy with h2 | h2
          · exact List.mem_append_left _ h2
          · exact List.mem_append_right _ (by simp [h2]))
      · rw [List.mem_singleton.1 h1]; exact hall y hy
theorem MI.done {l O A B : List (List UInt8)} (h : MI l O A B) (he : A.length = 0 ∨ B.length = 0) : ((O ++ A) ++ B).Perm l ∧ Asc ((O ++ A) ++ B) := by
  refine ⟨by rw [List.append_assoc]; exact h.perm, ?_⟩
  rw [List.append_assoc]
  unfold Asc
  rw [List.pairwise_append]
  refine ⟨h.ascO, ?_, h.le⟩
  rcases he with he | he
  · rw [List.eq_nil_of_length_eq_zero he, List.nil_append]; exact h.ascB
  · rw [List.eq_nil_of_length_eq_zero he, List.append_nil]; exact h.ascA
theorem asc_short {l : List (List UInt8)} (h : l.length < 2) : Asc l := by
  match l, h with
  | [], _ => exact List.Pairwise.nil
  | [a], _ => simp [Asc]
end
open Go.RowKit
set_option maxRecDepth 100000
theorem wr45_ty23 : Tryd.prog.underlying 23 = some (.slice 25) := by kernel_rfl
theorem wr45_ig25 : ∃ z, (Tryd.prog.info? 25).map (fun i => (i.zero, i.size, i.bytes)) = some (some z, 32, 32) ∧ z.cells.size = 32 := info_ex (by kernel_rfl)
theorem wr45_szg25 : ∀ w' : World, (sizeOf 25).run Tryd.prog w' = .ok 32 w' := fun _ => by kernel_rfl
theorem wr45_pl167 : Plain Tryd.prog 167 := fun _ _ => by kernel_rfl
theorem wr45_ty25 : Tryd.prog.underlying 25 = some (.array 32 5) := by kernel_rfl
theorem wr45_isz25 : (Tryd.prog.info? 25).map (·.size) = some 32 := by kernel_rfl
theorem wr45_pl142 : Plain Tryd.prog 142 := fun _ _ => by kernel_rfl
theorem wr45_lh23 (c0 c1 c2 c3 c4 c5 c6 c7 c8 c9 c10 c11 c12 c13 c14 c15 c16 c17 c18 c19 c20 c21 c22 c23 c24 c25 c26 c27 c28 c29 c30 c31 : Value) (w : World) : (Instr.buildSlice 23 1 #[(0, .agg #[c0, c1, c2, c3, c4, c5, c6, c7, c8, c9, c10, c11, c12, c13, c14, c15, c16, c17, c18, c19, c20, c21, c22, c23, c24, c25, c26, c27, c28, c29, c30, c31])]).run Tryd.prog w = .ok (.slice (some ⟨w.heap.size, 0, none⟩) 1 1) (w.alloc (.cells #[c0, c1, c2, c3, c4, c5, c6, c7, c8, c9, c10, c11, c12, c13, c14, c15, c16, c17, c18, c19, c20, c21, c22, c23, c24, c25, c26, c27, c28, c29, c30, c31] 25)) := by kernel_rfl
theorem wr45_lg23 : ∀ (cs : Array Value), cs.size = 32 → ∀ w : World, (Instr.buildSlice 23 1 #[(0, .agg cs)]).run Tryd.prog w = .ok (.slice (some ⟨w.heap.size, 0, none⟩) 1 1) (w.alloc (.cells cs 25))
 | ⟨[c0, c1, c2, c3, c4, c5, c6, c7, c8, c9, c10, c11, c12, c13, c14, c15, c16, c17, c18, c19, c20, c21, c22, c23, c24, c25, c26, c27, c28, c29, c30, c31]⟩, _, w => wr45_lh23 c0 c1 c2 c3 c4 c5 c6 c7 c8 c9 c10 c11 c12 c13 c14 c15 c16 c17 c18 c19 c20 c21 c22 c23 c24 c25 c26 c27 c28 c29 c30 c31 w
theorem merge_step (n : Nat) (ih : ∀ l : List Bs, l.length < n → ∀ (w : World) (v : Value), RG 32 Lib.byteCells w v l → Calls Tryd.prog 167 #[v, .func (.func 142) #[] #[]] w fun e w' => ∃ v' m, e = .returned v' ∧ OG w.heap.size 25 32 Lib.byteCells w' v' m ∧ m.Perm l ∧ Asc m ∧ Ext w w') (l : List Bs) (hn : l.length = n) (hlim : l.length ≤ 1048576) (w : World) (v : Value) (hr : RG 32 Lib.byteCells w v l) :
  Calls Tryd.prog 167 #[v, .func (.func 142) #[] #[]] w fun e w' => ∃ v' m, e = .returned v' ∧ OG w.heap.size 25 32 Lib.byteCells w' v' m ∧ m.Perm l ∧ Asc m ∧ Ext w w' := by
 refine calls_of_wpF (args := [v, .func (.func 142) #[] #[]]) Tryd.func167 rfl 68 rfl (Nat.le_of_ble_eq_true rfl) ?_
 intro ρ0 hb
 have T0 : ρ0 0 = (v : Value) := hb.get 0
 have T1 : ρ0 1 = (.func (.func 142) #[] #[] : Value) := hb.get 1
 clear hb
 have hE := Ext.refl w
 refine sk fun K1 hK1 => (wt (oA rfl (oZ (tN (hK1 _ _ (sk fun K2 hK2 => (sk fun K3 hK3 => (wt (oM rfl (oS rfl (Yk.lenRG wr45_ty23 (RG.of hr T0) (oS rfl (Yk.eqI (a := (l.length : Nat)) (b := (2 : Nat)) rfl rfl (k_lss _ _ _ _) (oZ (tN (hK3 _ _ ?_))))))))))))))))
 refine wpF_cond ((l.length) < (2)) (vr (.bool (decide ((l.length) < (2)))) rfl) (fun hc0 => ?_) (fun hc0 => ?_)
 ·refine sk fun K4 hK4 => (wt (oM rfl (oS rfl (Yk.appendRG _ _ w.heap.size _ 32 wr45_ty23 wr45_ig25.choose_spec.1 wr45_ig25.choose_spec.2 wr45_ty23 ([]) (l) (RG.nilOwn _ _ _) (RG.of hr T0) (fun _ _ => byteCells_one _) (by simp only [List.length_nil]; omega) (by simp only [List.length_nil]; omega) hE.size fun v5 w6 ho7 hg8 => ?_))))
  have hg8 : Grew w w6 (.slice none 0 0) v5 := hg8
  have hx_ : Ext w w6 := Ext.of (by have := hg8.by_; exact this)
  have hE := hE.trans hx_
  refine oA rfl (oZ (tN (hK4 _ _ (wpF_ret (thenF_ret (postF_ret (fn := Tryd.f167) _ rfl [v5] (v5) rfl ⟨rfl, trivial⟩ ?_))))))
  exact ⟨_, l, rfl, OG.base (og_eq ho7 (List.nil_append l)) (by omega), List.Perm.refl _, asc_short hc0, hE⟩
 refine wpF_skip (tN (hK2 _ _ (sk fun K9 hK9 => ?_)))
 refine wpF_draw [Is (v), Is (v), Is (NI l.length), Is (NI ((l.length) / (2))), fun x _ => RG 32 (Lib.byteCells) w x (l.take ((l.length) / (2))), Is (.func (.func 142) #[] #[]), fun x w' => ∃ m, RG 32 Lib.byteCells w' x m ∧ m.Perm (l.take ((l.length) / (2))) ∧ Asc m, Is (v), Is (v), Is (NI l.length), Is (NI ((l.length) / (2))), fun x _ => RG 32 (Lib.byteCells) w x (l.drop ((l.length) / (2))), Is (.func (.func 142) #[] #[]), fun x w' => ∃ m, RG 32 Lib.byteCells w' x m ∧ m.Perm (l.drop ((l.length) / (2))) ∧ Asc m, fun x w' => ∃ m, RG 32 Lib.byteCells w' x m ∧ m.Perm (l.take ((l.length) / (2))) ∧ Asc m, fun x w' => ∃ m, RG 32 Lib.byteCells w' x m ∧ m.Perm (l.drop ((l.length) / (2))) ∧ Asc m] (by kernel_rfl) [13, 14, 15, 16, 17, 18, 19, 20, 21, 22, 23, 24, 25, 26, 5, 6] (by kernel_rfl) (by kernel_rfl) (si4 ⟨(fun _ _ _ h _ => h), Stab.is _, (fun _ _ _ ⟨m, h1, h2⟩ k => ⟨m, h1.keep k, h2⟩), (si4 ⟨(fun _ _ _ h _ => h), Stab.is _, (fun _ _ _ ⟨m, h1, h2⟩ k => ⟨m, h1.keep k, h2⟩), (fun _ _ _ ⟨m, h1, h2⟩ k => ⟨m, h1.keep k, h2⟩), (fun _ _ _ ⟨m, h1, h2⟩ k => ⟨m, h1.keep k, h2⟩), trivial⟩)⟩) ?hs1003 ?hQ1003
 case hs1003 =>
  refine ⟨?_, ?_, ?_, ?_, ?_, ?_, ?_, ?_, ?_, ?_, ?_, ?_, ?_, ?_, ?_, ?_, trivial⟩
  ·refine stepN rfl fun σ w1 hC h => ?_
   have e0 := (eqo (h 0 (by decide))).trans T0
   exact Yk.move e0 ⟨Ext.refl _, rfl⟩
  ·refine stepN rfl fun σ w1 hC h => ?_
   have e0 := (eqo (h 0 (by decide))).trans T0
   exact Yk.move e0 ⟨Ext.refl _, rfl⟩
  ·refine stepN rfl fun σ w1 hC h => ?_
   have e14 := eqo (h 14 (by decide))
   exact Yk.lenRG wr45_ty23 (RG.of (hr.keep hC) e14) ⟨Ext.refl _, rfl⟩
  ·refine stepN rfl fun σ w1 hC h => ?_
   have e15 := eqo (h 15 (by decide))
   exact Yk.bin (xv := NI l.length) (yv := NI 2) e15 rfl rfl (i64_quo _ _ _ (by omega) (by omega)) ⟨Ext.refl _, rfl⟩
  ·refine stepN rfl fun σ w1 hC h => ?_
   have e13 := eqo (h 13 (by decide))
   have e16 := eqo (h 16 (by decide))
   exact Yk.sliceHiW wr45_ty23 wr45_szg25 e13 hr e16 (by omega) fun v h _ => ⟨Ext.refl _, h⟩
  ·refine stepN rfl fun σ w1 hC h => ?_
   have e1 := (eqo (h 1 (by decide))).trans T1
   exact Yk.move e1 ⟨Ext.refl _, rfl⟩
  ·refine stepN rfl fun σ w1 hC h => ?_
   have e17 : (fun x _ => RG 32 (Lib.byteCells) w x (l.take ((l.length) / (2)))) (σ 17) w1 := h 17 (by decide)
   have e18 := eqo (h 18 (by decide))
   refine Yk.callA2 wr45_pl167 rfl e18 ((ih (l.take ((l.length) / (2))) (by have hlen_ := List.length_take_le (l.length / 2) l; first | (simp only [List.length_take]; omega) | (simp only [List.length_drop]; omega)) _ _ (RG.keep e17 hC)).mono ?_)
   rintro e w2 ⟨_, m, rfl, h1, h2, h3, h4⟩
   exact ⟨_, rfl, h4, m, RG.ofOwn h1, h2, h3⟩
  ·refine stepN rfl fun σ w1 hC h => ?_
   have e0 := (eqo (h 0 (by decide))).trans T0
   exact Yk.move e0 ⟨Ext.refl _, rfl⟩
  ·refine stepN rfl fun σ w1 hC h => ?_
   have e0 := (eqo (h 0 (by decide))).trans T0
   exact Yk.move e0 ⟨Ext.refl _, rfl⟩
  ·refine stepN rfl fun σ w1 hC h => ?_
   have e21 := eqo (h 21 (by decide))
   exact Yk.lenRG wr45_ty23 (RG.of (hr.keep hC) e21) ⟨Ext.refl _, rfl⟩
  ·refine stepN rfl fun σ w1 hC h => ?_
   have e22 := eqo (h 22 (by decide))
   exact Yk.bin (xv := NI l.length) (yv := NI 2) e22 rfl rfl (i64_quo _ _ _ (by omega) (by omega)) ⟨Ext.refl _, rfl⟩
  ·refine stepN rfl fun σ w1 hC h => ?_
   have e20 := eqo (h 20 (by decide))
   have e23 := eqo (h 23 (by decide))
   exact Yk.sliceLoW wr45_ty23 wr45_szg25 e20 hr e23 (by omega) fun v h _ => ⟨Ext.refl _, h⟩
  ·refine stepN rfl fun σ w1 hC h => ?_
   have e1 := (eqo (h 1 (by decide))).trans T1
   exact Yk.move e1 ⟨Ext.refl _, rfl⟩
  ·refine stepN rfl fun σ w1 hC h => ?_
   have e24 : (fun x _ => RG 32 (Lib.byteCells) w x (l.drop ((l.length) / (2)))) (σ 24) w1 := h 24 (by decide)
   have e25 := eqo (h 25 (by decide))
   refine Yk.callA2 wr45_pl167 rfl e25 ((ih (l.drop ((l.length) / (2))) (by have hlen_ := List.length_take_le (l.length / 2) l; first | (simp only [List.length_take]; omega) | (simp only [List.length_drop]; omega)) _ _ (RG.keep e24 hC)).mono ?_)
   rintro e w2 ⟨_, m, rfl, h1, h2, h3, h4⟩
   exact ⟨_, rfl, h4, m, RG.ofOwn h1, h2, h3⟩
  ·refine stepN rfl fun σ w1 hC h => ?_
   have e19 : (fun x w' => ∃ m, RG 32 Lib.byteCells w' x m ∧ m.Perm (l.take ((l.length) / (2))) ∧ Asc m) (σ 19) w1 := h 19 (by decide)
   exact Yk.assign rfl ⟨Ext.refl _, e19⟩
  ·refine stepN rfl fun σ w1 hC h => ?_
   have e26 : (fun x w' => ∃ m, RG 32 Lib.byteCells w' x m ∧ m.Perm (l.drop ((l.length) / (2))) ∧ Asc m) (σ 26) w1 := h 26 (by decide)
   exact Yk.assign rfl ⟨Ext.refl _, e26⟩
 intro ρ10 w11 hx12 he hf
 obtain ⟨-, -, -, -, -, -, -, -, -, -, -, -, -, -, k5, k6, -⟩ := hf
 obtain ⟨T0, T1, T4, -⟩ := he.hold [(0, _), (1, _), (4, (Value.slice none 0 0))] ⟨T0, T1, rfl, trivial⟩ rfl
 clear he
 have hr := hr.keep hx12
 have hE := hE.trans hx12
 have k5 : (fun x w' => ∃ m, RG 32 Lib.byteCells w' x m ∧ m.Perm (l.take ((l.length) / (2))) ∧ Asc m) (ρ10 5) w11 := k5
 obtain ⟨v13, T5⟩ : ∃ v, ρ10 5 = v := ⟨_, rfl⟩
 rw [T5] at k5
 have hk14 := k5; clear k5
 obtain ⟨A, hr15, hp16, ha17⟩ := hk14
 have k6 : (fun x w' => ∃ m, RG 32 Lib.byteCells w' x m ∧ m.Perm (l.drop ((l.length) / (2))) ∧ Asc m) (ρ10 6) w11 := k6
 obtain ⟨v18, T6⟩ : ∃ v, ρ10 6 = v := ⟨_, rfl⟩
 rw [T6] at k6
 have hk19 := k6; clear k6
 obtain ⟨B, hr20, hp21, ha22⟩ := hk19
 refine tN (hK9 _ _ (sk fun K23 hK23 => (wt (oM rfl (oS rfl (Yk.lenRG wr45_ty23 (RG.of hr T0) ?_))))))
 have hA28 := Ext.refl w11
 have hea29 := hE
 have hz30 := hE.size
 refine oS rfl (Yk.makeG (enc := Lib.byteCells) w11.heap.size _ 32 wr45_ty23 wr45_ig25.choose_spec.1 (vr (NI 0) rfl) (vr (NI l.length) rfl) (by omega) (by omega) (Nat.le_refl _) fun v24 w25 ho26 hx27 => ?_)
 have hE := hE.trans hx27
 have hA28 := hA28.trans hx27
 refine oA rfl (oL_ [(0, v), (1, .func (.func 142) #[] #[]), (4, (Value.slice none 0 0)), (5, v13), (6, v18), (7, v24)] ⟨T0, T1, T4, T5, T6, rfl, trivial⟩ fun ρ31 ⟨T0, T1, T4, T5, T6, T7, _⟩ => (tN (hK23 _ _ (sk fun K32 hK32 => (wpF_block (wpF_loop (fun (ρ : Slots) (wz : World) => ∃ va : Value, ∃ vb : Value, ∃ Al : List Bs, ∃ Bl : List Bs, ∃ Ol : List Bs, ∃ vo : Value, ρ 0 = (v : Value) ∧ ρ 1 = (.func (.func 142) #[] #[] : Value) ∧ ρ 4 = ((Value.slice none 0 0) : Value) ∧ ρ 5 = (va : Value) ∧ ρ 6 = (vb : Value) ∧ ρ 7 = (vo : Value) ∧ Ext w wz ∧ Ext w11 wz ∧ RG 32 Lib.byteCells w11 va Al ∧ RG 32 Lib.byteCells w11 vb Bl ∧ OG w11.heap.size 25 32 (Lib.byteCells) wz vo Ol ∧ (MI l Ol Al Bl) ∧ True) (fun ρ _ => sliceLen (ρ 5) + sliceLen (ρ 6)) ⟨v13, v18, A, B, [], v24, T0, T1, T4, T5, T6, T7, hE, hA28, hr15, hr20, ho26, MI.start hp16 hp21 ha17 ha22, trivial⟩ ?_))))))
 clear ho26
 clear hE hA28
 rintro ρ33 w34 ⟨va, vb, Al, Bl, Ol, vo, T0, T1, T4, T5, T6, T7, hE, hA28, hfa, hfb, hfo, hMI, -⟩
 have q5 := T5
 have q6 := T6
 have qa := hfa.sliceLen
 have qb := hfb.sliceLen
 have hla := hMI.perm.length_eq
 simp only [List.length_append] at hla
 by_cases hga : 0 < Al.length
 ·by_cases hgb : 0 < Bl.length
  ·refine sk fun K35 hK35 => (sk fun K36 hK36 => (wt (oM rfl (oS rfl (Yk.lenRG wr45_ty23 (RG.of (hfa.keep hA28) T5) (oS rfl (Yk.eqI (a := (Al.length : Nat)) (b := (0 : Nat)) rfl rfl (k_gtr _ _ _ _) (oM rfl (oY (d := 33) rfl rfl (vr (.bool (true)) (congrArg Value.bool (decide_eq_true (hga)))) (Yk.move T6 (oY (d := 33) rfl rfl (vr (.bool (true)) (congrArg Value.bool (decide_eq_true (hga)))) (Yk.lenRG wr45_ty23 (RG.of (hfb.keep hA28) (vr vb rfl)) (oY (d := 33) rfl rfl (vr (.bool (true)) (congrArg Value.bool (decide_eq_true (hga)))) (Yk.eqI (a := (Bl.length : Nat)) (b := (0 : Nat)) rfl rfl (k_gtr _ _ _ _) (oS rfl (Yk.pickT (vr (.bool (true)) (congrArg Value.bool (decide_eq_true (hga)))) (vr (.bool (true)) (congrArg Value.bool (decide_eq_true (hgb)))) (oZ (tN (hK36 _ _ (wpF_true (vr (.bool (true)) rfl) (wpF_skip (tN (hK35 _ _ ?_)))))))))))))))))))))))
   refine wpF_block (sk fun K37 hK37 => ?_)
   refine wpF_draw [Is (.func (.func 142) #[] #[]), Is (va), fun x w' => PR (Lib.byteCells (Al.getD (0) ([] : List UInt8))) x w', Is (AB (Al.getD (0) ([] : List UInt8))), Is (vb), fun x w' => PR (Lib.byteCells (Bl.getD (0) ([] : List UInt8))) x w', Is (AB (Bl.getD (0) ([] : List UInt8))), Is (.int .i64 (Lib.compareBytes (Al.getD (0) ([] : List UInt8)) (Bl.getD (0) ([] : List UInt8)) : Int)), Is (.bool (decide ((Lib.compareBytes (Al.getD (0) ([] : List UInt8)) (Bl.getD (0) ([] : List UInt8)) : Int) ≤ ((0 : Nat) : Int))))] (by kernel_rfl) [38, 39, 40, 41, 42, 43, 44, 45, 46] (by kernel_rfl) (by kernel_rfl) (si2 ⟨(fun _ _ _ h k => PR.keep h k), (si2 ⟨(fun _ _ _ h k => PR.keep h k), (si3 trivial)⟩)⟩) ?hs2006 ?hQ2006
   case hs2006 =>
    refine ⟨?_, ?_, ?_, ?_, ?_, ?_, ?_, ?_, ?_, trivial⟩
    ·refine stepN rfl fun σ w1 hC h => ?_
     have e1 := (eqo (h 1 (by decide))).trans T1
     exact Yk.move e1 ⟨Ext.refl _, rfl⟩
    ·refine stepN rfl fun σ w1 hC h => ?_
     have e5 := (eqo (h 5 (by decide))).trans T5
     exact Yk.move e5 ⟨Ext.refl _, rfl⟩
    ·refine stepN rfl fun σ w1 hC h => ?_
     have e39 := eqo (h 39 (by decide))
     exact Yk.atRG wr45_ty23 wr45_szg25 (by decide) ([] : List UInt8) (RG.of (hfa.keep (hA28.trans hC)) e39) (vr (NI 0) rfl) (by omega) fun v h => ⟨Ext.refl _, h⟩
    ·refine stepN rfl fun σ w1 hC h => ?_
     have e40 : (fun x w' => PR (Lib.byteCells (Al.getD (0) ([] : List UInt8))) x w') (σ 40) w1 := h 40 (by decide)
     exact Yk.loadPR e40 wr45_ty25 rfl (by rw [RG.elem hfa ([] : List UInt8) (by omega)]; exact wr45_isz25) ⟨Ext.refl _, rfl⟩
    ·refine stepN rfl fun σ w1 hC h => ?_
     have e6 := (eqo (h 6 (by decide))).trans T6
     exact Yk.move e6 ⟨Ext.refl _, rfl⟩
    ·refine stepN rfl fun σ w1 hC h => ?_
     have e42 := eqo (h 42 (by decide))
     exact Yk.atRG wr45_ty23 wr45_szg25 (by decide) ([] : List UInt8) (RG.of (hfb.keep (hA28.trans hC)) e42) (vr (NI 0) rfl) (by omega) fun v h => ⟨Ext.refl _, h⟩
    ·refine stepN rfl fun σ w1 hC h => ?_
     have e43 : (fun x w' => PR (Lib.byteCells (Bl.getD (0) ([] : List UInt8))) x w') (σ 43) w1 := h 43 (by decide)
     exact Yk.loadPR e43 wr45_ty25 rfl (by rw [RG.elem hfb ([] : List UInt8) (by omega)]; exact wr45_isz25) ⟨Ext.refl _, rfl⟩
    ·refine stepN rfl fun σ w1 hC h => ?_
     have e38 := eqo (h 38 (by decide))
     have e41 := eqo (h 41 (by decide))
     have e44 := eqo (h 44 (by decide))
     refine Yk.clo wr45_pl142 (caps := #[]) e38 #[AB (Al.getD (0) ([] : List UInt8)), AB (Bl.getD (0) ([] : List UInt8))] (by simp only [List.map_toArray, List.map_cons, List.map_nil, List.append_toArray, List.cons_append, List.nil_append]; exact congrArg List.toArray (list2 e41 e44)) ((compare_any _ (Al.getD (0) ([] : List UInt8)) (Bl.getD (0) ([] : List UInt8)) ((bytes_len32 (RG.elem hfa ([] : List UInt8) (by omega)))) ((bytes_len32 (RG.elem hfb ([] : List UInt8) (by omega))))).mono ?_)
     rintro e w2 ⟨rfl, hx⟩
     exact ⟨_, rfl, hx, rfl⟩
    ·refine stepN rfl fun σ w1 hC h => ?_
     have e45 := eqo (h 45 (by decide))
     exact Yk.eqI e45 (vr (NI 0) rfl) (z_leq _ .i64 (Lib.compareBytes (Al.getD (0) ([] : List UInt8)) (Bl.getD (0) ([] : List UInt8)) : Int) ((0 : Nat) : Int)) ⟨Ext.refl _, rfl⟩
   intro ρ38 w39 hx40 he hf
   obtain ⟨-, -, -, -, -, -, -, -, k46, -⟩ := hf
   obtain ⟨T0, T1, T4, T5, T6, T7, T37, -⟩ := he.hold [(0, _), (1, _), (4, _), (5, _), (6, _), (7, _), (37, .bool (true))] ⟨T0, T1, T4, T5, T6, T7, rfl, trivial⟩ rfl
   clear he
   have hE := hE.trans hx40
   have hA28 := hA28.trans hx40
   have hfo := hfo.keep hx40
   have T46 : ρ38 46 = .bool (decide ((Lib.compareBytes (Al.getD (0) ([] : List UInt8)) (Bl.getD (0) ([] : List UInt8)) : Int) ≤ ((0 : Nat) : Int))) := k46
   clear k46
   refine tN (hK37 _ _ ?_)
   refine wpF_cond ((Lib.compareBytes (Al.getD (0) ([] : List UInt8)) (Bl.getD (0) ([] : List UInt8)) : Int) ≤ ((0 : Nat) : Int)) T46 (fun hc2 => ?_) (fun hc2 => ?_)
   ·have hlow41 : ∀ k, Value.ownBlock vo = some k → w11.heap.size ≤ k := fun k hk => (hfo.2.lt k hk).1
    have hsz_ : w11.heap.size ≤ w39.heap.size := hA28.size
    refine wpF_draw_rowsX (Value.ownBlock vo) [5] [0] (fun m => if m = 5 then [0, 2, 4] else []) (fun m => if m = 5 then [0, 2, 4, 5, 8] else []) [fun x w' => RowG w11.heap.size w39.heap.size 25 32 (Lib.byteCells) (Value.ownBlock vo) (Ol) x w', Is (va), fun x w' => PR (Lib.byteCells (Al.getD (0) ([] : List UInt8))) x w', Is (AB (Al.getD (0) ([] : List UInt8))), fun x w' => RG 32 (Lib.byteCells) w' x ([(Al.getD (0) ([] : List UInt8))]), fun x w' => RowG w11.heap.size w39.heap.size 25 32 (Lib.byteCells) (Value.ownBlock vo) ((Ol) ++ [(Al.getD (0) ([] : List UInt8))]) x w', Is (va), fun x _ => RG 32 (Lib.byteCells) w11 x (Al.drop (1)), fun x w' => RowG w11.heap.size w39.heap.size 25 32 (Lib.byteCells) (Value.ownBlock vo) ((Ol) ++ [(Al.getD (0) ([] : List UInt8))]) x w', fun x _ => RG 32 (Lib.byteCells) w11 x (Al.drop (1))] (by kernel_rfl) [47, 48, 49, 50, 51, 52, 53, 54, 7, 5] (by kernel_rfl) (by kernel_rfl) (by kernel_rfl) (by kernel_rfl) (by kernel_rfl) rfl ⟨(fun _ _ _ h k => ⟨OG.keep h.1 k, h.2⟩), Stab.is _, (fun _ _ _ h k => PR.keep h k), Stab.is _, (fun _ _ _ h k => RG.keep h k), (fun _ _ _ h k => ⟨OG.keep h.1 k, h.2⟩), Stab.is _, (fun _ _ _ h _ => h), (fun _ _ _ h k => ⟨OG.keep h.1 k, h.2⟩), (fun _ _ _ h _ => h), trivial⟩ ⟨⟨.inl rfl, .inr (Stab.is _), .inl rfl, .inr (Stab.is _), .inl rfl, .inl rfl, .inr (Stab.is _), .inr ((fun _ _ _ h _ => h)), .inl rfl, .inr ((fun _ _ _ h _ => h)), trivial⟩, trivial⟩ ?hs3007 ?hQ3007
    case hs3007 =>
     refine ⟨?_, ?_, ?_, ?_, ?_, ?_, ?_, ?_, ?_, ?_, trivial⟩
     ·refine stepN rfl fun σ w1 hC h => ?_
      have hX : Ext w39 w1 := hC
      have hC : BX w39.heap.size (Value.ownBlock vo) w39 w1 := BX.ofExt hX (Nat.le_refl _)
      have e7 := (eqo (h 7 (by decide))).trans T7
      exact Yk.move e7 ⟨Ext.refl _, OG.keep hfo hX, fun k hk => .inl hk⟩
     ·refine stepN rfl fun σ w1 hC h => ?_
      have hC : BX w39.heap.size (Value.ownBlock vo) w39 w1 := hC
      have e5 := (eqo (h 5 (by decide))).trans T5
      exact Yk.move e5 ⟨Ext.refl _, rfl⟩
     ·refine stepN rfl fun σ w1 hC h => ?_
      have hC : BX w39.heap.size (Value.ownBlock vo) w39 w1 := hC
      have e48 := eqo (h 48 (by decide))
      exact Yk.atRG wr45_ty23 wr45_szg25 (by decide) ([] : List UInt8) (RG.of (hfa.keep (ext_bx hA28 hC (by omega) (fun k hk => by have := hlow41 k hk; omega))) e48) (vr (NI 0) rfl) (by omega) fun v h => ⟨Ext.refl _, h⟩
     ·refine stepN rfl fun σ w1 hC h => ?_
      have hC : BX w39.heap.size (Value.ownBlock vo) w39 w1 := hC
      have e49 : (fun x w' => PR (Lib.byteCells (Al.getD (0) ([] : List UInt8))) x w') (σ 49) w1 := h 49 (by decide)
      exact Yk.loadPR e49 wr45_ty25 rfl (by rw [RG.elem hfa ([] : List UInt8) (by omega)]; exact wr45_isz25) ⟨Ext.refl _, rfl⟩
     ·refine stepN rfl fun σ w1 hC h => ?_
      have hC : BX w39.heap.size (Value.ownBlock vo) w39 w1 := hC
      have e50 := eqo (h 50 (by decide))
      exact Yk.lit1G (a := (Al.getD (0) ([] : List UInt8))) (enc := Lib.byteCells) e50 (by rw [Lib.byteCells_length]; exact (bytes_len32 (RG.elem hfa ([] : List UInt8) (by omega)))) wr45_lg23 fun v w2 h hx => ⟨hx, h⟩
     ·refine stepN rfl fun σ w1 hC h => ?_
      have hC : BX w39.heap.size (Value.ownBlock vo) w39 w1 := hC
      have e47 : (fun x w' => RowG w11.heap.size w39.heap.size 25 32 (Lib.byteCells) (Value.ownBlock vo) (Ol) x w') (σ 47) w1 := h 47 (by decide)
      have e51 : (fun x w' => RG 32 (Lib.byteCells) w' x ([(Al.getD (0) ([] : List UInt8))])) (σ 51) w1 := h 51 (by decide)
      exact Yk.appendRG _ _ w11.heap.size _ 32 wr45_ty23 wr45_ig25.choose_spec.1 wr45_ig25.choose_spec.2 wr45_ty23 (Ol) ([(Al.getD (0) ([] : List UInt8))]) e47.1 e51 (fun _ _ => byteCells_one _) (by simp only [List.length_cons, List.length_nil]; omega) (by simp only [List.length_cons, List.length_nil]; omega) (Nat.le_trans hsz_ hC.size) fun v w2 ho hg => ⟨BX.ofGrown hg.by_ hC.size e47.2, ho, fun k hk => (hg.fresh k hk).elim (e47.2 k) (fun x => .inr (Nat.le_trans hC.size x))⟩
     ·refine stepN rfl fun σ w1 hC h => ?_
      have hC : BX w39.heap.size (Value.ownBlock vo) w39 w1 := hC
      have e5 := (eqo (h 5 (by decide))).trans T5
      exact Yk.move e5 ⟨Ext.refl _, rfl⟩
     ·refine stepN rfl fun σ w1 hC h => ?_
      have hC : BX w39.heap.size (Value.ownBlock vo) w39 w1 := hC
      have e53 := eqo (h 53 (by decide))
      exact Yk.sliceLoW wr45_ty23 wr45_szg25 e53 hfa (vr (NI 1) rfl) (by omega) fun v h _ => ⟨Ext.refl _, h⟩
     ·refine stepN rfl fun σ w1 hC h => ?_
      have hC : BX w39.heap.size (Value.ownBlock vo) w39 w1 := hC
      have e52 : (fun x w' => RowG w11.heap.size w39.heap.size 25 32 (Lib.byteCells) (Value.ownBlock vo) ((Ol) ++ [(Al.getD (0) ([] : List UInt8))]) x w') (σ 52) w1 := h 52 (by decide)
      exact Yk.assign rfl ⟨Ext.refl _, e52⟩
     ·refine stepN rfl fun σ w1 hC h => ?_
      have hC : BX w39.heap.size (Value.ownBlock vo) w39 w1 := hC
      have e54 : (fun x _ => RG 32 (Lib.byteCells) w11 x (Al.drop (1))) (σ 54) w1 := h 54 (by decide)
      exact Yk.assign rfl ⟨Ext.refl _, e54⟩
    intro ρ42 w43 hx44 he hf
    obtain ⟨-, -, -, -, -, -, -, -, k7, k5, -⟩ := hf
    obtain ⟨T0, T1, T4, T6, T37, -⟩ := he.hold [(0, _), (1, _), (4, _), (6, _), (37, _)] ⟨T0, T1, T4, T6, T37, trivial⟩ rfl
    clear he
    have k7 : (fun x w' => RowG w11.heap.size w39.heap.size 25 32 (Lib.byteCells) (Value.ownBlock vo) ((Ol) ++ [(Al.getD (0) ([] : List UInt8))]) x w') (ρ42 7) w43 := k7
    obtain ⟨v45, T7⟩ : ∃ v, ρ42 7 = v := ⟨_, rfl⟩
    rw [T7] at k7
    have hg46 : Grew w39 w43 vo v45 := ⟨hx44.grown, k7.2⟩
    have ho47 := k7.1; clear k7
    have hE := ext_grew hE hg46 hfo.2 hz30
    have hA28 := ext_grew hA28 hg46 hfo.2 (Nat.le_refl _)
    clear hfo
    have k5 : (fun x _ => RG 32 (Lib.byteCells) w11 x (Al.drop (1))) (ρ42 5) w43 := k5
    obtain ⟨v48, T5⟩ : ∃ v, ρ42 5 = v := ⟨_, rfl⟩
    rw [T5] at k5
    have hk49 := k5; clear k5
    refine bN (tN (And.intro ⟨v48, vb, Al.drop (1), Bl, (Ol) ++ [(Al.getD (0) ([] : List UInt8))], v45, T0, T1, T4, T5, T6, T7, hE, hA28, hk49, hfb, ho47, hMI.left (by omega) (by omega) hc2, trivial⟩ ?_))
    show sliceLen (ρ42 5) + sliceLen (ρ42 6) < sliceLen (ρ33 5) + sliceLen (ρ33 6)
    rw [T5, T6, q5, q6]
    have n5 := hk49.sliceLen
    have n6 := hfb.sliceLen
    try rw [n5]
    try rw [n6]
    try rw [qa]
    try rw [qb]
    simp only [List.length_drop]
    omega
   have hlow50 : ∀ k, Value.ownBlock vo = some k → w11.heap.size ≤ k := fun k hk => (hfo.2.lt k hk).1
   have hsz_ : w11.heap.size ≤ w39.heap.size := hA28.size
   refine wpF_draw_rowsX (Value.ownBlock vo) [5] [0] (fun m => if m = 5 then [0, 2, 4] else []) (fun m => if m = 5 then [0, 2, 4, 5, 8] else []) [fun x w' => RowG w11.heap.size w39.heap.size 25 32 (Lib.byteCells) (Value.ownBlock vo) (Ol) x w', Is (vb), fun x w' => PR (Lib.byteCells (Bl.getD (0) ([] : List UInt8))) x w', Is (AB (Bl.getD (0) ([] : List UInt8))), fun x w' => RG 32 (Lib.byteCells) w' x ([(Bl.getD (0) ([] : List UInt8))]), fun x w' => RowG w11.heap.size w39.heap.size 25 32 (Lib.byteCells) (Value.ownBlock vo) ((Ol) ++ [(Bl.getD (0) ([] : List UInt8))]) x w', Is (vb), fun x _ => RG 32 (Lib.byteCells) w11 x (Bl.drop (1)), fun x w' => RowG w11.heap.size w39.heap.size 25 32 (Lib.byteCells) (Value.ownBlock vo) ((Ol) ++ [(Bl.getD (0) ([] : List UInt8))]) x w', fun x _ => RG 32 (Lib.byteCells) w11 x (Bl.drop (1))] (by kernel_rfl) [55, 56, 57, 58, 59, 60, 61, 62, 7, 6] (by kernel_rfl) (by kernel_rfl) (by kernel_rfl) (by kernel_rfl) (by kernel_rfl) rfl ⟨(fun _ _ _ h k => ⟨OG.keep h.1 k, h.2⟩), Stab.is _, (fun _ _ _ h k => PR.keep h k), Stab.is _, (fun _ _ _ h k => RG.keep h k), (fun _ _ _ h k => ⟨OG.keep h.1 k, h.2⟩), Stab.is _, (fun _ _ _ h _ => h), (fun _ _ _ h k => ⟨OG.keep h.1 k, h.2⟩), (fun _ _ _ h _ => h), trivial⟩ ⟨⟨.inl rfl, .inr (Stab.is _), .inl rfl, .inr (Stab.is _), .inl rfl, .inl rfl, .inr (Stab.is _), .inr ((fun _ _ _ h _ => h)), .inl rfl, .inr ((fun _ _ _ h _ => h)), trivial⟩, trivial⟩ ?hs4008 ?hQ4008
   case hs4008 =>
    refine ⟨?_, ?_, ?_, ?_, ?_, ?_, ?_, ?_, ?_, ?_, trivial⟩
    ·refine stepN rfl fun σ w1 hC h => ?_
     have hX : Ext w39 w1 := hC
     have hC : BX w39.heap.size (Value.ownBlock vo) w39 w1 := BX.ofExt hX (Nat.le_refl _)
     have e7 := (eqo (h 7 (by decide))).trans T7
     exact Yk.move e7 ⟨Ext.refl _, OG.keep hfo hX, fun k hk => .inl hk⟩
    ·refine stepN rfl fun σ w1 hC h => ?_
     have hC : BX w39.heap.size (Value.ownBlock vo) w39 w1 := hC
     have e6 := (eqo (h 6 (by decide))).trans T6
     exact Yk.move e6 ⟨Ext.refl _, rfl⟩
    ·refine stepN rfl fun σ w1 hC h => ?_
     have hC : BX w39.heap.size (Value.ownBlock vo) w39 w1 := hC
     have e56 := eqo (h 56 (by decide))
     exact Yk.atRG wr45_ty23 wr45_szg25 (by decide) ([] : List UInt8) (RG.of (hfb.keep (ext_bx hA28 hC (by omega) (fun k hk => by have := hlow50 k hk; omega))) e56) (vr (NI 0) rfl) (by omega) fun v h => ⟨Ext.refl _, h⟩
    ·refine stepN rfl fun σ w1 hC h => ?_
     have hC : BX w39.heap.size (Value.ownBlock vo) w39 w1 := hC
     have e57 : (fun x w' => PR (Lib.byteCells (Bl.getD (0) ([] : List UInt8))) x w') (σ 57) w1 := h 57 (by decide)
     exact Yk.loadPR e57 wr45_ty25 rfl (by rw [RG.elem hfb ([] : List UInt8) (by omega)]; exact wr45_isz25) ⟨Ext.refl _, rfl⟩
    ·refine stepN rfl fun σ w1 hC h => ?_
     have hC : BX w39.heap.size (Value.ownBlock vo) w39 w1 := hC
     have e58 := eqo (h 58 (by decide))
     exact Yk.lit1G (a := (Bl.getD (0) ([] : List UInt8))) (enc := Lib.byteCells) e58 (by rw [Lib.byteCells_length]; exact (bytes_len32 (RG.elem hfb ([] : List UInt8) (by omega)))) wr45_lg23 fun v w2 h hx => ⟨hx, h⟩
    ·refine stepN rfl fun σ w1 hC h => ?_
     have hC : BX w39.heap.size (Value.ownBlock vo) w39 w1 := hC
     have e55 : (fun x w' => RowG w11.heap.size w39.heap.size 25 32 (Lib.byteCells) (Value.ownBlock vo) (Ol) x w') (σ 55) w1 := h 55 (by decide)
     have e59 : (fun x w' => RG 32 (Lib.byteCells) w' x ([(Bl.getD (0) ([] : List UInt8))])) (σ 59) w1 := h 59 (by decide)
     exact Yk.appendRG _ _ w11.heap.size _ 32 wr45_ty23 wr45_ig25.choose_spec.1 wr45_ig25.choose_spec.2 wr45_ty23 (Ol) ([(Bl.getD (0) ([] : List UInt8))]) e55.1 e59 (fun _ _ => byteCells_one _) (by simp only [List.length_cons, List.length_nil]; omega) (by simp only [List.length_cons, List.length_nil]; omega) (Nat.le_trans hsz_ hC.size) fun v w2 ho hg => ⟨BX.ofGrown hg.by_ hC.size e55.2, ho, fun k hk => (hg.fresh k hk).elim (e55.2 k) (fun x => .inr (Nat.le_trans hC.size x))⟩
    ·refine stepN rfl fun σ w1 hC h => ?_
     have hC : BX w39.heap.size (Value.ownBlock vo) w39 w1 := hC
     have e6 := (eqo (h 6 (by decide))).trans T6
     exact Yk.move e6 ⟨Ext.refl _, rfl⟩
    ·refine stepN rfl fun σ w1 hC h => ?_
     have hC : BX w39.heap.size (Value.ownBlock vo) w39 w1 := hC
     have e61 := eqo (h 61 (by decide))
     exact Yk.sliceLoW wr45_ty23 wr45_szg25 e61 hfb (vr (NI 1) rfl) (by omega) fun v h _ => ⟨Ext.refl _, h⟩
    ·refine stepN rfl fun σ w1 hC h => ?_
     have hC : BX w39.heap.size (Value.ownBlock vo) w39 w1 := hC
     have e60 : (fun x w' => RowG w11.heap.size w39.heap.size 25 32 (Lib.byteCells) (Value.ownBlock vo) ((Ol) ++ [(Bl.getD (0) ([] : List UInt8))]) x w') (σ 60) w1 := h 60 (by decide)
     exact Yk.assign rfl ⟨Ext.refl _, e60⟩
    ·refine stepN rfl fun σ w1 hC h => ?_
     have hC : BX w39.heap.size (Value.ownBlock vo) w39 w1 := hC
     have e62 : (fun x _ => RG 32 (Lib.byteCells) w11 x (Bl.drop (1))) (σ 62) w1 := h 62 (by decide)
     exact Yk.assign rfl ⟨Ext.refl _, e62⟩
   intro ρ51 w52 hx53 he hf
   obtain ⟨-, -, -, -, -, -, -, -, k7, k6, -⟩ := hf
   obtain ⟨T0, T1, T4, T5, T37, -⟩ := he.hold [(0, _), (1, _), (4, _), (5, _), (37, _)] ⟨T0, T1, T4, T5, T37, trivial⟩ rfl
   clear he
   have k7 : (fun x w' => RowG w11.heap.size w39.heap.size 25 32 (Lib.byteCells) (Value.ownBlock vo) ((Ol) ++ [(Bl.getD (0) ([] : List UInt8))]) x w') (ρ51 7) w52 := k7
   obtain ⟨v54, T7⟩ : ∃ v, ρ51 7 = v := ⟨_, rfl⟩
   rw [T7] at k7
   have hg55 : Grew w39 w52 vo v54 := ⟨hx53.grown, k7.2⟩
   have ho56 := k7.1; clear k7
   have hE := ext_grew hE hg55 hfo.2 hz30
   have hA28 := ext_grew hA28 hg55 hfo.2 (Nat.le_refl _)
   clear hfo
   have k6 : (fun x _ => RG 32 (Lib.byteCells) w11 x (Bl.drop (1))) (ρ51 6) w52 := k6
   obtain ⟨v57, T6⟩ : ∃ v, ρ51 6 = v := ⟨_, rfl⟩
   rw [T6] at k6
   have hk58 := k6; clear k6
   refine bN (tN (And.intro ⟨va, v57, Al, Bl.drop (1), (Ol) ++ [(Bl.getD (0) ([] : List UInt8))], v54, T0, T1, T4, T5, T6, T7, hE, hA28, hfa, hk58, ho56, hMI.right (by omega) (by omega) hc2, trivial⟩ ?_))
   show sliceLen (ρ51 5) + sliceLen (ρ51 6) < sliceLen (ρ33 5) + sliceLen (ρ33 6)
   rw [T5, T6, q5, q6]
   have n5 := hfa.sliceLen
   have n6 := hk58.sliceLen
   try rw [n5]
   try rw [n6]
   try rw [qa]
   try rw [qb]
   simp only [List.length_drop]
   omega
  refine sk fun K59 hK59 => (sk fun K60 hK60 => (wt (oM rfl (oS rfl (Yk.lenRG wr45_ty23 (RG.of (hfa.keep hA28) T5) (oS rfl (Yk.eqI (a := (Al.length : Nat)) (b := (0 : Nat)) rfl rfl (k_gtr _ _ _ _) (oM rfl (oY (d := 33) rfl rfl (vr (.bool (true)) (congrArg Value.bool (decide_eq_true (hga)))) (Yk.move T6 (oY (d := 33) rfl rfl (vr (.bool (true)) (congrArg Value.bool (decide_eq_true (hga)))) (Yk.lenRG wr45_ty23 (RG.of (hfb.keep hA28) (vr vb rfl)) (oY (d := 33) rfl rfl (vr (.bool (true)) (congrArg Value.bool (decide_eq_true (hga)))) (Yk.eqI (a := (Bl.length : Nat)) (b := (0 : Nat)) rfl rfl (k_gtr _ _ _ _) (oS rfl (Yk.pickT (vr (.bool (true)) (congrArg Value.bool (decide_eq_true (hga)))) (vr (.bool (false)) (congrArg Value.bool (decide_eq_false (hgb)))) (oZ (tN (hK60 _ _ (wpF_false (vr (.bool (false)) rfl) (wpF_exit (thenF_exit (thenF_exit (inBlockF_hit (tN (hK32 _ _ ?_))))))))))))))))))))))))))
  refine sk fun K61 hK61 => (wt (oM rfl (oM rfl (oS rfl (Yk.appendRG _ _ w11.heap.size _ 32 wr45_ty23 wr45_ig25.choose_spec.1 wr45_ig25.choose_spec.2 wr45_ty23 (Ol) (Al) (OG.of hfo T7) (RG.of (hfa.keep hA28) T5) (fun _ _ => byteCells_one _) (by omega) (by omega) hA28.size fun v62 w63 ho64 hg65 => ?_)))))
  have hg65 : Grew w34 w63 vo v62 := .eqv T7 hg65
  have hE := ext_grew hE hg65 hfo.2 hz30
  have hA28 := ext_grew hA28 hg65 hfo.2 (Nat.le_refl _)
  clear hfo
  refine oM rfl (oS rfl (Yk.appendRG _ _ w11.heap.size _ 32 wr45_ty23 wr45_ig25.choose_spec.1 wr45_ig25.choose_spec.2 wr45_ty23 ((Ol) ++ Al) (Bl) (OG.of ho64 (vr v62 rfl)) (RG.of (hfb.keep hA28) T6) (fun _ _ => byteCells_one _) (by simp only [List.length_append]; omega) (by simp only [List.length_append]; omega) hA28.size fun v66 w67 ho68 hg69 => ?_))
  have hg69 : Grew w63 w67 v62 v66 := hg69
  have hE := ext_grew hE hg69 ho64.2 hz30
  have hA28 := ext_grew hA28 hg69 ho64.2 (Nat.le_refl _)
  clear ho64
  refine oA rfl (oZ (tN (hK61 _ _ (wpF_ret (postF_ret (fn := Tryd.f167) _ rfl [v66] (v66) rfl ⟨rfl, trivial⟩ ?_)))))
  obtain ⟨hpm, hasc⟩ := hMI.done (by omega)
  exact ⟨_, _, rfl, OG.base ho68 (by omega), hpm, hasc, hE⟩
 refine sk fun K70 hK70 => (sk fun K71 hK71 => (wt (oM rfl (oS rfl (Yk.lenRG wr45_ty23 (RG.of (hfa.keep hA28) T5) (oS rfl (Yk.eqI (a := (Al.length : Nat)) (b := (0 : Nat)) rfl rfl (k_gtr _ _ _ _) (oM rfl (oN (d := 33) rfl rfl rfl (vr (.bool (false)) (congrArg Value.bool (decide_eq_false (hga)))) rfl (oN (d := 33) rfl rfl rfl (vr (.bool (false)) (congrArg Value.bool (decide_eq_false (hga)))) rfl (oN (d := 33) rfl rfl rfl (vr (.bool (false)) (congrArg Value.bool (decide_eq_false (hga)))) rfl (oS rfl (Yk.pickF (vr (.bool (false)) (congrArg Value.bool (decide_eq_false (hga)))) (vr (.bool (false)) rfl) (oZ (tN (hK71 _ _ (wpF_false (vr (.bool (false)) rfl) (wpF_exit (thenF_exit (thenF_exit (inBlockF_hit (tN (hK32 _ _ ?_)))))))))))))))))))))))
 refine sk fun K72 hK72 => (wt (oM rfl (oM rfl (oS rfl (Yk.appendRG _ _ w11.heap.size _ 32 wr45_ty23 wr45_ig25.choose_spec.1 wr45_ig25.choose_spec.2 wr45_ty23 (Ol) (Al) (OG.of hfo T7) (RG.of (hfa.keep hA28) T5) (fun _ _ => byteCells_one _) (by omega) (by omega) hA28.size fun v73 w74 ho75 hg76 => ?_)))))
 have hg76 : Grew w34 w74 vo v73 := .eqv T7 hg76
 have hE := ext_grew hE hg76 hfo.2 hz30
 have hA28 := ext_grew hA28 hg76 hfo.2 (Nat.le_refl _)
 clear hfo
 refine oM rfl (oS rfl (Yk.appendRG _ _ w11.heap.size _ 32 wr45_ty23 wr45_ig25.choose_spec.1 wr45_ig25.choose_spec.2 wr45_ty23 ((Ol) ++ Al) (Bl) (OG.of ho75 (vr v73 rfl)) (RG.of (hfb.keep hA28) T6) (fun _ _ => byteCells_one _) (by simp only [List.length_append]; omega) (by simp only [List.length_append]; omega) hA28.size fun v77 w78 ho79 hg80 => ?_))
 have hg80 : Grew w74 w78 v73 v77 := hg80
 have hE := ext_grew hE hg80 ho75.2 hz30
 have hA28 := ext_grew hA28 hg80 ho75.2 (Nat.le_refl _)
 clear ho75
 refine oA rfl (oZ (tN (hK72 _ _ (wpF_ret (postF_ret (fn := Tryd.f167) _ rfl [v77] (v77) rfl ⟨rfl, trivial⟩ ?_)))))
 obtain ⟨hpm, hasc⟩ := hMI.done (by omega)
 exact ⟨_, _, rfl, OG.base ho79 (by omega), hpm, hasc, hE⟩

theorem merge_any : ∀ (n : Nat) (l : List Bs), l.length = n → l.length ≤ 1048576 → ∀ (w : World) (v : Value), RG 32 Lib.byteCells w v l → Calls Tryd.prog 167 #[v, .func (.func 142) #[] #[]] w fun e w' => ∃ v' m, e = .returned v' ∧ OG w.heap.size 25 32 Lib.byteCells w' v' m ∧ m.Perm l ∧ Asc m ∧ Ext w w' := by
 intro n
 induction n using Nat.strongRecOn with
 | _ n ih => exact fun l hn hlim w v hr => merge_step n (fun l' hl w v hr => ih l'.length hl l' rfl (by omega) w v hr) l hn hlim w v hr

theorem sort_any (w : World) (v : Value) (l : List Bs) (hlim : l.length ≤ 1048576) (hr : RG 32 Lib.byteCells w v l) :
  Calls Tryd.prog 153 #[v] w fun e w' => ∃ v', e = .returned v' ∧ OG w.heap.size 25 32 Lib.byteCells w' v' (sortB l) ∧ Ext w w' := by
 refine calls_of_wpF (args := [v]) Tryd.func153 rfl 5 rfl (Nat.le_of_ble_eq_true rfl) ?_
 intro ρ0 hb
 have T0 : ρ0 0 = (v : Value) := hb.get 0
 clear hb
 have hE := Ext.refl w
 refine sk fun K1 hK1 => (wt (oA rfl (oZ (tN (hK1 _ _ (sk fun K2 hK2 => (wt (oM rfl (oS rfl (Yk.callA2 wr45_pl167 T0 rfl ((merge_any _ l rfl hlim _ v hr).mono ?_)))))))))))
 rintro e w9 ⟨v3, m4, rfl, hr5, hp6, ha7, hx8⟩
 refine ⟨_, rfl, ?_⟩
 have hms := asc_sortB ha7 hp6
 subst hms
 have hr := hr.keep hx8
 have hE := hE.trans hx8
 refine oA rfl (oZ (tN (hK2 _ _ (wpF_ret (postF_ret (fn := Tryd.f153) _ rfl [v3] (v3) rfl ⟨rfl, trivial⟩ ?_)))))
 exact ⟨_, rfl, hr5, hE⟩
open Go.RowKit
def SAsc (l : List Bs) : Prop := l.Pairwise fun a b => Lib.compareBytes a b < 0
theorem int_lt {a : Int} (h : a ≤ 0) (h2 : a ≠ 0) : a < 0 := by omega
theorem cmp_lt {a b c : Bs} (h1 : Lib.compareBytes a b < 0) (h2 : Lib.compareBytes b c < 0) : Lib.compareBytes a c < 0 := by
  have h := cmp_trans (a := a) (b := b) (c := c) (by omega) (by omega)
  refine int_lt h fun e => ?_
  have e := cmp_zero e
  subst e
  have := cmp_neg a b
  omega
theorem getD_mem' {l : List Bs} {i : Nat} (hi : i < l.length) : l.getD i [] ∈ l := getD_mem [] hi
theorem getD_get {l : List Bs} {i : Nat} (hi : i < l.length) : l.getD i [] = l[i] := by rw [List.getD_eq_getElem?_getD, List.getElem?_eq_getElem hi]; rfl
theorem asc_at {l : List Bs} (h : Asc l) {i j : Nat} (hij : i < j) (hj : j < l.length) : Lib.compareBytes (l.getD i []) (l.getD j []) ≤ 0 := by
  rw [getD_get (by omega), getD_get hj]
  exact List.pairwise_iff_getElem.1 h i j (by omega) hj hij
theorem sasc_at {l : List Bs} (h : SAsc l) {i j : Nat} (hij : i < j) (hj : j < l.length) : Lib.compareBytes (l.getD i []) (l.getD j []) < 0 := by
  rw [getD_get (by omega), getD_get hj]
  exact List.pairwise_iff_getElem.1 h i j (by omega) hj hij
theorem mem_takeD {l : List Bs} {i : Nat} {x : Bs} (h : x ∈ l.take i) : ∃ j, j < i ∧ j < l.length ∧ x = l.getD j [] := by
  obtain ⟨j, hj, rfl⟩ := List.mem_iff_getElem.1 h
  rw [List.length_take] at hj
  exact ⟨j, by omega, by omega, by rw [List.getElem_take, getD_get]⟩
theorem take_memS {l : List Bs} {i : Nat} {x : Bs} (hi : i < l.length) : x ∈ l.take (i + 1) ↔ x ∈ l.take i ∨ x = l.getD i [] := by
  rw [List.take_succ_eq_append_getElem hi, List.mem_append, List.mem_singleton, getD_get hi]
section
variable {m o : List Bs} {i : Nat}
theorem uniq_new (hm : Asc m) (hi : i < m.length) (hS : SAsc o) (hmem : ∀ x, x ∈ o ↔ x ∈ m.take i) (h : o.length = 0 ∨ o.getD (o.length - 1) [] ≠ m.getD i []) : SAsc (o ++ [m.getD i []]) := by
  refine List.pairwise_append.2 ⟨hS, by simp, fun a ha b hb => ?_⟩
  rw [List.mem_singleton.1 hb]
  have hle : ∀ c ∈ o, Lib.compareBytes c (m.getD i []) ≤ 0 := fun c hc => by
    obtain ⟨j, h1, h2, rfl⟩ := mem_takeD ((hmem c).1 hc)
    exact asc_at hm h1 hi
  refine int_lt (hle a ha) fun e => ?_
  have e := cmp_zero e
  obtain ⟨k, hk, hka⟩ := List.mem_iff_getElem.1 ha
  rcases h with h | h
  · omega
  · by_cases hkl : k = o.length - 1
    · refine h ?_
      rw [getD_get (by omega), ← e, ← hka]
      congr 1
      omega
    · have h1 := sasc_at hS (i := k) (j := o.length - 1) (by omega) (by omega)
      rw [getD_get hk, hka, e] at h1
      have h2 := hle _ (getD_mem' (l := o) (i := o.length - 1) (by omega))
      have h3 := cmp_neg (m.getD i []) (o.getD (o.length - 1) [])
      omega
theorem uniq_memT (hi : i < m.length) (hmem : ∀ x, x ∈ o ↔ x ∈ m.take i) : ∀ x, x ∈ o ++ [m.getD i []] ↔ x ∈ m.take (i + 1) := fun x => by
  rw [take_memS hi, List.mem_append, List.mem_singleton, hmem]
theorem uniq_memF (hi : i < m.length) (hmem : ∀ x, x ∈ o ↔ x ∈ m.take i) (h0 : ¬ o.length = 0) (h : ¬ o.getD (o.length - 1) [] ≠ m.getD i []) : ∀ x, x ∈ o ↔ x ∈ m.take (i + 1) := fun x => by
  rw [take_memS hi, ← hmem]
  constructor
  · exact .inl
  · rintro (h1 | rfl)
    · exact h1
    · rw [← Classical.not_not.1 h]; exact getD_mem' (by omega)
end
section
variable {l : List Bs} {x : Bs} {i : Nat}
theorem place_lo (hS : SAsc l) (hi : i < l.length) (h : Lib.compareBytes (l.getD i []) x < 0) : ∀ j, j < i + 1 → Lib.compareBytes (l.getD j []) x < 0 := fun j hj => by
  by_cases e : j = i
  · rw [e]; exact h
  · exact cmp_lt (sasc_at hS (by omega) hi) h
theorem place_hi (hS : SAsc l) (h : 0 < Lib.compareBytes (l.getD i []) x) : ∀ j, i ≤ j → j < l.length → 0 < Lib.compareBytes (l.getD j []) x := fun j hj hl => by
  by_cases e : i = j
  · rw [← e]; exact h
  · have h1 := sasc_at hS (i := i) (j := j) (by omega) hl
    have h2 := cmp_neg x (l.getD i [])
    have h4 := cmp_neg x (l.getD j [])
    have h3 := cmp_lt (a := x) (b := l.getD i []) (c := l.getD j []) (by omega) h1
    omega
theorem place_no {p : Nat} (h1 : ∀ j, j < p → Lib.compareBytes (l.getD j []) x < 0) (h2 : ∀ j, p ≤ j → j < l.length → 0 < Lib.compareBytes (l.getD j []) x) : x ∉ l := fun hx => by
  obtain ⟨j, hj, e⟩ := List.mem_iff_getElem.1 hx
  have e : l.getD j [] = x := by rw [getD_get hj, e]
  by_cases h : j < p
  · have := h1 j h; rw [e, cmp_self] at this; omega
  · have := h2 j (by omega) hj; rw [e, cmp_self] at this; omega
end
def pickB (a b : List Bs) (q : Bool) : List Bs := a.filter fun x => decide (x ∈ b) == q
theorem pick_memS {a b : List Bs} {q : Bool} : ∀ {i : Nat}, i < a.length → pickB (a.take (i + 1)) b q = pickB (a.take i) b q ++ (if (decide (a.getD i [] ∈ b) == q) = true then [a.getD i []] else []) := fun {i} hi => by
  unfold pickB
  rw [List.take_succ_eq_append_getElem hi, List.filter_append, getD_get hi]
  congr 1
  rw [List.filter_cons, List.filter_nil]
theorem pick_sasc {a b : List Bs} {q : Bool} (h : SAsc a) : SAsc (pickB a b q) := h.filter _
open Go.RowKit
set_option maxRecDepth 100000
theorem wr46_pl153 : Plain Tryd.prog 153 := fun _ _ => by kernel_rfl
theorem wr46_ty23 : Tryd.prog.underlying 23 = some (.slice 25) := by kernel_rfl
theorem wr46_szg25 : ∀ w' : World, (sizeOf 25).run Tryd.prog w' = .ok 32 w' := fun _ => by kernel_rfl
theorem wr46_ty25 : Tryd.prog.underlying 25 = some (.array 32 5) := by kernel_rfl
theorem wr46_isz25 : (Tryd.prog.info? 25).map (·.size) = some 32 := by kernel_rfl
theorem wr46_al25 {d : Option Tmp} {ty : TypeId} {pos : String} {af : Array Edge} {gd : Option (Nat × Bool)} (σ : Operand → Value) (w : World) : (execOp σ ⟨d, .alloc 25, ty, pos, af, gd⟩).run Tryd.prog w = .ok (.value (PQ w.heap.size 0)) (w.alloc (.cells (Lib.byteCells (List.replicate 32 0)).toArray 25)) := by kernel_rfl
theorem wr46_lh23 (c0 c1 c2 c3 c4 c5 c6 c7 c8 c9 c10 c11 c12 c13 c14 c15 c16 c17 c18 c19 c20 c21 c22 c23 c24 c25 c26 c27 c28 c29 c30 c31 : Value) (w : World) : (Instr.buildSlice 23 1 #[(0, .agg #[c0, c1, c2, c3, c4, c5, c6, c7, c8, c9, c10, c11, c12, c13, c14, c15, c16, c17, c18, c19, c20, c21, c22, c23, c24, c25, c26, c27, c28, c29, c30, c31])]).run Tryd.prog w = .ok (.slice (some ⟨w.heap.size, 0, none⟩) 1 1) (w.alloc (.cells #[c0, c1, c2, c3, c4, c5, c6, c7, c8, c9, c10, c11, c12, c13, c14, c15, c16, c17, c18, c19, c20, c21, c22, c23, c24, c25, c26, c27, c28, c29, c30, c31] 25)) := by kernel_rfl
theorem wr46_lg23 : ∀ (cs : Array Value), cs.size = 32 → ∀ w : World, (Instr.buildSlice 23 1 #[(0, .agg cs)]).run Tryd.prog w = .ok (.slice (some ⟨w.heap.size, 0, none⟩) 1 1) (w.alloc (.cells cs 25))
 | ⟨[c0, c1, c2, c3, c4, c5, c6, c7, c8, c9, c10, c11, c12, c13, c14, c15, c16, c17, c18, c19, c20, c21, c22, c23, c24, c25, c26, c27, c28, c29, c30, c31]⟩, _, w => wr46_lh23 c0 c1 c2 c3 c4 c5 c6 c7 c8 c9 c10 c11 c12 c13 c14 c15 c16 c17 c18 c19 c20 c21 c22 c23 c24 c25 c26 c27 c28 c29 c30 c31 w
theorem wr46_ig25 : ∃ z, (Tryd.prog.info? 25).map (fun i => (i.zero, i.size, i.bytes)) = some (some z, 32, 32) ∧ z.cells.size = 32 := info_ex (by kernel_rfl)
theorem wr46_eg25 : Tryd.prog.eqGuardType Tryd.prog.depth 25 = false := by kernel_rfl
theorem wr46_ty5 : Tryd.prog.underlying 5 = some (.int .u8) := by kernel_rfl
theorem wr46_sz5 : ∀ w' : World, (sizeOf 5).run Tryd.prog w' = .ok 1 w' := fun _ => by kernel_rfl
theorem wr46_pl142 : Plain Tryd.prog 142 := fun _ _ => by kernel_rfl
theorem wr46_pl134 : Plain Tryd.prog 134 := fun _ _ => by kernel_rfl
theorem wr46_pl135 : Plain Tryd.prog 135 := fun _ _ => by kernel_rfl
theorem wr46_ty4 : Tryd.prog.underlying 4 = some (.bool) := by kernel_rfl
theorem wr46_pl93 : Plain Tryd.prog 93 := fun _ _ => by kernel_rfl
set_option maxHeartbeats 1600000
theorem set_any (w : World) (v : Value) (l : List Bs) (hr : RG 32 Lib.byteCells w v l) (hl : l.length ≤ 100000) :
  Calls Tryd.prog 134 #[v] w fun e w' => ∃ v' o, e = .returned v' ∧ OG w.heap.size 25 32 Lib.byteCells w' v' o ∧ SAsc o ∧ (∀ x, x ∈ o ↔ x ∈ l) ∧ o.length ≤ l.length ∧ Ext w w' := by
 refine calls_of_wpF (args := [v]) Tryd.func134 rfl 32 rfl (Nat.le_of_ble_eq_true rfl) ?_
 intro ρ0 hb
 have T0 : ρ0 0 = (v : Value) := hb.get 0
 clear hb
 have hE := Ext.refl w
 refine sk fun K1 hK1 => (wt (oA rfl (oZ (tN (hK1 _ _ (sk fun K2 hK2 => (wt (oA rfl (oZ (tN (hK2 _ _ (sk fun K3 hK3 => (sk fun K4 hK4 => (wt (oM rfl (oS rfl (Yk.callA1 wr46_pl153 T0 ((sort_any _ v l (by omega) hr).mono ?_))))))))))))))))))
 rintro e w8 ⟨v5, rfl, ho6, hx7⟩
 refine ⟨_, rfl, ?_⟩
 have hr := hr.keep hx7
 have hE := hE.trans hx7
 have ho6 := RG.ofOwn ho6
 obtain ⟨m, hm⟩ : ∃ m, m = sortB l := ⟨_, rfl⟩
 rw [← hm] at ho6
 have hml : m.length = l.length := by rw [hm, sortB_len]
 have hma : Asc m := by rw [hm]; exact sortB_asc l
 have hmm : ∀ x, x ∈ m ↔ x ∈ l := fun x => by rw [hm]; exact (sortB_perm l).mem_iff
 refine oS rfl (Yk.lenRG wr46_ty23 (RG.of ho6 (vr v5 rfl)) (oM rfl (oL_ [(0, v), (2, (Value.slice none 0 0)), (3, (Value.slice none 0 0)), (7, v5), (8, NI m.length), (9, NI 0)] ⟨T0, rfl, rfl, rfl, rfl, rfl, trivial⟩ fun ρ9 ⟨T0, T2, T3, T7, T8, T9, _⟩ => ?_)))
 have hA10 := Ext.refl w8
 have hea11 := hE
 have hz12 := hE.size
 have hrow0 : OG w8.heap.size 25 32 Lib.byteCells w8 (Value.slice none 0 0) ([] : List Bs) := OG.nil _ _ _ _ _
 refine tN (hK4 _ _ (wpF_block (wpF_loop (fun (ρ : Slots) (wz : World) => ∃ i : Nat, ∃ o : List Bs, ∃ vo : Value, ρ 0 = (v : Value) ∧ ρ 2 = ((Value.slice none 0 0) : Value) ∧ ρ 7 = (v5 : Value) ∧ ρ 8 = (NI m.length : Value) ∧ ρ 9 = (NI i : Value) ∧ ρ 3 = (vo : Value) ∧ Ext w wz ∧ Ext w8 wz ∧ OG w8.heap.size 25 32 (Lib.byteCells) wz vo (o) ∧ (i ≤ m.length) ∧ (SAsc o) ∧ (∀ x, x ∈ o ↔ x ∈ m.take i) ∧ (o.length ≤ i) ∧ True) (fun ρ _ => m.length - (intOf (ρ 9)).toNat) ⟨0, [], (Value.slice none 0 0), T0, T2, T7, T8, T9, T3, hE, hA10, og_eq hrow0 (rfl), Nat.zero_le _, List.Pairwise.nil, (fun x => by simp), Nat.le_refl _, trivial⟩ ?_)))
 clear hrow0
 clear hE hA10
 rintro ρ13 w14 ⟨i, o, vo, T0, T2, T7, T8, T9, T3, hE, hA10, hr_vo, hi, hS, hmem, hol, -⟩
 have q9 := T9
 refine sk fun K15 hK15 => (wt (oS rfl (Yk.eqI (a := (i : Nat)) (b := (m.length : Nat)) T9 T8 (k_lss _ _ _ _) (oZ (tN (hK15 _ _ (sk fun K16 hK16 => ?_)))))))
 refine wpF_cond ((i) < (m.length)) (vr (.bool (decide ((i) < (m.length)))) rfl) (fun hc0 => ?_) (fun hc0 => ?_)
 ·have hlt : i < m.length := hc0
  refine wpF_skip (tN (hK16 _ _ (sk fun K17 hK17 => (wpF_block (sk fun K18 hK18 => (wt ?_))))))
  have hl21 : (Lib.byteCells (m.getD (i) ([] : List UInt8))).length = 32 := (RG.elem (ho6.keep hA10) ([] : List UInt8) (by omega))
  refine oS rfl (Yk.atRG wr46_ty23 wr46_szg25 (by decide) ([] : List UInt8) (RG.of (ho6.keep hA10) T7) T9 (by omega) fun v19 hp20 => (oS rfl (Yk.loadPR (PR.of hp20 (vr v19 rfl)) wr46_ty25 rfl (by rw [hl21]; exact wr46_isz25) (oS rfl (Yk.alloc (cs := (Lib.byteCells (List.replicate 32 0)).toArray) wr46_al25 fun n22 w23 hn24 hb25 hx26 hs27 => ?_)))))
  have hA28 := Ext.refl w14
  have hea29 := hE
  have hea30 := hA10
  have hz31 := hE.size
  have hz32 := hA10.size
  have hap33 : OB vo n22 := own_newer hr_vo.2 (by omega)
  have hE := hE.trans hx26
  have hA10 := hA10.trans hx26
  have hr_vo := hr_vo.keep hx26
  have hA28 := hA28.trans hx26
  have hb34 := hb25; clear hb25
  have hl35 : n22 < w23.heap.size := by omega
  refine oS rfl (Yk.storeAll (vr (PQ n22 0) rfl) (vr (AB (m.getD (i) ([] : List UInt8))) rfl) hb34 (by exact idsize (bytes_len32 (hl21)) List.length_replicate) (by exact sizeId_of (bytes_len32 (hl21))) (byteCells_one _) fun w36 hb37 hg38 hs39 => ?_)
  have hE := row_fresh hE hg38 (Nat.le_trans hz31 (by omega))
  have hA10 := row_fresh hA10 hg38 (Nat.le_trans hz32 (by omega))
  have hr_vo := OG.kept hr_vo hg38 hap33
  have hA28 := row_fresh hA28 hg38 (Nat.le_trans (Nat.le_refl _) (by omega))
  clear hb34
  have hb34 := hb37; clear hb37
  have hl40 := bl hb34
  refine oZ ?_
  clear hp20
  have hxl : (m.getD i []).length = 32 := bytes_len32 ((ho6.keep hA10).1 _ (getD_mem [] hlt))
  by_cases h0 : o.length = 0
  ·refine tN (hK18 _ _ (sk fun K41 hK41 => ?_))
   refine wpF_draw [Is (vo), Is (NI o.length), Is (.bool (true)), Is (.bool (true)), Is undef, Is undef, Is undef, Is undef, Is undef, Is undef, Is undef, Is undef, Is (.bool (true))] (by kernel_rfl) [13, 14, 15, 16, 17, 18, 19, 20, 21, 22, 23, 24, 25] (by kernel_rfl) (by kernel_rfl) ⟨Stab.is _, (si12 trivial)⟩ ?hs1005 ?hQ1005
   case hs1005 =>
    refine ⟨?_, ?_, ?_, ?_, ?_, ?_, ?_, ?_, ?_, ?_, ?_, ?_, ?_, trivial⟩
    ·refine stepN rfl fun σ w1 hC h => ?_
     have e3 := (eqo (h 3 (by decide))).trans T3
     exact Yk.move e3 ⟨Ext.refl _, rfl⟩
    ·refine stepN rfl fun σ w1 hC h => ?_
     have e13 := eqo (h 13 (by decide))
     exact Yk.lenRG wr46_ty23 (RG.of (RG.ofOwn (hr_vo.keep hC)) e13) ⟨Ext.refl _, rfl⟩
    ·refine stepN rfl fun σ w1 hC h => ?_
     have e14 := eqo (h 14 (by decide))
     exact Yk.eqI (a := (o.length : Nat)) (b := (0 : Nat)) e14 rfl (k_eql _ _ _ _) ⟨Ext.refl _, (congrArg Value.bool (decide_eq_true (h0)))⟩
    ·refine stepN rfl fun σ w1 hC h => ?_
     have e15 := eqo (h 15 (by decide))
     exact Yk.move e15 ⟨Ext.refl _, rfl⟩
    ·refine stepX 3 false 16 rfl rfl (fun x _ (h : x = .bool true) => by rw [h]; intro h; cases h) fun _ => rfl
    ·refine stepX 3 false 16 rfl rfl (fun x _ (h : x = .bool true) => by rw [h]; intro h; cases h) fun _ => rfl
    ·refine stepX 3 false 16 rfl rfl (fun x _ (h : x = .bool true) => by rw [h]; intro h; cases h) fun _ => rfl
    ·refine stepX 3 false 16 rfl rfl (fun x _ (h : x = .bool true) => by rw [h]; intro h; cases h) fun _ => rfl
    ·refine stepX 3 false 16 rfl rfl (fun x _ (h : x = .bool true) => by rw [h]; intro h; cases h) fun _ => rfl
    ·refine stepX 3 false 16 rfl rfl (fun x _ (h : x = .bool true) => by rw [h]; intro h; cases h) fun _ => rfl
    ·refine stepX 3 false 16 rfl rfl (fun x _ (h : x = .bool true) => by rw [h]; intro h; cases h) fun _ => rfl
    ·refine stepX 3 false 16 rfl rfl (fun x _ (h : x = .bool true) => by rw [h]; intro h; cases h) fun _ => rfl
    ·refine stepN rfl fun σ w1 hC h => ?_
     have e16 := eqo (h 16 (by decide))
     exact Yk.pickT e16 (vr (.bool (true)) rfl) ⟨Ext.refl _, rfl⟩
   intro ρ42 w43 hx44 he hf
   obtain ⟨-, -, -, -, -, -, -, -, -, -, -, -, k25, -⟩ := hf
   obtain ⟨T0, T2, T3, T5, T7, T8, T9, -⟩ := he.hold [(0, _), (2, _), (3, _), (5, PQ n22 0), (7, _), (8, _), (9, _)] ⟨T0, T2, T3, rfl, T7, T8, T9, trivial⟩ rfl
   clear he
   have hE := hE.trans hx44
   have hA10 := hA10.trans hx44
   have hr_vo := hr_vo.keep hx44
   have hA28 := hA28.trans hx44
   have hb34 := eb hx44 hb34
   have T25 : ρ42 25 = .bool (true) := k25
   clear k25
   refine tN (hK41 _ _ (wpF_true T25 (wt (oM rfl (oS rfl (Yk.loadAll T5 hb34 wr46_ty25 rfl (by exact sizeId_of (bytes_len32 (hl21))) (oS rfl (Yk.lit1G (a := (m.getD (i) ([] : List UInt8))) (enc := Lib.byteCells) (vr (AB (m.getD (i) ([] : List UInt8))) rfl) (by rw [Lib.byteCells_length]; exact (bytes_len32 (hl21))) wr46_lg23 fun v45 w46 hr47 hx48 => ?_))))))))
   have hE := hE.trans hx48
   have hA10 := hA10.trans hx48
   have hr_vo := hr_vo.keep hx48
   have hA28 := hA28.trans hx48
   have hb34 := eb hx48 hb34
   refine oS rfl (Yk.appendRG _ _ w8.heap.size _ 32 wr46_ty23 wr46_ig25.choose_spec.1 wr46_ig25.choose_spec.2 wr46_ty23 (o) ([(m.getD (i) ([] : List UInt8))]) (OG.of hr_vo T3) (RG.of hr47 (vr v45 rfl)) (fun _ _ => byteCells_one _) (by simp only [List.length_cons, List.length_nil]; omega) (by simp only [List.length_cons, List.length_nil]; omega) hA10.size fun v49 w50 ho51 hg52 => ?_)
   have hg52 : Grew w46 w50 vo v49 := .eqv T3 hg52
   have hap53 : OB v49 n22 := apart_grew hg52 hap33 (bl hb34)
   have hE := ext_grew hE hg52 hr_vo.2 hz12
   have hA10 := ext_grew hA10 hg52 hr_vo.2 (Nat.le_refl _)
   clear hA28
   have hb34 := blk_grew hb34 hg52 hap33
   clear hr47
   clear hr_vo
   refine oA rfl (oZ ?_)
   have hq : o.length = 0 ∨ o.getD (o.length - 1) [] ≠ m.getD i [] := .inl h0
   refine bN (tN (hK17 _ _ (wt (oS rfl (Yk.bin (xv := NI i) (yv := NI 1) T9 rfl rfl (i64_add _ _ _ (by omega)) (oM rfl (oL_ [(0, v), (2, (Value.slice none 0 0)), (3, v49), (5, PQ n22 0), (7, v5), (8, NI m.length), (9, NI ((i) + (1))), (25, .bool (true))] ⟨T0, T2, rfl, T5, T7, T8, rfl, T25, trivial⟩ fun ρ54 ⟨T0, T2, T3, T5, T7, T8, T9, T25, _⟩ => (tN (And.intro ⟨i + 1, o ++ [m.getD i []], v49, T0, T2, T7, T8, T9, T3, hE, hA10, og_eq ho51 (rfl), by omega, uniq_new hma hlt hS hmem hq, uniq_memT hlt hmem, (by simp only [List.length_append, List.length_cons, List.length_nil]; omega), trivial⟩ ?_)))))))))
   show m.length - (intOf (ρ54 9)).toNat < m.length - (intOf (ρ13 9)).toNat
   rw [T9, q9]
   simp only [intOf, Int.toNat_natCast]; omega
  have hyl : (o.getD (o.length - 1) []).length = 32 := bytes_len32 (hr_vo.1 _ (getD_mem [] (by omega)))
  refine tN (hK18 _ _ (sk fun K55 hK55 => ?_))
  refine wpF_draw [Is (vo), Is (NI o.length), Is (.bool (false)), Is (.bool (false)), Is (vo), Is (vo), Is (NI o.length), Is (NI ((o.length) - (1))), fun x w' => PR (Lib.byteCells (o.getD ((o.length) - (1)) ([] : List UInt8))) x w', Is (AB (o.getD ((o.length) - (1)) ([] : List UInt8))), Is (AB (m.getD (i) ([] : List UInt8))), Is (.bool (decide ((o.getD ((o.length) - (1)) ([] : List UInt8)) ≠ (m.getD (i) ([] : List UInt8))))), Is (.bool (decide ((o.getD ((o.length) - (1)) ([] : List UInt8)) ≠ (m.getD (i) ([] : List UInt8)))))] (by kernel_rfl) [13, 14, 15, 16, 17, 18, 19, 20, 21, 22, 23, 24, 25] (by kernel_rfl) (by kernel_rfl) (si8 ⟨(fun _ _ _ h k => PR.keep h k), (si4 trivial)⟩) ?hs2005 ?hQ2005
  case hs2005 =>
   refine ⟨?_, ?_, ?_, ?_, ?_, ?_, ?_, ?_, ?_, ?_, ?_, ?_, ?_, trivial⟩
   ·refine stepN rfl fun σ w1 hC h => ?_
    have e3 := (eqo (h 3 (by decide))).trans T3
    exact Yk.move e3 ⟨Ext.refl _, rfl⟩
   ·refine stepN rfl fun σ w1 hC h => ?_
    have e13 := eqo (h 13 (by decide))
    exact Yk.lenRG wr46_ty23 (RG.of (RG.ofOwn (hr_vo.keep hC)) e13) ⟨Ext.refl _, rfl⟩
   ·refine stepN rfl fun σ w1 hC h => ?_
    have e14 := eqo (h 14 (by decide))
    exact Yk.eqI (a := (o.length : Nat)) (b := (0 : Nat)) e14 rfl (k_eql _ _ _ _) ⟨Ext.refl _, (congrArg Value.bool (decide_eq_false (h0)))⟩
   ·refine stepN rfl fun σ w1 hC h => ?_
    have e15 := eqo (h 15 (by decide))
    exact Yk.move e15 ⟨Ext.refl _, rfl⟩
   ·refine stepY 3 false 16 rfl rfl (fun _ _ h => h) fun σ w1 hC h => ?_
    have e3 := (eqo (h 3 (by decide))).trans T3
    exact Yk.move e3 ⟨Ext.refl _, rfl⟩
   ·refine stepY 3 false 16 rfl rfl (fun _ _ h => h) fun σ w1 hC h => ?_
    have e3 := (eqo (h 3 (by decide))).trans T3
    exact Yk.move e3 ⟨Ext.refl _, rfl⟩
   ·refine stepY 3 false 16 rfl rfl (fun _ _ h => h) fun σ w1 hC h => ?_
    have e18 := eqo (h 18 (by decide))
    exact Yk.lenRG wr46_ty23 (RG.of (RG.ofOwn (hr_vo.keep hC)) e18) ⟨Ext.refl _, rfl⟩
   ·refine stepY 3 false 16 rfl rfl (fun _ _ h => h) fun σ w1 hC h => ?_
    have e19 := eqo (h 19 (by decide))
    exact Yk.bin (xv := NI o.length) (yv := NI 1) e19 rfl rfl (i64_sub _ _ _ (by omega) (by omega)) ⟨Ext.refl _, rfl⟩
   ·refine stepY 3 false 16 rfl rfl (fun _ _ h => h) fun σ w1 hC h => ?_
    have e17 := eqo (h 17 (by decide))
    have e20 := eqo (h 20 (by decide))
    exact Yk.atRG wr46_ty23 wr46_szg25 (by decide) ([] : List UInt8) (RG.of (RG.ofOwn (hr_vo.keep hC)) e17) e20 (by omega) fun v h => ⟨Ext.refl _, h⟩
   ·refine stepY 3 false 16 rfl rfl (fun _ _ h => h) fun σ w1 hC h => ?_
    have e21 : (fun x w' => PR (Lib.byteCells (o.getD ((o.length) - (1)) ([] : List UInt8))) x w') (σ 21) w1 := h 21 (by decide)
    exact Yk.loadPR e21 wr46_ty25 rfl (by rw [RG.elem (RG.ofOwn hr_vo) ([] : List UInt8) (by omega)]; exact wr46_isz25) ⟨Ext.refl _, rfl⟩
   ·refine stepY 3 false 16 rfl rfl (fun _ _ h => h) fun σ w1 hC h => ?_
    have e5 : σ 5 = PQ n22 0 := (eqo (h 5 (by decide))).trans rfl
    exact Yk.loadAll e5 (eb hC hb34) wr46_ty25 rfl (by exact sizeId_of (bytes_len32 (hl21))) ⟨Ext.refl _, rfl⟩
   ·refine stepY 3 false 16 rfl rfl (fun _ _ h => h) fun σ w1 hC h => ?_
    have e22 := eqo (h 22 (by decide))
    have e23 := eqo (h 23 (by decide))
    exact Yk.neArr (l1 := (o.getD ((o.length) - (1)) ([] : List UInt8))) (l2 := (m.getD (i) ([] : List UInt8))) wr46_ty25 wr46_ty5 wr46_sz5 wr46_eg25 e22 e23 (hyl) (hxl) ⟨Ext.refl _, rfl⟩
   ·refine stepN rfl fun σ w1 hC h => ?_
    have e16 := eqo (h 16 (by decide))
    have e24 := eqo (h 24 (by decide))
    exact Yk.pickF e16 e24 ⟨Ext.refl _, rfl⟩
  intro ρ56 w57 hx58 he hf
  obtain ⟨-, -, -, -, -, -, -, -, -, -, -, -, k25, -⟩ := hf
  obtain ⟨T0, T2, T3, T5, T7, T8, T9, -⟩ := he.hold [(0, _), (2, _), (3, _), (5, PQ n22 0), (7, _), (8, _), (9, _)] ⟨T0, T2, T3, rfl, T7, T8, T9, trivial⟩ rfl
  clear he
  have hE := hE.trans hx58
  have hA10 := hA10.trans hx58
  have hr_vo := hr_vo.keep hx58
  have hA28 := hA28.trans hx58
  have hb34 := eb hx58 hb34
  have T25 : ρ56 25 = .bool (decide ((o.getD ((o.length) - (1)) ([] : List UInt8)) ≠ (m.getD (i) ([] : List UInt8)))) := k25
  clear k25
  refine tN (hK55 _ _ ?_)
  refine wpF_cond ((o.getD ((o.length) - (1)) ([] : List UInt8)) ≠ (m.getD (i) ([] : List UInt8))) T25 (fun hc1 => ?_) (fun hc1 => ?_)
  ·have hq : o.length = 0 ∨ o.getD (o.length - 1) [] ≠ m.getD i [] := .inr hc1
   refine wt (oM rfl (oS rfl (Yk.loadAll T5 hb34 wr46_ty25 rfl (by exact sizeId_of (bytes_len32 (hl21))) (oS rfl (Yk.lit1G (a := (m.getD (i) ([] : List UInt8))) (enc := Lib.byteCells) (vr (AB (m.getD (i) ([] : List UInt8))) rfl) (by rw [Lib.byteCells_length]; exact (bytes_len32 (hl21))) wr46_lg23 fun v59 w60 hr61 hx62 => ?_)))))
   have hE := hE.trans hx62
   have hA10 := hA10.trans hx62
   have hr_vo := hr_vo.keep hx62
   have hA28 := hA28.trans hx62
   have hb34 := eb hx62 hb34
   refine oS rfl (Yk.appendRG _ _ w8.heap.size _ 32 wr46_ty23 wr46_ig25.choose_spec.1 wr46_ig25.choose_spec.2 wr46_ty23 (o) ([(m.getD (i) ([] : List UInt8))]) (OG.of hr_vo T3) (RG.of hr61 (vr v59 rfl)) (fun _ _ => byteCells_one _) (by simp only [List.length_cons, List.length_nil]; omega) (by simp only [List.length_cons, List.length_nil]; omega) hA10.size fun v63 w64 ho65 hg66 => ?_)
   have hg66 : Grew w60 w64 vo v63 := .eqv T3 hg66
   have hap67 : OB v63 n22 := apart_grew hg66 hap33 (bl hb34)
   have hE := ext_grew hE hg66 hr_vo.2 hz12
   have hA10 := ext_grew hA10 hg66 hr_vo.2 (Nat.le_refl _)
   clear hA28
   have hb34 := blk_grew hb34 hg66 hap33
   clear hr61
   clear hr_vo
   refine oA rfl (oZ (bN (tN (hK17 _ _ (wt (oS rfl (Yk.bin (xv := NI i) (yv := NI 1) T9 rfl rfl (i64_add _ _ _ (by omega)) (oM rfl (oL_ [(0, v), (2, (Value.slice none 0 0)), (3, v63), (5, PQ n22 0), (7, v5), (8, NI m.length), (9, NI ((i) + (1)))] ⟨T0, T2, rfl, T5, T7, T8, rfl, trivial⟩ fun ρ68 ⟨T0, T2, T3, T5, T7, T8, T9, _⟩ => (tN (And.intro ⟨i + 1, o ++ [m.getD i []], v63, T0, T2, T7, T8, T9, T3, hE, hA10, og_eq ho65 (rfl), by omega, uniq_new hma hlt hS hmem hq, uniq_memT hlt hmem, (by simp only [List.length_append, List.length_cons, List.length_nil]; omega), trivial⟩ ?_)))))))))))
   show m.length - (intOf (ρ68 9)).toNat < m.length - (intOf (ρ13 9)).toNat
   rw [T9, q9]
   simp only [intOf, Int.toNat_natCast]; omega
  have hq : ¬ o.getD (o.length - 1) [] ≠ m.getD i [] := hc1
  refine wpF_skip (bN (tN (hK17 _ _ (wt (oS rfl (Yk.bin (xv := NI i) (yv := NI 1) T9 rfl rfl (i64_add _ _ _ (by omega)) (oM rfl (oL_ [(0, v), (2, (Value.slice none 0 0)), (3, vo), (5, PQ n22 0), (7, v5), (8, NI m.length), (9, NI ((i) + (1)))] ⟨T0, T2, T3, T5, T7, T8, rfl, trivial⟩ fun ρ69 ⟨T0, T2, T3, T5, T7, T8, T9, _⟩ => (tN (And.intro ⟨i + 1, o, vo, T0, T2, T7, T8, T9, T3, hE, hA10, og_eq hr_vo (rfl), by omega, hS, uniq_memF hlt hmem h0 hq, by omega, trivial⟩ ?_))))))))))
  show m.length - (intOf (ρ69 9)).toNat < m.length - (intOf (ρ13 9)).toNat
  rw [T9, q9]
  simp only [intOf, Int.toNat_natCast]; omega
 refine wpF_exit (thenF_exit (thenF_exit (inBlockF_hit (tN (hK3 _ _ (sk fun K70 hK70 => (wt (oM rfl (oA rfl (oZ (tN (hK70 _ _ (wpF_ret (postF_ret (fn := Tryd.f134) _ rfl [vo] (vo) rfl ⟨T3, trivial⟩ ?_))))))))))))))
 rw [show i = m.length by omega, List.take_length] at hmem
 exact ⟨_, o, rfl, OG.low hr_vo (by have := hz12; omega), hS, fun x => (hmem x).trans (hmm x), by omega, hE⟩

theorem placeB_any (w : World) (v : Value) (l : List Bs) (hr : RG 32 Lib.byteCells w v l) (hl : l.length ≤ 100000) (hS : SAsc l) (x : Bs) (hxl : x.length = 32) :
  Calls Tryd.prog 135 #[v, AB x] w fun e w' => ∃ p : Nat, e = .returned (.tuple #[NI p, .bool (decide (x ∈ l))]) ∧ Ext w w' := by
 refine calls_of_wpF (args := [v, AB x]) Tryd.func135 rfl 38 rfl (Nat.le_of_ble_eq_true rfl) ?_
 intro ρ0 hb
 have T0 : ρ0 0 = (v : Value) := hb.get 0
 have T1 : ρ0 1 = (AB x : Value) := hb.get 1
 clear hb
 have hE := Ext.refl w
 refine sk fun K1 hK1 => (wt (oS rfl (Yk.box (cs := (Lib.byteCells x : List Value).toArray) T1 fun n2 w3 hn4 hb5 hx6 hs7 => ?_)))
 have hE := hE.trans hx6
 have hb8 := hb5; clear hb5
 have hl9 : n2 < w3.heap.size := by omega
 refine oA rfl (oA rfl (oZ (tN (hK1 _ _ (sk fun K10 hK10 => (wt (oM rfl (oS rfl (Yk.lenRG wr46_ty23 (RG.of (hr.keep hE) T0) (oA rfl (oA rfl (oL_ [(0, v), (1, AB x), (3, PQ n2 0), (4, NI 0), (5, .bool (false)), (6, NI 0), (7, NI l.length)] ⟨T0, T1, rfl, rfl, rfl, rfl, rfl, trivial⟩ fun ρ11 ⟨T0, T1, T3, T4, T5, T6, T7, _⟩ => (tN (hK10 _ _ (sk fun K12 hK12 => (wpF_block (wpF_loop (fun (ρ : Slots) (wz : World) => ∃ lo : Nat, ∃ hi : Nat, ρ 0 = (v : Value) ∧ ρ 1 = (AB x : Value) ∧ ρ 3 = (PQ n2 0 : Value) ∧ ρ 6 = (NI lo : Value) ∧ ρ 7 = (NI hi : Value) ∧ Ext w wz ∧ wz.heap[n2]? = some (.cells (Lib.byteCells x).toArray 25 (0, 0)) ∧ (lo ≤ hi) ∧ (hi ≤ l.length) ∧ (∀ j, j < lo → Lib.compareBytes (l.getD j []) x < 0) ∧ (∀ j, hi ≤ j → j < l.length → 0 < Lib.compareBytes (l.getD j []) x) ∧ True) (fun ρ _ => (intOf (ρ 7)).toNat - (intOf (ρ 6)).toNat) ⟨0, l.length, T0, T1, T3, T6, T7, hE, hb8, Nat.zero_le _, Nat.le_refl _, fun j hj => absurd hj (Nat.not_lt_zero _), (fun j h1 h2 => by omega), trivial⟩ ?_)))))))))))))))))
 clear hE hb8
 rintro ρ13 w14 ⟨lo, hi, T0, T1, T3, T6, T7, hE, hb8, h1, h2, hlo, hhi, -⟩
 have q7 := T7
 have q6 := T6
 refine sk fun K15 hK15 => (sk fun K16 hK16 => (wt (oM rfl (oM rfl (oS rfl (Yk.eqI (a := (lo : Nat)) (b := (hi : Nat)) T6 T7 (k_lss _ _ _ _) (oZ (tN (hK16 _ _ ?_)))))))))
 refine wpF_cond ((lo) < (hi)) (vr (.bool (decide ((lo) < (hi)))) rfl) (fun hc0 => ?_) (fun hc0 => ?_)
 ·have hlt : lo < hi := hc0
  have hmid : lo + (hi - lo) / 2 < l.length := by omega
  have hyl : (l.getD (lo + (hi - lo) / 2) []).length = 32 := bytes_len32 ((hr.keep hE).1 _ (getD_mem [] hmid))
  refine wpF_skip (tN (hK15 _ _ (wpF_block (sk fun K17 hK17 => (wt (oM rfl (oM rfl (oM rfl (oS rfl (Yk.bin (xv := NI hi) (yv := NI lo) T7 T6 rfl (i64_sub _ _ _ (by omega) (by omega)) (oS rfl (Yk.bin (xv := NI ((hi) - (lo))) (yv := NI 2) rfl rfl rfl (i64_quo _ _ _ (by omega) (by omega)) (oS rfl (Yk.bin (xv := NI lo) (yv := NI (((hi) - (lo)) / (2))) T6 rfl rfl (i64_add _ _ _ (by omega)) (oA rfl (oZ (tN (hK17 _ _ (sk fun K18 hK18 => ?_)))))))))))))))))))
  refine wpF_draw [Is (v), Is (NI ((lo) + (((hi) - (lo)) / (2)))), fun x w' => PR (Lib.byteCells (l.getD ((lo) + (((hi) - (lo)) / (2))) ([] : List UInt8))) x w', Is (AB (l.getD ((lo) + (((hi) - (lo)) / (2))) ([] : List UInt8))), Is (AB x), Is (.int .i64 (Lib.compareBytes (l.getD ((lo) + (((hi) - (lo)) / (2))) ([] : List UInt8)) x : Int)), Is (.int .i64 (Lib.compareBytes (l.getD ((lo) + (((hi) - (lo)) / (2))) ([] : List UInt8)) x : Int))] (by kernel_rfl) [21, 22, 23, 24, 25, 26, 9] (by kernel_rfl) (by kernel_rfl) (si2 ⟨(fun _ _ _ h k => PR.keep h k), (si4 trivial)⟩) ?hs1004 ?hQ1004
  case hs1004 =>
   refine ⟨?_, ?_, ?_, ?_, ?_, ?_, ?_, trivial⟩
   ·refine stepN rfl fun σ w1 hC h => ?_
    have e0 := (eqo (h 0 (by decide))).trans T0
    exact Yk.move e0 ⟨Ext.refl _, rfl⟩
   ·refine stepN rfl fun σ w1 hC h => ?_
    have e8 : σ 8 = NI ((lo) + (((hi) - (lo)) / (2))) := (eqo (h 8 (by decide))).trans rfl
    exact Yk.move e8 ⟨Ext.refl _, rfl⟩
   ·refine stepN rfl fun σ w1 hC h => ?_
    have e21 := eqo (h 21 (by decide))
    have e22 := eqo (h 22 (by decide))
    exact Yk.atRG wr46_ty23 wr46_szg25 (by decide) ([] : List UInt8) (RG.of (hr.keep (hE.trans hC)) e21) e22 (by omega) fun v h => ⟨Ext.refl _, h⟩
   ·refine stepN rfl fun σ w1 hC h => ?_
    have e23 : (fun x w' => PR (Lib.byteCells (l.getD ((lo) + (((hi) - (lo)) / (2))) ([] : List UInt8))) x w') (σ 23) w1 := h 23 (by decide)
    exact Yk.loadPR e23 wr46_ty25 rfl (by rw [RG.elem hr ([] : List UInt8) (by omega)]; exact wr46_isz25) ⟨Ext.refl _, rfl⟩
   ·refine stepN rfl fun σ w1 hC h => ?_
    have e3 := (eqo (h 3 (by decide))).trans T3
    exact Yk.loadAll e3 (eb hC hb8) wr46_ty25 rfl (by exact sizeId_of hxl) ⟨Ext.refl _, rfl⟩
   ·refine stepN rfl fun σ w1 hC h => ?_
    have e24 := eqo (h 24 (by decide))
    have e25 := eqo (h 25 (by decide))
    refine Yk.callA2 wr46_pl142 e24 e25 ((compare_any _ (l.getD ((lo) + (((hi) - (lo)) / (2))) ([] : List UInt8)) x hyl hxl).mono ?_)
    rintro e w2 ⟨rfl, hx⟩
    exact ⟨_, rfl, hx, rfl⟩
   ·refine stepN rfl fun σ w1 hC h => ?_
    have e26 := eqo (h 26 (by decide))
    exact Yk.assign e26 ⟨Ext.refl _, rfl⟩
  intro ρ19 w20 hx21 he hf
  obtain ⟨-, -, -, -, -, -, k9, -⟩ := hf
  obtain ⟨T0, T1, T3, T6, T7, T8, -⟩ := he.hold [(0, _), (1, _), (3, _), (6, _), (7, _), (8, NI ((lo) + (((hi) - (lo)) / (2))))] ⟨T0, T1, T3, T6, T7, rfl, trivial⟩ rfl
  clear he
  have hE := hE.trans hx21
  have hb8 := eb hx21 hb8
  have T9 : ρ19 9 = .int .i64 (Lib.compareBytes (l.getD ((lo) + (((hi) - (lo)) / (2))) ([] : List UInt8)) x : Int) := k9
  clear k9
  refine tN (hK18 _ _ (wpF_block (sk fun K22 hK22 => (wt (oM rfl (oS rfl (Yk.eqI T9 (vr (NI 0) rfl) (z_eql _ .i64 (Lib.compareBytes (l.getD ((lo) + (((hi) - (lo)) / (2))) ([] : List UInt8)) x : Int) ((0 : Nat) : Int)) (oA rfl (oZ (tN (hK22 _ _ ?_)))))))))))
  refine wpF_cond ((Lib.compareBytes (l.getD ((lo) + (((hi) - (lo)) / (2))) ([] : List UInt8)) x : Int) = ((0 : Nat) : Int)) (vr (.bool (decide ((Lib.compareBytes (l.getD ((lo) + (((hi) - (lo)) / (2))) ([] : List UInt8)) x : Int) = ((0 : Nat) : Int)))) rfl) (fun hc1 => ?_) (fun hc1 => ?_)
  ·refine sk fun K23 hK23 => (wt (oM rfl (oA rfl (oA rfl (oZ (tN (hK23 _ _ (wpF_ret (inBlockF_ret (inBlockF_ret (thenF_ret (inBlockF_ret (thenF_ret (postF_ret (fn := Tryd.f135) _ rfl [NI ((lo) + (((hi) - (lo)) / (2))), .bool (true)] (.tuple #[NI ((lo) + (((hi) - (lo)) / (2))), .bool (true)]) rfl ⟨T8, rfl, trivial⟩ ?_))))))))))))))
   have hmem : x ∈ l := by rw [← cmp_zero hc1]; exact getD_mem [] hmid
   exact ⟨_, by rw [decide_eq_true hmem], hE⟩
  refine sk fun K24 hK24 => (wt (oM rfl (oS rfl (Yk.eqI T9 (vr (NI 0) rfl) (z_lss _ .i64 (Lib.compareBytes (l.getD ((lo) + (((hi) - (lo)) / (2))) ([] : List UInt8)) x : Int) ((0 : Nat) : Int)) (oA rfl (oZ (tN (hK24 _ _ ?_))))))))
  refine wpF_cond ((Lib.compareBytes (l.getD ((lo) + (((hi) - (lo)) / (2))) ([] : List UInt8)) x : Int) < ((0 : Nat) : Int)) (vr (.bool (decide ((Lib.compareBytes (l.getD ((lo) + (((hi) - (lo)) / (2))) ([] : List UInt8)) x : Int) < ((0 : Nat) : Int)))) rfl) (fun hc2 => ?_) (fun hc2 => ?_)
  ·refine wt (oM rfl (oS rfl (Yk.bin (xv := NI ((lo) + (((hi) - (lo)) / (2)))) (yv := NI 1) T8 rfl rfl (i64_add _ _ _ (by omega)) (oA rfl (oL_ [(0, v), (1, AB x), (3, PQ n2 0), (6, NI (((lo) + (((hi) - (lo)) / (2))) + (1))), (7, NI hi), (8, NI ((lo) + (((hi) - (lo)) / (2)))), (9, .int .i64 (Lib.compareBytes (l.getD ((lo) + (((hi) - (lo)) / (2))) ([] : List UInt8)) x : Int))] ⟨T0, T1, T3, rfl, T7, T8, T9, trivial⟩ fun ρ25 ⟨T0, T1, T3, T6, T7, T8, T9, _⟩ => (bN (bN (tN (And.intro ⟨lo + (hi - lo) / 2 + 1, hi, T0, T1, T3, T6, T7, hE, hb8, by omega, by omega, place_lo hS hmid hc2, hhi, trivial⟩ ?_)))))))))
   show (intOf (ρ25 7)).toNat - (intOf (ρ25 6)).toNat < (intOf (ρ13 7)).toNat - (intOf (ρ13 6)).toNat
   rw [T7, T6, q7, q6]
   simp only [intOf, Int.toNat_natCast]; omega
  refine wt (oM rfl (oA rfl (oL_ [(0, v), (1, AB x), (3, PQ n2 0), (6, NI lo), (7, NI ((lo) + (((hi) - (lo)) / (2)))), (8, NI ((lo) + (((hi) - (lo)) / (2)))), (9, .int .i64 (Lib.compareBytes (l.getD ((lo) + (((hi) - (lo)) / (2))) ([] : List UInt8)) x : Int))] ⟨T0, T1, T3, T6, T8, T8, T9, trivial⟩ fun ρ26 ⟨T0, T1, T3, T6, T7, T8, T9, _⟩ => (bN (bN (tN (And.intro ⟨lo, lo + (hi - lo) / 2, T0, T1, T3, T6, T7, hE, hb8, by omega, by omega, hlo, place_hi hS (by omega), trivial⟩ ?_)))))))
  show (intOf (ρ26 7)).toNat - (intOf (ρ26 6)).toNat < (intOf (ρ13 7)).toNat - (intOf (ρ13 6)).toNat
  rw [T7, T6, q7, q6]
  simp only [intOf, Int.toNat_natCast]; omega
 refine wpF_exit (thenF_exit (thenF_exit (inBlockF_hit (tN (hK12 _ _ (sk fun K27 hK27 => (wt (oM rfl (oA rfl (oA rfl (oZ (tN (hK27 _ _ (wpF_ret (postF_ret (fn := Tryd.f135) _ rfl [NI lo, .bool (false)] (.tuple #[NI lo, .bool (false)]) rfl ⟨T6, rfl, trivial⟩ ?_)))))))))))))))
 have hno : x ∉ l := place_no (p := lo) hlo (fun j hj hl => hhi j (by omega) hl)
 exact ⟨_, by rw [decide_eq_false hno], hE⟩

theorem pick_any (w : World) (v v2 : Value) (a b : List Bs) (hr : RG 32 Lib.byteCells w v a) (hr2 : RG 32 Lib.byteCells w v2 b) (ha : a.length ≤ 100000) (hb : b.length ≤ 100000) (q : Bool) :
  Calls Tryd.prog 93 #[v, v2, .bool q] w fun e w' => ∃ v' o, e = .returned v' ∧ OG w.heap.size 25 32 Lib.byteCells w' v' o ∧ SAsc o ∧ (∀ x, x ∈ o ↔ x ∈ a ∧ (decide (x ∈ b) == q) = true) ∧ o.length ≤ a.length ∧ Ext w w' := by
 refine calls_of_wpF (args := [v, v2, .bool (q)]) Tryd.func93 rfl 36 rfl (Nat.le_of_ble_eq_true rfl) ?_
 intro ρ0 hb
 have T0 : ρ0 0 = (v : Value) := hb.get 0
 have T1 : ρ0 1 = (v2 : Value) := hb.get 1
 have T2 : ρ0 2 = (.bool (q) : Value) := hb.get 2
 clear hb
 have hE := Ext.refl w
 refine sk fun K1 hK1 => (wt (oA rfl (oZ (tN (hK1 _ _ (sk fun K2 hK2 => (wt (oM rfl (oS rfl (Yk.callA1 wr46_pl134 T1 ((set_any _ v2 b hr2 hb).mono ?_)))))))))))
 rintro e w6 ⟨v3, B, rfl, ho4, hSB, hmB, hlB, hx5⟩
 refine ⟨_, rfl, ?_⟩
 have hr := hr.keep hx5
 have hr2 := hr2.keep hx5
 have hE := hE.trans hx5
 have ho4 := RG.ofOwn ho4
 refine oA rfl (oZ (tN (hK2 _ _ (sk fun K7 hK7 => (wt (oA rfl (oZ (tN (hK7 _ _ (sk fun K8 hK8 => (sk fun K9 hK9 => (wt (oM rfl (oS rfl (Yk.callA1 wr46_pl134 T0 ((set_any _ v a hr ha).mono ?_))))))))))))))))
 rintro e w13 ⟨v10, A, rfl, ho11, hSA, hmA, hlA, hx12⟩
 refine ⟨_, rfl, ?_⟩
 have hr := hr.keep hx12
 have hr2 := hr2.keep hx12
 have hE := hE.trans hx12
 have ho4 := ho4.keep hx12
 have ho11 := RG.ofOwn ho11
 refine oS rfl (Yk.lenRG wr46_ty23 (RG.of ho11 (vr v10 rfl)) (oM rfl (oL_ [(0, v), (1, v3), (2, .bool (q)), (6, (Value.slice none 0 0)), (7, (Value.slice none 0 0)), (15, v10), (16, NI A.length), (17, NI 0)] ⟨T0, rfl, T2, rfl, rfl, rfl, rfl, rfl, trivial⟩ fun ρ14 ⟨T0, T1, T2, T6, T7, T15, T16, T17, _⟩ => ?_)))
 have hA15 := Ext.refl w13
 have hea16 := hE
 have hz17 := hE.size
 have hrow0 : OG w13.heap.size 25 32 Lib.byteCells w13 (Value.slice none 0 0) ([] : List Bs) := OG.nil _ _ _ _ _
 refine tN (hK9 _ _ (wpF_block (wpF_loop (fun (ρ : Slots) (wz : World) => ∃ i : Nat, ∃ vo : Value, ρ 0 = (v : Value) ∧ ρ 1 = (v3 : Value) ∧ ρ 2 = (.bool (q) : Value) ∧ ρ 6 = ((Value.slice none 0 0) : Value) ∧ ρ 15 = (v10 : Value) ∧ ρ 16 = (NI A.length : Value) ∧ ρ 17 = (NI i : Value) ∧ ρ 7 = (vo : Value) ∧ Ext w wz ∧ Ext w13 wz ∧ OG w13.heap.size 25 32 (Lib.byteCells) wz vo (pickB (A.take i) B q) ∧ (i ≤ A.length) ∧ True) (fun ρ _ => A.length - (intOf (ρ 17)).toNat) ⟨0, (Value.slice none 0 0), T0, T1, T2, T6, T15, T16, T17, T7, hE, hA15, og_eq hrow0 (rfl), Nat.zero_le _, trivial⟩ ?_)))
 clear hrow0
 clear hE hA15
 rintro ρ18 w19 ⟨i, vo, T0, T1, T2, T6, T15, T16, T17, T7, hE, hA15, hr_vo, hi, -⟩
 have q17 := T17
 refine sk fun K20 hK20 => (wt (oS rfl (Yk.eqI (a := (i : Nat)) (b := (A.length : Nat)) T17 T16 (k_lss _ _ _ _) (oZ (tN (hK20 _ _ (sk fun K21 hK21 => ?_)))))))
 refine wpF_cond ((i) < (A.length)) (vr (.bool (decide ((i) < (A.length)))) rfl) (fun hc0 => ?_) (fun hc0 => ?_)
 ·have hlt : i < A.length := hc0
  have hxl : (A.getD i []).length = 32 := bytes_len32 ((ho11.keep hA15).1 _ (getD_mem [] hlt))
  have hpl : (pickB (A.take i) B q).length ≤ i := by unfold pickB; exact Nat.le_trans (List.length_filter_le _ _) (by rw [List.length_take]; omega)
  refine wpF_skip (tN (hK21 _ _ (sk fun K22 hK22 => (wpF_block (sk fun K23 hK23 => (wt ?_))))))
  have hl26 : (Lib.byteCells (A.getD (i) ([] : List UInt8))).length = 32 := (RG.elem (ho11.keep hA15) ([] : List UInt8) (by omega))
  refine oS rfl (Yk.atRG wr46_ty23 wr46_szg25 (by decide) ([] : List UInt8) (RG.of (ho11.keep hA15) T15) T17 (by omega) fun v24 hp25 => (oS rfl (Yk.loadPR (PR.of hp25 (vr v24 rfl)) wr46_ty25 rfl (by rw [hl26]; exact wr46_isz25) (oS rfl (Yk.alloc (cs := (Lib.byteCells (List.replicate 32 0)).toArray) wr46_al25 fun n27 w28 hn29 hb30 hx31 hs32 => ?_)))))
  have hA33 := Ext.refl w19
  have hea34 := hE
  have hea35 := hA15
  have hz36 := hE.size
  have hz37 := hA15.size
  have hap38 : OB vo n27 := own_newer hr_vo.2 (by omega)
  have hE := hE.trans hx31
  have hA15 := hA15.trans hx31
  have hr_vo := hr_vo.keep hx31
  have hA33 := hA33.trans hx31
  have hb39 := hb30; clear hb30
  have hl40 : n27 < w28.heap.size := by omega
  refine oS rfl (Yk.storeAll (vr (PQ n27 0) rfl) (vr (AB (A.getD (i) ([] : List UInt8))) rfl) hb39 (by exact idsize (bytes_len32 (hl26)) List.length_replicate) (by exact sizeId_of (bytes_len32 (hl26))) (byteCells_one _) fun w41 hb42 hg43 hs44 => ?_)
  have hE := row_fresh hE hg43 (Nat.le_trans hz36 (by omega))
  have hA15 := row_fresh hA15 hg43 (Nat.le_trans hz37 (by omega))
  have hr_vo := OG.kept hr_vo hg43 hap38
  have hA33 := row_fresh hA33 hg43 (Nat.le_trans (Nat.le_refl _) (by omega))
  clear hb39
  have hb39 := hb42; clear hb42
  have hl45 := bl hb39
  refine oZ ?_
  clear hp25
  refine tN (hK23 _ _ (sk fun K46 hK46 => (wt (oM rfl (oS rfl (Yk.loadAll (vr (PQ n27 0) rfl) hb39 wr46_ty25 rfl (by exact sizeId_of (bytes_len32 (hl26))) (oS rfl (Yk.callA2 wr46_pl135 T1 (vr (AB (A.getD (i) ([] : List UInt8))) rfl) ((placeB_any _ v3 B (ho4.keep hA15) (by omega) hSB (A.getD i []) hxl).mono ?_)))))))))
  rintro e w48 ⟨pp, rfl, hx47⟩
  refine ⟨_, rfl, ?_⟩
  have hE := hE.trans hx47
  have hA15 := hA15.trans hx47
  have hr_vo := hr_vo.keep hx47
  have hA33 := hA33.trans hx47
  have hb39 := eb hx47 hb39
  refine oM rfl (oS rfl (Yk.extract (vs := [NI pp, .bool (decide (A.getD i [] ∈ B))]) (vr (.tuple #[NI pp, .bool (decide (A.getD i [] ∈ B))]) rfl) (show _ = some (NI pp : Value) from rfl) (oS rfl (Yk.extract (vs := [NI pp, .bool (decide (A.getD i [] ∈ B))]) (vr (.tuple #[NI pp, .bool (decide (A.getD i [] ∈ B))]) rfl) (show _ = some (.bool (decide (A.getD i [] ∈ B)) : Value) from rfl) (oA rfl (oA rfl (oZ (tN (hK46 _ _ (sk fun K49 hK49 => (wt (oM rfl (oM rfl (oS rfl (Yk.eqBool wr46_ty4 (vr (.bool (decide (A.getD i [] ∈ B))) rfl) T2 (oZ (tN (hK49 _ _ ?_))))))))))))))))))
  refine wpF_condB (decide (A.getD i [] ∈ B) == q) (vr (.bool (decide (A.getD i [] ∈ B) == q)) rfl) (fun hc1 => ?_) (fun hc1 => ?_)
  ·have hq := hc1
   refine wt (oM rfl (oS rfl (Yk.loadAll (vr (PQ n27 0) rfl) hb39 wr46_ty25 rfl (by exact sizeId_of (bytes_len32 (hl26))) (oS rfl (Yk.lit1G (a := (A.getD (i) ([] : List UInt8))) (enc := Lib.byteCells) (vr (AB (A.getD (i) ([] : List UInt8))) rfl) (by rw [Lib.byteCells_length]; exact (bytes_len32 (hl26))) wr46_lg23 fun v50 w51 hr52 hx53 => ?_)))))
   have hE := hE.trans hx53
   have hA15 := hA15.trans hx53
   have hr_vo := hr_vo.keep hx53
   have hA33 := hA33.trans hx53
   have hb39 := eb hx53 hb39
   refine oS rfl (Yk.appendRG _ _ w13.heap.size _ 32 wr46_ty23 wr46_ig25.choose_spec.1 wr46_ig25.choose_spec.2 wr46_ty23 (pickB (A.take i) B q) ([(A.getD (i) ([] : List UInt8))]) (OG.of hr_vo T7) (RG.of hr52 (vr v50 rfl)) (fun _ _ => byteCells_one _) (by simp only [List.length_cons, List.length_nil]; omega) (by simp only [List.length_cons, List.length_nil]; omega) hA15.size fun v54 w55 ho56 hg57 => ?_)
   have hg57 : Grew w51 w55 vo v54 := .eqv T7 hg57
   have hap58 : OB v54 n27 := apart_grew hg57 hap38 (bl hb39)
   have hE := ext_grew hE hg57 hr_vo.2 hz17
   have hA15 := ext_grew hA15 hg57 hr_vo.2 (Nat.le_refl _)
   clear hA33
   have hb39 := blk_grew hb39 hg57 hap38
   clear hr52
   clear hr_vo
   refine oA rfl (oZ (bN (tN (hK22 _ _ (wt (oS rfl (Yk.bin (xv := NI i) (yv := NI 1) T17 rfl rfl (i64_add _ _ _ (by omega)) (oM rfl (oL_ [(0, v), (1, v3), (2, .bool (q)), (6, (Value.slice none 0 0)), (7, v54), (9, PQ n27 0), (11, .bool (decide (A.getD i [] ∈ B))), (15, v10), (16, NI A.length), (17, NI ((i) + (1)))] ⟨T0, T1, T2, T6, rfl, rfl, rfl, T15, T16, rfl, trivial⟩ fun ρ59 ⟨T0, T1, T2, T6, T7, T9, T11, T15, T16, T17, _⟩ => (tN (And.intro ⟨i + 1, v54, T0, T1, T2, T6, T15, T16, T17, T7, hE, hA15, og_eq ho56 (by rw [pick_memS hlt, if_pos hq]), by omega, trivial⟩ ?_)))))))))))
   show A.length - (intOf (ρ59 17)).toNat < A.length - (intOf (ρ18 17)).toNat
   rw [T17, q17]
   simp only [intOf, Int.toNat_natCast]; omega
  have hq : ¬ (decide (A.getD i [] ∈ B) == q) = true := by rw [hc1]; decide
  refine wpF_skip (bN (tN (hK22 _ _ (wt (oS rfl (Yk.bin (xv := NI i) (yv := NI 1) T17 rfl rfl (i64_add _ _ _ (by omega)) (oM rfl (oL_ [(0, v), (1, v3), (2, .bool (q)), (6, (Value.slice none 0 0)), (7, vo), (9, PQ n27 0), (11, .bool (decide (A.getD i [] ∈ B))), (15, v10), (16, NI A.length), (17, NI ((i) + (1)))] ⟨T0, T1, T2, T6, T7, rfl, rfl, T15, T16, rfl, trivial⟩ fun ρ60 ⟨T0, T1, T2, T6, T7, T9, T11, T15, T16, T17, _⟩ => (tN (And.intro ⟨i + 1, vo, T0, T1, T2, T6, T15, T16, T17, T7, hE, hA15, og_eq hr_vo (by rw [pick_memS hlt, if_neg hq, List.append_nil]), by omega, trivial⟩ ?_))))))))))
  show A.length - (intOf (ρ60 17)).toNat < A.length - (intOf (ρ18 17)).toNat
  rw [T17, q17]
  simp only [intOf, Int.toNat_natCast]; omega
 refine wpF_exit (thenF_exit (thenF_exit (inBlockF_hit (tN (hK8 _ _ (sk fun K61 hK61 => (wt (oM rfl (oA rfl (oZ (tN (hK61 _ _ (wpF_ret (postF_ret (fn := Tryd.f93) _ rfl [vo] (vo) rfl ⟨T7, trivial⟩ ?_))))))))))))))
 have hie : i = A.length := by omega
 subst hie
 exact ⟨_, _, rfl, OG.low hr_vo (by have := hz17; omega), pick_sasc (by rw [List.take_length]; exact hSA), fun x => by unfold pickB; rw [List.take_length, List.mem_filter, hmA, show decide (x ∈ B) = decide (x ∈ b) from decide_eq_decide.2 (hmB x)], by rw [List.take_length]; unfold pickB; exact Nat.le_trans (List.length_filter_le _ _) hlA, hE⟩

theorem minus_any (w : World) (v v2 : Value) (a b : List Bs) (hr : RG 32 Lib.byteCells w v a) (hr2 : RG 32 Lib.byteCells w v2 b) (ha : a.length ≤ 100000) (hb : b.length ≤ 100000) :
  Calls Tryd.prog 44 #[v, v2] w fun e w' => ∃ v' o, e = .returned v' ∧ OG w.heap.size 25 32 Lib.byteCells w' v' o ∧ SAsc o ∧ (∀ x, x ∈ o ↔ x ∈ a ∧ x ∉ b) ∧ o.length ≤ a.length ∧ Ext w w' := by
 refine calls_of_wpF (args := [v, v2]) Tryd.func44 rfl 8 rfl (Nat.le_of_ble_eq_true rfl) ?_
 intro ρ0 hb
 have T0 : ρ0 0 = (v : Value) := hb.get 0
 have T1 : ρ0 1 = (v2 : Value) := hb.get 1
 clear hb
 have hE := Ext.refl w
 refine sk fun K1 hK1 => (wt (oA rfl (oZ (tN (hK1 _ _ (sk fun K2 hK2 => (wt (oM rfl (oM rfl (oS rfl (Yk.callA3 wr46_pl93 T0 T1 (vr (.bool (false)) rfl) ((pick_any _ v v2 a b hr hr2 ha hb false).mono ?_))))))))))))
 rintro e w6 ⟨v3, o, rfl, ho4, hS, hm, hl, hx5⟩
 refine ⟨_, rfl, ?_⟩
 have hr := hr.keep hx5
 have hr2 := hr2.keep hx5
 have hE := hE.trans hx5
 refine oA rfl (oZ (tN (hK2 _ _ (wpF_ret (postF_ret (fn := Tryd.f44) _ rfl [v3] (v3) rfl ⟨rfl, trivial⟩ ?_)))))
 exact ⟨_, o, rfl, ho4, hS, fun x => by rw [hm]; simp, hl, hE⟩
open Go.RowKit
set_option maxRecDepth 100000
def rootsN (r : Refs) (i : Nat) : List Bs := [r.at_.1] ++ ((r.branches ++ r.tags).take i).map fun n => n.id.1
def rootsE (r : Refs) (j : Nat) : List Bs := ([r.at_.1] ++ (r.branches ++ r.tags).map fun n => n.id.1) ++ (r.log.take j).flatMap fun e => [e.old.1, e.new.1]
def rootsL (r : Refs) : List Bs := ([r.at_.1] ++ (r.branches ++ r.tags).map fun n => n.id.1) ++ r.log.flatMap fun e => [e.old.1, e.new.1]
theorem roots_mid {r : Refs} {i : Nat} (h : i = (r.branches ++ r.tags).length) : rootsN r i = rootsE r 0 := by
 subst h
 unfold rootsN rootsE
 rw [List.take_length, List.take_zero, List.flatMap_nil, List.append_nil]
theorem rootsN_len (r : Refs) (i : Nat) : (rootsN r i).length ≤ 1 + (r.branches.length + r.tags.length) := by
 unfold rootsN
 rw [List.length_append, List.length_map, List.length_take, List.length_append]
 simp only [List.length_cons, List.length_nil]
 omega
theorem flat2_len : ∀ l : List Ent, (l.flatMap fun e => [e.old.1, e.new.1]).length = 2 * l.length
 | [] => rfl
 | a :: l => by rw [List.flatMap_cons, List.length_append, flat2_len l]; simp only [List.length_cons, List.length_nil]; omega
theorem rootsE_len (r : Refs) (j : Nat) : (rootsE r j).length ≤ 1 + (r.branches.length + r.tags.length) + 2 * r.log.length := by
 unfold rootsE
 rw [List.length_append, flat2_len, List.length_append, List.length_map, List.length_take, List.length_append]
 simp only [List.length_cons, List.length_nil]
 omega
theorem take_flat_snoc {α β : Type} {f : α → List β} {l : List α} {i : Nat} (d : α) (h : i < l.length) : (l.take (i + 1)).flatMap f = (l.take i).flatMap f ++ f (l.getD i d) := by
 rw [List.take_succ_eq_append_getElem h, List.flatMap_append, List.flatMap_cons, List.flatMap_nil, List.append_nil, List.getD_eq_getElem?_getD, List.getElem?_eq_getElem h]; rfl
section
variable {P : Program} {K : Value → World → Prop} {ρ : Slots} {w : World} {d : Option Tmp} {ty : TypeId} {pos : String} {af : Array Edge} {gd : Option (Nat × Bool)} {α : Type} {t : TypeId}
theorem Yk.pairG {k : Nat} {enc : α → List Value} {e : TypeId} {x y : Operand} {a b : α} (hx : evalR ρ x = .agg (enc a).toArray) (hy : evalR ρ y = .agg (enc b).toArray) (hl : (enc a).length = k) (hl2 : (enc b).length = k)
  (hr : ∀ (cs cs' : Array Value), cs.size = k → cs'.size = k → ∀ w : World, (Instr.buildSlice t 2 #[(0, .agg cs), (1, .agg cs')]).run P w = .ok (.slice (some ⟨w.heap.size, 0, none⟩) 2 2) (w.alloc (.cells (cs.toList ++ cs'.toList).toArray e)))
  (hk : ∀ v w', RG k enc w' v [a, b] → Ext w w' → K v w') : Yk P K ((execOp (evalR ρ) ⟨d, .buildSlice t 2 #[(0, x), (1, y)], ty, pos, af, gd⟩).run P w) := by
 have hE : Ext w (w.alloc (.cells (enc a ++ enc b).toArray e)) := (Below.refl _ _).alloc (Nat.le_refl _) _
 have hen : ∀ q ∈ [a, b], (enc q).length = k := fun q hq => by
  rcases List.mem_cons.1 hq with rfl | hq
  ·exact hl
  ·rw [List.mem_singleton.1 hq]; exact hl2
 have hnew := heap_alloc_new w (.cells (enc a ++ enc b).toArray e)
 refine Yk.value (v := .slice (some ⟨w.heap.size, 0, none⟩) 2 2) (w' := w.alloc (.cells (enc a ++ enc b).toArray e)) ?_ (hk _ _ (RG.ofOwn (OG.ofRow (b := 0) (t := e) (l := [a, b]) (R := []) (c := 2) hen (Nat.zero_le _) (hnew.trans (by simp)) (by simp [hl, hl2]; omega) (Nat.le_refl _) (by unfold maxLen; omega))) hE)
 unfold execOp
 simp only [List.map_toArray, List.map_cons, List.map_nil, hx, hy, Sem.run_bind, hr _ _ (show (enc a).toArray.size = k by rw [List.size_toArray]; exact hl) (show (enc b).toArray.size = k by rw [List.size_toArray]; exact hl2), Result.andThen_ok, Sem.run_pure]
end
set_option maxHeartbeats 1600000
theorem wr47_fo53_3 : FieldOff Tryd.prog 53 3 3 := fun b o w => by simp [go_sem]
theorem wr47_ty25 : Tryd.prog.underlying 25 = some (.array 32 5) := by kernel_rfl
theorem wr47_lh23 (c0 c1 c2 c3 c4 c5 c6 c7 c8 c9 c10 c11 c12 c13 c14 c15 c16 c17 c18 c19 c20 c21 c22 c23 c24 c25 c26 c27 c28 c29 c30 c31 : Value) (w : World) : (Instr.buildSlice 23 1 #[(0, .agg #[c0, c1, c2, c3, c4, c5, c6, c7, c8, c9, c10, c11, c12, c13, c14, c15, c16, c17, c18, c19, c20, c21, c22, c23, c24, c25, c26, c27, c28, c29, c30, c31])]).run Tryd.prog w = .ok (.slice (some ⟨w.heap.size, 0, none⟩) 1 1) (w.alloc (.cells #[c0, c1, c2, c3, c4, c5, c6, c7, c8, c9, c10, c11, c12, c13, c14, c15, c16, c17, c18, c19, c20, c21, c22, c23, c24, c25, c26, c27, c28, c29, c30, c31] 25)) := by kernel_rfl
theorem wr47_lg23 : ∀ (cs : Array Value), cs.size = 32 → ∀ w : World, (Instr.buildSlice 23 1 #[(0, .agg cs)]).run Tryd.prog w = .ok (.slice (some ⟨w.heap.size, 0, none⟩) 1 1) (w.alloc (.cells cs 25))
 | ⟨[c0, c1, c2, c3, c4, c5, c6, c7, c8, c9, c10, c11, c12, c13, c14, c15, c16, c17, c18, c19, c20, c21, c22, c23, c24, c25, c26, c27, c28, c29, c30, c31]⟩, _, w => wr47_lh23 c0 c1 c2 c3 c4 c5 c6 c7 c8 c9 c10 c11 c12 c13 c14 c15 c16 c17 c18 c19 c20 c21 c22 c23 c24 c25 c26 c27 c28 c29 c30 c31 w
theorem wr47_fo53_0 : FieldOff Tryd.prog 53 0 0 := fun b o w => by simp [go_sem]
theorem wr47_ty51 : Tryd.prog.underlying 51 = some (.slice 70) := by kernel_rfl
theorem wr47_pl74 : Plain Tryd.prog 74 := fun _ _ => by kernel_rfl
theorem wr47_fo53_1 : FieldOff Tryd.prog 53 1 1 := fun b o w => by simp [go_sem]
theorem wr47_ig70 : ∃ z, (Tryd.prog.info? 70).map (fun i => (i.zero, i.size, i.bytes)) = some (some z, 33, 48) ∧ z.cells.size = 33 := info_ex (by kernel_rfl)
theorem wr47_szg70 : ∀ w' : World, (sizeOf 70).run Tryd.prog w' = .ok 33 w' := fun _ => by kernel_rfl
theorem wr47_ty70 : ∃ fs, Tryd.prog.underlying 70 = some (.struct fs) := struct_of (by kernel_rfl)
theorem wr47_isz70 : (Tryd.prog.info? 70).map (·.size) = some 33 := by kernel_rfl
theorem wr47_al70 {d : Option Tmp} {ty : TypeId} {pos : String} {af : Array Edge} {gd : Option (Nat × Bool)} (σ : Operand → Value) (w : World) : (execOp σ ⟨d, .alloc 70, ty, pos, af, gd⟩).run Tryd.prog w = .ok (.value (PQ w.heap.size 0)) (w.alloc (.cells (nmdC (⟨[], zid⟩ : Nmd)).toArray 70)) := by kernel_rfl
theorem wr47_fo70_1 : FieldOff Tryd.prog 70 1 1 := fun b o w => by simp [go_sem]
theorem wr47_ig25 : ∃ z, (Tryd.prog.info? 25).map (fun i => (i.zero, i.size, i.bytes)) = some (some z, 32, 32) ∧ z.cells.size = 32 := info_ex (by kernel_rfl)
theorem wr47_ty23 : Tryd.prog.underlying 23 = some (.slice 25) := by kernel_rfl
theorem wr47_fo53_4 : FieldOff Tryd.prog 53 4 35 := fun b o w => by simp [go_sem]
theorem wr47_ty47 : Tryd.prog.underlying 47 = some (.slice 122) := by kernel_rfl
theorem wr47_szg122 : ∀ w' : World, (sizeOf 122).run Tryd.prog w' = .ok 67 w' := fun _ => by kernel_rfl
theorem wr47_ty122 : ∃ fs, Tryd.prog.underlying 122 = some (.struct fs) := struct_of (by kernel_rfl)
theorem wr47_isz122 : (Tryd.prog.info? 122).map (·.size) = some 67 := by kernel_rfl
theorem wr47_al122 {d : Option Tmp} {ty : TypeId} {pos : String} {af : Array Edge} {gd : Option (Nat × Bool)} (σ : Operand → Value) (w : World) : (execOp σ ⟨d, .alloc 122, ty, pos, af, gd⟩).run Tryd.prog w = .ok (.value (PQ w.heap.size 0)) (w.alloc (.cells (entC (⟨0, [], zid, zid, []⟩ : Ent)).toArray 122)) := by kernel_rfl
theorem wr47_fo122_0 : FieldOff Tryd.prog 122 0 0 := fun b o w => by simp [go_sem]
theorem wr47_fo67_2 : FieldOff Tryd.prog 67 2 2 := fun b o w => by simp [go_sem]
theorem wr47_fo67_3 : FieldOff Tryd.prog 67 3 34 := fun b o w => by simp [go_sem]
theorem wr47_l2h (c0 c1 c2 c3 c4 c5 c6 c7 c8 c9 c10 c11 c12 c13 c14 c15 c16 c17 c18 c19 c20 c21 c22 c23 c24 c25 c26 c27 c28 c29 c30 c31 d0 d1 d2 d3 d4 d5 d6 d7 d8 d9 d10 d11 d12 d13 d14 d15 d16 d17 d18 d19 d20 d21 d22 d23 d24 d25 d26 d27 d28 d29 d30 d31 : Value) (w : World) : (Instr.buildSlice 23 2 #[(0, .agg #[c0, c1, c2, c3, c4, c5, c6, c7, c8, c9, c10, c11, c12, c13, c14, c15, c16, c17, c18, c19, c20, c21, c22, c23, c24, c25, c26, c27, c28, c29, c30, c31]), (1, .agg #[d0, d1, d2, d3, d4, d5, d6, d7, d8, d9, d10, d11, d12, d13, d14, d15, d16, d17, d18, d19, d20, d21, d22, d23, d24, d25, d26, d27, d28, d29, d30, d31])]).run Tryd.prog w = .ok (.slice (some ⟨w.heap.size, 0, none⟩) 2 2) (w.alloc (.cells ([c0, c1, c2, c3, c4, c5, c6, c7, c8, c9, c10, c11, c12, c13, c14, c15, c16, c17, c18, c19, c20, c21, c22, c23, c24, c25, c26, c27, c28, c29, c30, c31] ++ [d0, d1, d2, d3, d4, d5, d6, d7, d8, d9, d10, d11, d12, d13, d14, d15, d16, d17, d18, d19, d20, d21, d22, d23, d24, d25, d26, d27, d28, d29, d30, d31] : List Value).toArray 25)) := by kernel_rfl
theorem wr47_a32 : ∀ cs : Array Value, cs.size = 32 → ∃ c0 c1 c2 c3 c4 c5 c6 c7 c8 c9 c10 c11 c12 c13 c14 c15 c16 c17 c18 c19 c20 c21 c22 c23 c24 c25 c26 c27 c28 c29 c30 c31 : Value, cs = #[c0, c1, c2, c3, c4, c5, c6, c7, c8, c9, c10, c11, c12, c13, c14, c15, c16, c17, c18, c19, c20, c21, c22, c23, c24, c25, c26, c27, c28, c29, c30, c31]
 | ⟨[c0, c1, c2, c3, c4, c5, c6, c7, c8, c9, c10, c11, c12, c13, c14, c15, c16, c17, c18, c19, c20, c21, c22, c23, c24, c25, c26, c27, c28, c29, c30, c31]⟩, _ => ⟨c0, c1, c2, c3, c4, c5, c6, c7, c8, c9, c10, c11, c12, c13, c14, c15, c16, c17, c18, c19, c20, c21, c22, c23, c24, c25, c26, c27, c28, c29, c30, c31, rfl⟩
theorem wr47_l2g (a b : Array Value) (ha : a.size = 32) (hb : b.size = 32) (w : World) : (Instr.buildSlice 23 2 #[(0, .agg a), (1, .agg b)]).run Tryd.prog w = .ok (.slice (some ⟨w.heap.size, 0, none⟩) 2 2) (w.alloc (.cells (a.toList ++ b.toList).toArray 25)) := by
 obtain ⟨c0, c1, c2, c3, c4, c5, c6, c7, c8, c9, c10, c11, c12, c13, c14, c15, c16, c17, c18, c19, c20, c21, c22, c23, c24, c25, c26, c27, c28, c29, c30, c31, rfl⟩ := wr47_a32 a ha
 obtain ⟨d0, d1, d2, d3, d4, d5, d6, d7, d8, d9, d10, d11, d12, d13, d14, d15, d16, d17, d18, d19, d20, d21, d22, d23, d24, d25, d26, d27, d28, d29, d30, d31, rfl⟩ := wr47_a32 b hb
 exact wr47_l2h c0 c1 c2 c3 c4 c5 c6 c7 c8 c9 c10 c11 c12 c13 c14 c15 c16 c17 c18 c19 c20 c21 c22 c23 c24 c25 c26 c27 c28 c29 c30 c31 d0 d1 d2 d3 d4 d5 d6 d7 d8 d9 d10 d11 d12 d13 d14 d15 d16 d17 d18 d19 d20 d21 d22 d23 d24 d25 d26 d27 d28 d29 d30 d31 w
theorem wr47_pl44 : Plain Tryd.prog 44 := fun _ _ => by kernel_rfl
set_option maxHeartbeats 1600000
theorem roots_any (w : World) (z : RefsV) (hm : RefsAt w z) (hb1 : z.1.branches.length ≤ 80) (ht1 : z.1.tags.length ≤ 80) (hl1 : z.1.log.length ≤ 80) :
  Calls Tryd.prog 42 #[.agg (refsC z).toArray] w fun e w' => ∃ v' o, e = .returned v' ∧ OG w.heap.size 25 32 Lib.byteCells w' v' o ∧ SAsc o ∧ (∀ x, x ∈ o ↔ x ∈ rootsL z.1 ∧ x ≠ List.replicate 32 0) ∧ o.length ≤ 1 + (z.1.branches.length + z.1.tags.length) + 2 * z.1.log.length ∧ Ext w w' := by
 have hNT : (z.1.branches ++ z.1.tags).length = _ := List.length_append
 have hmt := hm.branches
 have hmg := hm.tags
 have hml := hm.log
 refine calls_of_wpF (args := [.agg (refsC z).toArray]) Tryd.func42 rfl 49 rfl (Nat.le_of_ble_eq_true rfl) ?_
 intro ρ0 hb
 have T0 : ρ0 0 = (.agg (refsC z).toArray : Value) := hb.get 0
 clear hb
 have hE := Ext.refl w
 refine sk fun K1 hK1 => (wt (oS rfl (Yk.box (cs := (refsC z : List Value).toArray) T0 fun n2 w3 hn4 hb5 hx6 hs7 => ?_)))
 have hE := hE.trans hx6
 have hb8 := hb5; clear hb5
 have hl9 : n2 < w3.heap.size := by omega
 refine oA rfl (oZ (tN (hK1 _ _ (sk fun K10 hK10 => (wt (oS rfl (Yk.fieldAt wr47_fo53_3 (vr (PQ n2 0) rfl) (oS rfl (Yk.loadPR (PR.blk hb8 (refs_m3 z) (refs_n3 z) (vr (PQ n2 3) rfl)) wr47_ty25 rfl (sizeId_of z.1.at_.2) ?_)))))))))
 have hA11 := Ext.refl w3
 have hea12 := hE
 have hz13 := hE.size
 refine oS rfl (Yk.lit1B (enc := Lib.byteCells) (a := z.1.at_.1) (vr (AB z.1.at_.1) rfl) (by rw [Lib.byteCells_length]; exact z.1.at_.2) wr47_lg23 fun n14 w15 hn16 hb17 hx18 hs19 => ?_)
 have hlt20 := lte (bl hb8) hn16
 have hE := hE.trans hx18
 have hb8 := eb hx18 hb8
 have hA11 := hA11.trans hx18
 obtain ⟨v21, hve_⟩ : ∃ v, v = Value.slice (some ⟨n14, 0, none⟩) 1 1 := ⟨_, rfl⟩
 rw [← hve_]
 have ho22 : OG w3.heap.size 25 32 Lib.byteCells w15 v21 [z.1.at_.1] := by rw [hve_]; exact OG.ofRow (R := []) (c := 1) (by intro q hq; rw [List.mem_singleton.1 hq, Lib.byteCells_length]; exact z.1.at_.2) (by omega) (by simpa using hb17) (by simp only [List.flatMap_cons, List.flatMap_nil, List.append_nil, Lib.byteCells_length]; exact z.1.at_.2) (Nat.le_refl _) (by unfold maxLen; omega)
 have hap23 : OB v21 n2 := by rw [hve_]; exact some_ne (show n14 ≠ n2 by omega)
 refine oA rfl (oZ (tN (hK10 _ _ (sk fun K24 hK24 => (sk fun K25 hK25 => ?_)))))
 have hA26 := Ext.refl w15
 have hea27 := hE
 have hea28 := hA11
 have hz29 := hE.size
 have hz30 := hA11.size
 have hlt31 : n2 < w15.heap.size := (bl hb8)
 refine wpF_draw_rowsB w15.heap.size (Nat.le_refl _) [5] (fun m => if m = 5 then [2] else []) (fun m => if m = 5 then [2, 5] else []) [Is (PQ n2 0), Is (z.2.branches), fun x w' => OG w15.heap.size 70 33 (nmdC) w' x (z.1.branches), Is (PQ n2 1), Is (z.2.tags), fun x w' => OG w15.heap.size 70 33 (nmdC) w' x (z.1.branches ++ z.1.tags), Is (NI ((z.1.branches ++ z.1.tags).length)), Is (NI 0)] (by kernel_rfl) [11, 12, 13, 14, 15, 16, 17, 18] (by kernel_rfl) (by kernel_rfl) (by kernel_rfl) (by kernel_rfl) rfl (si2 ⟨(fun _ _ _ h k => OG.keep h k), (si2 ⟨(fun _ _ _ h k => OG.keep h k), (si2 trivial)⟩)⟩) ⟨⟨.inr (Stab.is _), .inr (Stab.is _), .inl rfl, .inr (Stab.is _), .inr (Stab.is _), .inl rfl, .inr (Stab.is _), .inr (Stab.is _), trivial⟩, trivial⟩ ?hs2002 ?hQ2002
 case hs2002 =>
  refine ⟨?_, ?_, ?_, ?_, ?_, ?_, ?_, ?_, trivial⟩
  ·refine stepN rfl fun σ w1 hC h => ?_
   have hC : Ext w15 w1 := hC
   have e1 : σ 1 = PQ n2 0 := (eqo (h 1 (by decide))).trans rfl
   exact Yk.fieldAt wr47_fo53_0 e1 ⟨Ext.refl _, rfl⟩
  ·refine stepN rfl fun σ w1 hC h => ?_
   have hC : Ext w15 w1 := hC
   have e11 := eqo (h 11 (by decide))
   exact Yk.cell1 wr47_ty51 rfl e11 (cellAt (eb hC hb8) (show (refsC z)[0]? = some (z.2.branches : Value) from refs_g0 z)) ⟨Ext.refl _, rfl⟩
  ·refine stepN rfl fun σ w1 hC h => ?_
   have hC : Ext w15 w1 := hC
   have e12 := eqo (h 12 (by decide))
   refine Yk.callA1 wr47_pl74 e12 ((cloneNmd_any _ z.2.branches z.1.branches (hmt.keep (hE.trans hC)) (by omega)).mono ?_)
   rintro e w2 ⟨v, rfl, ho, hx⟩
   exact ⟨_, rfl, hx, OG.low ho hC.size⟩
  ·refine stepN rfl fun σ w1 hC h => ?_
   have hC : Ext w15 w1 := hC
   have e1 : σ 1 = PQ n2 0 := (eqo (h 1 (by decide))).trans rfl
   exact Yk.fieldAt wr47_fo53_1 e1 ⟨Ext.refl _, rfl⟩
  ·refine stepN rfl fun σ w1 hC h => ?_
   have hC : Ext w15 w1 := hC
   have e14 := eqo (h 14 (by decide))
   exact Yk.cell1 wr47_ty51 rfl e14 (cellAt (eb hC hb8) (show (refsC z)[1]? = some (z.2.tags : Value) from refs_g1 z)) ⟨Ext.refl _, rfl⟩
  ·refine stepN rfl fun σ w1 hC h => ?_
   have hC : Ext w15 w1 := hC
   have e13 : (fun x w' => OG w15.heap.size 70 33 (nmdC) w' x (z.1.branches)) (σ 13) w1 := h 13 (by decide)
   have e15 := eqo (h 15 (by decide))
   exact Yk.appendRG _ _ w15.heap.size _ 48 wr47_ty51 wr47_ig70.choose_spec.1 wr47_ig70.choose_spec.2 wr47_ty51 (z.1.branches) (z.1.tags) e13 (RG.of (hmg.keep (hE.trans hC)) e15) (fun _ _ => nmd_one) (by omega) (by omega) hC.size fun v w2 ho hg => ⟨hg.below hC.size (fun k hk => (e13.2.lt k hk).1), ho⟩
  ·refine stepN rfl fun σ w1 hC h => ?_
   have hC : Ext w15 w1 := hC
   have e16 : (fun x w' => OG w15.heap.size 70 33 (nmdC) w' x (z.1.branches ++ z.1.tags)) (σ 16) w1 := h 16 (by decide)
   exact Yk.lenRG wr47_ty51 (RG.ofOwn e16) ⟨Ext.refl _, rfl⟩
  ·refine stepN rfl fun σ w1 hC h => ?_
   have hC : Ext w15 w1 := hC
   exact Yk.move (vr (NI 0) rfl) ⟨Ext.refl _, rfl⟩
 intro ρ32 w33 hx34 he hf
 obtain ⟨-, -, -, -, -, k16, k17, k18, -⟩ := hf
 obtain ⟨T0, T1, T2, T3, -⟩ := he.hold [(0, _), (1, PQ n2 0), (2, (Value.slice none 0 0)), (3, v21)] ⟨T0, rfl, rfl, rfl, trivial⟩ rfl
 clear he
 have hx34 : Ext w15 w33 := hx34
 have hE := hE.trans hx34
 have hb8 := eb hx34 hb8
 have hA11 := hA11.trans hx34
 have ho22 := ho22.keep hx34
 have hA26 := hA26.trans hx34
 have k16 : (fun x w' => OG w15.heap.size 70 33 (nmdC) w' x (z.1.branches ++ z.1.tags)) (ρ32 16) w33 := k16
 obtain ⟨v35, T16⟩ : ∃ v, ρ32 16 = v := ⟨_, rfl⟩
 rw [T16] at k16
 have hk36 := k16; clear k16
 have hap37 : OB v35 n2 := own_older hk36.2 hlt31
 have T17 : ρ32 17 = NI ((z.1.branches ++ z.1.tags).length) := k17
 have T18 : ρ32 18 = NI 0 := k18
 clear k17 k18
 refine tN (hK25 _ _ (wpF_block (wpF_loop (fun (ρ : Slots) (wz : World) => ∃ i : Nat, ∃ vo : Value, ρ 0 = (.agg (refsC z).toArray : Value) ∧ ρ 1 = (PQ n2 0 : Value) ∧ ρ 2 = ((Value.slice none 0 0) : Value) ∧ ρ 16 = (v35 : Value) ∧ ρ 17 = (NI ((z.1.branches ++ z.1.tags).length) : Value) ∧ ρ 18 = (NI i : Value) ∧ ρ 3 = (vo : Value) ∧ Ext w wz ∧ wz.heap[n2]? = some (.cells (refsC z).toArray 53 (0, 0)) ∧ Ext w3 wz ∧ OG w15.heap.size 70 33 (nmdC) wz v35 (z.1.branches ++ z.1.tags) ∧ OG w3.heap.size 25 32 (Lib.byteCells) wz vo (rootsN z.1 i) ∧ (i ≤ (z.1.branches ++ z.1.tags).length) ∧ True) (fun ρ _ => (z.1.branches ++ z.1.tags).length - (intOf (ρ 18)).toNat) ⟨0, v21, T0, T1, T2, T16, T17, T18, T3, hE, hb8, hA11, hk36, og_eq ho22 (rfl), Nat.zero_le _, trivial⟩ ?_)))
 clear ho22
 clear hA26
 clear hE hb8 hA11 hk36
 rintro ρ38 w39 ⟨i, vo, T0, T1, T2, T16, T17, T18, T3, hE, hb8, hA11, hk36, hr_vo, hi, -⟩
 have q18 := T18
 refine sk fun K40 hK40 => (wt (oS rfl (Yk.eqI (a := (i : Nat)) (b := ((z.1.branches ++ z.1.tags).length : Nat)) T18 T17 (k_lss _ _ _ _) (oZ (tN (hK40 _ _ (sk fun K41 hK41 => ?_)))))))
 refine wpF_cond ((i) < ((z.1.branches ++ z.1.tags).length)) (vr (.bool (decide ((i) < ((z.1.branches ++ z.1.tags).length)))) rfl) (fun hc0 => ?_) (fun hc0 => ?_)
 ·have hlt : i < (z.1.branches ++ z.1.tags).length := hc0
  refine wpF_skip (tN (hK41 _ _ (sk fun K42 hK42 => (wpF_block (sk fun K43 hK43 => (wt ?_))))))
  have hl46 : (nmdC ((z.1.branches ++ z.1.tags).getD (i) dNmd)).length = 33 := (RG.elem (RG.ofOwn hk36) dNmd (by omega))
  refine oS rfl (Yk.atRG wr47_ty51 wr47_szg70 (by decide) dNmd (RG.of (RG.ofOwn hk36) T16) T18 (by omega) fun v44 hp45 => (oS rfl (Yk.loadPR (PR.of hp45 (vr v44 rfl)) (wr47_ty70).choose_spec rfl (by rw [nmd_len]; exact wr47_isz70) (oS rfl (Yk.alloc (cs := (nmdC (⟨[], zid⟩ : Nmd)).toArray) wr47_al70 fun n47 w48 hn49 hb50 hx51 hs52 => ?_)))))
  have hA53 := Ext.refl w39
  have hea54 := hE
  have hea55 := hA11
  have hz56 := hE.size
  have hz57 := hA11.size
  have hlt58 := lte (bl hb8) hn49
  have hap59 : OB v35 n47 := own_newer hk36.2 (by omega)
  have hap60 : OB vo n47 := own_newer hr_vo.2 (by omega)
  have hE := hE.trans hx51
  have hb8 := eb hx51 hb8
  have hA11 := hA11.trans hx51
  have hk36 := hk36.keep hx51
  have hr_vo := hr_vo.keep hx51
  have hA53 := hA53.trans hx51
  have hb61 := hb50; clear hb50
  have hl62 : n47 < w48.heap.size := by omega
  have hap63 := OG.off hr_vo hb61 (by decide)
  refine oS rfl (Yk.storeAll (vr (PQ n47 0) rfl) (vr (.agg (nmdC ((z.1.branches ++ z.1.tags).getD (i) dNmd)).toArray) rfl) hb61 (by simp only [List.size_toArray, nmd_len]) (st_isz (nmd_len _) wr47_isz70) (nmd_one (x := ((z.1.branches ++ z.1.tags).getD (i) dNmd))) fun w64 hb65 hg66 hs67 => ?_)
  have hE := row_fresh hE hg66 (Nat.le_trans hz56 (by omega))
  have hb8 := kb hg66 hb8 (by omega)
  have hA11 := row_fresh hA11 hg66 (Nat.le_trans hz57 (by omega))
  have hk36 := OG.kept hk36 hg66 hap59
  have hr_vo := OG.kept hr_vo hg66 hap63
  have hA53 := row_fresh hA53 hg66 (Nat.le_trans (Nat.le_refl _) (by omega))
  clear hb61
  have hb61 : w64.heap[n47]? = some (.cells (nmdC ((z.1.branches ++ z.1.tags).getD (i) dNmd)).toArray 70 (0, 0)) := hb65; clear hb65
  have hl68 := bl hb61
  refine oZ ?_
  clear hp45
  refine tN (hK43 _ _ (wt (oM rfl (oS rfl (Yk.fieldAt wr47_fo70_1 (vr (PQ n47 0) rfl) (oS rfl (Yk.loadPR (PR.blk hb61 (nmd_m1 ((z.1.branches ++ z.1.tags).getD (i) dNmd)) (nmd_n1 ((z.1.branches ++ z.1.tags).getD (i) dNmd)) (vr (PQ n47 1) rfl)) wr47_ty25 rfl (sizeId_of (((z.1.branches ++ z.1.tags).getD (i) dNmd)).id.2) (oS rfl (Yk.lit1G (a := ((((z.1.branches ++ z.1.tags).getD (i) dNmd)).id.1)) (enc := Lib.byteCells) (vr (AB ((((z.1.branches ++ z.1.tags).getD (i) dNmd)).id.1)) rfl) (by rw [Lib.byteCells_length]; exact (((z.1.branches ++ z.1.tags).getD (i) dNmd)).id.2) wr47_lg23 fun v69 w70 hr71 hx72 => ?_)))))))))
  have hE := hE.trans hx72
  have hb8 := eb hx72 hb8
  have hA11 := hA11.trans hx72
  have hk36 := hk36.keep hx72
  have hr_vo := hr_vo.keep hx72
  have hA53 := hA53.trans hx72
  have hb61 := eb hx72 hb61
  have hap73 := OG.off hr_vo hb8 (by decide)
  have hap74 := OG.apart hr_vo hk36 (by decide)
  have hap75 := OG.off hr_vo hb61 (by decide)
  have hap76 := OG.off hr_vo hb8 (by decide)
  have hap77 := OG.apart hr_vo hk36 (by decide)
  have hap78 := OG.off hr_vo hb61 (by decide)
  refine oS rfl (Yk.appendRG _ _ w3.heap.size _ 32 wr47_ty23 wr47_ig25.choose_spec.1 wr47_ig25.choose_spec.2 wr47_ty23 (rootsN z.1 i) ([((((z.1.branches ++ z.1.tags).getD (i) dNmd)).id.1)]) (OG.of hr_vo T3) (RG.of hr71 (vr v69 rfl)) (fun _ _ => byteCells_one _) (by have := rootsN_len z.1 i; simp only [List.length_cons, List.length_nil]; omega) (by have := rootsN_len z.1 i; simp only [List.length_cons, List.length_nil]; omega) hA11.size fun v79 w80 ho81 hg82 => ?_)
  have hg82 : Grew w70 w80 vo v79 := .eqv T3 hg82
  have hap83 : OB v79 n47 := apart_grew hg82 hap78 (bl hb61)
  have hap84 : OB v79 n2 := apart_grew hg82 hap76 (bl hb8)
  have hap85 : ApartV v79 v35 := apartv_grew hg82 hap77 hk36.2
  have hap86 : ApartV v35 v79 := fun k h1 h2 => hap85 k h2 h1
  have hE := ext_grew hE hg82 hr_vo.2 hz13
  have hb8 := blk_grew hb8 hg82 hap76
  have hA11 := ext_grew hA11 hg82 hr_vo.2 (Nat.le_refl _)
  have hk36 := og_grew hk36 hg82 hap77
  clear hA53
  have hb61 := blk_grew hb61 hg82 hap78
  clear hr71
  clear hr_vo
  refine oA rfl (oZ (bN (tN (hK42 _ _ (wt (oS rfl (Yk.bin (xv := NI i) (yv := NI 1) T18 rfl rfl (i64_add _ _ _ (by omega)) (oM rfl (oL_ [(0, .agg (refsC z).toArray), (1, PQ n2 0), (2, (Value.slice none 0 0)), (3, v79), (5, PQ n47 0), (16, v35), (17, NI ((z.1.branches ++ z.1.tags).length)), (18, NI ((i) + (1)))] ⟨T0, T1, T2, rfl, rfl, T16, T17, rfl, trivial⟩ fun ρ87 ⟨T0, T1, T2, T3, T5, T16, T17, T18, _⟩ => (tN (And.intro ⟨i + 1, v79, T0, T1, T2, T16, T17, T18, T3, hE, hb8, hA11, hk36, og_eq ho81 ((by unfold rootsN; exact take_map_snoc hlt)), by omega, trivial⟩ ?_)))))))))))
  show (z.1.branches ++ z.1.tags).length - (intOf (ρ87 18)).toNat < (z.1.branches ++ z.1.tags).length - (intOf (ρ38 18)).toNat
  rw [T18, q18]
  simp only [intOf, Int.toNat_natCast]; omega
 refine wpF_exit (thenF_exit (thenF_exit (inBlockF_hit (tN (hK24 _ _ (sk fun K88 hK88 => (sk fun K89 hK89 => (wt (oS rfl (Yk.fieldAt wr47_fo53_4 T1 (oS rfl (Yk.cell1 wr47_ty47 rfl (vr (PQ n2 35) rfl) (cellAt hb8 (show (refsC z)[35]? = some (z.2.log : Value) from refs_g4 z)) (oS rfl (Yk.lenRG wr47_ty47 (RG.of (hml.keep hE) (vr z.2.log rfl)) (oM rfl (oL_ [(0, .agg (refsC z).toArray), (1, PQ n2 0), (2, (Value.slice none 0 0)), (3, vo), (16, v35), (17, NI ((z.1.branches ++ z.1.tags).length)), (18, NI i), (29, z.2.log), (30, NI ((z.1.log).length)), (31, NI 0)] ⟨T0, T1, T2, T3, T16, T17, T18, rfl, rfl, rfl, trivial⟩ fun ρ90 ⟨T0, T1, T2, T3, T16, T17, T18, T29, T30, T31, _⟩ => (tN (hK89 _ _ (wpF_block (wpF_loop (fun (ρ : Slots) (wz : World) => ∃ j : Nat, ∃ vp : Value, ρ 0 = (.agg (refsC z).toArray : Value) ∧ ρ 1 = (PQ n2 0 : Value) ∧ ρ 2 = ((Value.slice none 0 0) : Value) ∧ ρ 16 = (v35 : Value) ∧ ρ 17 = (NI ((z.1.branches ++ z.1.tags).length) : Value) ∧ ρ 18 = (NI i : Value) ∧ ρ 29 = (z.2.log : Value) ∧ ρ 30 = (NI ((z.1.log).length) : Value) ∧ ρ 31 = (NI j : Value) ∧ ρ 3 = (vp : Value) ∧ Ext w wz ∧ wz.heap[n2]? = some (.cells (refsC z).toArray 53 (0, 0)) ∧ Ext w3 wz ∧ OG w15.heap.size 70 33 (nmdC) wz v35 (z.1.branches ++ z.1.tags) ∧ OG w3.heap.size 25 32 (Lib.byteCells) wz vp (rootsE z.1 j) ∧ (j ≤ z.1.log.length) ∧ True) (fun ρ _ => z.1.log.length - (intOf (ρ 31)).toNat) ⟨0, vo, T0, T1, T2, T16, T17, T18, T29, T30, T31, T3, hE, hb8, hA11, hk36, og_eq hr_vo ((roots_mid (by omega))), Nat.zero_le _, trivial⟩ ?_))))))))))))))))))))
 clear hr_vo
 clear hE hb8 hA11 hk36
 rintro ρ91 w92 ⟨j, vp, T0, T1, T2, T16, T17, T18, T29, T30, T31, T3, hE, hb8, hA11, hk36, hr_vp, hj, -⟩
 have q31 := T31
 refine sk fun K93 hK93 => (wt (oS rfl (Yk.eqI (a := (j : Nat)) (b := ((z.1.log).length : Nat)) T31 T30 (k_lss _ _ _ _) (oZ (tN (hK93 _ _ (sk fun K94 hK94 => ?_)))))))
 refine wpF_cond ((j) < ((z.1.log).length)) (vr (.bool (decide ((j) < ((z.1.log).length)))) rfl) (fun hc1 => ?_) (fun hc1 => ?_)
 ·have hlt2 : j < z.1.log.length := hc1
  refine wpF_skip (tN (hK94 _ _ (sk fun K95 hK95 => (wpF_block (sk fun K96 hK96 => (wt ?_))))))
  have hl99 : (entC ((z.1.log).getD (j) dEntry)).length = 67 := (RG.elem (hml.keep hE) dEntry (by omega))
  refine oS rfl (Yk.atRG wr47_ty47 wr47_szg122 (by decide) dEntry (RG.of (hml.keep hE) T29) T31 (by omega) fun v97 hp98 => (oS rfl (Yk.loadPR (PR.of hp98 (vr v97 rfl)) (wr47_ty122).choose_spec rfl (by rw [ent_len]; exact wr47_isz122) (oS rfl (Yk.alloc (cs := (entC (⟨0, [], zid, zid, []⟩ : Ent)).toArray) wr47_al122 fun n100 w101 hn102 hb103 hx104 hs105 => ?_)))))
  have hA106 := Ext.refl w92
  have hea107 := hE
  have hea108 := hA11
  have hz109 := hE.size
  have hz110 := hA11.size
  have hlt111 := lte (bl hb8) hn102
  have hap112 : OB v35 n100 := own_newer hk36.2 (by omega)
  have hap113 : OB vp n100 := own_newer hr_vp.2 (by omega)
  have hE := hE.trans hx104
  have hb8 := eb hx104 hb8
  have hA11 := hA11.trans hx104
  have hk36 := hk36.keep hx104
  have hr_vp := hr_vp.keep hx104
  have hA106 := hA106.trans hx104
  have hb114 := hb103; clear hb103
  have hl115 : n100 < w101.heap.size := by omega
  have hap116 := OG.off hk36 hb114 (by decide)
  have hap117 := OG.off hr_vp hb114 (by decide)
  refine oS rfl (Yk.storeAll (vr (PQ n100 0) rfl) (vr (.agg (entC ((z.1.log).getD (j) dEntry)).toArray) rfl) hb114 (by simp only [List.size_toArray, ent_len]) (st_isz (ent_len _) wr47_isz122) (ent_one (x := ((z.1.log).getD (j) dEntry))) fun w118 hb119 hg120 hs121 => ?_)
  have hE := row_fresh hE hg120 (Nat.le_trans hz109 (by omega))
  have hb8 := kb hg120 hb8 (by omega)
  have hA11 := row_fresh hA11 hg120 (Nat.le_trans hz110 (by omega))
  have hk36 := OG.kept hk36 hg120 hap116
  have hr_vp := OG.kept hr_vp hg120 hap117
  have hA106 := row_fresh hA106 hg120 (Nat.le_trans (Nat.le_refl _) (by omega))
  clear hb114
  have hb114 : w118.heap[n100]? = some (.cells (entC ((z.1.log).getD (j) dEntry)).toArray 122 (0, 0)) := hb119; clear hb119
  have hl122 := bl hb114
  refine oZ ?_
  clear hp98
  refine tN (hK96 _ _ (wt (oM rfl (oS rfl (Yk.fieldAt wr47_fo122_0 (vr (PQ n100 0) rfl) (oS rfl (Yk.fieldAt wr47_fo67_2 (vr (PQ n100 0) rfl) (oS rfl (Yk.loadPR (PR.blk hb114 (ent_m2 ((z.1.log).getD (j) dEntry)) (ent_n2 ((z.1.log).getD (j) dEntry)) (vr (PQ n100 2) rfl)) wr47_ty25 rfl (sizeId_of (((z.1.log).getD (j) dEntry)).old.2) (oS rfl (Yk.fieldAt wr47_fo122_0 (vr (PQ n100 0) rfl) (oS rfl (Yk.fieldAt wr47_fo67_3 (vr (PQ n100 0) rfl) (oS rfl (Yk.loadPR (PR.blk hb114 (ent_m3 ((z.1.log).getD (j) dEntry)) (ent_n3 ((z.1.log).getD (j) dEntry)) (vr (PQ n100 34) rfl)) wr47_ty25 rfl (sizeId_of (((z.1.log).getD (j) dEntry)).new.2) (oS rfl (Yk.pairG (enc := Lib.byteCells) (a := (((z.1.log).getD (j) dEntry)).old.1) (b := (((z.1.log).getD (j) dEntry)).new.1) (vr (AB ((((z.1.log).getD (j) dEntry)).old.1)) rfl) (vr (AB ((((z.1.log).getD (j) dEntry)).new.1)) rfl) (by rw [Lib.byteCells_length]; exact (((z.1.log).getD (j) dEntry)).old.2) (by rw [Lib.byteCells_length]; exact (((z.1.log).getD (j) dEntry)).new.2) wr47_l2g fun v123 w124 hr125 hx126 => ?_)))))))))))))))))
  have hE := hE.trans hx126
  have hb8 := eb hx126 hb8
  have hA11 := hA11.trans hx126
  have hk36 := hk36.keep hx126
  have hr_vp := hr_vp.keep hx126
  have hA106 := hA106.trans hx126
  have hb114 := eb hx126 hb114
  have hap127 := OG.off hr_vp hb8 (by decide)
  have hap128 := OG.apart hr_vp hk36 (by decide)
  have hap129 := OG.off hr_vp hb114 (by decide)
  have hap130 := OG.off hr_vp hb8 (by decide)
  have hap131 := OG.apart hr_vp hk36 (by decide)
  have hap132 := OG.off hr_vp hb114 (by decide)
  refine oS rfl (Yk.appendRG _ _ w3.heap.size _ 32 wr47_ty23 wr47_ig25.choose_spec.1 wr47_ig25.choose_spec.2 wr47_ty23 (rootsE z.1 j) ([(((z.1.log).getD (j) dEntry)).old.1, (((z.1.log).getD (j) dEntry)).new.1]) (OG.of hr_vp T3) (RG.of hr125 (vr v123 rfl)) (fun _ _ => byteCells_one _) (by have := rootsE_len z.1 j; simp only [List.length_cons, List.length_nil]; omega) (by have := rootsE_len z.1 j; simp only [List.length_cons, List.length_nil]; omega) hA11.size fun v133 w134 ho135 hg136 => ?_)
  have hg136 : Grew w124 w134 vp v133 := .eqv T3 hg136
  have hap137 : OB v133 n100 := apart_grew hg136 hap132 (bl hb114)
  have hap138 : OB v133 n2 := apart_grew hg136 hap130 (bl hb8)
  have hap139 : ApartV v133 v35 := apartv_grew hg136 hap131 hk36.2
  have hap140 : ApartV v35 v133 := fun k h1 h2 => hap139 k h2 h1
  have hE := ext_grew hE hg136 hr_vp.2 hz13
  have hb8 := blk_grew hb8 hg136 hap130
  have hA11 := ext_grew hA11 hg136 hr_vp.2 (Nat.le_refl _)
  have hk36 := og_grew hk36 hg136 hap131
  clear hA106
  have hb114 := blk_grew hb114 hg136 hap132
  clear hr125
  clear hr_vp
  refine oA rfl (oZ (bN (tN (hK95 _ _ (wt (oS rfl (Yk.bin (xv := NI j) (yv := NI 1) T31 rfl rfl (i64_add _ _ _ (by omega)) (oM rfl (oL_ [(0, .agg (refsC z).toArray), (1, PQ n2 0), (2, (Value.slice none 0 0)), (3, v133), (7, PQ n100 0), (16, v35), (17, NI ((z.1.branches ++ z.1.tags).length)), (18, NI i), (29, z.2.log), (30, NI ((z.1.log).length)), (31, NI ((j) + (1)))] ⟨T0, T1, T2, rfl, rfl, T16, T17, T18, T29, T30, rfl, trivial⟩ fun ρ141 ⟨T0, T1, T2, T3, T7, T16, T17, T18, T29, T30, T31, _⟩ => (tN (And.intro ⟨j + 1, v133, T0, T1, T2, T16, T17, T18, T29, T30, T31, T3, hE, hb8, hA11, hk36, og_eq ho135 ((by unfold rootsE; rw [take_flat_snoc dEntry hlt2, List.append_assoc])), by omega, trivial⟩ ?_)))))))))))
  show z.1.log.length - (intOf (ρ141 31)).toNat < z.1.log.length - (intOf (ρ91 31)).toNat
  rw [T31, q31]
  simp only [intOf, Int.toNat_natCast]; omega
 refine wpF_exit (thenF_exit (thenF_exit (inBlockF_hit (tN (hK88 _ _ (sk fun K142 hK142 => (wt (oM rfl (oS rfl (Yk.run (v := AB (List.replicate 32 0)) (by kernel_rfl) (oS rfl (Yk.lit1G (a := (List.replicate 32 0)) (enc := Lib.byteCells) (vr (AB (List.replicate 32 0)) rfl) (by rw [Lib.byteCells_length]; exact List.length_replicate) wr47_lg23 fun v143 w144 hr145 hx146 => ?_))))))))))))
 have hE := hE.trans hx146
 have hb8 := eb hx146 hb8
 have hA11 := hA11.trans hx146
 have hk36 := hk36.keep hx146
 have hr_vp := hr_vp.keep hx146
 have hz_ := hE.size
 refine oS rfl (Yk.callA2 wr47_pl44 T3 (vr v143 rfl) ((minus_any _ vp v143 (rootsE z.1 j) ([(List.replicate 32 0)]) (RG.ofOwn hr_vp) hr145 (by have := rootsE_len z.1 j; omega) (by simp)).mono ?_))
 rintro e w150 ⟨v147, o, rfl, ho148, hS, hmm, hol, hx149⟩
 refine ⟨_, rfl, ?_⟩
 have hE := hE.trans hx149
 have hb8 := eb hx149 hb8
 have hA11 := hA11.trans hx149
 have hk36 := hk36.keep hx149
 have hr_vp := hr_vp.keep hx149
 have hr145 := hr145.keep hx149
 have ho148 := OG.low ho148 hz_
 refine oA rfl (oZ (tN (hK142 _ _ (wpF_ret (postF_ret (fn := Tryd.f42) _ rfl [v147] (v147) rfl ⟨rfl, trivial⟩ ?_)))))
 have hje : j = z.1.log.length := by omega
 subst hje
 exact ⟨_, o, rfl, ho148, hS, fun x => (hmm x).trans (by rw [List.mem_singleton]; unfold rootsE rootsL; rw [List.take_length]), Nat.le_trans hol (rootsE_len z.1 _), hE⟩
open Go.RowKit
theorem flatMap_len {α : Type} {enc : α → List Value} {k : Nat} : ∀ (l : List α) (_ : ∀ x ∈ l, (enc x).length = k), (l.flatMap enc).length = l.length * k
  | [], _ => by simp
  | a :: l, h => by rw [List.flatMap_cons, List.length_append, h a (by simp), flatMap_len l (fun x hx => h x (by simp [hx])), List.length_cons, Nat.succ_mul, Nat.add_comm]
theorem flatMap_cut {α : Type} {enc : α → List Value} {k : Nat} (d : α) : ∀ (l : List α) (i : Nat) (x : α) (_ : ∀ y ∈ l, (enc y).length = k) (_ : i < l.length),
    l.flatMap enc = (l.take i).flatMap enc ++ enc (l.getD i d) ++ (l.drop (i + 1)).flatMap enc ∧ (l.set i x).flatMap enc = (l.take i).flatMap enc ++ enc x ++ (l.drop (i + 1)).flatMap enc
  | [], _, _, _, h => by simp at h
  | a :: l, 0, x, _, _ => by simp
  | a :: l, i + 1, x, h, hi => by
    obtain ⟨h1, h2⟩ := flatMap_cut d l i x (fun y hy => h y (by simp [hy])) (by simpa using hi)
    constructor
    · rw [List.flatMap_cons, h1]; simp
    · rw [List.set_cons_succ, List.flatMap_cons, h2]; simp
section
variable {P : Program} {K : Value → World → Prop} {ρ : Slots} {w : World} {d : Option Tmp} {ty : TypeId} {pos : String} {af : Array Edge} {gd : Option (Nat × Bool)}
theorem Yk.storeOG {α : Type} {b k : Nat} {t t' : TypeId} {enc : α → List Value} {v : Value} {l : List α} {g i : Nat} {a : α} {x y : Operand} (dd : α) (hx : evalR ρ x = PQ g (i * k)) (hy : evalR ρ y = .agg (enc a).toArray) (h : OG b t k enc w v l) (hg : v.ownBlock = some g) (hi : i < l.length) (hl : (enc a).length = k) (h1 : ∀ u ∈ enc a, u.oneCell' = true) (hinfo : (P.info? t').map (·.size) = some k)
    (hk : ∀ w', OG b t k enc w' v (l.set i a) → Grew w w' v v → K undef w') : Yk P K ((execOp (evalR ρ) ⟨d, .store t' x y, ty, pos, af, gd⟩).run P w) := by
  obtain ⟨hen, hxl, ⟨-, h0⟩ | ⟨g', cap, cur, rfl, hb, hc, hn, hm, hs, ht⟩⟩ := h
  · omega
  · obtain rfl : g' = g := by simpa [Value.ownBlock] using hg
    obtain ⟨c1, c2⟩ := flatMap_cut dd l i a hen hi
    have hpre := flatMap_len (l.take i) (fun y hy => hen y (List.mem_of_mem_take hy))
    rw [List.length_take, Nat.min_eq_left (Nat.le_of_lt hi)] at hpre
    obtain ⟨T, hcur⟩ : ∃ T, cur = ((l.take i).flatMap enc ++ enc (l.getD i dd) ++ ((l.drop (i + 1)).flatMap enc ++ T)).toArray := by
      refine ⟨cur.toList.drop (l.length * k), ?_⟩
      apply Array.toList_inj.1
      rw [List.toList_toArray, ← List.append_assoc, ← c1, ← ht, List.take_append_drop]
    rw [hcur] at hc
    refine Yk.storeMid hx hy hc hpre (by rw [hl]; exact hen _ (getD_mem dd hi)) (by rw [hl]; exact hinfo) h1 fun w' e1 e2 e3 => hk w' ⟨fun y hy => ?_, ?_, .inr ⟨g', cap, _, by rw [List.length_set], hb, e1, by rw [List.length_set]; exact hn, hm, ?_, ?_⟩⟩ ⟨e2, fun k hk => .inl hk⟩
    · rcases List.mem_or_eq_of_mem_set hy with hy | rfl
      · exact hen y hy
      · exact hl
    · rw [flatMap_len _ (fun y hy => by rcases List.mem_or_eq_of_mem_set hy with hy | rfl; exact hen y hy; exact hl)]
    · rw [← hs, hcur]
      simp only [List.size_toArray, List.length_append, hl, hen _ (getD_mem dd hi)]
    · have hlen : ((l.set i a).flatMap enc).length = (l.set i a).length * k := flatMap_len _ (fun y hy => by rcases List.mem_or_eq_of_mem_set hy with hy | rfl; exact hen y hy; exact hl)
      rw [List.toList_toArray, ← List.append_assoc, ← c2, ← hlen, List.take_left]
end
theorem take_ne {α : Type} {l : List α} {i : Nat} {a d : α} (h : i < l.length) (h1 : a ∉ l.take i) (h2 : l.getD i d ≠ a) : a ∉ l.take (i + 1) := by
  rw [List.take_succ_eq_append_getElem h]
  rw [List.getD_eq_getElem?_getD, List.getElem?_eq_getElem h] at h2
  simp only [List.mem_append, List.mem_singleton, not_or]
  exact ⟨h1, fun e => h2 e.symm⟩
theorem getD_app_l {α : Type} (l m : List α) (d : α) {i : Nat} (h : i < l.length) : (l ++ m).getD i d = l.getD i d := by
  rw [List.getD_eq_getElem?_getD, List.getD_eq_getElem?_getD, List.getElem?_append_left h]
def insAt (o : List Bs) (j : Nat) (y : Bs) : List Bs := o.take j ++ y :: o.drop j
theorem insAt_len (o : List Bs) (j : Nat) (y : Bs) : (insAt o j y).length = o.length + 1 := by
  unfold insAt
  rw [List.length_append, List.length_cons, List.length_take, List.length_drop]
  omega
theorem insAt_end (o : List Bs) (x : Bs) : o ++ [x] = insAt o o.length x := by unfold insAt; simp
section
variable {o : List Bs} {j : Nat} {x y : Bs}
theorem ins_get (h : 0 < j) (hj : j ≤ o.length) : (insAt o j y).getD (j - 1) [] = o.getD (j - 1) [] := by
  unfold insAt
  rw [getD_app_l _ _ _ (by rw [List.length_take]; omega), List.getD_eq_getElem?_getD, List.getElem?_take, if_pos (by omega), ← List.getD_eq_getElem?_getD]
theorem ins_set (hj : j ≤ o.length) : (insAt o j y).set j x = insAt o j x := by
  unfold insAt
  have hl : (o.take j).length = j := by rw [List.length_take]; omega
  rw [List.set_append_right _ _ (by omega), hl, Nat.sub_self, List.set_cons_zero]
theorem ins_shift (h : 0 < j) (hj : j ≤ o.length) : insAt o j (o.getD (j - 1) []) = insAt o (j - 1) (o.getD (j - 1) []) := by
  unfold insAt
  obtain ⟨i, rfl⟩ : ∃ i, j = i + 1 := ⟨j - 1, by omega⟩
  rw [Nat.add_sub_cancel, drop_cons [] (show i < o.length by omega), List.take_succ_eq_append_getElem (by omega), List.getD_eq_getElem?_getD, List.getElem?_eq_getElem (show i < o.length by omega), List.append_assoc]
  rfl
theorem ins_perm : (insAt o j x).Perm (x :: o) := by
  unfold insAt
  have := List.perm_middle (a := x) (l₁ := o.take j) (l₂ := o.drop j)
  rwa [List.take_append_drop] at this
theorem ins_asc (ho : Asc o) (hj : j ≤ o.length) (h1 : ∀ k, j ≤ k → k < o.length → 0 < Lib.compareBytes (o.getD k []) x) (h2 : j = 0 ∨ ¬ 0 < Lib.compareBytes (o.getD (j - 1) []) x) : Asc (insAt o j x) := by
  unfold insAt Asc at *
  have hg : ∀ k (hk : k < o.length), o.getD k [] = o[k] := fun k hk => by rw [List.getD_eq_getElem?_getD, List.getElem?_eq_getElem hk]; rfl
  have hsplit := ho
  rw [← List.take_append_drop j o, List.pairwise_append] at hsplit
  obtain ⟨ha, hb, hc⟩ := hsplit
  have hx : ∀ z ∈ o.drop j, Lib.compareBytes x z ≤ 0 := fun z hz => by
    obtain ⟨k, hk, rfl⟩ := List.getElem_of_mem hz
    rw [List.length_drop] at hk
    have := h1 (j + k) (by omega) (by omega)
    rw [hg _ (by omega)] at this
    rw [List.getElem_drop]
    have := cmp_neg x (o[j + k]'(by omega))
    omega
  have hy : ∀ z ∈ o.take j, Lib.compareBytes z x ≤ 0 := fun z hz => by
    obtain ⟨k, hk, rfl⟩ := List.getElem_of_mem hz
    rw [List.length_take] at hk
    rcases h2 with h2 | h2
    · omega
    · rw [hg _ (by omega)] at h2
      rw [List.getElem_take]
      by_cases e : k = j - 1
      · subst e; omega
      · exact cmp_trans (List.pairwise_iff_getElem.1 ho k (j - 1) (by omega) (by omega) (by omega)) (by omega)
  rw [List.pairwise_append]
  refine ⟨ha, List.pairwise_cons.2 ⟨hx, hb⟩, fun a ha' b hb' => ?_⟩
  rcases List.mem_cons.1 hb' with rfl | hb'
  · exact hy a ha'
  · exact hc a ha' b hb'
end
end Go.Proofs.YtmonlobfofkbdaaDoor
