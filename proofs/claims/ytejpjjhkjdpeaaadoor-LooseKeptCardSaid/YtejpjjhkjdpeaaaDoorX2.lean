/- Part 2 of what stands behind these statements: laws and walks of the functions that are reached. Conditions: those that each theorem names. -/
import Derived.Test.YtejpjjhkjdpeaaaDoorX1
set_option linter.unusedVariables false
set_option linter.unusedSimpArgs false
namespace Go.Proofs.YtejpjjhkjdpeaaaDoor
open Go.RowKit
theorem mayT {G : Bool} {v x : Value} (hx : x = cond G v undef) (h : G = true) : x = v := by rw [hx, h]; rfl
theorem not_i {a : Bool} (h : a = false) : (!a) = true := by rw [h]; rfl
theorem gT {x : Value} {c : Bool} (h : x = .bool c) : c = true ↔ x = .bool true := by
  subst h
  exact ⟨fun h => by rw [h], fun h => by injection h⟩
theorem gF {x : Value} {c : Bool} (h : x = .bool c) : (!c) = true ↔ x = .bool false := by
  subst h
  cases c <;> simp
theorem not_wanted {o : Oper} {ops : Array Oper} {T : Array Value} {g d : Nat} {want : Bool} (hgd : o.guard = some (g, want)) (hg : (ops[g]?).bind (·.dst) = some d) (h : T.getD d undef ≠ .bool want) : Region.wanted o (yielded ops T) = false := by
  simp only [Region.wanted, hgd, yielded, hg]
  rw [Array.getD_eq_getD_getElem?] at h
  cases hx : T[d]? with
  | none => simp [hx]
  | some x =>
    rw [hx] at h
    cases x <;> simp [hx]
    rename_i b
    intro hb
    exact h (by simp [hb])
section
variable {P : Program} {n : Nat} {Q : PostF} {ρ : Slots} {w : World} {K : Value → World → Prop} {d : Option Tmp} {ty : TypeId} {pos : String} {af : Array Edge} {gd : Option (Nat × Bool)}
theorem Yk.mono {K' : Value → World → Prop} {r : Result Next} (h : Yk P K r) (hk : ∀ v w, K v w → K' v w) : Yk P K' r := by
  match r, h with
  | .ok (.value v) w, h => exact hk _ _ h
  | .ok .skip w, h => exact hk _ _ h
  | .ok (.enter f args) w, h => exact Calls.mono h (fun e w ⟨v, e1, h⟩ => ⟨v, e1, hk _ _ h⟩)
theorem opsF_mayW {ops : Array Oper} {rest : List Oper} {dst : Option Tmp} {op : Op} {g : Nat} {want : Bool} {t : Tmp} {G : Bool} (R : Value → World → Prop) (hd : (match dst with | some d => Nat.blt d n | none => true) = true) (hg : (ops[g]?).bind (·.dst) = some t) (hG : G = true ↔ ρ t = .bool want)
    (h1 : G = true → Yk P R ((execOp (evalR ρ) ⟨dst, op, ty, pos, af, some (g, want)⟩).run P w))
    (h2 : ∀ x w', (G = true → R x w') → (G = false → x = undef ∧ w' = w) → opsF P ops n Q rest (updO ρ dst x) w') : opsF P ops n Q (⟨dst, op, ty, pos, af, some (g, want)⟩ :: rest) ρ w := by
  cases hb : G with
  | true =>
    refine oY hd hg (hG.1 hb) (Yk.mono (h1 hb) ?_)
    intro x w' h
    exact h2 x w' (fun _ => h) (fun e => by rw [hb] at e; cases e)
  | false =>
    intro a ha
    have hdn : ∀ t, dst = some t → t < n := fun t ht => by subst ht; exact Nat.le_of_ble_eq_true hd
    have hw : Region.wanted ⟨dst, op, ty, pos, af, some (g, want)⟩ (yielded ops a.tmps) = false := not_wanted rfl hg (fun e => by
      have := hG.2 ((ha.get t).symm.trans e)
      rw [hb] at this
      cases this)
    refine wpList_step fun K hK => ?_
    rw [if_neg (by rw [hw]; simp)]
    exact hK _ _ (h2 undef w (fun e => by rw [hb] at e; cases e) (fun _ => ⟨rfl, rfl⟩) _ (ha.put dst hdn undef))
theorem opsF_mayV {ops : Array Oper} {rest : List Oper} {dst : Option Tmp} {op : Op} {g : Nat} {want : Bool} {t : Tmp} {G : Bool} (v : Value) (hd : (match dst with | some d => Nat.blt d n | none => true) = true) (hg : (ops[g]?).bind (·.dst) = some t) (hG : G = true ↔ ρ t = .bool want)
    (h1 : G = true → Yk P (fun x w' => x = v ∧ w' = w) ((execOp (evalR ρ) ⟨dst, op, ty, pos, af, some (g, want)⟩).run P w))
    (h2 : opsF P ops n Q rest (updO ρ dst (cond G v undef)) w) : opsF P ops n Q (⟨dst, op, ty, pos, af, some (g, want)⟩ :: rest) ρ w := by
  refine opsF_mayW _ hd hg hG h1 fun x w' k1 k2 => ?_
  cases hb : G with
  | true => obtain ⟨rfl, rfl⟩ := k1 hb; rw [hb] at h2; exact h2
  | false => obtain ⟨rfl, rfl⟩ := k2 hb; rw [hb] at h2; exact h2
theorem opsF_mayX {ops : Array Oper} {rest : List Oper} {dst : Option Tmp} {op : Op} {g : Nat} {want : Bool} {t : Tmp} {G : Bool} (R : Value → Prop) (hd : (match dst with | some d => Nat.blt d n | none => true) = true) (hg : (ops[g]?).bind (·.dst) = some t) (hG : G = true ↔ ρ t = .bool want)
    (h1 : G = true → Yk P (fun x w' => R x ∧ w' = w) ((execOp (evalR ρ) ⟨dst, op, ty, pos, af, some (g, want)⟩).run P w))
    (h2 : ∀ x, (G = true → R x) → opsF P ops n Q rest (updO ρ dst x) w) : opsF P ops n Q (⟨dst, op, ty, pos, af, some (g, want)⟩ :: rest) ρ w := by
  refine opsF_mayW _ hd hg hG h1 fun x w' k1 k2 => ?_
  have e : w' = w := by
    cases hb : G with
    | true => exact (k1 hb).2
    | false => exact (k2 hb).2
  subst e
  exact h2 x (fun h => (k1 h).1)
theorem Yk.pickAnd {c x y : Operand} {a b : Bool} (hc : evalR ρ c = .bool a) (hx : a = true → evalR ρ x = .bool b) (hy : evalR ρ y = .bool false) (hk : K (.bool (a && b)) w) : Yk P K ((execOp (evalR ρ) ⟨d, .pick c x y, ty, pos, af, gd⟩).run P w) := by
  cases a with
  | true => exact Yk.pickT hc (hx rfl) hk
  | false => exact Yk.pickF hc hy hk
theorem Yk.pickOr {c x y : Operand} {a b : Bool} (hc : evalR ρ c = .bool a) (hx : evalR ρ x = .bool true) (hy : a = false → evalR ρ y = .bool b) (hk : K (.bool (a || b)) w) : Yk P K ((execOp (evalR ρ) ⟨d, .pick c x y, ty, pos, af, gd⟩).run P w) := by
  cases a with
  | true => exact Yk.pickT hc hx hk
  | false => exact Yk.pickF hc (hy rfl) hk
theorem Yk.pickAndN {c x y : Operand} {a b : Bool} (hc : evalR ρ c = .bool a) (hx : a = true → evalR ρ x = .bool b) (hy : evalR ρ y = .bool false) (hk : ∀ r, r = (a && b) → K (.bool r) w) : Yk P K ((execOp (evalR ρ) ⟨d, .pick c x y, ty, pos, af, gd⟩).run P w) := Yk.pickAnd hc hx hy (hk _ rfl)
theorem Yk.pickOrN {c x y : Operand} {a b : Bool} (hc : evalR ρ c = .bool a) (hx : evalR ρ x = .bool true) (hy : a = false → evalR ρ y = .bool b) (hk : ∀ r, r = (a || b) → K (.bool r) w) : Yk P K ((execOp (evalR ρ) ⟨d, .pick c x y, ty, pos, af, gd⟩).run P w) := Yk.pickOr hc hx hy (hk _ rfl)
variable {l : List Oper} {Φ : Nat → Fact}
end
open Go.RowKit
set_option maxRecDepth 100000
set_option linter.unusedVariables false
abbrev enI (n : Int) : List Value := [.int .i64 n]
def readyL (d : Dsk) (l : List (List UInt8)) : Nat := if d.down = true then 9 else if l.all mayD = true then 0 else 10
theorem readyL_down {d : Dsk} {l : List (List UInt8)} (h : d.down = true) : readyL d l = 9 := if_pos h
theorem readyL_ok {d : Dsk} {l : List (List UInt8)} (h : d.down = false) (h2 : l.all mayD = true) : readyL d l = 0 := (if_neg (by rw [h]; decide)).trans (if_pos h2)
theorem readyL_bad {d : Dsk} {l : List (List UInt8)} {i : Nat} (h : d.down = false) (hi : i < l.length) (hm : mayD (l.getD i []) = false) : readyL d l = 10 := by
 refine (if_neg (by rw [h]; decide)).trans (if_neg fun ha => ?_)
 have := List.all_eq_true.1 ha (l.getD i []) (by rw [List.getD_eq_getElem?_getD, List.getElem?_eq_getElem hi]; exact List.getElem_mem hi)
 rw [hm] at this; cases this
theorem all_take {l : List (List UInt8)} {i : Nat} (hi : i < l.length) (h : (l.take i).all mayD = true) (hm : mayD (l.getD i []) = true) : (l.take (i + 1)).all mayD = true := by
 rw [List.take_succ_eq_append_getElem hi, List.all_append, h]
 rw [List.getD_eq_getElem?_getD, List.getElem?_eq_getElem hi] at hm
 simpa using hm
theorem dw1_ty9 : Tryd.prog.underlying 9 = some (.string) := by kernel_rfl
theorem dw1_ty23 : Tryd.prog.underlying 23 = some (.pointer 55) := by kernel_rfl
theorem dw1_fo55_6 : FieldOff Tryd.prog 55 6 6 := fun b o w => by simp [go_sem]
theorem dw1_ty4 : Tryd.prog.underlying 4 = some (.bool) := by kernel_rfl
theorem dw1_ty64 : Tryd.prog.underlying 64 = some (.slice 9) := by kernel_rfl
theorem dw1_szg9 : ∀ w' : World, (sizeOf 9).run Tryd.prog w' = .ok 1 w' := fun _ => by kernel_rfl
theorem dw1_pl53 : Plain Tryd.prog 53 := fun _ _ => by kernel_rfl
set_option maxHeartbeats 1600000
theorem may_any (w : World) (s : List UInt8) :
  Calls Tryd.prog 53 #[St s] w fun e w' => e = .returned (.bool (mayD s)) ∧ Ext w w' := by
 refine calls_of_wpF (args := [St (s)]) Tryd.func53 rfl 11 rfl (Nat.le_of_ble_eq_true rfl) ?_
 intro ρ0 hb
 have T0 : ρ0 0 = (St (s) : Value) := hb.get 0
 clear hb
 have hE := Ext.refl w
 refine sk fun K1 hK1 => (wt (oA rfl (oZ (tN (hK1 _ _ (sk fun K2 hK2 => (wt (oM rfl (oS rfl (Yk.lenSt (l := s) dw1_ty9 T0 (oS rfl (Yk.eqI (a := (s.length : Nat)) (b := (1 : Nat)) rfl rfl (k_geq _ _ _ _) (oM rfl (opsF_mayV (St (s)) rfl rfl (gT (vr (.bool (decide ((1) ≤ (s.length)))) rfl)) (fun hG3 => Yk.move T0 ⟨rfl, rfl⟩) (opsF_mayV (NI s.length) rfl rfl (gT (vr (.bool (decide ((1) ≤ (s.length)))) rfl)) (fun hG4 => Yk.lenSt (l := s) dw1_ty9 (mayT (vr (cond ((decide ((1) ≤ (s.length)))) (St (s)) undef) rfl) hG4) ⟨rfl, rfl⟩) (opsF_mayV (.bool (decide ((s.length) ≤ (80)))) rfl rfl (gT (vr (.bool (decide ((1) ≤ (s.length)))) rfl)) (fun hG5 => Yk.eqI (a := ((s.length : Nat) : Int)) (b := ((80 : Nat) : Int)) (mayT (vr (cond ((decide ((1) ≤ (s.length)))) (NI s.length) undef) rfl) hG5) (vr (NI 80) rfl) (k_leq _ .i64 (s.length) (80)) ⟨rfl, rfl⟩) (oS rfl (Yk.pickAndN (vr (.bool (decide ((1) ≤ (s.length)))) rfl) (fun hA => (mayT (vr (cond ((decide ((1) ≤ (s.length)))) (.bool (decide ((s.length) ≤ (80)))) undef) rfl) hA)) (vr (.bool (false)) rfl) fun bb6 hbb7 => (oA rfl ?_)))))))))))))))))))
 refine oZ (tN (hK2 _ _ (wpF_ret (postF_ret (fn := Tryd.f53) _ rfl [.bool (bb6)] (.bool (bb6)) rfl ⟨rfl, trivial⟩ ?_))))
 subst hbb7
 exact ⟨rfl, hE⟩

theorem ready_at (base : Nat) (w : World) (H : Dk) (D : Dsk) (hS : DkS base w H D) (v : Value) (l : List (List UInt8)) (hr : RG 1 enS w v l) (hl : l.length < 4611686018427387904) :
  Calls Tryd.prog 27 #[PQ H.g 0, v] w fun e w' => e = .returned (NI (readyL D l)) ∧ Ext w w' := by
 have hb := hS.blk
 have hgl := (bl hb)
 refine calls_of_wpF (args := [PQ H.g 0, v]) Tryd.func27 rfl 23 rfl (Nat.le_of_ble_eq_true rfl) ?_
 intro ρ0 hb
 have T0 : ρ0 0 = (PQ H.g 0 : Value) := hb.get 0
 have T1 : ρ0 1 = (v : Value) := hb.get 1
 clear hb
 have hE := Ext.refl w
 refine sk fun K1 hK1 => (wt (oA rfl (oZ (tN (hK1 _ _ (sk fun K2 hK2 => (sk fun K3 hK3 => (wt (oM rfl (oS rfl (Yk.eqlNil dw1_ty23 T0 (oZ (tN (hK3 _ _ (wpF_false (vr (.bool (false)) rfl) (wpF_skip (tN (hK2 _ _ (sk fun K4 hK4 => ?_)))))))))))))))))))
 refine sk fun K5 hK5 => (wt (oM rfl (oS rfl (Yk.nilCheck T0 (oS rfl (Yk.fieldAt dw1_fo55_6 (vr (PQ H.g 0) rfl) (oS rfl (Yk.cell1 dw1_ty4 rfl (vr (PQ H.g 6) rfl) (cellAt hb (show _ = some (.bool (D.down) : Value) from rfl)) (oZ (tN (hK5 _ _ ?_)))))))))))
 refine wpF_condB (D.down) (vr (.bool (D.down)) rfl) (fun hc1 => ?_) (fun hc1 => ?_)
 ·refine sk fun K6 hK6 => (wt (oA rfl (oZ (tN (hK6 _ _ (wpF_ret (thenF_ret (postF_ret (fn := Tryd.f27) _ rfl [NI 9] (NI 9) rfl ⟨rfl, trivial⟩ ?_))))))))
  exact ⟨by rw [readyL_down (by simpa using hc1)], hE⟩
 refine wpF_skip (tN (hK4 _ _ (sk fun K7 hK7 => (sk fun K8 hK8 => (wt (oM rfl (oS rfl (Yk.lenRG dw1_ty64 (RG.of hr T1) (oM rfl (oL_ [(0, PQ H.g 0), (1, v), (4, NI 0), (8, .bool (false)), (13, v), (14, NI l.length), (15, NI 0)] ⟨T0, T1, rfl, rfl, T1, rfl, rfl, trivial⟩ fun ρ9 ⟨T0, T1, T4, T8, T13, T14, T15, _⟩ => (tN (hK8 _ _ (wpF_block (wpF_loop (fun (ρ : Slots) (wz : World) => ∃ i : Nat, ρ 0 = (PQ H.g 0 : Value) ∧ ρ 1 = (v : Value) ∧ ρ 8 = (.bool (false) : Value) ∧ ρ 13 = (v : Value) ∧ ρ 14 = (NI l.length : Value) ∧ ρ 15 = (NI i : Value) ∧ RG 1 enS wz v l ∧ wz.heap[H.g]? = some (.cells (dkC (D.quota) (H.mn) (H.ml) (H.va) (D.refused) (D.arm) (D.down)).toArray 55 (0, 0)) ∧ Ext w wz ∧ (i ≤ l.length) ∧ ((l.take i).all mayD = true) ∧ True) (fun ρ _ => l.length - (intOf (ρ 15)).toNat) ⟨0, T0, T1, T8, T13, T14, T15, hr, hb, hE, Nat.zero_le _, rfl, trivial⟩ ?_))))))))))))))
 clear hr hb hE
 rintro ρ10 w11 ⟨i, T0, T1, T8, T13, T14, T15, hr, hb, hE, hi, hn, -⟩
 have q15 := T15
 refine sk fun K12 hK12 => (wt (oS rfl (Yk.eqI (a := (i : Nat)) (b := (l.length : Nat)) T15 T14 (k_lss _ _ _ _) (oZ (tN (hK12 _ _ (sk fun K13 hK13 => ?_)))))))
 refine wpF_cond ((i) < (l.length)) (vr (.bool (decide ((i) < (l.length)))) rfl) (fun hc2 => ?_) (fun hc2 => ?_)
 ·have hlt : i < l.length := hc2
  refine wpF_skip (tN (hK13 _ _ (sk fun K14 hK14 => (wpF_block (sk fun K15 hK15 => (wt ?_))))))
  have hl18 : (enS (l.getD (i) ([] : List UInt8))).length = 1 := (RG.elem hr ([] : List UInt8) (by omega))
  refine oS rfl (Yk.atRG dw1_ty64 dw1_szg9 (by decide) ([] : List UInt8) (RG.of hr T13) T15 (by omega) fun v16 hp17 => (oS rfl (Yk.loadC dw1_ty9 rfl (PR.cell (PR.of hp17 (vr v16 rfl)) (show _ = some (St (l.getD (i) ([] : List UInt8)) : Value) from rfl)) (oA rfl (oZ ?_)))))
  clear hp17
  refine tN (hK15 _ _ (sk fun K19 hK19 => (wt (oM rfl (oS rfl (Yk.callA1 dw1_pl53 (vr (St (l.getD (i) ([] : List UInt8))) rfl) ((may_any _ (l.getD (i) ([] : List UInt8))).mono ?_)))))))
  rintro e w21 ⟨rfl, hx20⟩
  refine ⟨_, rfl, ?_⟩
  have hr := hr.keep hx20
  have hb := eb hx20 hb
  have hE := hE.trans hx20
  refine oS rfl (Yk.notB (vr (.bool (mayD (l.getD (i) ([] : List UInt8)))) rfl) (oZ (tN (hK19 _ _ ?_))))
  refine wpF_condB (!(mayD (l.getD (i) ([] : List UInt8)))) (vr (.bool (!(mayD (l.getD (i) ([] : List UInt8))))) rfl) (fun hc3 => ?_) (fun hc3 => ?_)
  ·have hm : mayD (l.getD i []) = false := by simpa using hc3
   refine sk fun K22 hK22 => (wt (oA rfl (oZ (tN (hK22 _ _ (wpF_ret (inBlockF_ret (thenF_ret (thenF_ret (inBlockF_ret (thenF_ret (postF_ret (fn := Tryd.f27) _ rfl [NI 10] (NI 10) rfl ⟨rfl, trivial⟩ ?_))))))))))))
   exact ⟨by rw [readyL_bad (by simpa using hc1) hlt hm], hE⟩
  have hm : mayD (l.getD i []) = true := by simpa using hc3
  refine wpF_skip (bN (tN (hK14 _ _ (wt (oS rfl (Yk.bin (xv := NI i) (yv := NI 1) T15 rfl rfl (i64_add _ _ _ (by omega)) (oM rfl (oL_ [(0, PQ H.g 0), (1, v), (6, St (l.getD (i) ([] : List UInt8))), (8, .bool (false)), (13, v), (14, NI l.length), (15, NI ((i) + (1)))] ⟨T0, T1, rfl, T8, T13, T14, rfl, trivial⟩ fun ρ23 ⟨T0, T1, T6, T8, T13, T14, T15, _⟩ => (tN (And.intro ⟨i + 1, T0, T1, T8, T13, T14, T15, hr, hb, hE, by omega, all_take hlt hn hm, trivial⟩ ?_))))))))))
  show l.length - (intOf (ρ23 15)).toNat < l.length - (intOf (ρ10 15)).toNat
  rw [T15, q15]
  simp only [intOf, Int.toNat_natCast]; omega
 refine wpF_exit (thenF_exit (thenF_exit (inBlockF_hit (tN (hK7 _ _ (sk fun K24 hK24 => (wt (oA rfl (oZ (tN (hK24 _ _ (wpF_ret (postF_ret (fn := Tryd.f27) _ rfl [NI 0] (NI 0) rfl ⟨rfl, trivial⟩ ?_)))))))))))))
 exact ⟨by rw [readyL_ok (by simpa using hc1) (by rw [List.take_of_length_le (by omega)] at hn; exact hn)], hE⟩
open Go.RowKit
set_option maxRecDepth 100000
set_option linter.unusedVariables false
set_option linter.unusedSimpArgs false
theorem dir_nodup {n : Nat} {l : Dir} (h : DirOk n l) : (l.map Prod.fst).Nodup :=
 List.Pairwise.map _ (fun a b q e => by rw [e, bl_irrefl] at q; cases q) h.sort
theorem dir_iff {n : Nat} {l : Dir} (h : DirOk n l) (a : List UInt8) (y : Nat) : lookD l a = some y ↔ (a, y) ∈ l := ⟨look_mem, fun q => look_of h.sort q⟩
theorem sum_perm {α : Type} (f : α → Nat) {l : List α} {a : α} {r : List α} (h : l.Perm (a :: r)) : (l.map f).sum = f a + (r.map f).sum := by
 have := (h.map f).sum_nat
 rw [this, List.map_cons, List.sum_cons]
theorem dw2_fo55_1 : FieldOff Tryd.prog 55 1 1 := fun b o w => by simp [go_sem]
theorem dw2_ty52 : Tryd.prog.underlying 52 = some (.map 9 69) := by kernel_rfl
theorem dw2_fo71_0 : FieldOff Tryd.prog 71 0 0 := fun b o w => by simp [go_sem]
theorem dw2_ty22 : Tryd.prog.underlying 22 = some (.slice 5) := by kernel_rfl
set_option maxHeartbeats 1600000
theorem used_at (base : Nat) (w : World) (H : Dk) (D : Dsk) (hS : DkS base w H D) (hU : usedD D < 4611686018427387904) :
  Calls Tryd.prog 28 #[PQ H.g 0] w fun e w' => e = .returned (NI (usedD D)) ∧ Ext w w' := by
 have hb := hS.blk
 have hgl := (bl hb)
 refine calls_of_wpF (args := [PQ H.g 0]) Tryd.func28 rfl 23 rfl (Nat.le_of_ble_eq_true rfl) ?_
 intro ρ0 hb
 have T0 : ρ0 0 = (PQ H.g 0 : Value) := hb.get 0
 clear hb
 have hE := Ext.refl w
 refine sk fun K1 hK1 => (wt (oA rfl (oZ (tN (hK1 _ _ (sk fun K2 hK2 => (wt (oA rfl (oZ (tN (hK2 _ _ (sk fun K3 hK3 => (sk fun K4 hK4 => (wt (oM rfl (oS rfl (Yk.nilCheck T0 (oS rfl (Yk.fieldAt dw2_fo55_1 (vr (PQ H.g 0) rfl) ?_)))))))))))))))))))
 refine oS rfl (Yk.cell1 dw2_ty52 rfl (vr (PQ H.g 1) rfl) (cellAt (eb hE hb) (show _ = some (.map (some (H.mn)) : Value) from rfl)) (oS rfl (Yk.rangeM (fun a c => st_inj) dw2_ty52 (vr (.map (some (H.mn))) rfl) (hS.keep hE).now (dir_nodup hS.ok.now) (dir_iff hS.ok.now) fun n5 w6 hn7 hb8 hx9 hs10 => ?_)))
 have hE := hE.trans hx9
 have hI11 := hb8; clear hb8
 have hgi := MIt.lt hI11
 refine oL_ [(0, PQ H.g 0), (2, NI 0), (3, NI 0), (10, PQ n5 0)] ⟨T0, rfl, rfl, rfl, trivial⟩ fun ρ12 ⟨T0, T2, T3, T10, _⟩ => (tN (hK4 _ _ (wpF_block (wpF_loop (fun (ρ : Slots) (wz : World) => ∃ left : List (List UInt8 × Nat), ∃ s : Nat, ρ 0 = (PQ H.g 0 : Value) ∧ ρ 2 = (NI 0 : Value) ∧ ρ 10 = (PQ n5 0 : Value) ∧ ρ 3 = (NI s : Value) ∧ Ext w wz ∧ MIt St (pF H.F)  wz n5 H.mn left ∧ (∀ p ∈ left, p ∈ D.now) ∧ (s + (left.map fun e => (fileD D e.2).1.length).sum = usedD D) ∧ True) (fun ρ wz => World.mleft wz n5) ⟨D.now, 0, T0, T2, T10, T3, hE, hI11, fun p hp => hp, Nat.zero_add _, trivial⟩ ?_))))
 clear hI11
 clear hE
 rintro ρ13 w14 ⟨left, s, T0, T2, T10, T3, hE, hI, hsub, htot, -⟩
 by_cases hl0 : left = []
 ·refine sk fun K15 hK15 => (wt (oS rfl (Yk.nextEndM T10 hI hl0 (oS rfl (Yk.extract (vs := [.bool (false)]) (vr (.tuple #[.bool (false)]) rfl) (show _ = some (.bool (false) : Value) from rfl) (oZ (tN (hK15 _ _ (sk fun K16 hK16 => (wpF_false (vr (.bool (false)) rfl) (wpF_exit (thenF_exit (thenF_exit (inBlockF_hit (tN (hK3 _ _ (sk fun K17 hK17 => (wt (oM rfl (oA rfl (oZ (tN (hK17 _ _ ?_)))))))))))))))))))))))
  refine wpF_ret (postF_ret (fn := Tryd.f28) _ rfl [NI s] (NI s) rfl ⟨T3, trivial⟩ ?_)
  exact ⟨by rw [hl0] at htot; rw [← htot]; rfl, hE⟩
 refine sk fun K18 hK18 => (wt (oS rfl (Yk.nextInM T10 hI hl0 fun a19 y20 rest21 w22 hp23 hI24 hA25 hg26 hs27 => ?_)))
 have hm0 := MIt.mleft hI
 have hE := row_fresh hE hg26 (Nat.le_trans (Nat.le_refl _) (by omega))
 clear hI
 have hI := hI24; clear hI24
 have hgi := MIt.lt hI
 have hmem : (a19, y20) ∈ D.now := hsub _ (hp23.mem_iff.2 List.mem_cons_self)
 have hyl := hS.ok.now.num _ hmem
 have hfl := hS.files.at_ y20 hyl
 have hsum : (left.map fun e => (fileD D e.2).1.length).sum = (D.files.getD y20 ([], 0)).1.length + (rest21.map fun e => (fileD D e.2).1.length).sum := sum_perm _ hp23
 have hfb := hfl.blk
 have hfr : RB w (H.V y20) (D.files.getD y20 ([], 0)).1 := RB.ofOwn hfl.row
 refine oS rfl (Yk.extract (vs := [.bool (true), St (a19), .pointer (some ⟨(H.F y20), 0, none⟩)]) (vr (.tuple #[.bool (true), St (a19), .pointer (some ⟨(H.F y20), 0, none⟩)]) rfl) (show _ = some (.bool (true) : Value) from rfl) (oZ (tN (hK18 _ _ (sk fun K28 hK28 => (wpF_true (vr (.bool (true)) rfl) (wpF_skip (tN (hK28 _ _ (wpF_block (sk fun K29 hK29 => (wt (oS rfl (Yk.entryM T10 hA25 (oS rfl (Yk.extract (vs := [St (a19), .pointer (some ⟨(H.F y20), 0, none⟩)]) (vr (.tuple #[St (a19), .pointer (some ⟨(H.F y20), 0, none⟩)]) rfl) (show _ = some (.pointer (some ⟨(H.F y20), 0, none⟩) : Value) from rfl) (oA rfl (oZ (tN (hK29 _ _ (wt ?_)))))))))))))))))))))
 refine oM rfl (oM rfl (oS rfl (Yk.nilCheck (vr (.pointer (some ⟨(H.F y20), 0, none⟩)) rfl) (oS rfl (Yk.fieldAt dw2_fo71_0 (vr (.pointer (some ⟨(H.F y20), 0, none⟩)) rfl) (oS rfl (Yk.cell1 dw2_ty22 rfl (vr (.pointer (some ⟨(H.F y20), 0, none⟩)) rfl) (cellAt (eb hE hfb) (show _ = some ((H.V y20) : Value) from rfl)) (oS rfl (Yk.lenRB dw2_ty22 (RB.of (hfr.keep hE) (vr (H.V y20) rfl)) (oS rfl (Yk.bin (xv := NI s) (yv := NI (((D.files.getD y20 ([], 0)).1 : List UInt8).length)) T3 rfl rfl (i64_add _ _ _ (by have := hU; rw [hsum] at htot; omega)) (oA rfl (oL_ [(0, PQ H.g 0), (2, NI 0), (3, NI ((s) + (((D.files.getD y20 ([], 0)).1 : List UInt8).length))), (5, .pointer (some ⟨(H.F y20), 0, none⟩)), (10, PQ n5 0), (12, .bool (true))] ⟨T0, T2, rfl, rfl, T10, rfl, trivial⟩ fun ρ30 ⟨T0, T2, T3, T5, T10, T12, _⟩ => (bN (tN (And.intro ⟨rest21, s + (D.files.getD y20 ([], 0)).1.length, T0, T2, T10, T3, hE, hI, fun p hp => hsub p (hp23.mem_iff.2 (List.mem_cons_of_mem _ hp)), by rw [hsum] at htot; exact (Nat.add_assoc _ _ _).trans htot, trivial⟩ ?_))))))))))))))))
 show World.mleft w22 n5 < World.mleft w14 n5
 rw [MIt.mleft hI, hm0, hp23.length_eq]; simp
open Go.RowKit
section
variable {P : Program} {K : Value → World → Prop} {ρ : Slots} {w : World} {d : Option Tmp} {ty : TypeId} {pos : String} {af : Array Edge} {gd : Option (Nat × Bool)}
theorem run_append_full (w : World) (t tx ty e : TypeId) (i : TypeInfo) (z : Value) (size bytes : Nat) (ht : P.underlying t = some (.slice e)) (hi : P.info? e = some i) (hz : i.zero = some z)
    (hsize : i.size = size) (hby : i.bytes = bytes) (hzs : z.cells.size = size) (a : Addr) (n : Nat) (xs : List Value) (hxs : xs.length = n * size) (hc : ∀ j u, xs[j]? = some u → w.cell? (a.add j) = some u)
    (x : Value) (m : Nat) (news : List Value) (hs : Src P size tx x m news w) (hm : 0 < m) (h63 : n + m ≤ maxLen) (hbytes : (n + m) * bytes ≤ 140737488355328) :
    ∃ v' w', (Builtin.append_ #[t, tx] ty #[.slice (some a) n n, x]).run P w = .ok v' w' ∧ w'.ownsRow w.heap.size e size v' (n + m) (xs ++ news) ∧ Ext w w' := by
  subst hsize
  subst hby
  have hsmall : n + m ≤ 9223372036854775807 := by simp only [maxLen] at h63; omega
  have hl := hs.newsLen
  have hlen : (xs ++ news).length = (n + m) * i.size := by rw [List.length_append, hxs, hl, Nat.add_mul]
  have hge := grownCap_ge w (n + m) n e
  have hcm : grownCap w (n + m) n e ≤ maxLen := grownCap_le_maxLen w (n + m) n e h63
  have hr := run_append_grow_src (P := P) w t tx ty e i z ht hi hz (some a) n n xs (run_firstCells_some w.drew i.size n a n n xs hxs (by simpa using hc)) x m news hs (by omega) (by omega) (growslice_fits (by omega) hbytes)
  refine ⟨_, _, hr, ⟨hlen, .inr ⟨w.heap.size, _, _, rfl, Nat.le_refl _, heap_alloc_new w.drew _, hge, hcm, ?_, ?_⟩⟩, (Below.refl _ _).grown ((Grew.refl w (Value.slice none 0 0)).drew.alloc _).by_ (Nat.le_refl _) (fun _ e => by simp [Value.ownBlock] at e)⟩
  · simp only [Array.size_append, List.size_toArray, size_zeroCells, hzs, hlen, ← Nat.add_mul]
    congr 1
    omega
  · simp only [Array.toList_append]
    rw [← hlen]
    exact List.take_left
def FullG {α : Type} (k : Nat) (enc : α → List Value) (w : World) (v : Value) (l : List α) : Prop := (v = .slice none 0 0 ∧ l = []) ∨ ∃ a, v = .slice (some a) l.length l.length ∧ RG k enc w v l
theorem FullG.keep {α : Type} {k : Nat} {enc : α → List Value} {w w' : World} {v : Value} {l : List α} (h : FullG k enc w v l) (hE : Ext w w') : FullG k enc w' v l := h.imp id fun ⟨a, h1, h2⟩ => ⟨a, h1, h2.keep hE⟩
theorem FullG.rg {α : Type} {k : Nat} {enc : α → List Value} {w : World} {v : Value} {l : List α} (h : FullG k enc w v l) : RG k enc w v l := by
  rcases h with ⟨rfl, rfl⟩ | ⟨a, h1, h2⟩
  · exact RG.nil _ _ _
  · exact h2
theorem Yk.appendFull {α : Type} {k : Nat} {enc : α → List Value} {t tx e e' : TypeId} {z : Value} {bytes : Nat} (ht : P.underlying t = some (.slice e)) (hi : (P.info? e).map (fun i => (i.zero, i.size, i.bytes)) = some (some z, k, bytes)) (hzs : z.cells.size = k) (hu : P.underlying tx = some (.slice e'))
    (h1 : ∀ x : α, ∀ u ∈ enc x, u.oneCell' = true) {s x : Operand} {v y : Value} {l m : List α} (hs : evalR ρ s = v) (h : FullG k enc w v l) (hx : evalR ρ x = y) (hy : RG k enc w y m) (hm : 0 < m.length) (hlen : (l.length + m.length) * bytes ≤ 140737488355328) (hlen2 : l.length + m.length ≤ maxLen)
    (hk : ∀ v' w', OG w.heap.size e k enc w' v' (l ++ m) → Ext w w' → K v' w') : Yk P K ((execOp (evalR ρ) ⟨d, .call ⟨.builtin .append, #[s, x], #[t, tx]⟩, ty, pos, af, gd⟩).run P w) := by
  obtain ⟨i, hi0, hi1⟩ := Option.map_eq_some_iff.1 hi
  have hz : i.zero = some z := congrArg Prod.fst hi1
  have hsz : i.size = k := congrArg (fun q => q.2.1) hi1
  have hby : i.bytes = bytes := congrArg (fun q => q.2.2) hi1
  have hsrc : Src P k tx y m.length (m.flatMap enc) w := by
    obtain ⟨q1, q2, ao, cap, rfl, q3, q4, q5, q6⟩ := hy
    cases ao with
    | none => exact absurd (q5 rfl).1 (by omega)
    | some a => exact Src.ofSlice w hu a _ cap _ q2 (q6 a rfl) fun u hu => let ⟨x, _, hx⟩ := List.mem_flatMap.1 hu; h1 x u hx
  have hlen' : ∀ {xs : List α}, (∀ x ∈ xs, (enc x).length = k) → (xs.flatMap enc).length = xs.length * k := fun {xs} hxs => by
    induction xs with
    | nil => simp
    | cons a r ih => rw [List.flatMap_cons, List.length_append, hxs a List.mem_cons_self, ih fun x hx => hxs x (List.mem_cons_of_mem _ hx), List.length_cons, Nat.add_mul, Nat.one_mul, Nat.add_comm]
  have hall : ∀ x ∈ l ++ m, (enc x).length = k := fun x hx => (List.mem_append.1 hx).elim (h.rg.1 x) (hy.1 x)
  have fin : ∀ v' w', (Builtin.append_ #[t, tx] ty #[v, y]).run P w = .ok v' w' → w'.ownsRow w.heap.size e k v' (l.length + m.length) (l.flatMap enc ++ m.flatMap enc) → Ext w w' → Yk P K ((execOp (evalR ρ) ⟨d, .call ⟨.builtin .append, #[s, x], #[t, tx]⟩, ty, pos, af, gd⟩).run P w) := fun v' w' hr ho hE => by
    refine Yk.value (v := v') (w' := w') ?_ (hk v' w' ⟨hall, by rw [List.length_append, List.flatMap_append]; exact ho⟩ hE)
    unfold execOp
    simp only [resolve, invoke, builtin, Sem.run_bind, Sem.run_pure, Result.andThen_ok, List.map_toArray, List.map_cons, List.map_nil, hs, hx, hr]
  rcases h with ⟨rfl, rfl⟩ | ⟨a, hv, hr⟩
  · obtain ⟨v', w', hr, ho, hg⟩ := run_append_src (P := P) w w.heap.size t tx ty e i z k bytes ht hi0 hz hsz hby hzs (.slice none 0 0) 0 [] (World.ownsRow_nil _ _ _ _) y m.length _ hsrc (by simpa using hlen2) (by simpa using hlen) (Nat.le_refl _)
    exact fin v' w' hr (by simpa using ho) ((Below.refl _ _).grown hg.by_ (Nat.le_refl _) fun _ q => by simp [Value.ownBlock] at q)
  · obtain ⟨-, q2, ao, cap, q3, -, -, -, q6⟩ := id hr
    rw [hv] at q3
    cases q3
    obtain ⟨v', w', hr', ho, hE⟩ := run_append_full (P := P) (ty := ty) w t tx e i z k bytes ht hi0 hz hsz hby hzs a l.length _ q2 (q6 a rfl) y m.length _ hsrc hm hlen2 hlen
    exact fin v' w' (by rw [hv]; exact hr') ho hE
end
open Go.RowKit
set_option maxRecDepth 100000
set_option linter.unusedVariables false
set_option linter.unusedSimpArgs false
theorem kStr : KL Tryd.prog 9 (MapKept.IsKey .string) := KL.ofKey (by kernel_rfl)
theorem isStr (a : List UInt8) (_ : Nm a) : MapKept.IsKey .string (St a) := trivial
theorem zFile (u : World) : (zeroValue 69).run Tryd.prog u = .ok (.pointer none) u := by kernel_rfl
def hasL (d : Dsk) (ms : List (List UInt8)) (s : List UInt8) : Except Nat Nat := if readyL d (ms ++ [s]) ≠ 0 then .error (readyL d (ms ++ [s])) else match lookD d.now s with | some k => .ok k | none => .error 4
def hasP (H : Dk) : Except Nat Nat → Value
 | .ok k => PQ (H.F k) 0
 | .error _ => .pointer none
def hasC : Except Nat Nat → Nat
 | .ok _ => 0
 | .error e => e
theorem readyL_may {d : Dsk} {ms : List (List UInt8)} {s : List UInt8} (h : readyL d (ms ++ [s]) = 0) : mayD s = true := by
 unfold readyL at h
 split at h
 ·cases h
 ·split at h
  ·rename_i h2
   rw [List.all_append] at h2
   simp only [Bool.and_eq_true, List.all_cons, List.all_nil, Bool.and_true] at h2
   exact h2.2
  ·cases h
theorem dw3_lk64 (z : ByteArray) (w : World) : (Instr.buildSlice 64 1 #[(0, .string z)]).run Tryd.prog w = .ok (.slice (some ⟨w.heap.size, 0, none⟩) 1 1) (w.alloc (.cells #[.string z] 9)) := by kernel_rfl
theorem dw3_sti : (Tryd.prog.info? 9).map (fun i => (i.zero, i.size, i.bytes)) = some (some (.string ⟨#[]⟩), 1, 16) := by kernel_rfl
theorem dw3_ty64 : Tryd.prog.underlying 64 = some (.slice 9) := by kernel_rfl
theorem dw3_pl27 : Plain Tryd.prog 27 := fun _ _ => by kernel_rfl
theorem dw3_fo55_1 : FieldOff Tryd.prog 55 1 1 := fun b o w => by simp [go_sem]
theorem dw3_ty52 : Tryd.prog.underlying 52 = some (.map 9 69) := by kernel_rfl
theorem dw3_ty69 : Tryd.prog.underlying 69 = some (.pointer 71) := by kernel_rfl
set_option maxHeartbeats 1600000
theorem has_at (base : Nat) (w : World) (H : Dk) (D : Dsk) (hS : DkS base w H D) (s : List UInt8) (v : Value) (ms : List (List UInt8)) (hF : FullG 1 enS w v ms) (hl : ms.length ≤ 1) :
  Calls Tryd.prog 49 #[PQ H.g 0, St s, v] w fun e w' => e = .returned (.tuple #[hasP H (hasL D ms s), NI (hasC (hasL D ms s))]) ∧ Ext w w' := by
 have hb := hS.blk
 have hgl := (bl hb)
 refine calls_of_wpF (args := [PQ H.g 0, St (s), v]) Tryd.func49 rfl 28 rfl (Nat.le_of_ble_eq_true rfl) ?_
 intro ρ0 hb
 have T0 : ρ0 0 = (PQ H.g 0 : Value) := hb.get 0
 have T1 : ρ0 1 = (St (s) : Value) := hb.get 1
 have T2 : ρ0 2 = (v : Value) := hb.get 2
 clear hb
 have hE := Ext.refl w
 refine sk fun K1 hK1 => (wt (oA rfl (oA rfl (oZ ?_))))
 by_cases hr0 : readyL D (ms ++ [s]) ≠ 0
 ·have hV : hasL D ms s = .error (readyL D (ms ++ [s])) := if_pos hr0
  refine tN (hK1 _ _ (sk fun K2 hK2 => (sk fun K3 hK3 => (wt (oM rfl (oM rfl (oM rfl (oS rfl (Yk.lit1S (a := s) (enc := enS) T1 rfl (fun w => dw3_lk64 _ w) fun v4 w5 hr6 hx7 => ?_)))))))))
  have hb := eb hx7 hb
  have hE := hE.trans hx7
  refine oS rfl (Yk.appendFull dw3_ty64 dw3_sti rfl dw3_ty64 (fun y u hu => by rw [List.mem_singleton.1 hu]; rfl) T2 (hF.keep hE) (vr v4 rfl) hr6 (by simp) (by simp; omega) (by simp [maxLen]; omega) fun v8 w9 ho10 hx11 => ?_)
  have hA12 := Ext.refl w5
  have hea13 := hE
  have hz14 := hE.size
  have hb := eb hx11 hb
  have hE := hE.trans hx11
  have hA12 := hA12.trans hx11
  refine oS rfl (Yk.callA2 dw3_pl27 T0 (vr v8 rfl) ((ready_at base _ H D (hS.keep hE) v8 (ms ++ [s]) (RG.ofOwn ho10) (by simp; omega)).mono ?_))
  rintro e w16 ⟨rfl, hx15⟩
  refine ⟨_, rfl, ?_⟩
  have hb := eb hx15 hb
  have hE := hE.trans hx15
  have hA12 := hA12.trans hx15
  have ho10 := ho10.keep hx15
  refine oA rfl (oZ (tN (hK3 _ _ (sk fun K17 hK17 => (wt (oM rfl (oS rfl (Yk.eqI (a := (readyL D (ms ++ [s]) : Nat)) (b := (0 : Nat)) rfl rfl (k_neq _ _ _ _) (oZ (tN (hK17 _ _ (wpF_true (vr (.bool (true)) (congrArg Value.bool (decide_eq_true (by omega)))) (sk fun K18 hK18 => (wt (oM rfl (oA rfl (oA rfl (oZ ?_))))))))))))))))))
  refine tN (hK18 _ _ (wpF_ret (thenF_ret (postF_ret (fn := Tryd.f49) _ rfl [.pointer none, NI (readyL D (ms ++ [s]))] (.tuple #[.pointer none, NI (readyL D (ms ++ [s]))]) rfl ⟨rfl, rfl, trivial⟩ ?_))))
  exact ⟨by rw [hV]; rfl, hE⟩
 have hr1 : readyL D (ms ++ [s]) = 0 := Classical.not_not.1 hr0
 have hm := readyL_may hr1
 rcases hlk : lookD D.now s with _ | k
 ·have hV : hasL D ms s = .error 4 := by unfold hasL; rw [if_neg hr0, hlk]
  refine tN (hK1 _ _ (sk fun K19 hK19 => (sk fun K20 hK20 => (wt (oM rfl (oM rfl (oM rfl (oS rfl (Yk.lit1S (a := s) (enc := enS) T1 rfl (fun w => dw3_lk64 _ w) fun v21 w22 hr23 hx24 => ?_)))))))))
  have hb := eb hx24 hb
  have hE := hE.trans hx24
  refine oS rfl (Yk.appendFull dw3_ty64 dw3_sti rfl dw3_ty64 (fun y u hu => by rw [List.mem_singleton.1 hu]; rfl) T2 (hF.keep hE) (vr v21 rfl) hr23 (by simp) (by simp; omega) (by simp [maxLen]; omega) fun v25 w26 ho27 hx28 => ?_)
  have hA29 := Ext.refl w22
  have hea30 := hE
  have hz31 := hE.size
  have hb := eb hx28 hb
  have hE := hE.trans hx28
  have hA29 := hA29.trans hx28
  refine oS rfl (Yk.callA2 dw3_pl27 T0 (vr v25 rfl) ((ready_at base _ H D (hS.keep hE) v25 (ms ++ [s]) (RG.ofOwn ho27) (by simp; omega)).mono ?_))
  rintro e w33 ⟨rfl, hx32⟩
  refine ⟨_, rfl, ?_⟩
  have hb := eb hx32 hb
  have hE := hE.trans hx32
  have hA29 := hA29.trans hx32
  have ho27 := ho27.keep hx32
  refine oA rfl (oZ (tN (hK20 _ _ (sk fun K34 hK34 => (wt (oM rfl (oS rfl (Yk.eqI (a := (readyL D (ms ++ [s]) : Nat)) (b := (0 : Nat)) rfl rfl (k_neq _ _ _ _) (oZ (tN (hK34 _ _ (wpF_false (vr (.bool (false)) (congrArg Value.bool (decide_eq_false (by omega)))) (wpF_skip (tN (hK19 _ _ (sk fun K35 hK35 => (wt (oM rfl (oS rfl (Yk.nilCheck T0 ?_))))))))))))))))))))
  refine oS rfl (Yk.fieldAt dw3_fo55_1 (vr (PQ H.g 0) rfl) (oS rfl (Yk.cell1 dw3_ty52 rfl (vr (PQ H.g 1) rfl) (cellAt hb (show _ = some (.map (some (H.mn)) : Value) from rfl)) (oM rfl (oS rfl (Yk.lookMN kStr isStr (fun _ _ => st_inj) dw3_ty52 zFile (vr (.map (some (H.mn))) rfl) T1 (hS.keep hE).now (by have := mayD_pos hm; exact this.2) hlk (oA rfl (oZ (tN (hK35 _ _ (sk fun K36 hK36 => (sk fun K37 hK37 => (wt (oM rfl (oS rfl (Yk.eqlNil dw3_ty69 (vr (.pointer none) rfl) (oZ (tN (hK37 _ _ (wpF_true (vr (.bool (true)) (congrArg Value.bool (rfl))) (sk fun K38 hK38 => ?_)))))))))))))))))))))
  refine wt (oA rfl (oA rfl (oZ (tN (hK38 _ _ (wpF_ret (thenF_ret (postF_ret (fn := Tryd.f49) _ rfl [.pointer none, NI 4] (.tuple #[.pointer none, NI 4]) rfl ⟨rfl, rfl, trivial⟩ ?_))))))))
  exact ⟨by rw [hV]; rfl, hE⟩
 have hV : hasL D ms s = .ok k := by unfold hasL; rw [if_neg hr0, hlk]
 refine tN (hK1 _ _ (sk fun K39 hK39 => (sk fun K40 hK40 => (wt (oM rfl (oM rfl (oM rfl (oS rfl (Yk.lit1S (a := s) (enc := enS) T1 rfl (fun w => dw3_lk64 _ w) fun v41 w42 hr43 hx44 => ?_)))))))))
 have hb := eb hx44 hb
 have hE := hE.trans hx44
 refine oS rfl (Yk.appendFull dw3_ty64 dw3_sti rfl dw3_ty64 (fun y u hu => by rw [List.mem_singleton.1 hu]; rfl) T2 (hF.keep hE) (vr v41 rfl) hr43 (by simp) (by simp; omega) (by simp [maxLen]; omega) fun v45 w46 ho47 hx48 => ?_)
 have hA49 := Ext.refl w42
 have hea50 := hE
 have hz51 := hE.size
 have hb := eb hx48 hb
 have hE := hE.trans hx48
 have hA49 := hA49.trans hx48
 refine oS rfl (Yk.callA2 dw3_pl27 T0 (vr v45 rfl) ((ready_at base _ H D (hS.keep hE) v45 (ms ++ [s]) (RG.ofOwn ho47) (by simp; omega)).mono ?_))
 rintro e w53 ⟨rfl, hx52⟩
 refine ⟨_, rfl, ?_⟩
 have hb := eb hx52 hb
 have hE := hE.trans hx52
 have hA49 := hA49.trans hx52
 have ho47 := ho47.keep hx52
 refine oA rfl (oZ (tN (hK40 _ _ (sk fun K54 hK54 => (wt (oM rfl (oS rfl (Yk.eqI (a := (readyL D (ms ++ [s]) : Nat)) (b := (0 : Nat)) rfl rfl (k_neq _ _ _ _) (oZ (tN (hK54 _ _ (wpF_false (vr (.bool (false)) (congrArg Value.bool (decide_eq_false (by omega)))) (wpF_skip (tN (hK39 _ _ (sk fun K55 hK55 => (wt (oM rfl (oS rfl (Yk.nilCheck T0 ?_))))))))))))))))))))
 refine oS rfl (Yk.fieldAt dw3_fo55_1 (vr (PQ H.g 0) rfl) (oS rfl (Yk.cell1 dw3_ty52 rfl (vr (PQ H.g 1) rfl) (cellAt hb (show _ = some (.map (some (H.mn)) : Value) from rfl)) (oM rfl (oS rfl (Yk.lookMS kStr isStr (fun _ _ => st_inj) dw3_ty52 zFile (vr (.map (some (H.mn))) rfl) T1 (hS.keep hE).now (by have := mayD_pos hm; exact this.2) hlk (oA rfl (oZ (tN (hK55 _ _ (sk fun K56 hK56 => (sk fun K57 hK57 => (wt (oM rfl (oS rfl (Yk.eqlNil dw3_ty69 (vr (.pointer (some ⟨(H.F k), 0, none⟩)) rfl) (oZ (tN (hK57 _ _ (wpF_false (vr (.bool (false)) (congrArg Value.bool (rfl))) (wpF_skip ?_)))))))))))))))))))))
 refine tN (hK56 _ _ (sk fun K58 hK58 => (wt (oM rfl (oA rfl (oA rfl (oZ (tN (hK58 _ _ (wpF_ret (postF_ret (fn := Tryd.f49) _ rfl [.pointer (some ⟨(H.F k), 0, none⟩), NI 0] (.tuple #[.pointer (some ⟨(H.F k), 0, none⟩), NI 0]) rfl ⟨rfl, rfl, trivial⟩ ?_)))))))))))
 exact ⟨by rw [hV]; rfl, hE⟩

open Go.RowKit
theorem getD_mem {α : Type} {l : List α} {i : Nat} (d : α) (h : i < l.length) : l.getD i d ∈ l := by
  rw [List.getD_eq_getElem?_getD, List.getElem?_eq_getElem h]; exact List.getElem_mem h
theorem OG.low {α : Type} {b b' k : Nat} {t : TypeId} {enc : α → List Value} {w : World} {v : Value} {l : List α} (h : OG b t k enc w v l) (hb : b' ≤ b) : OG b' t k enc w v l := ⟨h.1, ownsRow_base h.2 hb⟩
section
variable {P : Program}
theorem Yk.sliceArr {K : Value → World → Prop} {ρ : Tmp → Value} {t e : TypeId} {n : Nat} (ht : P.underlying t = some (.array n e)) (he : ∀ w' : World, (sizeOf e).run P w' = .ok 1 w') {x : Operand} {d : Option Tmp} {ty : TypeId} {pos : String} {af : Array Edge} {gd : Option (Nat × Bool)} {w : World} {b o : Nat}
    (hx : evalR ρ x = .pointer (some ⟨b, o, none⟩)) (hk : K (.slice (some ⟨b, o, none⟩) n n) w) : Yk P K ((execOp (evalR ρ) ⟨d, .slice t x none none none, ty, pos, af, gd⟩).run P w) := by
  refine Yk.value (v := .slice (some ⟨b, o, none⟩) n n) (w' := w) ?_ hk
  have hE : P.elem t = e := by simp [Program.elem, ht]
  have hN : P.arrayLen t = n := by simp [Program.arrayLen, ht]
  have hr := run_sliceAt_array_all (P := P) (w := w) (t := t) (a := ⟨b, o, none⟩) (by rw [hE, hN]; exact ht)
  rw [hE, he, hN] at hr
  unfold execOp
  simp only [hx, Option.map_none, Sem.run_bind, hr, Result.andThen_ok, Sem.run_pure]
  simp [slicedAt, Addr.add_lit]
end
theorem og_eq {w : World} {α : Type} {b k : Nat} {e : TypeId} {enc : α → List Value} {v : Value} {l l' : List α} (h : OG b e k enc w v l) (e' : l = l') : OG b e k enc w v l' := by rw [← e']; exact h
theorem rg_eq {w : World} {α : Type} {k : Nat} {enc : α → List Value} {v : Value} {l l' : List α} (h : RG k enc w v l) (e' : l = l') : RG k enc w v l' := by rw [← e']; exact h
open Go.RowKit
theorem some_ne {a b : Nat} (h : a ≠ b) : some a ≠ some b := fun e => h (Option.some.inj e)
def ApartV (u v : Value) : Prop := ∀ k, u.ownBlock = some k → v.ownBlock ≠ some k
section
variable {N B : Nat} {r : Option Nat} {w w' w1 w0 : World} {e t : TypeId}
theorem ownsRow_grown {z n : Nat} {v : Value} {xs : List Value} (ho : w.ownsRow B e z v n xs) (k : w.grownBy w1 r) (ha : ∀ k, r = some k → v.ownBlock ≠ some k) : w1.ownsRow B e z v n xs :=
  ho.kept k (by
    cases hv : v.ownBlock with
    | none => exact .inl rfl
    | some g => exact .inr (fun e => ha g e.symm hv))
theorem apartv_new {u v : Value} {b : Nat} {e' : TypeId} {z n z' n' : Nat} {xs ys : List Value} (hu : w.ownsRow b e z u n xs) (hv : w'.ownsRow w.heap.size e' z' v n' ys) : ApartV u v := fun k h1 h2 => by
  have := (hu.lt k h1).2
  have := (hv.lt k h2).1
  omega
theorem apartv_new' {u v : Value} {b : Nat} {e' : TypeId} {z n z' n' : Nat} {xs ys : List Value} (hu : w.ownsRow b e z u n xs) (hv : w'.ownsRow w.heap.size e' z' v n' ys) : ApartV v u := fun k h1 h2 => apartv_new hu hv k h2 h1
theorem apartv_grew {u v v' : Value} {b : Nat} {z n : Nat} {xs : List Value} (gr : Grew w w' v v') (ha : ApartV v u) (hu : w.ownsRow b e z u n xs) : ApartV v' u := fun k h1 h2 => by
  rcases gr.fresh k h1 with h3 | h3
  · exact ha k h3 h2
  · have := (hu.lt k h2).2
    omega
theorem own_grew {v v' u : Value} {b : Nat} {z n : Nat} {xs : List Value} (hu : w.ownsRow b e z u n xs) (gr : Grew w w' v v') (ha : ApartV v u) : w'.ownsRow b e z u n xs := ownsRow_grown hu gr.by_ ha
end
open Go.RowKit
section
variable {P : Program} {n : Nat} {ρ : Slots} {w : World} {Q : PostF}
def rowR (B : Nat) (cs : List Nat) (m : Nat) : World → World → Prop := bif cs.contains m then Below B else Ext
def lsOk (l : List Oper) (cs : List Nat) (ks ls : Nat → List Nat) : Bool := cs.all fun m => (ls m).all fun i => (ks m).contains i || Nat.beq i m || ((masks l []).getD i 0).testBit m
def AllCh (S : World → World → Prop) (ls : Nat → List Nat) (Φs : List Fact) : List Nat → Prop
  | [] => True
  | m :: r => AllStabX S (ls m) 0 Φs ∧ AllCh S ls Φs r
theorem AllCh.get {S : World → World → Prop} {ls : Nat → List Nat} {Φs : List Fact} : ∀ (cs : List Nat), AllCh S ls Φs cs → ∀ m, cs.contains m = true → AllStabX S (ls m) 0 Φs
  | [], _, m, h => by simp at h
  | c :: r, h, m, hm => by
    by_cases e : m = c
    · subst e; exact h.1
    · exact AllCh.get r h.2 m (by simpa [e] using hm)
theorem wpF_draw_rowsG {l : List Oper} (B : Nat) (hB : B ≤ w.heap.size) (cs : List Nat) (ks ls : Nat → List Nat) (Φs : List Fact) {id : Nat} (hm : P.follows .mixedOrders = true) (ds : List Tmp) (hg : goodB l n = true) (hkl : killB l ks = true) (hds : slotsW l = ds)
    (hls : lsOk l cs ks ls = true) (hst : AllStab Ext Φs) (hsB : AllCh (Below B) ls Φs cs)
    (hs : StepsF P l (fun _ => Below B w) (rowR B cs) (facts Φs) ρ 0 l)
    (hQ : ∀ (ρ' : Slots) w', Below B w w' → EndF ds ρ ρ' → EndFacts l ks (facts Φs) ρ' w' ds → Q .normal ρ' w') : wpF P n (.region id l.toArray true) Q ρ w := by
  have step : ∀ m a b, Below B w a → rowR B cs m a b → Below B w b := fun m a b h k => by
    unfold rowR at k
    cases hc : cs.contains m <;> rw [hc] at k
    · exact Below.trans h (Below.mono k (Nat.le_trans hB h.size))
    · exact Below.trans h k
  intro a ha
  obtain ⟨T, df⟩ := a
  have hz : T.size = n := ha.size
  subst hz
  refine wp_region_core ks (fun _ => Below B w) (fun _ w' => Below B w w') _ (facts Φs) hm T df hg hkl ds hds (fun m i _ _ _ _ w1 w' hc hr => step m _ _ hc hr) (fun m listed w1 w' _ _ _ _ hE hR => step m _ _ hE hR) (fun m i hm' hi hni hne hbit v w1 w' h hr => ?_) (fun m o w1 ho hgo => ?_) (fun _ _ => (Below.refl _ _).drew) (Below.refl _ _).drew (StepsF.ok ha.get l 0 hs) (fun u listed w' hall hE hf => ?_)
  · unfold rowR at hr
    cases hc : cs.contains m <;> rw [hc] at hr
    · exact hst.get Φs i v w1 w' h hr
    · refine (AllCh.get cs hsB m hc).get Φs 0 i ?_ v w1 w' h hr
      rw [Nat.zero_add]
      intro hmem
      unfold lsOk at hls
      have h1 := List.all_eq_true.1 (List.all_eq_true.1 hls m (by simpa using hc)) i hmem
      simp only [Bool.or_eq_true] at h1
      rcases h1 with (h1 | h1) | h1
      · exact hni (by simpa using h1)
      · exact hne (Nat.eq_of_beq_eq_true h1)
      · rw [h1] at hbit
        cases hbit
  · unfold rowR
    cases hc : cs.contains m
    · exact Ext.refl w1
    · exact Below.refl _ _
  · have hw := wrote_slots ha.get ds (good_room hg ds hds) u
    refine ⟨fun t => if t ∈ ds then u t else ρ t, ⟨by rw [wrote_size], ha.defers, hw⟩, hQ _ w' hE ⟨fun t ht => if_neg (by simpa using ht)⟩ ?_⟩
    have key : ∀ es : List Tmp, (∀ d ∈ es, d ∈ ds) → EndFacts l ks (facts Φs) u w' es → EndFacts l ks (facts Φs) (fun t => if t ∈ ds then u t else ρ t) w' es := by
      intro es
      induction es with
      | nil => exact fun _ _ => trivial
      | cons d es ih =>
        intro hm h
        refine ⟨?_, ih (fun x hx => hm x (by simp [hx])) h.2⟩
        have := h.1
        simp only [if_pos (hm d (by simp))]
        exact this
    exact key ds (fun _ h => h) hf
end
open Go.RowKit
structure BX (N : Nat) (r : Option Nat) (w w' : World) : Prop where
  os : w'.os = w.os
  tape : w'.tape = w.tape
  output : w'.output = w.output
  size : w.heap.size ≤ w'.heap.size
  block : ∀ k, k < N → some k ≠ r → w'.heap[k]? = w.heap[k]?
section
variable {N B : Nat} {r : Option Nat} {w w' w1 w0 : World} {e t : TypeId}
theorem BX.trans {a b c : World} (h : BX N r a b) (k : BX N r b c) : BX N r a c := ⟨k.os.trans h.os, k.tape.trans h.tape, k.output.trans h.output, Nat.le_trans h.size k.size, fun i hi hr => (k.block i hi hr).trans (h.block i hi hr)⟩
theorem BX.ofExt (h : Ext w w') (hN : N ≤ w.heap.size) : BX N r w w' := ⟨h.os, h.tape, h.output, h.size, fun k hk _ => h.block k (Nat.lt_of_lt_of_le hk hN)⟩
theorem BX.ofGrown {q : Option Nat} (h : w.grownBy w' q) (hN : N ≤ w.heap.size) (hq : ∀ k, q = some k → r = some k ∨ N ≤ k) : BX N r w w' :=
  ⟨h.os, h.tape, h.output, h.size, fun k hk hr => h.block k (Nat.lt_of_lt_of_le hk hN) (fun e => (hq k e.symm).elim (fun x => hr x.symm) (fun x => by omega))⟩
theorem BX.grown (h : BX w.heap.size r w w') : w.grownBy w' r := ⟨h.os, h.tape, h.output, h.size, h.block⟩
theorem ext_bx (h : Ext w0 w) (k : BX N r w w1) (hle : w0.heap.size ≤ N) (hr : ∀ k, r = some k → w0.heap.size ≤ k) : Ext w0 w1 :=
  Below.trans h ⟨k.os, k.tape, k.output, k.size, fun i hi => k.block i (Nat.lt_of_lt_of_le hi hle) (fun e => by have := hr i e.symm; omega)⟩
end
section
variable {P : Program} {n : Nat} {ρ : Slots} {w : World} {Q : PostF}
def rowXC (w : World) (r : Option Nat) (es : List Nat) (m : Nat) : World → Prop := bif es.contains m then Ext w else BX w.heap.size r w
def rowXR (N : Nat) (r : Option Nat) (cs : List Nat) (m : Nat) : World → World → Prop := bif cs.contains m then BX N r else Ext
def esOk (l : List Oper) (cs es : List Nat) : Bool := cs.all fun m => es.all fun i => ((masks l []).getD m 0).testBit i
theorem wpF_draw_rowsX {l : List Oper} (r : Option Nat) (cs es : List Nat) (ks ls : Nat → List Nat) (Φs : List Fact) {id : Nat} (hm : P.follows .mixedOrders = true) (ds : List Tmp) (hg : goodB l n = true) (hkl : killB l ks = true) (hds : slotsW l = ds)
    (hls : lsOk l cs ks ls = true) (hes : esOk l cs es = true) (hgc : (cs.all fun m => ((l[m]?).bind (·.guard)).isNone) = true) (hst : AllStab Ext Φs) (hsB : AllCh (BX w.heap.size r) ls Φs cs)
    (hs : StepsF P l (rowXC w r es) (rowXR w.heap.size r cs) (facts Φs) ρ 0 l)
    (hQ : ∀ (ρ' : Slots) w', BX w.heap.size r w w' → EndF ds ρ ρ' → EndFacts l ks (facts Φs) ρ' w' ds → Q .normal ρ' w') : wpF P n (.region id l.toArray true) Q ρ w := by
  have stepR : ∀ m a b, BX w.heap.size r w a → rowXR w.heap.size r cs m a b → BX w.heap.size r w b := fun m a b h k => by
    unfold rowXR at k
    cases hc : cs.contains m <;> rw [hc] at k
    · exact h.trans (BX.ofExt k h.size)
    · exact h.trans k
  have drew : Ext w w.drew := (Below.refl _ _).drew
  intro a ha
  obtain ⟨T, df⟩ := a
  have hz : T.size = n := ha.size
  subst hz
  refine wp_region_core ks (rowXC w r es) (fun _ w' => BX w.heap.size r w w') _ (facts Φs) hm T df hg hkl ds hds (fun m i _ _ hne hbit w1 w' hc hr => ?_) (fun m listed w1 w' _ _ _ _ hE hR => stepR m _ _ hE hR) (fun m i hm' hi hni hne hbit v w1 w' h hr => ?_) (fun m o w1 ho hgo => ?_) (fun m _ => ?_) (BX.ofExt drew (Nat.le_refl _)) (StepsF.ok ha.get l 0 hs) (fun u listed w' hall hE hf => ?_)
  · unfold rowXC at hc ⊢
    cases he : es.contains i <;> rw [he] at hc
    · exact stepR m _ _ hc hr
    · unfold rowXR at hr
      cases hcm : cs.contains m <;> rw [hcm] at hr
      · exact Ext.trans hc hr
      · unfold esOk at hes
        have := List.all_eq_true.1 (List.all_eq_true.1 hes m (by simpa using hcm)) i (by simpa using he)
        rw [this] at hbit
        cases hbit
  · unfold rowXR at hr
    cases hc : cs.contains m <;> rw [hc] at hr
    · exact hst.get Φs i v w1 w' h hr
    · refine (AllCh.get cs hsB m hc).get Φs 0 i ?_ v w1 w' h hr
      rw [Nat.zero_add]
      intro hmem
      unfold lsOk at hls
      have h1 := List.all_eq_true.1 (List.all_eq_true.1 hls m (by simpa using hc)) i hmem
      simp only [Bool.or_eq_true] at h1
      rcases h1 with (h1 | h1) | h1
      · exact hni (by simpa using h1)
      · exact hne (Nat.eq_of_beq_eq_true h1)
      · rw [h1] at hbit
        cases hbit
  · unfold rowXR
    cases hc : cs.contains m
    · exact Ext.refl w1
    · have := List.all_eq_true.1 hgc m (by simpa using hc)
      rw [ho] at this
      simp only [Option.bind_some, Option.isNone_iff_eq_none] at this
      rw [this] at hgo
      cases hgo
  · unfold rowXC
    cases es.contains m
    · exact BX.ofExt drew (Nat.le_refl _)
    · exact drew
  · have hw := wrote_slots ha.get ds (good_room hg ds hds) u
    refine ⟨fun t => if t ∈ ds then u t else ρ t, ⟨by rw [wrote_size], ha.defers, hw⟩, hQ _ w' hE ⟨fun t ht => if_neg (by simpa using ht)⟩ ?_⟩
    have key : ∀ es : List Tmp, (∀ d ∈ es, d ∈ ds) → EndFacts l ks (facts Φs) u w' es → EndFacts l ks (facts Φs) (fun t => if t ∈ ds then u t else ρ t) w' es := by
      intro es
      induction es with
      | nil => exact fun _ _ => trivial
      | cons d es ih =>
        intro hm h
        refine ⟨?_, ih (fun x hx => hm x (by simp [hx])) h.2⟩
        have := h.1
        simp only [if_pos (hm d (by simp))]
        exact this
    exact key ds (fun _ h => h) hf
end
open Go.RowKit
theorem sizeId : (Tryd.prog.info? 26).map (·.size) = some 32 := by kernel_rfl
theorem idCells_size {l : List UInt8} (h : l.length = 32) : (Lib.byteCells l).toArray.size = 32 := by simp [Lib.byteCells, h]
theorem sizeId_of {l : List UInt8} (h : l.length = 32) : (Tryd.prog.info? 26).map (·.size) = some (Lib.byteCells l).toArray.size := by rw [idCells_size h]; exact sizeId
open Go.RowKit
variable {P : Program}
def cellsU (l : List UInt32) : Array Value := (l.map fun x => U x).toArray
theorem cellsU_size (l : List UInt32) : (cellsU l).size = l.length := by simp [cellsU]
theorem cellsU_one (l : List UInt32) : ∀ v ∈ (cellsU l).toList, v.oneCell' = true := by
  intro v hv
  simp [cellsU] at hv
  obtain ⟨x, -, rfl⟩ := hv
  rfl
namespace Sha
def rotr (x : UInt32) (n : Nat) : UInt32 := x <<< UInt32.ofNat (32 - n) ||| x >>> UInt32.ofNat n
def be4 (b : List UInt8) (t : Nat) : UInt32 :=
  (b.getD (4 * t) 0).toUInt32 <<< 24 ||| (b.getD (4 * t + 1) 0).toUInt32 <<< 16 ||| (b.getD (4 * t + 2) 0).toUInt32 <<< 8 ||| (b.getD (4 * t + 3) 0).toUInt32
def low (x : UInt32) : UInt32 := rotr x 7 ^^^ rotr x 18 ^^^ x >>> 3
def high (y : UInt32) : UInt32 := rotr y 17 ^^^ rotr y 19 ^^^ y >>> 10
def nextW (b : List UInt8) (l : List UInt32) (t : Nat) : UInt32 :=
  if t < 16 then be4 b t else high (l.getD (t - 2) 0) + l.getD (t - 7) 0 + low (l.getD (t - 15) 0) + l.getD (t - 16) 0
def sched (b : List UInt8) : Nat → List UInt32
  | 0 => []
  | t + 1 => sched b t ++ [nextW b (sched b t) t]
theorem sched_length (b : List UInt8) : ∀ t, (sched b t).length = t
  | 0 => rfl
  | t + 1 => by simp [sched, sched_length b t]
def first : List UInt32 := [0x6a09e667, 0xbb67ae85, 0x3c6ef372, 0xa54ff53a, 0x510e527f, 0x9b05688c, 0x1f83d9ab, 0x5be0cd19]
def words : List UInt32 := [0x428a2f98, 0x71374491, 0xb5c0fbcf, 0xe9b5dba5, 0x3956c25b, 0x59f111f1, 0x923f82a4, 0xab1c5ed5, 0xd807aa98, 0x12835b01, 0x243185be, 0x550c7dc3, 0x72be5d74, 0x80deb1fe, 0x9bdc06a7, 0xc19bf174, 0xe49b69c1, 0xefbe4786, 0x0fc19dc6, 0x240ca1cc, 0x2de92c6f, 0x4a7484aa, 0x5cb0a9dc, 0x76f988da, 0x983e5152, 0xa831c66d, 0xb00327c8, 0xbf597fc7, 0xc6e00bf3, 0xd5a79147, 0x06ca6351, 0x14292967, 0x27b70a85, 0x2e1b2138, 0x4d2c6dfc, 0x53380d13, 0x650a7354, 0x766a0abb, 0x81c2c92e, 0x92722c85, 0xa2bfe8a1, 0xa81a664b, 0xc24b8b70, 0xc76c51a3, 0xd192e819, 0xd6990624, 0xf40e3585, 0x106aa070, 0x19a4c116, 0x1e376c08, 0x2748774c, 0x34b0bcb5, 0x391c0cb3, 0x4ed8aa4a, 0x5b9cca4f, 0x682e6ff3, 0x748f82ee, 0x78a5636f, 0x84c87814, 0x8cc70208, 0x90befffa, 0xa4506ceb, 0xbef9a3f7, 0xc67178f2]
def up (v : List UInt32) (k w : UInt32) : UInt32 :=
  v.getD 7 0 + (rotr (v.getD 4 0) 6 ^^^ rotr (v.getD 4 0) 11 ^^^ rotr (v.getD 4 0) 25) + (v.getD 4 0 &&& v.getD 5 0 ^^^ ~~~(v.getD 4 0) &&& v.getD 6 0) + k + w
def two (v : List UInt32) : UInt32 := rotr (v.getD 0 0) 2 ^^^ rotr (v.getD 0 0) 13 ^^^ rotr (v.getD 0 0) 22
def most (v : List UInt32) : UInt32 := v.getD 0 0 &&& v.getD 1 0 ^^^ v.getD 0 0 &&& v.getD 2 0 ^^^ v.getD 1 0 &&& v.getD 2 0
def round (v : List UInt32) (k w : UInt32) : List UInt32 :=
  [up v k w + two v + most v, v.getD 0 0, v.getD 1 0, v.getD 2 0, v.getD 3 0 + up v k w, v.getD 4 0, v.getD 5 0, v.getD 6 0]
def turned (s ws : List UInt32) : Nat → List UInt32
  | 0 => s
  | t + 1 => round (turned s ws t) (words.getD t 0) (ws.getD t 0)
theorem turned_length (s ws : List UInt32) (hs : s.length = 8) : ∀ t, (turned s ws t).length = 8
  | 0 => hs
  | _ + 1 => rfl
def added (v s : List UInt32) : List UInt32 := List.zipWith (· + ·) v s
def rounds (s : List UInt32) (b : List UInt8) : List UInt32 := added (turned s (sched b 64) 64) s
theorem rounds_length (s : List UInt32) (b : List UInt8) (hs : s.length = 8) : (rounds s b).length = 8 := by
  simp [rounds, added, turned_length _ _ hs, hs]
def blocks (s : List UInt32) (b : List UInt8) : Nat → List UInt32
  | 0 => s
  | n + 1 => blocks (rounds s (b.take 64)) (b.drop 64) n
theorem blocks_length (n : Nat) : ∀ (s : List UInt32) (b : List UInt8), s.length = 8 → (blocks s b n).length = 8 := by
  induction n with
  | zero => exact fun s b h => h
  | succ n ih => exact fun s b h => ih _ _ (rounds_length _ _ h)
def be64 (n : Nat) : List UInt8 := (List.range 8).map fun i => UInt8.ofNat (n / 2 ^ (56 - 8 * i))
def tail (n : Nat) : List UInt8 := 128 :: (List.replicate ((119 - n % 64) % 64) 0 ++ be64 (8 * n))
def out (s : List UInt32) : List UInt8 := s.flatMap fun (w : UInt32) => [(w >>> 24).toUInt8, (w >>> 16).toUInt8, (w >>> 8).toUInt8, w.toUInt8]
def sum (b : List UInt8) : List UInt8 := out (blocks first (b ++ tail b.length) ((b ++ tail b.length).length / 64))
end Sha
open Go.RowKit
namespace Sha
def pad64 (l : List UInt32) : List UInt32 := l ++ List.replicate (64 - l.length) 0
theorem pad64_length (l : List UInt32) (h : l.length ≤ 64) : (pad64 l).length = 64 := by simp [pad64]; omega
theorem pad64_get (l : List UInt32) (i : Nat) : (pad64 l).getD i 0 = l.getD i 0 := by
  unfold pad64
  simp only [List.getD_eq_getElem?_getD]
  rw [List.getElem?_append]
  split
  · rfl
  · rename_i h
    rw [List.getElem?_replicate, List.getElem?_eq_none (by omega)]
    split <;> rfl
theorem pad64_set (l : List UInt32) (x : UInt32) (h : l.length < 64) : (pad64 l).set l.length x = pad64 (l ++ [x]) := by
  unfold pad64
  rw [List.set_append_right _ _ (Nat.le_refl _), Nat.sub_self]
  obtain ⟨k, hk⟩ : ∃ k, 64 - l.length = k + 1 := ⟨64 - l.length - 1, by omega⟩
  rw [hk, List.replicate_succ, List.set_cons_zero]
  have : 64 - (l ++ [x]).length = k := by simp; omega
  rw [this]
  simp
theorem pad64_full (l : List UInt32) (h : l.length = 64) : pad64 l = l := by simp [pad64, h]
theorem sched_step1 (b : List UInt8) (t : Nat) (h : t < 16) : (pad64 (sched b t)).set t (be4 b t) = pad64 (sched b (t + 1)) := by
  have := pad64_set (sched b t) (be4 b t) (by rw [sched_length]; omega)
  rw [sched_length] at this
  rw [this]
  simp [sched, nextW, h]
theorem sched_step2 (b : List UInt8) (t : Nat) (h : 16 ≤ t) (h2 : t < 64) : (pad64 (sched b t)).set t (high ((pad64 (sched b t)).getD (t - 2) 0) + (pad64 (sched b t)).getD (t - 7) 0 + low ((pad64 (sched b t)).getD (t - 15) 0) + (pad64 (sched b t)).getD (t - 16) 0) = pad64 (sched b (t + 1)) := by
  simp only [pad64_get]
  have := pad64_set (sched b t) (nextW b (sched b t) t) (by rw [sched_length]; omega)
  rw [sched_length] at this
  rw [sched, ← this]
  unfold nextW
  rw [if_neg (by omega)]
end Sha
structure Laid (w : World) : Prop where
  first : ∃ t fr, w.heap[0]? = some (.cells (cellsU Sha.first) t fr)
  words : ∃ t fr, w.heap[1]? = some (.cells (cellsU Sha.words) t fr)
theorem Laid.keep {w w' : World} (h : Laid w) (k : Ext w w') : Laid w' := ⟨by obtain ⟨t, fr, h1⟩ := h.first; exact ⟨t, fr, k.blk' h1⟩, by obtain ⟨t, fr, h1⟩ := h.words; exact ⟨t, fr, k.blk' h1⟩⟩
theorem Laid.two {w : World} (h : Laid w) : 1 < w.heap.size := by
  obtain ⟨t, fr, h1⟩ := h.words
  exact (Array.getElem?_eq_some_iff.1 h1).1
def Sha.adding (v s : List UInt32) : Nat → List UInt32
  | 0 => v
  | i + 1 => (Sha.adding v s i).set i ((Sha.adding v s i).getD i 0 + s.getD i 0)
theorem Sha.adding_length (v s : List UInt32) : ∀ i, (Sha.adding v s i).length = v.length
  | 0 => rfl
  | i + 1 => by simp [Sha.adding, Sha.adding_length v s i]
theorem Sha.adding_get (v s : List UInt32) (h : s.length = v.length) : ∀ i j, j < v.length → (Sha.adding v s i).getD j 0 = if j < i then v.getD j 0 + s.getD j 0 else v.getD j 0
  | 0, j, _ => by simp [Sha.adding]
  | i + 1, j, hj => by
    have ih := Sha.adding_get v s h i
    unfold Sha.adding
    by_cases hij : i = j
    · subst hij
      have hl : i < (Sha.adding v s i).length := by rw [Sha.adding_length]; exact hj
      rw [List.getD_eq_getElem?_getD, List.getElem?_set_self hl, Option.getD_some, ih i hj, if_neg (Nat.lt_irrefl _), if_pos (Nat.lt_succ_self _)]
    · rw [List.getD_eq_getElem?_getD, List.getElem?_set_ne hij, ← List.getD_eq_getElem?_getD, ih j hj]
      by_cases h1 : j < i
      · rw [if_pos h1, if_pos (by omega)]
      · rw [if_neg h1, if_neg (by omega)]
theorem Sha.adding_all (v s : List UInt32) (h : s.length = v.length) : Sha.adding v s v.length = Sha.added v s := by
  apply List.ext_getElem (by simp [Sha.adding_length, Sha.added, h])
  intro j h1 h2
  have hj : j < v.length := by rw [Sha.adding_length] at h1; exact h1
  have := Sha.adding_get v s h v.length j hj
  rw [if_pos hj] at this
  have hs : j < s.length := by omega
  simp [List.getD_eq_getElem?_getD, h1, hj, hs] at this
  rw [this]
  simp [Sha.added]

theorem Sha.adding_end {v s : List UInt32} {i : Nat} (h : s.length = 8) (hv : v.length = 8) (h1 : i ≤ 8) (h2 : ¬ i < 8) : Sha.adding v s i = Sha.added v s := by
  have := Sha.adding_all v s (by omega)
  rw [hv] at this
  rw [show i = 8 by omega, this]
def rotSet : List Nat := [2, 6, 7, 11, 13, 17, 18, 19, 22, 25]
theorem rot_and (n : Nat) (hn : n ∈ rotSet) (t : TypeId) : Go.binOp .and t (.int .u64 (IntKind.u64.wrap (-(n : Int)))) (.int .u64 ((31 : Nat) : Int)) = pure (.int .u64 ((32 - n : Nat) : Int)) := by
  unfold rotSet at hn
  simp only [List.mem_cons, List.not_mem_nil, or_false] at hn
  rcases hn with rfl | rfl | rfl | rfl | rfl | rfl | rfl | rfl | rfl | rfl <;> rfl
theorem rot_lt {n : Nat} (hn : n ∈ rotSet) : 0 < n ∧ n < 32 := by
  unfold rotSet at hn
  simp only [List.mem_cons, List.not_mem_nil, or_false] at hn
  omega
theorem Yk.negSet {P : Program} {K : Value → World → Prop} {ρ : Slots} {w : World} {d : Option Tmp} {ty : TypeId} {pos : String} {af : Array Edge} {gd : Option (Nat × Bool)} {t : TypeId} {x : Operand} {n : Nat} (hn : n ∈ rotSet) (hx : evalR ρ x = NI n) (hk : K (.int .i64 (-(n : Int))) w) : Yk P K ((execOp (evalR ρ) ⟨d, .unOp .neg t x, ty, pos, af, gd⟩).run P w) := by
  have h := rot_lt hn
  refine Yk.value (v := .int .i64 (-(n : Int))) (w' := w) ?_ hk
  have hw : IntKind.i64.wrap (-(n : Int)) = -(n : Int) := by
    simp only [IntKind.wrap, IntKind.bits, IntKind.signed]
    simp
    omega
  unfold execOp
  simp [hx, Op.unary, Op.intArith, hw]
theorem Yk.build8 {P : Program} {K : Value → World → Prop} {ρ : Slots} {w : World} {d : Option Tmp} {ty : TypeId} {pos : String} {af : Array Edge} {gd : Option (Nat × Bool)} {t : TypeId} {x0 x1 x2 x3 x4 x5 x6 x7 : Operand} {v0 v1 v2 v3 v4 v5 v6 v7 v : Value} (h0 : evalR ρ x0 = v0) (h1 : evalR ρ x1 = v1) (h2 : evalR ρ x2 = v2) (h3 : evalR ρ x3 = v3) (h4 : evalR ρ x4 = v4) (h5 : evalR ρ x5 = v5) (h6 : evalR ρ x6 = v6) (h7 : evalR ρ x7 = v7) (hr : ∀ w : World, (Instr.build t #[(0, v0), (1, v1), (2, v2), (3, v3), (4, v4), (5, v5), (6, v6), (7, v7)]).run P w = .ok v w) (hk : K v w) : Yk P K ((execOp (evalR ρ) ⟨d, .build t #[(0, x0), (1, x1), (2, x2), (3, x3), (4, x4), (5, x5), (6, x6), (7, x7)], ty, pos, af, gd⟩).run P w) := by
  refine Yk.value (v := v) (w' := w) ?_ hk
  unfold execOp
  simp only [List.map_toArray, List.map_cons, List.map_nil, h0, h1, h2, h3, h4, h5, h6, h7, Sem.run_bind, hr, Result.andThen_ok, Sem.run_pure]
open Go.RowKit
set_option maxRecDepth 100000
theorem shaW_ty3 : Tryd.prog.underlying 3 = some (.int .i64) := by kernel_rfl
theorem shaW_ty74 : Tryd.prog.underlying 74 = some (.int .u64) := by kernel_rfl
theorem shaW_pl80 : Plain Tryd.prog 80 := fun _ _ => by kernel_rfl
theorem shaW_isz95 : (Tryd.prog.info? 95).map (·.size) = some 64 := by kernel_rfl
theorem shaW_al95 {d : Option Tmp} {ty : TypeId} {pos : String} {af : Array Edge} {gd : Option (Nat × Bool)} (σ : Operand → Value) (w : World) : (execOp σ ⟨d, .alloc 95, ty, pos, af, gd⟩).run Tryd.prog w = .ok (.value (PQ w.heap.size 0)) (w.alloc (.cells ((List.replicate 64 0).map fun x => U x).toArray 95)) := by kernel_rfl
theorem shaW_ty22 : Tryd.prog.underlying 22 = some (.slice 5) := by kernel_rfl
theorem shaW_sz5 : ∀ w' : World, (sizeOf 5).run Tryd.prog w' = .ok 1 w' := fun _ => by kernel_rfl
theorem shaW_ty5 : Tryd.prog.underlying 5 = some (.int .u8) := by kernel_rfl
theorem shaW_ty93 : Tryd.prog.underlying 93 = some (.int .u32) := by kernel_rfl
theorem shaW_ty95 : Tryd.prog.underlying 95 = some (.array 64 93) := by kernel_rfl
theorem shaW_sz93 : ∀ w' : World, (sizeOf 93).run Tryd.prog w' = .ok 1 w' := fun _ => by kernel_rfl
theorem shaW_isz93 : (Tryd.prog.info? 93).map (·.size) = some 1 := by kernel_rfl
theorem shaW_pl73 : Plain Tryd.prog 73 := fun _ _ => by kernel_rfl
theorem shaW_isz94 : (Tryd.prog.info? 94).map (·.size) = some 8 := by kernel_rfl
theorem shaW_al94 {d : Option Tmp} {ty : TypeId} {pos : String} {af : Array Edge} {gd : Option (Nat × Bool)} (σ : Operand → Value) (w : World) : (execOp σ ⟨d, .alloc 94, ty, pos, af, gd⟩).run Tryd.prog w = .ok (.value (PQ w.heap.size 0)) (w.alloc (.cells ((List.replicate 8 0).map fun x => U x).toArray 94)) := by kernel_rfl
theorem shaW_ty94 : Tryd.prog.underlying 94 = some (.array 8 93) := by kernel_rfl
theorem shaW_pl72 : Plain Tryd.prog 72 := fun _ _ => by kernel_rfl
theorem shaW_bA8 (a b c d e f g h : UInt32) (w : World) : (Instr.build 94 #[(0, U a), (1, U b), (2, U c), (3, U d), (4, U e), (5, U f), (6, U g), (7, U h)]).run Tryd.prog w = .ok (.agg (([a, b, c, d, e, f, g, h] : List UInt32).map fun x => U x).toArray) w := by kernel_rfl
set_option maxHeartbeats 1600000
theorem rotl_any (w : World) (x : UInt32) (n : Nat) (hn : n ∈ rotSet) :
  Calls Tryd.prog 80 #[U x, .int .i64 (-(n : Int))] w fun e w' => e = .returned (U (Sha.rotr x n)) ∧ Ext w w' := by
 obtain ⟨hn0, hn1⟩ := rot_lt hn
 refine calls_of_wpF (args := [U (x), (.int .i64 (-(n : Int)))]) Tryd.func80 rfl 17 rfl (Nat.le_of_ble_eq_true rfl) ?_
 intro ρ0 hb
 have T0 : ρ0 0 = (U (x) : Value) := hb.get 0
 have T1 : ρ0 1 = ((.int .i64 (-(n : Int))) : Value) := hb.get 1
 clear hb
 have hE := Ext.refl w
 refine sk fun K1 hK1 => (wt (oA rfl (oZ (tN (hK1 _ _ (sk fun K2 hK2 => (wt (oM rfl (oS rfl (Yk.convI shaW_ty3 shaW_ty74 T1 rfl (oS rfl (Yk.bin (yv := .int .u64 ((31 : Nat) : Int)) (vr (.int .u64 (IntKind.u64.wrap (-(n : Int)))) rfl) rfl rfl (rot_and n hn _) (oA rfl (oZ (tN (hK2 _ _ (sk fun K3 hK3 => (wt (oM rfl ?_)))))))))))))))))))
 refine oM rfl (oS rfl (Yk.bin (yv := .int .u64 ((32 - n : Nat) : Int)) T0 (vr (.int .u64 ((32 - n : Nat) : Int)) rfl) rfl (u_shl _ _ _ (32 - n) (by omega)) (oM rfl (oM rfl (oS rfl (Yk.bin (xv := .int .u64 ((32 : Nat) : Int)) (yv := .int .u64 ((32 - n : Nat) : Int)) rfl rfl rfl (u64_sub _ _ _ (by omega) (by omega)) (oS rfl (Yk.bin (yv := .int .u64 (((32) - (32 - n) : Nat) : Int)) T0 (vr (.int .u64 (((32) - (32 - n) : Nat) : Int)) rfl) rfl (u_shr _ _ _ ((32) - (32 - n)) (by omega)) (oS rfl (Yk.bin (vr (U ((x) <<< UInt32.ofNat (32 - n))) rfl) (vr (U ((x) >>> UInt32.ofNat ((32) - (32 - n)))) rfl) rfl (u_or _ _ _) (oA rfl (oZ (tN (hK3 _ _ (wpF_ret (postF_ret (fn := Tryd.f80) _ rfl [U (((x) <<< UInt32.ofNat (32 - n)) ||| ((x) >>> UInt32.ofNat ((32) - (32 - n))))] (U (((x) <<< UInt32.ofNat (32 - n)) ||| ((x) >>> UInt32.ofNat ((32) - (32 - n))))) rfl ⟨rfl, trivial⟩ ?_))))))))))))))))
 refine ⟨?_, hE⟩
 unfold Sha.rotr
 rw [show 32 - (32 - n) = n by omega]

theorem turn_any (w : World) (x : UInt32) (n : Nat) (hn : n ∈ rotSet) :
  Calls Tryd.prog 73 #[U x, NI n] w fun e w' => e = .returned (U (Sha.rotr x n)) ∧ Ext w w' := by
 refine calls_of_wpF (args := [U (x), NI n]) Tryd.func73 rfl 9 rfl (Nat.le_of_ble_eq_true rfl) ?_
 intro ρ0 hb
 have T0 : ρ0 0 = (U (x) : Value) := hb.get 0
 have T1 : ρ0 1 = (NI n : Value) := hb.get 1
 clear hb
 have hE := Ext.refl w
 refine sk fun K1 hK1 => (wt (oA rfl (oZ (tN (hK1 _ _ (sk fun K2 hK2 => (wt (oM rfl (oM rfl (oS rfl (Yk.negSet hn T1 (oS rfl (Yk.callA2 shaW_pl80 T0 (vr (.int .i64 (-(n : Int))) rfl) ((rotl_any _ x n hn).mono ?_))))))))))))))
 rintro e w4 ⟨rfl, hx3⟩
 refine ⟨_, rfl, ?_⟩
 have hE := hE.trans hx3
 refine oA rfl (oZ (tN (hK2 _ _ (wpF_ret (postF_ret (fn := Tryd.f73) _ rfl [U (Sha.rotr (x) n)] (U (Sha.rotr (x) n)) rfl ⟨rfl, trivial⟩ ?_)))))
 exact ⟨rfl, hE⟩

theorem schedule_any (w : World) (v : Value) (b : List UInt8) (hb : RB w v b) (hl : b.length = 64) :
  Calls Tryd.prog 72 #[v] w fun e w' => e = .returned (.agg (cellsU (Sha.sched b 64))) ∧ Ext w w' := by
 refine calls_of_wpF (args := [v]) Tryd.func72 rfl 93 rfl (Nat.le_of_ble_eq_true rfl) ?_
 intro ρ0 hb
 have T0 : ρ0 0 = (v : Value) := hb.get 0
 clear hb
 have hE := Ext.refl w
 refine sk fun K1 hK1 => (wt (oS rfl (Yk.alloc (cs := ((List.replicate 64 0).map fun x => U x).toArray) shaW_al95 fun n2 w3 hn4 hb5 hx6 hs7 => ?_)))
 have hE := hE.trans hx6
 have hb8 := hb5; clear hb5
 have hl9 : n2 < w3.heap.size := by omega
 refine oZ (tN (hK1 _ _ (sk fun K10 hK10 => (wt (oS rfl (Yk.alloc (cs := ((List.replicate 64 0).map fun x => U x).toArray) shaW_al95 fun n11 w12 hn13 hb14 hx15 hs16 => ?_))))))
 have hA17 := Ext.refl w3
 have hea18 := hE
 have hz19 := hE.size
 have hlt20 := lte (bl hb8) hn13
 have hE := hE.trans hx15
 have hb8 := eb hx15 hb8
 have hA17 := hA17.trans hx15
 have hb21 := hb14; clear hb14
 have hl22 : n11 < w12.heap.size := by omega
 refine oZ (tN (hK10 _ _ (sk fun K23 hK23 => (sk fun K24 hK24 => (wt (oM rfl (oL_ [(0, v), (2, PQ n2 0), (3, PQ n11 0), (10, NI 0)] ⟨T0, rfl, rfl, rfl, trivial⟩ fun ρ25 ⟨T0, T2, T3, T10, _⟩ => (tN (hK24 _ _ (wpF_block (wpF_loop (fun (ρ : Slots) (wz : World) => ∃ t : Nat, ρ 0 = (v : Value) ∧ ρ 2 = (PQ n2 0 : Value) ∧ ρ 3 = (PQ n11 0 : Value) ∧ ρ 10 = (NI t : Value) ∧ Ext w wz ∧ wz.heap[n2]? = some (.cells ((List.replicate 64 0).map fun x => U x).toArray 95 (0, 0)) ∧ Ext w3 wz ∧ wz.heap[n11]? = some (.cells ((Sha.pad64 (Sha.sched b t)).map fun x => U x).toArray 95 (0, 0)) ∧ (t ≤ 16) ∧ True) (fun ρ _ => 16 - (intOf (ρ 10)).toNat) ⟨0, T0, T2, T3, T10, hE, hb8, hA17, blk_eq hb21 (rfl), by omega, trivial⟩ ?_)))))))))))
 clear hb21
 clear hE hb8 hA17
 rintro ρ26 w27 ⟨t, T0, T2, T3, T10, hE, hb8, hA17, hb21l, ht_t, -⟩
 have q10 := T10
 have hpl_t : (Sha.pad64 (Sha.sched b t)).length = 64 := Sha.pad64_length _ (by rw [Sha.sched_length]; omega)
 obtain ⟨Bt, hBt⟩ : ∃ B, B = Sha.pad64 (Sha.sched b t) := ⟨_, rfl⟩
 have hb21l : w27.heap[n11]? = some (.cells ((Bt).map fun x => U x).toArray 95 (0, 0)) := blk_eq hb21l (by rw [hBt])
 rw [← hBt] at hpl_t
 refine sk fun K28 hK28 => (wt (oS rfl (Yk.eqI (a := (t : Nat)) (b := (16 : Nat)) T10 rfl (k_lss _ _ _ _) (oZ (tN (hK28 _ _ (sk fun K29 hK29 => ?_)))))))
 refine wpF_cond ((t) < (16)) (vr (.bool (decide ((t) < (16)))) rfl) (fun hc0 => ?_) (fun hc0 => ?_)
 ·refine wpF_skip (tN (hK29 _ _ (sk fun K30 hK30 => (wpF_block (sk fun K31 hK31 => (wt (oM rfl (oA rfl (oZ (tN (hK31 _ _ ?_)))))))))))
  refine wpF_draw_storeK 35 [4, 12, 21, 30] (fun (a_ b_ : World) => b_.heap[n11]? = some (.cells (((Bt).set (t) ((((((b.getD ((4) * (t)) 0).toUInt32) <<< 24) ||| (((b.getD (((4) * (t)) + (1)) 0).toUInt32) <<< 16)) ||| (((b.getD (((4) * (t)) + (2)) 0).toUInt32) <<< 8)) ||| ((b.getD (((4) * (t)) + (3)) 0).toUInt32))).map fun x => U x).toArray 95 (0, 0)) ∧ a_.grownBy b_ (some n11) ∧ b_.heap.size = a_.heap.size) [Is (NI t), Is (v), Is (NI t), Is (NI ((4) * (t))), PCell (B8 (b.getD ((4) * (t)) 0)), Is (B8 (b.getD ((4) * (t)) 0)), Is (U ((b.getD ((4) * (t)) 0).toUInt32)), Is (U (((b.getD ((4) * (t)) 0).toUInt32) <<< 24)), Is (v), Is (NI t), Is (NI ((4) * (t))), Is (NI (((4) * (t)) + (1))), PCell (B8 (b.getD (((4) * (t)) + (1)) 0)), Is (B8 (b.getD (((4) * (t)) + (1)) 0)), Is (U ((b.getD (((4) * (t)) + (1)) 0).toUInt32)), Is (U (((b.getD (((4) * (t)) + (1)) 0).toUInt32) <<< 16)), Is (U ((((b.getD ((4) * (t)) 0).toUInt32) <<< 24) ||| (((b.getD (((4) * (t)) + (1)) 0).toUInt32) <<< 16))), Is (v), Is (NI t), Is (NI ((4) * (t))), Is (NI (((4) * (t)) + (2))), PCell (B8 (b.getD (((4) * (t)) + (2)) 0)), Is (B8 (b.getD (((4) * (t)) + (2)) 0)), Is (U ((b.getD (((4) * (t)) + (2)) 0).toUInt32)), Is (U (((b.getD (((4) * (t)) + (2)) 0).toUInt32) <<< 8)), Is (U (((((b.getD ((4) * (t)) 0).toUInt32) <<< 24) ||| (((b.getD (((4) * (t)) + (1)) 0).toUInt32) <<< 16)) ||| (((b.getD (((4) * (t)) + (2)) 0).toUInt32) <<< 8))), Is (v), Is (NI t), Is (NI ((4) * (t))), Is (NI (((4) * (t)) + (3))), PCell (B8 (b.getD (((4) * (t)) + (3)) 0)), Is (B8 (b.getD (((4) * (t)) + (3)) 0)), Is (U ((b.getD (((4) * (t)) + (3)) 0).toUInt32)), Is (U ((((((b.getD ((4) * (t)) 0).toUInt32) <<< 24) ||| (((b.getD (((4) * (t)) + (1)) 0).toUInt32) <<< 16)) ||| (((b.getD (((4) * (t)) + (2)) 0).toUInt32) <<< 8)) ||| ((b.getD (((4) * (t)) + (3)) 0).toUInt32))), Is (PQ n11 t), (fun _ _ => True)] (by kernel_rfl) [13, 14, 15, 16, 17, 18, 19, 20, 21, 22, 23, 24, 25, 26, 27, 28, 29, 30, 31, 32, 33, 34, 35, 36, 37, 38, 39, 40, 41, 42, 43, 44, 45, 46, 47] (by kernel_rfl) (by kernel_rfl) (by kernel_rfl) (by kernel_rfl) rfl (si4 ⟨Stab.pcell _, (si7 ⟨Stab.pcell _, (si8 ⟨Stab.pcell _, (si8 ⟨Stab.pcell _, (si4 ⟨Stab.any, trivial⟩)⟩)⟩)⟩)⟩) ⟨.inr (Stab.is _), .inr (Stab.is _), .inr (Stab.is _), .inr (Stab.is _), .inl rfl, .inr (Stab.is _), .inr (Stab.is _), .inr (Stab.is _), .inr (Stab.is _), .inr (Stab.is _), .inr (Stab.is _), .inr (Stab.is _), .inl rfl, .inr (Stab.is _), .inr (Stab.is _), .inr (Stab.is _), .inr (Stab.is _), .inr (Stab.is _), .inr (Stab.is _), .inr (Stab.is _), .inr (Stab.is _), .inl rfl, .inr (Stab.is _), .inr (Stab.is _), .inr (Stab.is _), .inr (Stab.is _), .inr (Stab.is _), .inr (Stab.is _), .inr (Stab.is _), .inr (Stab.is _), .inl rfl, .inr (Stab.is _), .inr (Stab.is _), .inr (Stab.is _), .inr (Stab.is _), .inr (Stab.any), trivial⟩ ?hs1005 ?hQ1005
  case hs1005 =>
   refine ⟨?_, ?_, ?_, ?_, ?_, ?_, ?_, ?_, ?_, ?_, ?_, ?_, ?_, ?_, ?_, ?_, ?_, ?_, ?_, ?_, ?_, ?_, ?_, ?_, ?_, ?_, ?_, ?_, ?_, ?_, ?_, ?_, ?_, ?_, ?_, ?_, trivial⟩
   ·refine stepN rfl fun σ w1 hC h => ?_
    have e4 := (eqo (h 4 (by decide))).trans T10
    have hC : Ext _ w1 := hC
    exact Yk.move e4 ⟨Ext.refl _, rfl⟩
   ·refine stepN rfl fun σ w1 hC h => ?_
    have e0 := (eqo (h 0 (by decide))).trans T0
    have hC : Ext _ w1 := hC
    exact Yk.move e0 ⟨Ext.refl _, rfl⟩
   ·refine stepN rfl fun σ w1 hC h => ?_
    have e4 := (eqo (h 4 (by decide))).trans T10
    have hC : Ext _ w1 := hC
    exact Yk.move e4 ⟨Ext.refl _, rfl⟩
   ·refine stepN rfl fun σ w1 hC h => ?_
    have e15 := eqo (h 15 (by decide))
    have hC : Ext _ w1 := hC
    exact Yk.bin (xv := NI 4) (yv := NI t) rfl e15 rfl (i64_mul _ _ _ (by omega)) ⟨Ext.refl _, rfl⟩
   ·refine stepN rfl fun σ w1 hC h => ?_
    have e14 := eqo (h 14 (by decide))
    have e16 := eqo (h 16 (by decide))
    have hC : Ext _ w1 := hC
    exact Yk.atRB (l := b) (i := (4) * (t)) shaW_ty22 shaW_sz5 (RB.of (hb.keep (hE.trans hC)) e14) e16 (by omega) fun _ h => ⟨Ext.refl _, h⟩
   ·refine stepN rfl fun σ w1 hC h => ?_
    have e17 : (PCell (B8 (b.getD ((4) * (t)) 0))) (σ 17) w1 := h 17 (by decide)
    have hC : Ext _ w1 := hC
    exact Yk.loadC shaW_ty5 rfl e17 ⟨Ext.refl _, rfl⟩
   ·refine stepN rfl fun σ w1 hC h => ?_
    have e18 := eqo (h 18 (by decide))
    have hC : Ext _ w1 := hC
    exact Yk.wide shaW_ty5 shaW_ty93 e18 ⟨Ext.refl _, rfl⟩
   ·refine stepN rfl fun σ w1 hC h => ?_
    have e19 := eqo (h 19 (by decide))
    have hC : Ext _ w1 := hC
    exact Yk.bin e19 (vr (.int .u64 ((24 : Nat) : Int)) rfl) rfl (u_shl _ _ _ 24 (by decide)) ⟨Ext.refl _, rfl⟩
   ·refine stepN rfl fun σ w1 hC h => ?_
    have e0 := (eqo (h 0 (by decide))).trans T0
    have hC : Ext _ w1 := hC
    exact Yk.move e0 ⟨Ext.refl _, rfl⟩
   ·refine stepN rfl fun σ w1 hC h => ?_
    have e4 := (eqo (h 4 (by decide))).trans T10
    have hC : Ext _ w1 := hC
    exact Yk.move e4 ⟨Ext.refl _, rfl⟩
   ·refine stepN rfl fun σ w1 hC h => ?_
    have e22 := eqo (h 22 (by decide))
    have hC : Ext _ w1 := hC
    exact Yk.bin (xv := NI 4) (yv := NI t) rfl e22 rfl (i64_mul _ _ _ (by omega)) ⟨Ext.refl _, rfl⟩
   ·refine stepN rfl fun σ w1 hC h => ?_
    have e23 := eqo (h 23 (by decide))
    have hC : Ext _ w1 := hC
    exact Yk.bin (xv := NI ((4) * (t))) (yv := NI 1) e23 rfl rfl (i64_add _ _ _ (by omega)) ⟨Ext.refl _, rfl⟩
   ·refine stepN rfl fun σ w1 hC h => ?_
    have e21 := eqo (h 21 (by decide))
    have e24 := eqo (h 24 (by decide))
    have hC : Ext _ w1 := hC
    exact Yk.atRB (l := b) (i := ((4) * (t)) + (1)) shaW_ty22 shaW_sz5 (RB.of (hb.keep (hE.trans hC)) e21) e24 (by omega) fun _ h => ⟨Ext.refl _, h⟩
   ·refine stepN rfl fun σ w1 hC h => ?_
    have e25 : (PCell (B8 (b.getD (((4) * (t)) + (1)) 0))) (σ 25) w1 := h 25 (by decide)
    have hC : Ext _ w1 := hC
    exact Yk.loadC shaW_ty5 rfl e25 ⟨Ext.refl _, rfl⟩
   ·refine stepN rfl fun σ w1 hC h => ?_
    have e26 := eqo (h 26 (by decide))
    have hC : Ext _ w1 := hC
    exact Yk.wide shaW_ty5 shaW_ty93 e26 ⟨Ext.refl _, rfl⟩
   ·refine stepN rfl fun σ w1 hC h => ?_
    have e27 := eqo (h 27 (by decide))
    have hC : Ext _ w1 := hC
    exact Yk.bin e27 (vr (.int .u64 ((16 : Nat) : Int)) rfl) rfl (u_shl _ _ _ 16 (by decide)) ⟨Ext.refl _, rfl⟩
   ·refine stepN rfl fun σ w1 hC h => ?_
    have e20 := eqo (h 20 (by decide))
    have e28 := eqo (h 28 (by decide))
    have hC : Ext _ w1 := hC
    exact Yk.bin e20 e28 rfl (u_or _ _ _) ⟨Ext.refl _, rfl⟩
   ·refine stepN rfl fun σ w1 hC h => ?_
    have e0 := (eqo (h 0 (by decide))).trans T0
    have hC : Ext _ w1 := hC
    exact Yk.move e0 ⟨Ext.refl _, rfl⟩
   ·refine stepN rfl fun σ w1 hC h => ?_
    have e4 := (eqo (h 4 (by decide))).trans T10
    have hC : Ext _ w1 := hC
    exact Yk.move e4 ⟨Ext.refl _, rfl⟩
   ·refine stepN rfl fun σ w1 hC h => ?_
    have e31 := eqo (h 31 (by decide))
    have hC : Ext _ w1 := hC
    exact Yk.bin (xv := NI 4) (yv := NI t) rfl e31 rfl (i64_mul _ _ _ (by omega)) ⟨Ext.refl _, rfl⟩
   ·refine stepN rfl fun σ w1 hC h => ?_
    have e32 := eqo (h 32 (by decide))
    have hC : Ext _ w1 := hC
    exact Yk.bin (xv := NI ((4) * (t))) (yv := NI 2) e32 rfl rfl (i64_add _ _ _ (by omega)) ⟨Ext.refl _, rfl⟩
   ·refine stepN rfl fun σ w1 hC h => ?_
    have e30 := eqo (h 30 (by decide))
    have e33 := eqo (h 33 (by decide))
    have hC : Ext _ w1 := hC
    exact Yk.atRB (l := b) (i := ((4) * (t)) + (2)) shaW_ty22 shaW_sz5 (RB.of (hb.keep (hE.trans hC)) e30) e33 (by omega) fun _ h => ⟨Ext.refl _, h⟩
   ·refine stepN rfl fun σ w1 hC h => ?_
    have e34 : (PCell (B8 (b.getD (((4) * (t)) + (2)) 0))) (σ 34) w1 := h 34 (by decide)
    have hC : Ext _ w1 := hC
    exact Yk.loadC shaW_ty5 rfl e34 ⟨Ext.refl _, rfl⟩
   ·refine stepN rfl fun σ w1 hC h => ?_
    have e35 := eqo (h 35 (by decide))
    have hC : Ext _ w1 := hC
    exact Yk.wide shaW_ty5 shaW_ty93 e35 ⟨Ext.refl _, rfl⟩
   ·refine stepN rfl fun σ w1 hC h => ?_
    have e36 := eqo (h 36 (by decide))
    have hC : Ext _ w1 := hC
    exact Yk.bin e36 (vr (.int .u64 ((8 : Nat) : Int)) rfl) rfl (u_shl _ _ _ 8 (by decide)) ⟨Ext.refl _, rfl⟩
   ·refine stepN rfl fun σ w1 hC h => ?_
    have e29 := eqo (h 29 (by decide))
    have e37 := eqo (h 37 (by decide))
    have hC : Ext _ w1 := hC
    exact Yk.bin e29 e37 rfl (u_or _ _ _) ⟨Ext.refl _, rfl⟩
   ·refine stepN rfl fun σ w1 hC h => ?_
    have e0 := (eqo (h 0 (by decide))).trans T0
    have hC : Ext _ w1 := hC
    exact Yk.move e0 ⟨Ext.refl _, rfl⟩
   ·refine stepN rfl fun σ w1 hC h => ?_
    have e4 := (eqo (h 4 (by decide))).trans T10
    have hC : Ext _ w1 := hC
    exact Yk.move e4 ⟨Ext.refl _, rfl⟩
   ·refine stepN rfl fun σ w1 hC h => ?_
    have e40 := eqo (h 40 (by decide))
    have hC : Ext _ w1 := hC
    exact Yk.bin (xv := NI 4) (yv := NI t) rfl e40 rfl (i64_mul _ _ _ (by omega)) ⟨Ext.refl _, rfl⟩
   ·refine stepN rfl fun σ w1 hC h => ?_
    have e41 := eqo (h 41 (by decide))
    have hC : Ext _ w1 := hC
    exact Yk.bin (xv := NI ((4) * (t))) (yv := NI 3) e41 rfl rfl (i64_add _ _ _ (by omega)) ⟨Ext.refl _, rfl⟩
   ·refine stepN rfl fun σ w1 hC h => ?_
    have e39 := eqo (h 39 (by decide))
    have e42 := eqo (h 42 (by decide))
    have hC : Ext _ w1 := hC
    exact Yk.atRB (l := b) (i := ((4) * (t)) + (3)) shaW_ty22 shaW_sz5 (RB.of (hb.keep (hE.trans hC)) e39) e42 (by omega) fun _ h => ⟨Ext.refl _, h⟩
   ·refine stepN rfl fun σ w1 hC h => ?_
    have e43 : (PCell (B8 (b.getD (((4) * (t)) + (3)) 0))) (σ 43) w1 := h 43 (by decide)
    have hC : Ext _ w1 := hC
    exact Yk.loadC shaW_ty5 rfl e43 ⟨Ext.refl _, rfl⟩
   ·refine stepN rfl fun σ w1 hC h => ?_
    have e44 := eqo (h 44 (by decide))
    have hC : Ext _ w1 := hC
    exact Yk.wide shaW_ty5 shaW_ty93 e44 ⟨Ext.refl _, rfl⟩
   ·refine stepN rfl fun σ w1 hC h => ?_
    have e38 := eqo (h 38 (by decide))
    have e45 := eqo (h 45 (by decide))
    have hC : Ext _ w1 := hC
    exact Yk.bin e38 e45 rfl (u_or _ _ _) ⟨Ext.refl _, rfl⟩
   ·refine stepN rfl fun σ w1 hC h => ?_
    have e3 := (eqo (h 3 (by decide))).trans T3
    have e13 := eqo (h 13 (by decide))
    have hC : Ext _ w1 := hC
    exact Yk.atArr0 (i := t) shaW_ty95 shaW_sz93 e3 e13 (by omega) ⟨Ext.refl _, rfl⟩
   ·refine stepN rfl fun σ w1 hC h => ?_
    have e47 := eqo (h 47 (by decide))
    have e46 := eqo (h 46 (by decide))
    have hC : Ext _ w1 := hC
    exact Yk.storeU32 (i := t) (v := (((((b.getD ((4) * (t)) 0).toUInt32) <<< 24) ||| (((b.getD (((4) * (t)) + (1)) 0).toUInt32) <<< 16)) ||| (((b.getD (((4) * (t)) + (2)) 0).toUInt32) <<< 8)) ||| ((b.getD (((4) * (t)) + (3)) 0).toUInt32)) e47 e46 (eb hC hb21l) (by rw [hpl_t]; omega) shaW_isz93 fun w2 h1 h2 h3 => ⟨⟨h1, h2, h3⟩, trivial⟩
  intro ρ36 w39 w37 hx38 hS40 he hf
  obtain ⟨-, -, -, -, -, -, -, -, -, -, -, -, -, -, -, -, -, -, -, -, -, -, -, -, -, -, -, -, -, -, -, -, -, -, -, -⟩ := hf
  obtain ⟨T0, T2, T3, T4, T10, -⟩ := he.hold [(0, _), (2, _), (3, _), (4, _), (10, _)] ⟨T0, T2, T3, T10, T10, trivial⟩ rfl
  clear he
  have hE := hE.trans hx38
  have hb8 := eb hx38 hb8
  have hA17 := hA17.trans hx38
  have hb21l := eb hx38 hb21l
  obtain ⟨hb41, hg42, hs43⟩ := hS40
  have hE := row_fresh hE hg42 (Nat.le_trans hz19 (by omega))
  have hb8 := kb hg42 hb8 (by omega)
  have hA17 := row_fresh hA17 hg42 (Nat.le_trans (Nat.le_refl _) (by omega))
  clear hb21l
  have hb21l := hb41; clear hb41
  have hl44 := bl hb21l
  have hb21l : w37.heap[n11]? = some (.cells ((Sha.pad64 (Sha.sched b (t + 1))).map fun x => U x).toArray 95 (0, 0)) := blk_eq hb21l (congrArg (List.map fun x => U x) (by rw [hBt]; exact Sha.sched_step1 b t hc0))
  refine bN (tN (hK30 _ _ (wt (oS rfl (Yk.bin (xv := NI t) (yv := NI 1) T10 rfl rfl (i64_add _ _ _ (by omega)) (oM rfl (oL_ [(0, v), (2, PQ n2 0), (3, PQ n11 0), (4, NI t), (10, NI ((t) + (1)))] ⟨T0, T2, T3, T4, rfl, trivial⟩ fun ρ45 ⟨T0, T2, T3, T4, T10, _⟩ => (tN (And.intro ⟨t + 1, T0, T2, T3, T10, hE, hb8, hA17, blk_eq hb21l (rfl), by omega, trivial⟩ ?_)))))))))
  show 16 - (intOf (ρ45 10)).toNat < 16 - (intOf (ρ26 10)).toNat
  rw [T10, q10]
  simp only [intOf, Int.toNat_natCast]; omega
 refine wpF_exit (thenF_exit (thenF_exit (inBlockF_hit (tN (hK23 _ _ (sk fun K46 hK46 => (sk fun K47 hK47 => (wt (oA rfl (oL_ [(0, v), (2, PQ n2 0), (3, PQ n11 0), (5, NI 16), (10, NI t)] ⟨T0, T2, T3, rfl, T10, trivial⟩ fun ρ48 ⟨T0, T2, T3, T5, T10, _⟩ => (tN (hK47 _ _ (wpF_block (wpF_loop (fun (ρ : Slots) (wz : World) => ∃ q : Nat, ρ 0 = (v : Value) ∧ ρ 2 = (PQ n2 0 : Value) ∧ ρ 3 = (PQ n11 0 : Value) ∧ ρ 10 = (NI t : Value) ∧ ρ 5 = (NI q : Value) ∧ Ext w wz ∧ wz.heap[n2]? = some (.cells ((List.replicate 64 0).map fun x => U x).toArray 95 (0, 0)) ∧ Ext w3 wz ∧ wz.heap[n11]? = some (.cells ((Sha.pad64 (Sha.sched b q)).map fun x => U x).toArray 95 (0, 0)) ∧ (q ≤ 64) ∧ (16 ≤ q) ∧ True) (fun ρ _ => 64 - (intOf (ρ 5)).toNat) ⟨16, T0, T2, T3, T10, T5, hE, hb8, hA17, blk_eq hb21l (congrArg (List.map fun x => U x) (by rw [hBt, show t = 16 by omega])), by omega, Nat.le_refl _, trivial⟩ ?_))))))))))))))
 clear hb21l
 clear hE hb8 hA17
 rintro ρ49 w50 ⟨q, T0, T2, T3, T10, T5, hE, hb8, hA17, hb21ll, ht_q, ht16, -⟩
 have q5 := T5
 have hpl_q : (Sha.pad64 (Sha.sched b q)).length = 64 := Sha.pad64_length _ (by rw [Sha.sched_length]; omega)
 obtain ⟨Bq, hBq⟩ : ∃ B, B = Sha.pad64 (Sha.sched b q) := ⟨_, rfl⟩
 have hb21ll : w50.heap[n11]? = some (.cells ((Bq).map fun x => U x).toArray 95 (0, 0)) := blk_eq hb21ll (by rw [hBq])
 rw [← hBq] at hpl_q
 refine sk fun K51 hK51 => (sk fun K52 hK52 => (wt (oM rfl (oS rfl (Yk.eqI (a := (q : Nat)) (b := (64 : Nat)) T5 rfl (k_lss _ _ _ _) (oZ (tN (hK52 _ _ ?_))))))))
 refine wpF_cond ((q) < (64)) (vr (.bool (decide ((q) < (64)))) rfl) (fun hc1 => ?_) (fun hc1 => ?_)
 ·refine wpF_skip (tN (hK51 _ _ (sk fun K53 hK53 => (wpF_block (sk fun K54 hK54 => ?_)))))
  refine wpF_draw [Is (NI q), Is (NI ((q) - (15))), Is (.pointer (some ⟨n11, (q) - (15), none⟩)), Is (U ((Bq).getD ((q) - (15)) 0)), Is (NI q), Is (NI ((q) - (2))), Is (.pointer (some ⟨n11, (q) - (2), none⟩)), Is (U ((Bq).getD ((q) - (2)) 0)), Is (U ((Bq).getD ((q) - (15)) 0)), Is (U ((Bq).getD ((q) - (2)) 0))] (by kernel_rfl) [53, 54, 55, 56, 57, 58, 59, 60, 6, 7] (by kernel_rfl) (by kernel_rfl) (si10 trivial) ?hs2010 ?hQ2010
  case hs2010 =>
   refine ⟨?_, ?_, ?_, ?_, ?_, ?_, ?_, ?_, ?_, ?_, trivial⟩
   ·refine stepN rfl fun σ w1 hC h => ?_
    have e5 := (eqo (h 5 (by decide))).trans T5
    exact Yk.move e5 ⟨Ext.refl _, rfl⟩
   ·refine stepN rfl fun σ w1 hC h => ?_
    have e53 := eqo (h 53 (by decide))
    exact Yk.bin (xv := NI q) (yv := NI 15) e53 rfl rfl (i64_sub _ _ _ (by omega) (by omega)) ⟨Ext.refl _, rfl⟩
   ·refine stepN rfl fun σ w1 hC h => ?_
    have e3 := (eqo (h 3 (by decide))).trans T3
    have e54 := eqo (h 54 (by decide))
    exact Yk.atArr0 (i := (q) - (15)) shaW_ty95 shaW_sz93 e3 e54 (by omega) ⟨Ext.refl _, rfl⟩
   ·refine stepN rfl fun σ w1 hC h => ?_
    have e55 := eqo (h 55 (by decide))
    exact Yk.cell1 shaW_ty93 rfl e55 (cellAt (eb hC hb21ll) (word_at (i := (q) - (15)) (by rw [hpl_q]; omega))) ⟨Ext.refl _, rfl⟩
   ·refine stepN rfl fun σ w1 hC h => ?_
    have e5 := (eqo (h 5 (by decide))).trans T5
    exact Yk.move e5 ⟨Ext.refl _, rfl⟩
   ·refine stepN rfl fun σ w1 hC h => ?_
    have e57 := eqo (h 57 (by decide))
    exact Yk.bin (xv := NI q) (yv := NI 2) e57 rfl rfl (i64_sub _ _ _ (by omega) (by omega)) ⟨Ext.refl _, rfl⟩
   ·refine stepN rfl fun σ w1 hC h => ?_
    have e3 := (eqo (h 3 (by decide))).trans T3
    have e58 := eqo (h 58 (by decide))
    exact Yk.atArr0 (i := (q) - (2)) shaW_ty95 shaW_sz93 e3 e58 (by omega) ⟨Ext.refl _, rfl⟩
   ·refine stepN rfl fun σ w1 hC h => ?_
    have e59 := eqo (h 59 (by decide))
    exact Yk.cell1 shaW_ty93 rfl e59 (cellAt (eb hC hb21ll) (word_at (i := (q) - (2)) (by rw [hpl_q]; omega))) ⟨Ext.refl _, rfl⟩
   ·refine stepN rfl fun σ w1 hC h => ?_
    have e56 := eqo (h 56 (by decide))
    exact Yk.assign e56 ⟨Ext.refl _, rfl⟩
   ·refine stepN rfl fun σ w1 hC h => ?_
    have e60 := eqo (h 60 (by decide))
    exact Yk.assign e60 ⟨Ext.refl _, rfl⟩
  intro ρ55 w56 hx57 he hf
  obtain ⟨-, -, -, -, -, -, -, -, k6, k7, -⟩ := hf
  obtain ⟨T0, T2, T3, T5, T10, -⟩ := he.hold [(0, _), (2, _), (3, _), (5, _), (10, _)] ⟨T0, T2, T3, T5, T10, trivial⟩ rfl
  clear he
  have hE := hE.trans hx57
  have hb8 := eb hx57 hb8
  have hA17 := hA17.trans hx57
  have hb21ll := eb hx57 hb21ll
  have T6 : ρ55 6 = U ((Bq).getD ((q) - (15)) 0) := k6
  have T7 : ρ55 7 = U ((Bq).getD ((q) - (2)) 0) := k7
  clear k6 k7
  refine tN (hK54 _ _ (sk fun K58 hK58 => (wt (oM rfl (oS rfl (Yk.callA2 shaW_pl73 T6 (vr (NI 7) rfl) ((turn_any _ ((Bq).getD ((q) - (15)) 0) 7 (by decide)).mono ?_)))))))
  rintro e w60 ⟨rfl, hx59⟩
  refine ⟨_, rfl, ?_⟩
  have hE := hE.trans hx59
  have hb8 := eb hx59 hb8
  have hA17 := hA17.trans hx59
  have hb21ll := eb hx59 hb21ll
  refine oM rfl (oS rfl (Yk.callA2 shaW_pl73 T6 (vr (NI 18) rfl) ((turn_any _ ((Bq).getD ((q) - (15)) 0) 18 (by decide)).mono ?_)))
  rintro e w62 ⟨rfl, hx61⟩
  refine ⟨_, rfl, ?_⟩
  have hE := hE.trans hx61
  have hb8 := eb hx61 hb8
  have hA17 := hA17.trans hx61
  have hb21ll := eb hx61 hb21ll
  refine oS rfl (Yk.bin (vr (U (Sha.rotr ((Bq).getD ((q) - (15)) 0) 7)) rfl) (vr (U (Sha.rotr ((Bq).getD ((q) - (15)) 0) 18)) rfl) rfl (u_xor _ _ _) (oM rfl (oS rfl (Yk.bin T6 (vr (.int .u64 ((3 : Nat) : Int)) rfl) rfl (u_shr _ _ _ 3 (by decide)) (oS rfl (Yk.bin (vr (U ((Sha.rotr ((Bq).getD ((q) - (15)) 0) 7) ^^^ (Sha.rotr ((Bq).getD ((q) - (15)) 0) 18))) rfl) (vr (U (((Bq).getD ((q) - (15)) 0) >>> 3)) rfl) rfl (u_xor _ _ _) (oA rfl (oZ (tN (hK58 _ _ (sk fun K63 hK63 => (wt (oM rfl (oS rfl (Yk.callA2 shaW_pl73 T7 (vr (NI 17) rfl) ((turn_any _ ((Bq).getD ((q) - (2)) 0) 17 (by decide)).mono ?_))))))))))))))))
  rintro e w65 ⟨rfl, hx64⟩
  refine ⟨_, rfl, ?_⟩
  have hE := hE.trans hx64
  have hb8 := eb hx64 hb8
  have hA17 := hA17.trans hx64
  have hb21ll := eb hx64 hb21ll
  refine oM rfl (oS rfl (Yk.callA2 shaW_pl73 T7 (vr (NI 19) rfl) ((turn_any _ ((Bq).getD ((q) - (2)) 0) 19 (by decide)).mono ?_)))
  rintro e w67 ⟨rfl, hx66⟩
  refine ⟨_, rfl, ?_⟩
  have hE := hE.trans hx66
  have hb8 := eb hx66 hb8
  have hA17 := hA17.trans hx66
  have hb21ll := eb hx66 hb21ll
  refine oS rfl (Yk.bin (vr (U (Sha.rotr ((Bq).getD ((q) - (2)) 0) 17)) rfl) (vr (U (Sha.rotr ((Bq).getD ((q) - (2)) 0) 19)) rfl) rfl (u_xor _ _ _) (oM rfl (oS rfl (Yk.bin T7 (vr (.int .u64 ((10 : Nat) : Int)) rfl) rfl (u_shr _ _ _ 10 (by decide)) (oS rfl (Yk.bin (vr (U ((Sha.rotr ((Bq).getD ((q) - (2)) 0) 17) ^^^ (Sha.rotr ((Bq).getD ((q) - (2)) 0) 19))) rfl) (vr (U (((Bq).getD ((q) - (2)) 0) >>> 10)) rfl) rfl (u_xor _ _ _) (oA rfl (oZ (tN (hK63 _ _ ?_))))))))))
  refine wpF_draw_store 15 (fun (a_ b_ : World) => b_.heap[n11]? = some (.cells (((Bq).set (q) ((((Sha.high ((Bq).getD ((q) - (2)) 0)) + ((Bq).getD ((q) - (7)) 0)) + (Sha.low ((Bq).getD ((q) - (15)) 0))) + ((Bq).getD ((q) - (16)) 0))).map fun x => U x).toArray 95 (0, 0)) ∧ a_.grownBy b_ (some n11) ∧ b_.heap.size = a_.heap.size) [Is (NI q), Is (U (Sha.high ((Bq).getD ((q) - (2)) 0))), Is (NI q), Is (NI ((q) - (7))), Is (.pointer (some ⟨n11, (q) - (7), none⟩)), Is (U ((Bq).getD ((q) - (7)) 0)), Is (U ((Sha.high ((Bq).getD ((q) - (2)) 0)) + ((Bq).getD ((q) - (7)) 0))), Is (U (Sha.low ((Bq).getD ((q) - (15)) 0))), Is (U (((Sha.high ((Bq).getD ((q) - (2)) 0)) + ((Bq).getD ((q) - (7)) 0)) + (Sha.low ((Bq).getD ((q) - (15)) 0)))), Is (NI q), Is (NI ((q) - (16))), Is (.pointer (some ⟨n11, (q) - (16), none⟩)), Is (U ((Bq).getD ((q) - (16)) 0)), Is (U ((((Sha.high ((Bq).getD ((q) - (2)) 0)) + ((Bq).getD ((q) - (7)) 0)) + (Sha.low ((Bq).getD ((q) - (15)) 0))) + ((Bq).getD ((q) - (16)) 0))), Is (PQ n11 q), (fun _ _ => True)] (by kernel_rfl) [77, 78, 79, 80, 81, 82, 83, 84, 85, 86, 87, 88, 89, 90, 91] (by kernel_rfl) (by kernel_rfl) (by kernel_rfl) rfl (si3 (si12 ⟨Stab.any, trivial⟩)) (si3 (si12 ⟨Stab.any, trivial⟩)) ?hs3013 ?hQ3013
  case hs3013 =>
   refine ⟨?_, ?_, ?_, ?_, ?_, ?_, ?_, ?_, ?_, ?_, ?_, ?_, ?_, ?_, ?_, ?_, trivial⟩
   ·refine stepN rfl fun σ w1 hC h => ?_
    have e5 := (eqo (h 5 (by decide))).trans T5
    have hC : Ext _ w1 := hC
    exact Yk.move e5 ⟨Ext.refl _, rfl⟩
   ·refine stepN rfl fun σ w1 hC h => ?_
    have e9 : σ 9 = U (Sha.high ((Bq).getD ((q) - (2)) 0)) := (eqo (h 9 (by decide))).trans rfl
    have hC : Ext _ w1 := hC
    exact Yk.move e9 ⟨Ext.refl _, rfl⟩
   ·refine stepN rfl fun σ w1 hC h => ?_
    have e5 := (eqo (h 5 (by decide))).trans T5
    have hC : Ext _ w1 := hC
    exact Yk.move e5 ⟨Ext.refl _, rfl⟩
   ·refine stepN rfl fun σ w1 hC h => ?_
    have e79 := eqo (h 79 (by decide))
    have hC : Ext _ w1 := hC
    exact Yk.bin (xv := NI q) (yv := NI 7) e79 rfl rfl (i64_sub _ _ _ (by omega) (by omega)) ⟨Ext.refl _, rfl⟩
   ·refine stepN rfl fun σ w1 hC h => ?_
    have e3 := (eqo (h 3 (by decide))).trans T3
    have e80 := eqo (h 80 (by decide))
    have hC : Ext _ w1 := hC
    exact Yk.atArr0 (i := (q) - (7)) shaW_ty95 shaW_sz93 e3 e80 (by omega) ⟨Ext.refl _, rfl⟩
   ·refine stepN rfl fun σ w1 hC h => ?_
    have e81 := eqo (h 81 (by decide))
    have hC : Ext _ w1 := hC
    exact Yk.cell1 shaW_ty93 rfl e81 (cellAt (eb hC hb21ll) (word_at (i := (q) - (7)) (by rw [hpl_q]; omega))) ⟨Ext.refl _, rfl⟩
   ·refine stepN rfl fun σ w1 hC h => ?_
    have e78 := eqo (h 78 (by decide))
    have e82 := eqo (h 82 (by decide))
    have hC : Ext _ w1 := hC
    exact Yk.bin e78 e82 rfl (u_add _ _ _) ⟨Ext.refl _, rfl⟩
   ·refine stepN rfl fun σ w1 hC h => ?_
    have e8 : σ 8 = U (Sha.low ((Bq).getD ((q) - (15)) 0)) := (eqo (h 8 (by decide))).trans rfl
    have hC : Ext _ w1 := hC
    exact Yk.move e8 ⟨Ext.refl _, rfl⟩
   ·refine stepN rfl fun σ w1 hC h => ?_
    have e83 := eqo (h 83 (by decide))
    have e84 := eqo (h 84 (by decide))
    have hC : Ext _ w1 := hC
    exact Yk.bin e83 e84 rfl (u_add _ _ _) ⟨Ext.refl _, rfl⟩
   ·refine stepN rfl fun σ w1 hC h => ?_
    have e5 := (eqo (h 5 (by decide))).trans T5
    have hC : Ext _ w1 := hC
    exact Yk.move e5 ⟨Ext.refl _, rfl⟩
   ·refine stepN rfl fun σ w1 hC h => ?_
    have e86 := eqo (h 86 (by decide))
    have hC : Ext _ w1 := hC
    exact Yk.bin (xv := NI q) (yv := NI 16) e86 rfl rfl (i64_sub _ _ _ (by omega) (by omega)) ⟨Ext.refl _, rfl⟩
   ·refine stepN rfl fun σ w1 hC h => ?_
    have e3 := (eqo (h 3 (by decide))).trans T3
    have e87 := eqo (h 87 (by decide))
    have hC : Ext _ w1 := hC
    exact Yk.atArr0 (i := (q) - (16)) shaW_ty95 shaW_sz93 e3 e87 (by omega) ⟨Ext.refl _, rfl⟩
   ·refine stepN rfl fun σ w1 hC h => ?_
    have e88 := eqo (h 88 (by decide))
    have hC : Ext _ w1 := hC
    exact Yk.cell1 shaW_ty93 rfl e88 (cellAt (eb hC hb21ll) (word_at (i := (q) - (16)) (by rw [hpl_q]; omega))) ⟨Ext.refl _, rfl⟩
   ·refine stepN rfl fun σ w1 hC h => ?_
    have e85 := eqo (h 85 (by decide))
    have e89 := eqo (h 89 (by decide))
    have hC : Ext _ w1 := hC
    exact Yk.bin e85 e89 rfl (u_add _ _ _) ⟨Ext.refl _, rfl⟩
   ·refine stepN rfl fun σ w1 hC h => ?_
    have e3 := (eqo (h 3 (by decide))).trans T3
    have e77 := eqo (h 77 (by decide))
    have hC : Ext _ w1 := hC
    exact Yk.atArr0 (i := q) shaW_ty95 shaW_sz93 e3 e77 (by omega) ⟨Ext.refl _, rfl⟩
   ·refine stepN rfl fun σ w1 hC h => ?_
    have e91 := eqo (h 91 (by decide))
    have e90 := eqo (h 90 (by decide))
    have hC : Ext _ w1 := hC
    exact Yk.storeU32 (i := q) (v := (((Sha.high ((Bq).getD ((q) - (2)) 0)) + ((Bq).getD ((q) - (7)) 0)) + (Sha.low ((Bq).getD ((q) - (15)) 0))) + ((Bq).getD ((q) - (16)) 0)) e91 e90 (eb hC hb21ll) (by rw [hpl_q]; omega) shaW_isz93 fun w2 h1 h2 h3 => ⟨⟨h1, h2, h3⟩, trivial⟩
  intro ρ72 w75 w73 hx74 hS76 he hf
  obtain ⟨-, -, -, -, -, -, -, -, -, -, -, -, -, -, -, -⟩ := hf
  obtain ⟨T0, T2, T3, T5, T6, T7, T8, T9, T10, -⟩ := he.hold [(0, _), (2, _), (3, _), (5, _), (6, _), (7, _), (8, U (Sha.low ((Bq).getD ((q) - (15)) 0))), (9, U (Sha.high ((Bq).getD ((q) - (2)) 0))), (10, _)] ⟨T0, T2, T3, T5, T6, T7, rfl, rfl, T10, trivial⟩ rfl
  clear he
  have hE := hE.trans hx74
  have hb8 := eb hx74 hb8
  have hA17 := hA17.trans hx74
  have hb21ll := eb hx74 hb21ll
  obtain ⟨hb77, hg78, hs79⟩ := hS76
  have hE := row_fresh hE hg78 (Nat.le_trans hz19 (by omega))
  have hb8 := kb hg78 hb8 (by omega)
  have hA17 := row_fresh hA17 hg78 (Nat.le_trans (Nat.le_refl _) (by omega))
  clear hb21ll
  have hb21ll := hb77; clear hb77
  have hl80 := bl hb21ll
  have hb21ll : w73.heap[n11]? = some (.cells ((Sha.pad64 (Sha.sched b (q + 1))).map fun x => U x).toArray 95 (0, 0)) := blk_eq hb21ll (congrArg (List.map fun x => U x) (by rw [hBq]; exact Sha.sched_step2 b q ht16 hc1))
  refine bN (tN (hK53 _ _ (wt (oM rfl (oS rfl (Yk.bin (xv := NI q) (yv := NI 1) T5 rfl rfl (i64_add _ _ _ (by omega)) (oA rfl (oL_ [(0, v), (2, PQ n2 0), (3, PQ n11 0), (5, NI ((q) + (1))), (6, U ((Bq).getD ((q) - (15)) 0)), (7, U ((Bq).getD ((q) - (2)) 0)), (8, U (Sha.low ((Bq).getD ((q) - (15)) 0))), (9, U (Sha.high ((Bq).getD ((q) - (2)) 0))), (10, NI t)] ⟨T0, T2, T3, rfl, T6, T7, T8, T9, T10, trivial⟩ fun ρ81 ⟨T0, T2, T3, T5, T6, T7, T8, T9, T10, _⟩ => (tN (And.intro ⟨q + 1, T0, T2, T3, T10, T5, hE, hb8, hA17, blk_eq hb21ll (rfl), by omega, by omega, trivial⟩ ?_))))))))))
  show 64 - (intOf (ρ81 5)).toNat < 64 - (intOf (ρ49 5)).toNat
  rw [T5, q5]
  simp only [intOf, Int.toNat_natCast]; omega
 obtain ⟨F, hF⟩ : ∃ F, F = Sha.sched b 64 := ⟨_, rfl⟩
 have hb21ll : w50.heap[n11]? = some (.cells ((F).map fun x => U x).toArray 95 (0, 0)) := blk_eq hb21ll (by rw [hBq, show q = 64 by omega, ← hF, Sha.pad64_full _ (by rw [hF, Sha.sched_length])])
 have hFl : F.length = 64 := by rw [hF, Sha.sched_length]
 refine wpF_exit (thenF_exit (thenF_exit (inBlockF_hit (tN (hK46 _ _ (sk fun K82 hK82 => (wt (oS rfl (Yk.loadAll T3 hb21ll shaW_ty95 rfl (by rw [List.size_toArray, List.length_map, hFl]; exact shaW_isz95) (oS rfl (Yk.storeAll T2 (vr (.agg ((F).map fun x => U x).toArray) rfl) hb8 (by rw [List.size_toArray, List.size_toArray, List.length_map, List.length_map, hFl]; rfl) (by rw [List.size_toArray, List.length_map, hFl]; exact shaW_isz95) (cellsU_one _) fun w83 hb84 hg85 hs86 => ?_)))))))))))
 have hE := row_fresh hE hg85 (Nat.le_trans (Nat.le_refl _) (by omega))
 clear hA17
 have hb21ll := kb hg85 hb21ll (by omega)
 clear hb8
 have hb8 := hb84; clear hb84
 have hl87 := bl hb8
 refine oZ (tN (hK82 _ _ (wpF_ret (postF_ret (fn := Tryd.f72) _ rfl [.agg ((F).map fun x => U x).toArray] (.agg ((F).map fun x => U x).toArray) rfl ⟨ResF.row T2 hb8 shaW_ty95 rfl (by rw [List.size_toArray, List.length_map, hFl]; exact shaW_isz95), trivial⟩ ?_))))
 rw [hF]
 exact ⟨rfl, hE⟩

theorem rounds_any (w : World) (hG : Laid w) (s : List UInt32) (hs : s.length = 8) (v : Value) (b : List UInt8) (hb : RB w v b) (hl : b.length = 64) :
  Calls Tryd.prog 61 #[.agg (cellsU s), v] w fun e w' => e = .returned (.agg (cellsU (Sha.rounds s b))) ∧ Ext w w' := by
 refine calls_of_wpF (args := [.agg ((s).map fun x => U x).toArray, v]) Tryd.func61 rfl 120 rfl (Nat.le_of_ble_eq_true rfl) ?_
 intro ρ0 hb
 have T0 : ρ0 0 = (.agg ((s).map fun x => U x).toArray : Value) := hb.get 0
 have T1 : ρ0 1 = (v : Value) := hb.get 1
 clear hb
 have hE := Ext.refl w
 refine sk fun K1 hK1 => (wt (oS rfl (Yk.box (cs := ((s).map fun x => U x : List Value).toArray) T0 fun n2 w3 hn4 hb5 hx6 hs7 => ?_)))
 have hE := hE.trans hx6
 have hb8 := hb5; clear hb5
 have hl9 : n2 < w3.heap.size := by omega
 refine oS rfl (Yk.alloc (cs := ((List.replicate 8 0).map fun x => U x).toArray) shaW_al94 fun n10 w11 hn12 hb13 hx14 hs15 => ?_)
 have hA16 := Ext.refl w3
 have hea17 := hE
 have hz18 := hE.size
 have hlt19 := lte (bl hb8) hn12
 have hE := hE.trans hx14
 have hb8 := eb hx14 hb8
 have hA16 := hA16.trans hx14
 have hb20 := hb13; clear hb13
 have hl21 : n10 < w11.heap.size := by omega
 refine oZ (tN (hK1 _ _ (sk fun K22 hK22 => (wt (oS rfl (Yk.loadAll (vr (PQ n2 0) rfl) hb8 shaW_ty94 rfl (by rw [List.size_toArray, List.length_map, hs]; exact shaW_isz94) (oS rfl (Yk.alloc (cs := ((List.replicate 8 0).map fun x => U x).toArray) shaW_al94 fun n23 w24 hn25 hb26 hx27 hs28 => ?_))))))))
 have hA29 := Ext.refl w11
 have hea30 := hE
 have hea31 := hA16
 have hz32 := hE.size
 have hz33 := hA16.size
 have hlt34 := lte (bl hb8) hn25
 have hlt35 := lte (bl hb20) hn25
 have hE := hE.trans hx27
 have hb8 := eb hx27 hb8
 have hA16 := hA16.trans hx27
 have hb20 := eb hx27 hb20
 have hA29 := hA29.trans hx27
 have hb36 := hb26; clear hb26
 have hl37 : n23 < w24.heap.size := by omega
 refine oS rfl (Yk.storeAll (vr (PQ n23 0) rfl) (vr (.agg ((s).map fun x => U x).toArray) rfl) hb36 (by rw [List.size_toArray, List.size_toArray, List.length_map, List.length_map, hs]; rfl) (by rw [List.size_toArray, List.length_map, hs]; exact shaW_isz94) (cellsU_one _) fun w38 hb39 hg40 hs41 => ?_)
 have hE := row_fresh hE hg40 (Nat.le_trans hz32 (by omega))
 have hb8 := kb hg40 hb8 (by omega)
 have hA16 := row_fresh hA16 hg40 (Nat.le_trans hz33 (by omega))
 have hb20 := kb hg40 hb20 (by omega)
 have hA29 := row_fresh hA29 hg40 (Nat.le_trans (Nat.le_refl _) (by omega))
 clear hb36
 have hb36 := hb39; clear hb39
 have hl42 := bl hb36
 refine oZ (tN (hK22 _ _ (sk fun K43 hK43 => (sk fun K44 hK44 => (wt (oM rfl (oS rfl (Yk.callA1 shaW_pl72 T1 ((schedule_any _ v b (hb.keep hE) hl).mono ?_)))))))))
 rintro e w46 ⟨rfl, hx45⟩
 refine ⟨_, rfl, ?_⟩
 have hE := hE.trans hx45
 have hb8 := eb hx45 hb8
 have hA16 := hA16.trans hx45
 have hb20 := eb hx45 hb20
 have hA29 := hA29.trans hx45
 have hb36 := eb hx45 hb36
 refine oM rfl (oL_ [(0, .agg ((s).map fun x => U x).toArray), (1, v), (2, PQ n2 0), (4, PQ n10 0), (5, PQ n23 0), (16, .agg ((Sha.sched b 64).map fun x => U x).toArray), (17, NI 0)] ⟨T0, T1, rfl, rfl, rfl, rfl, rfl, trivial⟩ fun ρ47 ⟨T0, T1, T2, T4, T5, T16, T17, _⟩ => (tN (hK44 _ _ (wpF_block (wpF_loop (fun (ρ : Slots) (wz : World) => ∃ t : Nat, ρ 0 = (.agg ((s).map fun x => U x).toArray : Value) ∧ ρ 1 = (v : Value) ∧ ρ 2 = (PQ n2 0 : Value) ∧ ρ 4 = (PQ n10 0 : Value) ∧ ρ 5 = (PQ n23 0 : Value) ∧ ρ 16 = (.agg ((Sha.sched b 64).map fun x => U x).toArray : Value) ∧ ρ 17 = (NI t : Value) ∧ Ext w wz ∧ wz.heap[n2]? = some (.cells ((s).map fun x => U x).toArray 94 (0, 0)) ∧ Ext w3 wz ∧ wz.heap[n10]? = some (.cells ((List.replicate 8 0).map fun x => U x).toArray 94 (0, 0)) ∧ Ext w11 wz ∧ wz.heap[n23]? = some (.cells (((Sha.turned s (Sha.sched b 64) t)).map fun x => U x).toArray 94 (0, 0)) ∧ (t ≤ 64) ∧ True) (fun ρ _ => 64 - (intOf (ρ 17)).toNat) ⟨0, T0, T1, T2, T4, T5, T16, T17, hE, hb8, hA16, hb20, hA29, blk_eq hb36 (rfl), Nat.zero_le _, trivial⟩ ?_)))))
 clear hb36
 clear hE hb8 hA16 hb20 hA29
 rintro ρ48 w49 ⟨t, T0, T1, T2, T4, T5, T16, T17, hE, hb8, hA16, hb20, hA29, hb36l, ht, -⟩
 have q17 := T17
 obtain ⟨V, hV⟩ : ∃ V, V = (Sha.turned s (Sha.sched b 64) t) := ⟨_, rfl⟩
 have hb36l : w49.heap[n23]? = some (.cells ((V).map fun x => U x).toArray 94 (0, 0)) := blk_eq hb36l (by rw [hV])
 have hvl : V.length = 8 := by rw [hV]; exact Sha.turned_length _ _ hs _
 refine sk fun K50 hK50 => (wt (oS rfl (Yk.eqI (a := (t : Nat)) (b := (64 : Nat)) T17 rfl (k_lss _ _ _ _) (oZ (tN (hK50 _ _ (sk fun K51 hK51 => ?_)))))))
 refine wpF_cond ((t) < (64)) (vr (.bool (decide ((t) < (64)))) rfl) (fun hc0 => ?_) (fun hc0 => ?_)
 ·refine wpF_skip (tN (hK51 _ _ (sk fun K52 hK52 => (wpF_block (sk fun K53 hK53 => (wt (oM rfl (oS rfl (Yk.idxU (l := Sha.sched b 64) (i := t) shaW_ty95 shaW_ty93 rfl shaW_sz93 T16 T17 (by omega) (Sha.sched_length _ _) (oA rfl (oA rfl (oZ (tN (hK53 _ _ (sk fun K54 hK54 => ?_)))))))))))))))
  refine wpF_draw [Is (PQ n23 4), Is (U ((V).getD (4) 0)), Is (U (Sha.rotr ((V).getD (4) 0) 6)), Is (PQ n23 4), Is (U ((V).getD (4) 0)), Is (U (Sha.rotr ((V).getD (4) 0) 11)), Is (U ((Sha.rotr ((V).getD (4) 0) 6) ^^^ (Sha.rotr ((V).getD (4) 0) 11))), Is (PQ n23 4), Is (U ((V).getD (4) 0)), Is (U (Sha.rotr ((V).getD (4) 0) 25)), Is (U (((Sha.rotr ((V).getD (4) 0) 6) ^^^ (Sha.rotr ((V).getD (4) 0) 11)) ^^^ (Sha.rotr ((V).getD (4) 0) 25))), Is (U (((Sha.rotr ((V).getD (4) 0) 6) ^^^ (Sha.rotr ((V).getD (4) 0) 11)) ^^^ (Sha.rotr ((V).getD (4) 0) 25)))] (by kernel_rfl) [21, 22, 23, 24, 25, 26, 27, 28, 29, 30, 31, 8] (by kernel_rfl) (by kernel_rfl) (si12 trivial) ?hs1005 ?hQ1005
  case hs1005 =>
   refine ⟨?_, ?_, ?_, ?_, ?_, ?_, ?_, ?_, ?_, ?_, ?_, ?_, trivial⟩
   ·refine stepN rfl fun σ w1 hC h => ?_
    have e5 := (eqo (h 5 (by decide))).trans T5
    exact Yk.atArr0 (i := 4) shaW_ty94 shaW_sz93 e5 (vr (NI 4) rfl) (by omega) ⟨Ext.refl _, rfl⟩
   ·refine stepN rfl fun σ w1 hC h => ?_
    have e21 := eqo (h 21 (by decide))
    exact Yk.cell1 shaW_ty93 rfl e21 (cellAt (eb hC hb36l) (word_at (i := 4) (by rw [hvl]; omega))) ⟨Ext.refl _, rfl⟩
   ·refine stepN rfl fun σ w1 hC h => ?_
    have e22 := eqo (h 22 (by decide))
    refine Yk.callA2 shaW_pl73 e22 (vr (NI 6) rfl) ((turn_any _ ((V).getD (4) 0) 6 (by decide)).mono ?_)
    rintro e w2 ⟨rfl, hx⟩
    exact ⟨_, rfl, hx, rfl⟩
   ·refine stepN rfl fun σ w1 hC h => ?_
    have e5 := (eqo (h 5 (by decide))).trans T5
    exact Yk.atArr0 (i := 4) shaW_ty94 shaW_sz93 e5 (vr (NI 4) rfl) (by omega) ⟨Ext.refl _, rfl⟩
   ·refine stepN rfl fun σ w1 hC h => ?_
    have e24 := eqo (h 24 (by decide))
    exact Yk.cell1 shaW_ty93 rfl e24 (cellAt (eb hC hb36l) (word_at (i := 4) (by rw [hvl]; omega))) ⟨Ext.refl _, rfl⟩
   ·refine stepN rfl fun σ w1 hC h => ?_
    have e25 := eqo (h 25 (by decide))
    refine Yk.callA2 shaW_pl73 e25 (vr (NI 11) rfl) ((turn_any _ ((V).getD (4) 0) 11 (by decide)).mono ?_)
    rintro e w2 ⟨rfl, hx⟩
    exact ⟨_, rfl, hx, rfl⟩
   ·refine stepN rfl fun σ w1 hC h => ?_
    have e23 := eqo (h 23 (by decide))
    have e26 := eqo (h 26 (by decide))
    exact Yk.bin e23 e26 rfl (u_xor _ _ _) ⟨Ext.refl _, rfl⟩
   ·refine stepN rfl fun σ w1 hC h => ?_
    have e5 := (eqo (h 5 (by decide))).trans T5
    exact Yk.atArr0 (i := 4) shaW_ty94 shaW_sz93 e5 (vr (NI 4) rfl) (by omega) ⟨Ext.refl _, rfl⟩
   ·refine stepN rfl fun σ w1 hC h => ?_
    have e28 := eqo (h 28 (by decide))
    exact Yk.cell1 shaW_ty93 rfl e28 (cellAt (eb hC hb36l) (word_at (i := 4) (by rw [hvl]; omega))) ⟨Ext.refl _, rfl⟩
   ·refine stepN rfl fun σ w1 hC h => ?_
    have e29 := eqo (h 29 (by decide))
    refine Yk.callA2 shaW_pl73 e29 (vr (NI 25) rfl) ((turn_any _ ((V).getD (4) 0) 25 (by decide)).mono ?_)
    rintro e w2 ⟨rfl, hx⟩
    exact ⟨_, rfl, hx, rfl⟩
   ·refine stepN rfl fun σ w1 hC h => ?_
    have e27 := eqo (h 27 (by decide))
    have e30 := eqo (h 30 (by decide))
    exact Yk.bin e27 e30 rfl (u_xor _ _ _) ⟨Ext.refl _, rfl⟩
   ·refine stepN rfl fun σ w1 hC h => ?_
    have e31 := eqo (h 31 (by decide))
    exact Yk.assign e31 ⟨Ext.refl _, rfl⟩
  intro ρ55 w56 hx57 he hf
  obtain ⟨-, -, -, -, -, -, -, -, -, -, -, k8, -⟩ := hf
  obtain ⟨T0, T1, T2, T4, T5, T6, T7, T16, T17, -⟩ := he.hold [(0, _), (1, _), (2, _), (4, _), (5, _), (6, _), (7, U ((Sha.sched b 64).getD (t) 0)), (16, _), (17, _)] ⟨T0, T1, T2, T4, T5, T17, rfl, T16, T17, trivial⟩ rfl
  clear he
  have hE := hE.trans hx57
  have hb8 := eb hx57 hb8
  have hA16 := hA16.trans hx57
  have hb20 := eb hx57 hb20
  have hA29 := hA29.trans hx57
  have hb36l := eb hx57 hb36l
  have T8 : ρ55 8 = U (((Sha.rotr ((V).getD (4) 0) 6) ^^^ (Sha.rotr ((V).getD (4) 0) 11)) ^^^ (Sha.rotr ((V).getD (4) 0) 25)) := k8
  clear k8
  refine tN (hK54 _ _ (sk fun K58 hK58 => (wt (oS rfl (Yk.atArr0 (i := 4) shaW_ty94 shaW_sz93 T5 (vr (NI 4) rfl) (by omega) (oS rfl (Yk.cell1 shaW_ty93 rfl (vr (PQ n23 4) rfl) (cellAt hb36l (word_at (i := 4) (by rw [hvl]; omega))) (oS rfl (Yk.atArr0 (i := 5) shaW_ty94 shaW_sz93 T5 (vr (NI 5) rfl) (by omega) (oS rfl (Yk.cell1 shaW_ty93 rfl (vr (PQ n23 5) rfl) (cellAt hb36l (word_at (i := 5) (by rw [hvl]; omega))) (oS rfl (Yk.bin (vr (U ((V).getD (4) 0)) rfl) (vr (U ((V).getD (5) 0)) rfl) rfl (u_and _ _ _) (oS rfl (Yk.atArr0 (i := 4) shaW_ty94 shaW_sz93 T5 (vr (NI 4) rfl) (by omega) (oS rfl (Yk.cell1 shaW_ty93 rfl (vr (PQ n23 4) rfl) (cellAt hb36l (word_at (i := 4) (by rw [hvl]; omega))) (oS rfl (Yk.not32 (vr (U ((V).getD (4) 0)) rfl) (oS rfl (Yk.atArr0 (i := 6) shaW_ty94 shaW_sz93 T5 (vr (NI 6) rfl) (by omega) (oS rfl (Yk.cell1 shaW_ty93 rfl (vr (PQ n23 6) rfl) (cellAt hb36l (word_at (i := 6) (by rw [hvl]; omega))) (oS rfl (Yk.bin (vr (U (~~~((V).getD (4) 0))) rfl) (vr (U ((V).getD (6) 0)) rfl) rfl (u_and _ _ _) (oS rfl (Yk.bin (vr (U (((V).getD (4) 0) &&& ((V).getD (5) 0))) rfl) (vr (U ((~~~((V).getD (4) 0)) &&& ((V).getD (6) 0))) rfl) rfl (u_xor _ _ _) (oA rfl ?_))))))))))))))))))))))))))))
  refine oZ (tN (hK58 _ _ (sk fun K59 hK59 => ?_)))
  refine wpF_draw [Is (PQ n23 7), Is (U ((V).getD (7) 0)), Is (U (((Sha.rotr ((V).getD (4) 0) 6) ^^^ (Sha.rotr ((V).getD (4) 0) 11)) ^^^ (Sha.rotr ((V).getD (4) 0) 25))), Is (U (((V).getD (7) 0) + (((Sha.rotr ((V).getD (4) 0) 6) ^^^ (Sha.rotr ((V).getD (4) 0) 11)) ^^^ (Sha.rotr ((V).getD (4) 0) 25)))), Is (U ((((V).getD (4) 0) &&& ((V).getD (5) 0)) ^^^ ((~~~((V).getD (4) 0)) &&& ((V).getD (6) 0)))), Is (U ((((V).getD (7) 0) + (((Sha.rotr ((V).getD (4) 0) 6) ^^^ (Sha.rotr ((V).getD (4) 0) 11)) ^^^ (Sha.rotr ((V).getD (4) 0) 25))) + ((((V).getD (4) 0) &&& ((V).getD (5) 0)) ^^^ ((~~~((V).getD (4) 0)) &&& ((V).getD (6) 0))))), Is (NI t), Is (PQ 1 t), Is (U (Sha.words.getD (t) 0)), Is (U (((((V).getD (7) 0) + (((Sha.rotr ((V).getD (4) 0) 6) ^^^ (Sha.rotr ((V).getD (4) 0) 11)) ^^^ (Sha.rotr ((V).getD (4) 0) 25))) + ((((V).getD (4) 0) &&& ((V).getD (5) 0)) ^^^ ((~~~((V).getD (4) 0)) &&& ((V).getD (6) 0)))) + (Sha.words.getD (t) 0))), Is (U ((Sha.sched b 64).getD (t) 0)), Is (U ((((((V).getD (7) 0) + (((Sha.rotr ((V).getD (4) 0) 6) ^^^ (Sha.rotr ((V).getD (4) 0) 11)) ^^^ (Sha.rotr ((V).getD (4) 0) 25))) + ((((V).getD (4) 0) &&& ((V).getD (5) 0)) ^^^ ((~~~((V).getD (4) 0)) &&& ((V).getD (6) 0)))) + (Sha.words.getD (t) 0)) + ((Sha.sched b 64).getD (t) 0))), Is (U ((((((V).getD (7) 0) + (((Sha.rotr ((V).getD (4) 0) 6) ^^^ (Sha.rotr ((V).getD (4) 0) 11)) ^^^ (Sha.rotr ((V).getD (4) 0) 25))) + ((((V).getD (4) 0) &&& ((V).getD (5) 0)) ^^^ ((~~~((V).getD (4) 0)) &&& ((V).getD (6) 0)))) + (Sha.words.getD (t) 0)) + ((Sha.sched b 64).getD (t) 0)))] (by kernel_rfl) [44, 45, 46, 47, 48, 49, 50, 51, 52, 53, 54, 55, 10] (by kernel_rfl) (by kernel_rfl) ⟨Stab.is _, (si12 trivial)⟩ ?hs2007 ?hQ2007
  case hs2007 =>
   refine ⟨?_, ?_, ?_, ?_, ?_, ?_, ?_, ?_, ?_, ?_, ?_, ?_, ?_, trivial⟩
   ·refine stepN rfl fun σ w1 hC h => ?_
    have e5 := (eqo (h 5 (by decide))).trans T5
    exact Yk.atArr0 (i := 7) shaW_ty94 shaW_sz93 e5 (vr (NI 7) rfl) (by omega) ⟨Ext.refl _, rfl⟩
   ·refine stepN rfl fun σ w1 hC h => ?_
    have e44 := eqo (h 44 (by decide))
    exact Yk.cell1 shaW_ty93 rfl e44 (cellAt (eb hC hb36l) (word_at (i := 7) (by rw [hvl]; omega))) ⟨Ext.refl _, rfl⟩
   ·refine stepN rfl fun σ w1 hC h => ?_
    have e8 := (eqo (h 8 (by decide))).trans T8
    exact Yk.move e8 ⟨Ext.refl _, rfl⟩
   ·refine stepN rfl fun σ w1 hC h => ?_
    have e45 := eqo (h 45 (by decide))
    have e46 := eqo (h 46 (by decide))
    exact Yk.bin e45 e46 rfl (u_add _ _ _) ⟨Ext.refl _, rfl⟩
   ·refine stepN rfl fun σ w1 hC h => ?_
    have e9 : σ 9 = U ((((V).getD (4) 0) &&& ((V).getD (5) 0)) ^^^ ((~~~((V).getD (4) 0)) &&& ((V).getD (6) 0))) := (eqo (h 9 (by decide))).trans rfl
    exact Yk.move e9 ⟨Ext.refl _, rfl⟩
   ·refine stepN rfl fun σ w1 hC h => ?_
    have e47 := eqo (h 47 (by decide))
    have e48 := eqo (h 48 (by decide))
    exact Yk.bin e47 e48 rfl (u_add _ _ _) ⟨Ext.refl _, rfl⟩
   ·refine stepN rfl fun σ w1 hC h => ?_
    have e6 := (eqo (h 6 (by decide))).trans T6
    exact Yk.move e6 ⟨Ext.refl _, rfl⟩
   ·refine stepN rfl fun σ w1 hC h => ?_
    have e50 := eqo (h 50 (by decide))
    exact Yk.atArr0 (i := t) shaW_ty95 shaW_sz93 (vr (PQ 1 0) rfl) e50 (by omega) ⟨Ext.refl _, rfl⟩
   ·refine stepN rfl fun σ w1 hC h => ?_
    have e51 := eqo (h 51 (by decide))
    exact Yk.cell1 shaW_ty93 rfl e51 (by obtain ⟨tG_, fG_, hG_⟩ := Laid.words (hG.keep (hE.trans hC)); exact cellAt (l := Sha.words.map fun x => U x) hG_ (word_at (l := Sha.words) (i := t) (by show _ < 64; omega))) ⟨Ext.refl _, rfl⟩
   ·refine stepN rfl fun σ w1 hC h => ?_
    have e49 := eqo (h 49 (by decide))
    have e52 := eqo (h 52 (by decide))
    exact Yk.bin e49 e52 rfl (u_add _ _ _) ⟨Ext.refl _, rfl⟩
   ·refine stepN rfl fun σ w1 hC h => ?_
    have e7 := (eqo (h 7 (by decide))).trans T7
    exact Yk.move e7 ⟨Ext.refl _, rfl⟩
   ·refine stepN rfl fun σ w1 hC h => ?_
    have e53 := eqo (h 53 (by decide))
    have e54 := eqo (h 54 (by decide))
    exact Yk.bin e53 e54 rfl (u_add _ _ _) ⟨Ext.refl _, rfl⟩
   ·refine stepN rfl fun σ w1 hC h => ?_
    have e55 := eqo (h 55 (by decide))
    exact Yk.assign e55 ⟨Ext.refl _, rfl⟩
  intro ρ60 w61 hx62 he hf
  obtain ⟨-, -, -, -, -, -, -, -, -, -, -, -, k10, -⟩ := hf
  obtain ⟨T0, T1, T2, T4, T5, T6, T7, T8, T9, T16, T17, -⟩ := he.hold [(0, _), (1, _), (2, _), (4, _), (5, _), (6, _), (7, _), (8, _), (9, U ((((V).getD (4) 0) &&& ((V).getD (5) 0)) ^^^ ((~~~((V).getD (4) 0)) &&& ((V).getD (6) 0)))), (16, _), (17, _)] ⟨T0, T1, T2, T4, T5, T6, T7, T8, rfl, T16, T17, trivial⟩ rfl
  clear he
  have hE := hE.trans hx62
  have hb8 := eb hx62 hb8
  have hA16 := hA16.trans hx62
  have hb20 := eb hx62 hb20
  have hA29 := hA29.trans hx62
  have hb36l := eb hx62 hb36l
  have T10 : ρ60 10 = U ((((((V).getD (7) 0) + (((Sha.rotr ((V).getD (4) 0) 6) ^^^ (Sha.rotr ((V).getD (4) 0) 11)) ^^^ (Sha.rotr ((V).getD (4) 0) 25))) + ((((V).getD (4) 0) &&& ((V).getD (5) 0)) ^^^ ((~~~((V).getD (4) 0)) &&& ((V).getD (6) 0)))) + (Sha.words.getD (t) 0)) + ((Sha.sched b 64).getD (t) 0)) := k10
  clear k10
  refine tN (hK59 _ _ (sk fun K63 hK63 => ?_))
  refine wpF_draw [Is (PQ n23 0), Is (U ((V).getD (0) 0)), Is (U (Sha.rotr ((V).getD (0) 0) 2)), Is (PQ n23 0), Is (U ((V).getD (0) 0)), Is (U (Sha.rotr ((V).getD (0) 0) 13)), Is (U ((Sha.rotr ((V).getD (0) 0) 2) ^^^ (Sha.rotr ((V).getD (0) 0) 13))), Is (PQ n23 0), Is (U ((V).getD (0) 0)), Is (U (Sha.rotr ((V).getD (0) 0) 22)), Is (U (((Sha.rotr ((V).getD (0) 0) 2) ^^^ (Sha.rotr ((V).getD (0) 0) 13)) ^^^ (Sha.rotr ((V).getD (0) 0) 22))), Is (U (((Sha.rotr ((V).getD (0) 0) 2) ^^^ (Sha.rotr ((V).getD (0) 0) 13)) ^^^ (Sha.rotr ((V).getD (0) 0) 22)))] (by kernel_rfl) [56, 57, 58, 59, 60, 61, 62, 63, 64, 65, 66, 11] (by kernel_rfl) (by kernel_rfl) (si12 trivial) ?hs3008 ?hQ3008
  case hs3008 =>
   refine ⟨?_, ?_, ?_, ?_, ?_, ?_, ?_, ?_, ?_, ?_, ?_, ?_, trivial⟩
   ·refine stepN rfl fun σ w1 hC h => ?_
    have e5 := (eqo (h 5 (by decide))).trans T5
    exact Yk.atArr0 (i := 0) shaW_ty94 shaW_sz93 e5 (vr (NI 0) rfl) (by omega) ⟨Ext.refl _, rfl⟩
   ·refine stepN rfl fun σ w1 hC h => ?_
    have e56 := eqo (h 56 (by decide))
    exact Yk.cell1 shaW_ty93 rfl e56 (cellAt (eb hC hb36l) (word_at (i := 0) (by rw [hvl]; omega))) ⟨Ext.refl _, rfl⟩
   ·refine stepN rfl fun σ w1 hC h => ?_
    have e57 := eqo (h 57 (by decide))
    refine Yk.callA2 shaW_pl73 e57 (vr (NI 2) rfl) ((turn_any _ ((V).getD (0) 0) 2 (by decide)).mono ?_)
    rintro e w2 ⟨rfl, hx⟩
    exact ⟨_, rfl, hx, rfl⟩
   ·refine stepN rfl fun σ w1 hC h => ?_
    have e5 := (eqo (h 5 (by decide))).trans T5
    exact Yk.atArr0 (i := 0) shaW_ty94 shaW_sz93 e5 (vr (NI 0) rfl) (by omega) ⟨Ext.refl _, rfl⟩
   ·refine stepN rfl fun σ w1 hC h => ?_
    have e59 := eqo (h 59 (by decide))
    exact Yk.cell1 shaW_ty93 rfl e59 (cellAt (eb hC hb36l) (word_at (i := 0) (by rw [hvl]; omega))) ⟨Ext.refl _, rfl⟩
   ·refine stepN rfl fun σ w1 hC h => ?_
    have e60 := eqo (h 60 (by decide))
    refine Yk.callA2 shaW_pl73 e60 (vr (NI 13) rfl) ((turn_any _ ((V).getD (0) 0) 13 (by decide)).mono ?_)
    rintro e w2 ⟨rfl, hx⟩
    exact ⟨_, rfl, hx, rfl⟩
   ·refine stepN rfl fun σ w1 hC h => ?_
    have e58 := eqo (h 58 (by decide))
    have e61 := eqo (h 61 (by decide))
    exact Yk.bin e58 e61 rfl (u_xor _ _ _) ⟨Ext.refl _, rfl⟩
   ·refine stepN rfl fun σ w1 hC h => ?_
    have e5 := (eqo (h 5 (by decide))).trans T5
    exact Yk.atArr0 (i := 0) shaW_ty94 shaW_sz93 e5 (vr (NI 0) rfl) (by omega) ⟨Ext.refl _, rfl⟩
   ·refine stepN rfl fun σ w1 hC h => ?_
    have e63 := eqo (h 63 (by decide))
    exact Yk.cell1 shaW_ty93 rfl e63 (cellAt (eb hC hb36l) (word_at (i := 0) (by rw [hvl]; omega))) ⟨Ext.refl _, rfl⟩
   ·refine stepN rfl fun σ w1 hC h => ?_
    have e64 := eqo (h 64 (by decide))
    refine Yk.callA2 shaW_pl73 e64 (vr (NI 22) rfl) ((turn_any _ ((V).getD (0) 0) 22 (by decide)).mono ?_)
    rintro e w2 ⟨rfl, hx⟩
    exact ⟨_, rfl, hx, rfl⟩
   ·refine stepN rfl fun σ w1 hC h => ?_
    have e62 := eqo (h 62 (by decide))
    have e65 := eqo (h 65 (by decide))
    exact Yk.bin e62 e65 rfl (u_xor _ _ _) ⟨Ext.refl _, rfl⟩
   ·refine stepN rfl fun σ w1 hC h => ?_
    have e66 := eqo (h 66 (by decide))
    exact Yk.assign e66 ⟨Ext.refl _, rfl⟩
  intro ρ64 w65 hx66 he hf
  obtain ⟨-, -, -, -, -, -, -, -, -, -, -, k11, -⟩ := hf
  obtain ⟨T0, T1, T2, T4, T5, T6, T7, T8, T9, T10, T16, T17, -⟩ := he.hold [(0, _), (1, _), (2, _), (4, _), (5, _), (6, _), (7, _), (8, _), (9, _), (10, _), (16, _), (17, _)] ⟨T0, T1, T2, T4, T5, T6, T7, T8, T9, T10, T16, T17, trivial⟩ rfl
  clear he
  have hE := hE.trans hx66
  have hb8 := eb hx66 hb8
  have hA16 := hA16.trans hx66
  have hb20 := eb hx66 hb20
  have hA29 := hA29.trans hx66
  have hb36l := eb hx66 hb36l
  have T11 : ρ64 11 = U (((Sha.rotr ((V).getD (0) 0) 2) ^^^ (Sha.rotr ((V).getD (0) 0) 13)) ^^^ (Sha.rotr ((V).getD (0) 0) 22)) := k11
  clear k11
  refine tN (hK63 _ _ (sk fun K67 hK67 => (wt (oS rfl (Yk.atArr0 (i := 0) shaW_ty94 shaW_sz93 T5 (vr (NI 0) rfl) (by omega) (oS rfl (Yk.cell1 shaW_ty93 rfl (vr (PQ n23 0) rfl) (cellAt hb36l (word_at (i := 0) (by rw [hvl]; omega))) (oS rfl (Yk.atArr0 (i := 1) shaW_ty94 shaW_sz93 T5 (vr (NI 1) rfl) (by omega) (oS rfl (Yk.cell1 shaW_ty93 rfl (vr (PQ n23 1) rfl) (cellAt hb36l (word_at (i := 1) (by rw [hvl]; omega))) (oS rfl (Yk.bin (vr (U ((V).getD (0) 0)) rfl) (vr (U ((V).getD (1) 0)) rfl) rfl (u_and _ _ _) (oS rfl (Yk.atArr0 (i := 0) shaW_ty94 shaW_sz93 T5 (vr (NI 0) rfl) (by omega) (oS rfl (Yk.cell1 shaW_ty93 rfl (vr (PQ n23 0) rfl) (cellAt hb36l (word_at (i := 0) (by rw [hvl]; omega))) (oS rfl (Yk.atArr0 (i := 2) shaW_ty94 shaW_sz93 T5 (vr (NI 2) rfl) (by omega) (oS rfl (Yk.cell1 shaW_ty93 rfl (vr (PQ n23 2) rfl) (cellAt hb36l (word_at (i := 2) (by rw [hvl]; omega))) (oS rfl (Yk.bin (vr (U ((V).getD (0) 0)) rfl) (vr (U ((V).getD (2) 0)) rfl) rfl (u_and _ _ _) (oS rfl (Yk.bin (vr (U (((V).getD (0) 0) &&& ((V).getD (1) 0))) rfl) (vr (U (((V).getD (0) 0) &&& ((V).getD (2) 0))) rfl) rfl (u_xor _ _ _) (oS rfl (Yk.atArr0 (i := 1) shaW_ty94 shaW_sz93 T5 (vr (NI 1) rfl) (by omega) (oS rfl (Yk.cell1 shaW_ty93 rfl (vr (PQ n23 1) rfl) (cellAt hb36l (word_at (i := 1) (by rw [hvl]; omega))) ?_)))))))))))))))))))))))))))))
  refine oS rfl (Yk.atArr0 (i := 2) shaW_ty94 shaW_sz93 T5 (vr (NI 2) rfl) (by omega) (oS rfl (Yk.cell1 shaW_ty93 rfl (vr (PQ n23 2) rfl) (cellAt hb36l (word_at (i := 2) (by rw [hvl]; omega))) (oS rfl (Yk.bin (vr (U ((V).getD (1) 0)) rfl) (vr (U ((V).getD (2) 0)) rfl) rfl (u_and _ _ _) (oS rfl (Yk.bin (vr (U ((((V).getD (0) 0) &&& ((V).getD (1) 0)) ^^^ (((V).getD (0) 0) &&& ((V).getD (2) 0)))) rfl) (vr (U (((V).getD (1) 0) &&& ((V).getD (2) 0))) rfl) rfl (u_xor _ _ _) (oA rfl (oZ (tN (hK67 _ _ (wt (oM rfl (oM rfl (oS rfl (Yk.bin T10 T11 rfl (u_add _ _ _) (oM rfl (oS rfl (Yk.bin (vr (U (((((((V).getD (7) 0) + (((Sha.rotr ((V).getD (4) 0) 6) ^^^ (Sha.rotr ((V).getD (4) 0) 11)) ^^^ (Sha.rotr ((V).getD (4) 0) 25))) + ((((V).getD (4) 0) &&& ((V).getD (5) 0)) ^^^ ((~~~((V).getD (4) 0)) &&& ((V).getD (6) 0)))) + (Sha.words.getD (t) 0)) + ((Sha.sched b 64).getD (t) 0)) + (((Sha.rotr ((V).getD (0) 0) 2) ^^^ (Sha.rotr ((V).getD (0) 0) 13)) ^^^ (Sha.rotr ((V).getD (0) 0) 22)))) rfl) (vr (U (((((V).getD (0) 0) &&& ((V).getD (1) 0)) ^^^ (((V).getD (0) 0) &&& ((V).getD (2) 0))) ^^^ (((V).getD (1) 0) &&& ((V).getD (2) 0)))) rfl) rfl (u_add _ _ _) (oS rfl (Yk.atArr0 (i := 0) shaW_ty94 shaW_sz93 T5 (vr (NI 0) rfl) (by omega) (oS rfl (Yk.cell1 shaW_ty93 rfl (vr (PQ n23 0) rfl) (cellAt hb36l (word_at (i := 0) (by rw [hvl]; omega))) (oS rfl (Yk.atArr0 (i := 1) shaW_ty94 shaW_sz93 T5 (vr (NI 1) rfl) (by omega) ?_)))))))))))))))))))))))))
  refine oS rfl (Yk.cell1 shaW_ty93 rfl (vr (PQ n23 1) rfl) (cellAt hb36l (word_at (i := 1) (by rw [hvl]; omega))) (oS rfl (Yk.atArr0 (i := 2) shaW_ty94 shaW_sz93 T5 (vr (NI 2) rfl) (by omega) (oS rfl (Yk.cell1 shaW_ty93 rfl (vr (PQ n23 2) rfl) (cellAt hb36l (word_at (i := 2) (by rw [hvl]; omega))) (oS rfl (Yk.atArr0 (i := 3) shaW_ty94 shaW_sz93 T5 (vr (NI 3) rfl) (by omega) (oS rfl (Yk.cell1 shaW_ty93 rfl (vr (PQ n23 3) rfl) (cellAt hb36l (word_at (i := 3) (by rw [hvl]; omega))) (oM rfl (oS rfl (Yk.bin (vr (U ((V).getD (3) 0)) rfl) T10 rfl (u_add _ _ _) (oS rfl (Yk.atArr0 (i := 4) shaW_ty94 shaW_sz93 T5 (vr (NI 4) rfl) (by omega) (oS rfl (Yk.cell1 shaW_ty93 rfl (vr (PQ n23 4) rfl) (cellAt hb36l (word_at (i := 4) (by rw [hvl]; omega))) (oS rfl (Yk.atArr0 (i := 5) shaW_ty94 shaW_sz93 T5 (vr (NI 5) rfl) (by omega) (oS rfl (Yk.cell1 shaW_ty93 rfl (vr (PQ n23 5) rfl) (cellAt hb36l (word_at (i := 5) (by rw [hvl]; omega))) (oS rfl (Yk.atArr0 (i := 6) shaW_ty94 shaW_sz93 T5 (vr (NI 6) rfl) (by omega) (oS rfl (Yk.cell1 shaW_ty93 rfl (vr (PQ n23 6) rfl) (cellAt hb36l (word_at (i := 6) (by rw [hvl]; omega))) (oS rfl (Yk.build8 (vr (U ((((((((V).getD (7) 0) + (((Sha.rotr ((V).getD (4) 0) 6) ^^^ (Sha.rotr ((V).getD (4) 0) 11)) ^^^ (Sha.rotr ((V).getD (4) 0) 25))) + ((((V).getD (4) 0) &&& ((V).getD (5) 0)) ^^^ ((~~~((V).getD (4) 0)) &&& ((V).getD (6) 0)))) + (Sha.words.getD (t) 0)) + ((Sha.sched b 64).getD (t) 0)) + (((Sha.rotr ((V).getD (0) 0) 2) ^^^ (Sha.rotr ((V).getD (0) 0) 13)) ^^^ (Sha.rotr ((V).getD (0) 0) 22))) + (((((V).getD (0) 0) &&& ((V).getD (1) 0)) ^^^ (((V).getD (0) 0) &&& ((V).getD (2) 0))) ^^^ (((V).getD (1) 0) &&& ((V).getD (2) 0))))) rfl) (vr (U ((V).getD (0) 0)) rfl) (vr (U ((V).getD (1) 0)) rfl) (vr (U ((V).getD (2) 0)) rfl) (vr (U (((V).getD (3) 0) + ((((((V).getD (7) 0) + (((Sha.rotr ((V).getD (4) 0) 6) ^^^ (Sha.rotr ((V).getD (4) 0) 11)) ^^^ (Sha.rotr ((V).getD (4) 0) 25))) + ((((V).getD (4) 0) &&& ((V).getD (5) 0)) ^^^ ((~~~((V).getD (4) 0)) &&& ((V).getD (6) 0)))) + (Sha.words.getD (t) 0)) + ((Sha.sched b 64).getD (t) 0)))) rfl) (vr (U ((V).getD (4) 0)) rfl) (vr (U ((V).getD (5) 0)) rfl) (vr (U ((V).getD (6) 0)) rfl) (fun w => shaW_bA8 _ _ _ _ _ _ _ _ w) (oS rfl (Yk.storeAll T5 (vr (.agg ((Sha.round V (Sha.words.getD (t) 0) ((Sha.sched b 64).getD (t) 0)).map fun x => U x).toArray) rfl) hb36l (by rw [List.size_toArray, List.size_toArray, List.length_map, List.length_map, hvl]; rfl) (shaW_isz94) (cellsU_one _) fun w68 hb69 hg70 hs71 => ?_))))))))))))))))))))))))))))
  have hE := row_fresh hE hg70 (Nat.le_trans hz32 (by omega))
  have hb8 := kb hg70 hb8 (by omega)
  have hA16 := row_fresh hA16 hg70 (Nat.le_trans hz33 (by omega))
  have hb20 := kb hg70 hb20 (by omega)
  have hA29 := row_fresh hA29 hg70 (Nat.le_trans (Nat.le_refl _) (by omega))
  clear hb36l
  have hb36l := hb69; clear hb69
  have hl72 := bl hb36l
  refine oL_ [(0, .agg ((s).map fun x => U x).toArray), (1, v), (2, PQ n2 0), (4, PQ n10 0), (5, PQ n23 0), (6, NI t), (7, U ((Sha.sched b 64).getD (t) 0)), (8, U (((Sha.rotr ((V).getD (4) 0) 6) ^^^ (Sha.rotr ((V).getD (4) 0) 11)) ^^^ (Sha.rotr ((V).getD (4) 0) 25))), (9, U ((((V).getD (4) 0) &&& ((V).getD (5) 0)) ^^^ ((~~~((V).getD (4) 0)) &&& ((V).getD (6) 0)))), (10, U ((((((V).getD (7) 0) + (((Sha.rotr ((V).getD (4) 0) 6) ^^^ (Sha.rotr ((V).getD (4) 0) 11)) ^^^ (Sha.rotr ((V).getD (4) 0) 25))) + ((((V).getD (4) 0) &&& ((V).getD (5) 0)) ^^^ ((~~~((V).getD (4) 0)) &&& ((V).getD (6) 0)))) + (Sha.words.getD (t) 0)) + ((Sha.sched b 64).getD (t) 0))), (11, U (((Sha.rotr ((V).getD (0) 0) 2) ^^^ (Sha.rotr ((V).getD (0) 0) 13)) ^^^ (Sha.rotr ((V).getD (0) 0) 22))), (12, U (((((V).getD (0) 0) &&& ((V).getD (1) 0)) ^^^ (((V).getD (0) 0) &&& ((V).getD (2) 0))) ^^^ (((V).getD (1) 0) &&& ((V).getD (2) 0)))), (16, .agg ((Sha.sched b 64).map fun x => U x).toArray), (17, NI t)] ⟨T0, T1, T2, T4, T5, T6, T7, T8, T9, T10, T11, rfl, T16, T17, trivial⟩ fun ρ73 ⟨T0, T1, T2, T4, T5, T6, T7, T8, T9, T10, T11, T12, T16, T17, _⟩ => (bN (tN (hK52 _ _ (wt (oS rfl (Yk.bin (xv := NI t) (yv := NI 1) T17 rfl rfl (i64_add _ _ _ (by omega)) (oM rfl (oL_ [(0, .agg ((s).map fun x => U x).toArray), (1, v), (2, PQ n2 0), (4, PQ n10 0), (5, PQ n23 0), (6, NI t), (7, U ((Sha.sched b 64).getD (t) 0)), (8, U (((Sha.rotr ((V).getD (4) 0) 6) ^^^ (Sha.rotr ((V).getD (4) 0) 11)) ^^^ (Sha.rotr ((V).getD (4) 0) 25))), (9, U ((((V).getD (4) 0) &&& ((V).getD (5) 0)) ^^^ ((~~~((V).getD (4) 0)) &&& ((V).getD (6) 0)))), (10, U ((((((V).getD (7) 0) + (((Sha.rotr ((V).getD (4) 0) 6) ^^^ (Sha.rotr ((V).getD (4) 0) 11)) ^^^ (Sha.rotr ((V).getD (4) 0) 25))) + ((((V).getD (4) 0) &&& ((V).getD (5) 0)) ^^^ ((~~~((V).getD (4) 0)) &&& ((V).getD (6) 0)))) + (Sha.words.getD (t) 0)) + ((Sha.sched b 64).getD (t) 0))), (11, U (((Sha.rotr ((V).getD (0) 0) 2) ^^^ (Sha.rotr ((V).getD (0) 0) 13)) ^^^ (Sha.rotr ((V).getD (0) 0) 22))), (12, U (((((V).getD (0) 0) &&& ((V).getD (1) 0)) ^^^ (((V).getD (0) 0) &&& ((V).getD (2) 0))) ^^^ (((V).getD (1) 0) &&& ((V).getD (2) 0)))), (16, .agg ((Sha.sched b 64).map fun x => U x).toArray), (17, NI ((t) + (1)))] ⟨T0, T1, T2, T4, T5, T6, T7, T8, T9, T10, T11, T12, T16, rfl, trivial⟩ fun ρ74 ⟨T0, T1, T2, T4, T5, T6, T7, T8, T9, T10, T11, T12, T16, T17, _⟩ => (tN (And.intro ⟨t + 1, T0, T1, T2, T4, T5, T16, T17, hE, hb8, hA16, hb20, hA29, blk_eq hb36l (congrArg (List.map fun x => U x) (by rw [hV]; rfl)), by omega, trivial⟩ ?_))))))))))
  show 64 - (intOf (ρ74 17)).toNat < 64 - (intOf (ρ48 17)).toNat
  rw [T17, q17]
  simp only [intOf, Int.toNat_natCast]; omega
 obtain ⟨T, hT⟩ : ∃ T, T = Sha.turned s (Sha.sched b 64) 64 := ⟨_, rfl⟩
 have hTl : T.length = 8 := by rw [hT, Sha.turned_length _ _ hs]
 have hb36l : w49.heap[n23]? = some (.cells ((T).map fun x => U x).toArray 94 (0, 0)) := blk_eq hb36l (by rw [hV, show t = 64 by omega, ← hT])
 refine wpF_exit (thenF_exit (thenF_exit (inBlockF_hit (tN (hK43 _ _ (sk fun K75 hK75 => (sk fun K76 hK76 => (wt (oM rfl (oL_ [(0, .agg ((s).map fun x => U x).toArray), (1, v), (2, PQ n2 0), (4, PQ n10 0), (5, PQ n23 0), (16, .agg ((Sha.sched b 64).map fun x => U x).toArray), (17, NI t), (107, NI 0)] ⟨T0, T1, T2, T4, T5, T16, T17, rfl, trivial⟩ fun ρ77 ⟨T0, T1, T2, T4, T5, T16, T17, T107, _⟩ => (tN (hK76 _ _ (wpF_block (wpF_loop (fun (ρ : Slots) (wz : World) => ∃ i : Nat, ρ 0 = (.agg ((s).map fun x => U x).toArray : Value) ∧ ρ 1 = (v : Value) ∧ ρ 2 = (PQ n2 0 : Value) ∧ ρ 4 = (PQ n10 0 : Value) ∧ ρ 5 = (PQ n23 0 : Value) ∧ ρ 16 = (.agg ((Sha.sched b 64).map fun x => U x).toArray : Value) ∧ ρ 17 = (NI t : Value) ∧ ρ 107 = (NI i : Value) ∧ Ext w wz ∧ wz.heap[n2]? = some (.cells ((s).map fun x => U x).toArray 94 (0, 0)) ∧ Ext w3 wz ∧ wz.heap[n10]? = some (.cells ((List.replicate 8 0).map fun x => U x).toArray 94 (0, 0)) ∧ Ext w11 wz ∧ wz.heap[n23]? = some (.cells ((Sha.adding T s i).map fun x => U x).toArray 94 (0, 0)) ∧ (i ≤ 8) ∧ True) (fun ρ _ => 8 - (intOf (ρ 107)).toNat) ⟨0, T0, T1, T2, T4, T5, T16, T17, T107, hE, hb8, hA16, hb20, hA29, blk_eq hb36l (rfl), Nat.zero_le _, trivial⟩ ?_))))))))))))))
 clear hb36l
 clear hE hb8 hA16 hb20 hA29
 rintro ρ78 w79 ⟨i, T0, T1, T2, T4, T5, T16, T17, T107, hE, hb8, hA16, hb20, hA29, hb36ll, hi, -⟩
 have q107 := T107
 have hal : (Sha.adding T s i).length = 8 := by rw [Sha.adding_length, hTl]
 refine sk fun K80 hK80 => (wt (oS rfl (Yk.eqI (a := (i : Nat)) (b := (8 : Nat)) T107 rfl (k_lss _ _ _ _) (oZ (tN (hK80 _ _ (sk fun K81 hK81 => ?_)))))))
 refine wpF_cond ((i) < (8)) (vr (.bool (decide ((i) < (8)))) rfl) (fun hc1 => ?_) (fun hc1 => ?_)
 ·refine wpF_skip (tN (hK81 _ _ (sk fun K82 hK82 => (wpF_block (sk fun K83 hK83 => (wt (oM rfl (oA rfl (oZ (tN (hK83 _ _ ?_)))))))))))
  refine wpF_draw_store 8 (fun (a_ b_ : World) => b_.heap[n23]? = some (.cells (((Sha.adding T s i).set (i) (((Sha.adding T s i).getD (i) 0) + ((s).getD (i) 0))).map fun x => U x).toArray 94 (0, 0)) ∧ a_.grownBy b_ (some n23) ∧ b_.heap.size = a_.heap.size) [Is (NI i), Is (PQ n23 i), Is (U ((Sha.adding T s i).getD (i) 0)), Is (NI i), Is (PQ n2 i), Is (U ((s).getD (i) 0)), Is (U (((Sha.adding T s i).getD (i) 0) + ((s).getD (i) 0))), Is (PQ n23 i), (fun _ _ => True)] (by kernel_rfl) [110, 111, 112, 113, 114, 115, 116, 117] (by kernel_rfl) (by kernel_rfl) (by kernel_rfl) rfl (si8 ⟨Stab.any, trivial⟩) (si8 ⟨Stab.any, trivial⟩) ?hs4015 ?hQ4015
  case hs4015 =>
   refine ⟨?_, ?_, ?_, ?_, ?_, ?_, ?_, ?_, ?_, trivial⟩
   ·refine stepN rfl fun σ w1 hC h => ?_
    have e13 := (eqo (h 13 (by decide))).trans T107
    have hC : Ext _ w1 := hC
    exact Yk.move e13 ⟨Ext.refl _, rfl⟩
   ·refine stepN rfl fun σ w1 hC h => ?_
    have e5 := (eqo (h 5 (by decide))).trans T5
    have e110 := eqo (h 110 (by decide))
    have hC : Ext _ w1 := hC
    exact Yk.atArr0 (i := i) shaW_ty94 shaW_sz93 e5 e110 (by omega) ⟨Ext.refl _, rfl⟩
   ·refine stepN rfl fun σ w1 hC h => ?_
    have e111 := eqo (h 111 (by decide))
    have hC : Ext _ w1 := hC
    exact Yk.cell1 shaW_ty93 rfl e111 (cellAt (eb hC hb36ll) (word_at (i := i) (by rw [hal]; omega))) ⟨Ext.refl _, rfl⟩
   ·refine stepN rfl fun σ w1 hC h => ?_
    have e13 := (eqo (h 13 (by decide))).trans T107
    have hC : Ext _ w1 := hC
    exact Yk.move e13 ⟨Ext.refl _, rfl⟩
   ·refine stepN rfl fun σ w1 hC h => ?_
    have e2 := (eqo (h 2 (by decide))).trans T2
    have e113 := eqo (h 113 (by decide))
    have hC : Ext _ w1 := hC
    exact Yk.atArr0 (i := i) shaW_ty94 shaW_sz93 e2 e113 (by omega) ⟨Ext.refl _, rfl⟩
   ·refine stepN rfl fun σ w1 hC h => ?_
    have e114 := eqo (h 114 (by decide))
    have hC : Ext _ w1 := hC
    exact Yk.cell1 shaW_ty93 rfl e114 (cellAt (eb hC hb8) (word_at (i := i) (by rw [hs]; omega))) ⟨Ext.refl _, rfl⟩
   ·refine stepN rfl fun σ w1 hC h => ?_
    have e112 := eqo (h 112 (by decide))
    have e115 := eqo (h 115 (by decide))
    have hC : Ext _ w1 := hC
    exact Yk.bin e112 e115 rfl (u_add _ _ _) ⟨Ext.refl _, rfl⟩
   ·refine stepN rfl fun σ w1 hC h => ?_
    have e5 := (eqo (h 5 (by decide))).trans T5
    have e110 := eqo (h 110 (by decide))
    have hC : Ext _ w1 := hC
    exact Yk.atArr0 (i := i) shaW_ty94 shaW_sz93 e5 e110 (by omega) ⟨Ext.refl _, rfl⟩
   ·refine stepN rfl fun σ w1 hC h => ?_
    have e117 := eqo (h 117 (by decide))
    have e116 := eqo (h 116 (by decide))
    have hC : Ext _ w1 := hC
    exact Yk.storeU32 (i := i) (v := ((Sha.adding T s i).getD (i) 0) + ((s).getD (i) 0)) e117 e116 (eb hC hb36ll) (by rw [hal]; omega) shaW_isz93 fun w2 h1 h2 h3 => ⟨⟨h1, h2, h3⟩, trivial⟩
  intro ρ88 w91 w89 hx90 hS92 he hf
  obtain ⟨-, -, -, -, -, -, -, -, -⟩ := hf
  obtain ⟨T0, T1, T2, T4, T5, T13, T16, T17, T107, -⟩ := he.hold [(0, _), (1, _), (2, _), (4, _), (5, _), (13, _), (16, _), (17, _), (107, _)] ⟨T0, T1, T2, T4, T5, T107, T16, T17, T107, trivial⟩ rfl
  clear he
  have hE := hE.trans hx90
  have hb8 := eb hx90 hb8
  have hA16 := hA16.trans hx90
  have hb20 := eb hx90 hb20
  have hA29 := hA29.trans hx90
  have hb36ll := eb hx90 hb36ll
  obtain ⟨hb93, hg94, hs95⟩ := hS92
  have hE := row_fresh hE hg94 (Nat.le_trans hz32 (by omega))
  have hb8 := kb hg94 hb8 (by omega)
  have hA16 := row_fresh hA16 hg94 (Nat.le_trans hz33 (by omega))
  have hb20 := kb hg94 hb20 (by omega)
  have hA29 := row_fresh hA29 hg94 (Nat.le_trans (Nat.le_refl _) (by omega))
  clear hb36ll
  have hb36ll := hb93; clear hb93
  have hl96 := bl hb36ll
  have hb36ll : w89.heap[n23]? = some (.cells ((Sha.adding T s (i + 1)).map fun x => U x).toArray 94 (0, 0)) := blk_eq hb36ll (rfl)
  refine bN (tN (hK82 _ _ (wt (oS rfl (Yk.bin (xv := NI i) (yv := NI 1) T107 rfl rfl (i64_add _ _ _ (by omega)) (oM rfl (oL_ [(0, .agg ((s).map fun x => U x).toArray), (1, v), (2, PQ n2 0), (4, PQ n10 0), (5, PQ n23 0), (13, NI i), (16, .agg ((Sha.sched b 64).map fun x => U x).toArray), (17, NI t), (107, NI ((i) + (1)))] ⟨T0, T1, T2, T4, T5, T13, T16, T17, rfl, trivial⟩ fun ρ97 ⟨T0, T1, T2, T4, T5, T13, T16, T17, T107, _⟩ => (tN (And.intro ⟨i + 1, T0, T1, T2, T4, T5, T16, T17, T107, hE, hb8, hA16, hb20, hA29, blk_eq hb36ll (rfl), by omega, trivial⟩ ?_)))))))))
  show 8 - (intOf (ρ97 107)).toNat < 8 - (intOf (ρ78 107)).toNat
  rw [T107, q107]
  simp only [intOf, Int.toNat_natCast]; omega
 obtain ⟨Q, hQ⟩ : ∃ Q, Q = Sha.rounds s b := ⟨_, rfl⟩
 have hAl : Q.length = 8 := by rw [hQ, Sha.rounds_length _ _ hs]
 have hb36ll : w79.heap[n23]? = some (.cells ((Q).map fun x => U x).toArray 94 (0, 0)) := blk_eq hb36ll (congrArg (List.map fun x => U x) ((Sha.adding_end hs hTl hi hc1).trans (by rw [hQ, hT]; rfl)))
 refine wpF_exit (thenF_exit (thenF_exit (inBlockF_hit (tN (hK75 _ _ (sk fun K98 hK98 => (wt (oS rfl (Yk.loadAll T5 hb36ll shaW_ty94 rfl (by rw [List.size_toArray, List.length_map, hAl]; exact shaW_isz94) (oS rfl (Yk.storeAll T4 (vr (.agg ((Q).map fun x => U x).toArray) rfl) hb20 (by rw [List.size_toArray, List.size_toArray, List.length_map, List.length_map, hAl]; rfl) (by rw [List.size_toArray, List.length_map, hAl]; exact shaW_isz94) (cellsU_one _) fun w99 hb100 hg101 hs102 => ?_)))))))))))
 have hE := row_fresh hE hg101 (Nat.le_trans hz18 (by omega))
 have hb8 := kb hg101 hb8 (by omega)
 have hA16 := row_fresh hA16 hg101 (Nat.le_trans (Nat.le_refl _) (by omega))
 clear hA29
 have hb36ll := kb hg101 hb36ll (by omega)
 clear hb20
 have hb20 := hb100; clear hb100
 have hl103 := bl hb20
 refine oZ (tN (hK98 _ _ (wpF_ret (postF_ret (fn := Tryd.f61) _ rfl [.agg ((Q).map fun x => U x).toArray] (.agg ((Q).map fun x => U x).toArray) rfl ⟨ResF.row T4 hb20 shaW_ty94 rfl (by rw [List.size_toArray, List.length_map, hAl]; exact shaW_isz94), trivial⟩ ?_))))
 rw [hQ]
 exact ⟨rfl, hE⟩
namespace Sha
theorem blocks_snoc : ∀ (k : Nat) (s : List UInt32) (b : List UInt8), blocks s b (k + 1) = rounds (blocks s b k) ((b.drop (64 * k)).take 64)
  | 0, s, b => by simp [blocks]
  | k + 1, s, b => by
    rw [blocks, blocks_snoc k, blocks, List.drop_drop]
    rw [show 64 + 64 * k = 64 * (k + 1) by omega]
theorem blocks_append : ∀ (k : Nat) (s : List UInt32) (b c : List UInt8), 64 * k ≤ b.length → blocks s (b ++ c) k = blocks s b k
  | 0, _, _, _, _ => rfl
  | k + 1, s, b, c, h => by
    rw [blocks, blocks, List.take_append_of_le_length (by omega), List.drop_append_of_le_length (by omega), blocks_append k _ _ _ (by rw [List.length_drop]; omega)]
structure At (p : List UInt8) (s : List UInt32) (r : List UInt8) : Prop where
  state : s = blocks first p (p.length / 64)
  len : r.length = 64
  rest : r.take (p.length % 64) = p.drop (64 * (p.length / 64))
theorem At.slen {p : List UInt8} {s : List UInt32} {r : List UInt8} (h : At p s r) : s.length = 8 := by rw [h.state]; exact blocks_length _ _ _ rfl
theorem At.put {p : List UInt8} {s : List UInt32} {r : List UInt8} (h : At p s r) (x : List UInt8) (hx : p.length % 64 + x.length < 64) :
    At (p ++ x) s (r.take (p.length % 64) ++ x ++ r.drop (p.length % 64 + x.length)) := by
  have hl : (p ++ x).length = p.length + x.length := List.length_append
  have hd : (p ++ x).length / 64 = p.length / 64 := by rw [hl]; omega
  have hm : (p ++ x).length % 64 = p.length % 64 + x.length := by rw [hl]; omega
  have hr := h.len
  refine ⟨?_, ?_, ?_⟩
  · rw [hd, blocks_append _ _ _ _ (by omega)]; exact h.state
  · simp only [List.length_append, List.length_take, List.length_drop]; omega
  · have e : (r.take (p.length % 64) ++ x).length = p.length % 64 + x.length := by rw [List.length_append, List.length_take]; omega
    rw [hm, hd, List.take_append_of_le_length (by omega), List.take_of_length_le (by omega), h.rest, List.drop_append_of_le_length (by omega)]
theorem At.fill {p : List UInt8} {s : List UInt32} {r : List UInt8} (h : At p s r) (x : List UInt8) (hx : p.length % 64 + x.length = 64) :
    At (p ++ x) (rounds s (r.take (p.length % 64) ++ x)) (r.take (p.length % 64) ++ x) := by
  have hl : (p ++ x).length = p.length + x.length := List.length_append
  have hd : (p ++ x).length / 64 = p.length / 64 + 1 := by rw [hl]; omega
  have hm : (p ++ x).length % 64 = 0 := by rw [hl]; omega
  have hr := h.len
  have e : (r.take (p.length % 64) ++ x).length = 64 := by rw [List.length_append, List.length_take]; omega
  refine ⟨?_, e, ?_⟩
  · rw [hd, blocks_snoc, blocks_append _ _ _ _ (by omega), ← h.state, List.drop_append_of_le_length (by omega), ← h.rest]
    exact congrArg _ (List.take_of_length_le (Nat.le_of_eq e)).symm
  · rw [hm, hd, List.take_zero, List.drop_of_length_le (by omega)]
theorem at_nil : At [] first (List.replicate 64 0) := ⟨rfl, by simp, by simp⟩
end Sha
open Go.RowKit
section
variable {P : Program}
theorem Yk.sliceArrL {K : Value → World → Prop} {ρ : Tmp → Value} {t e : TypeId} {n : Nat} (ht : P.underlying t = some (.array n e)) (he : ∀ w' : World, (sizeOf e).run P w' = .ok 1 w') {x lo : Operand} {d : Option Tmp} {ty : TypeId} {pos : String} {af : Array Edge} {gd : Option (Nat × Bool)} {w : World} {b o i : Nat} {k : IntKind}
    (hx : evalR ρ x = .pointer (some ⟨b, o, none⟩)) (hl : evalR ρ lo = .int k (i : Int)) (hi : i < n) (hk : K (.slice (some ⟨b, o + i, none⟩) (n - i) (n - i)) w) : Yk P K ((execOp (evalR ρ) ⟨d, .slice t x (some lo) none none, ty, pos, af, gd⟩).run P w) := by
  refine Yk.value (v := .slice (some ⟨b, o + i, none⟩) (n - i) (n - i)) (w' := w) ?_ hk
  have hE : P.elem t = e := by simp [Program.elem, ht]
  have hN : P.arrayLen t = n := by simp [Program.arrayLen, ht]
  have hr := run_sliceAt_array_l (P := P) (w := w) (t := t) (a := ⟨b, o, none⟩) (by rw [hE, hN]; exact ht) k (i : Int) (by omega) (by rw [hN]; omega)
  rw [hE, he, hN] at hr
  unfold execOp
  simp only [hx, hl, Option.map_some, Option.map_none, Sem.run_bind, hr, Result.andThen_ok, Sem.run_pure]
  have : n ≠ i := by omega
  simp [slicedAt, this, Addr.add_lit]
theorem cell_at {w : World} {b : Nat} {l : List Value} {t : TypeId} {fr : Nat × Nat} (h : w.heap[b]? = some (.cells l.toArray t fr)) {i : Nat} {v : Value} (hi : l[i]? = some v) : w.cell? ⟨b, i, none⟩ = some v := by
  simp [World.cell?, h, hi]
end
def hashL (s : List UInt32) (r : List UInt8) (f n : Nat) : List Value := (s.map fun x => U x) ++ (Lib.byteCells r ++ [NI f, NI n])
theorem hashL_length {s : List UInt32} {r : List UInt8} {f n : Nat} (hs : s.length = 8) (hr : r.length = 64) : (hashL s r f n).length = 74 := by
  simp [hashL, Lib.byteCells, hs, hr]
theorem hashL_fill {s : List UInt32} {r : List UInt8} {f n : Nat} (hs : s.length = 8) (hr : r.length = 64) : (hashL s r f n)[72]? = some (NI f) := by
  unfold hashL
  rw [List.getElem?_append_right (by simp [hs]), List.getElem?_append_right (by simp [Lib.byteCells, hs, hr])]
  simp [Lib.byteCells, hs, hr]
theorem hashL_size {s : List UInt32} {r : List UInt8} {f n : Nat} (hs : s.length = 8) (hr : r.length = 64) : (hashL s r f n)[73]? = some (NI n) := by
  unfold hashL
  rw [List.getElem?_append_right (by simp [hs]), List.getElem?_append_right (by simp [Lib.byteCells, hs, hr])]
  simp [Lib.byteCells, hs, hr]
theorem hashL_setFill {s : List UInt32} {r : List UInt8} {f n g : Nat} (hs : s.length = 8) (hr : r.length = 64) : (hashL s r f n).set 72 (NI g) = hashL s r g n := by
  unfold hashL
  rw [List.set_append_right _ _ (by simp [hs]), List.set_append_right _ _ (by simp [Lib.byteCells, hs, hr])]
  simp [Lib.byteCells, hs, hr]
theorem hashL_setSize {s : List UInt32} {r : List UInt8} {f n g : Nat} (hs : s.length = 8) (hr : r.length = 64) : (hashL s r f n).set 73 (NI g) = hashL s r f g := by
  unfold hashL
  rw [List.set_append_right _ _ (by simp [hs]), List.set_append_right _ _ (by simp [Lib.byteCells, hs, hr])]
  simp [Lib.byteCells, hs, hr]
theorem hashL_rest {s : List UInt32} {r x : List UInt8} {f n at_ : Nat} (hs : s.length = 8) (hr : r.length = 64) (hx : at_ + x.length ≤ 64) :
    (hashL s r f n).take (8 + at_) ++ Lib.byteCells x ++ (hashL s r f n).drop (8 + at_ + x.length) = hashL s (r.take at_ ++ x ++ r.drop (at_ + x.length)) f n := by
  unfold hashL
  have h8 : (s.map fun x => U x).length = 8 := by simp [hs]
  have hb : (Lib.byteCells r).length = 64 := by simp [Lib.byteCells, hr]
  rw [List.take_append, List.drop_append, h8, List.take_of_length_le (by omega), List.drop_of_length_le (l := s.map fun x => U x) (by omega)]
  rw [show 8 + at_ - 8 = at_ by omega, show 8 + at_ + x.length - 8 = at_ + x.length by omega, List.nil_append]
  rw [List.take_append_of_le_length (by omega), List.drop_append_of_le_length (by omega)]
  simp [Lib.byteCells, List.map_take, List.map_drop]
theorem hashL_state {s s' : List UInt32} {r : List UInt8} {f n : Nat} (hs : s.length = 8) : (s'.map fun x => U x) ++ (hashL s r f n).drop 8 = hashL s' r f n := by
  unfold hashL
  rw [List.drop_left' (by simp [hs])]
theorem hashL_get {s : List UInt32} {r : List UInt8} {f n : Nat} {j : Nat} {v : Value} (h : (s.map fun x => U x)[j]? = some v) : (hashL s r f n)[j]? = some v := by
  unfold hashL
  rw [List.getElem?_append_left (List.getElem?_eq_some_iff.1 h).1]
  exact h
theorem range_state {w : World} {g : Nat} {s : List UInt32} {r : List UInt8} {f n : Nat} {t : TypeId} {fr : Nat × Nat} (h : w.heap[g]? = some (.cells (hashL s r f n).toArray t fr)) : w.rangeAt g 0 (s.map fun x => U x) := fun j v hv => by
  rw [Nat.zero_add]
  exact cell_at h (hashL_get hv)
theorem rb_rest {w : World} {g : Nat} {s : List UInt32} {r : List UInt8} {f n : Nat} {t : TypeId} {fr : Nat × Nat} (hs : s.length = 8) (hr : r.length = 64) (h : w.heap[g]? = some (.cells (hashL s r f n).toArray t fr)) : RB w (.slice (some ⟨g, 8, none⟩) 64 64) r := by
  refine ⟨by simp [Lib.byteCells], some ⟨g, 8, none⟩, 64, by rw [hr], by rw [hr]; exact Nat.le_refl _, by decide, fun e => by simp at e, fun a ha j v hv => ?_⟩
  cases ha
  rw [Addr.add_lit]
  refine cell_at h ?_
  unfold hashL
  have h8 : (s.map fun x => U x).length = 8 := by simp [hs]
  rw [List.getElem?_append_right (by omega), h8, show 8 + j - 8 = j by omega, List.getElem?_append_left (List.getElem?_eq_some_iff.1 hv).1]
  exact hv
theorem Laid.kept {w w' : World} (h : Laid w) {g : Nat} (hg : w.grownBy w' (some g)) (h1 : 1 < g) : Laid w' :=
  ⟨by obtain ⟨t, fr, h2⟩ := h.first; exact ⟨t, fr, (hg.block 0 (Array.getElem?_eq_some_iff.1 h2).1 (by simp; omega)).trans h2⟩, by obtain ⟨t, fr, h2⟩ := h.words; exact ⟨t, fr, (hg.block 1 (Array.getElem?_eq_some_iff.1 h2).1 (by simp; omega)).trans h2⟩⟩
open Go.RowKit
theorem run_loadBytes {P : Program} {w : World} : ∀ (l : List UInt8) (a : Addr) (acc : ByteArray), (∀ j u, (Lib.byteCells l)[j]? = some u → w.cell? (a.add j) = some u) → (Extern.Bytes.loadBytes a l.length acc).run P w = .ok ⟨acc.data ++ l.toArray⟩ w
  | [], a, acc, _ => by simp [Extern.Bytes.loadBytes, Sem.run_pure]
  | b :: r, a, acc, h => by
    have h0 := h 0 (B8 b) (by simp [Lib.byteCells])
    have ha : a.add 0 = a := by unfold Addr.add; split <;> simp_all
    rw [ha] at h0
    have ih := run_loadBytes (P := P) (w := w) r (a.add 1) (acc.push b) (fun j u hj => by
      rw [addr_add_add]
      refine h (1 + j) u ?_
      rw [Nat.add_comm]
      simpa [Lib.byteCells] using hj)
    have hb : (((b.toNat : Nat) : Int)).toNat.toUInt8 = b := by simp
    have hl : (load a).run P w = .ok (B8 b) w := by simp [load, Sem.run, h0]
    simp only [List.length_cons, Extern.Bytes.loadBytes, Sem.run_bind, hl, Result.andThen_ok]
    rw [hb, ih]
    simp
theorem run_bytesOf {P : Program} {w : World} {v : Value} {l : List UInt8} (h : RB w v l) : (Extern.Bytes.bytesOf v).run P w = .ok ⟨l.toArray⟩ w := by
  obtain ⟨h1, ao, cap, rfl, h2, h3, h4, h5⟩ := h
  cases ao with
  | none =>
    have : l = [] := List.eq_nil_of_length_eq_zero (h4 rfl).1
    subst this
    rfl
  | some a =>
    have := run_loadBytes (P := P) (w := w) l a .empty (h5 a rfl)
    simpa [Extern.Bytes.bytesOf] using this
theorem run_compareRB {P : Program} {w : World} {x y : Value} {l m : List UInt8} (hx : RB w x l) (hy : RB w y m) : (Extern.BytealgCompare.compare #[x, y]).run P w = .ok (.int .i64 (Lib.compareBytes l m)) w := by
  change Sem.run P (do pure (goInt (Extern.BytealgCompare.cmp (← Extern.Bytes.bytesOf x) (← Extern.Bytes.bytesOf y)))) w = _
  simp only [Sem.run_bind, run_bytesOf hx, run_bytesOf hy, Sem.run_pure, Result.andThen_ok]
  rw [Lib.cmp_eq]
  rfl
section
variable {P : Program} {K : Value → World → Prop} {ρ : Slots} {w : World} {d : Option Tmp} {ty : TypeId} {pos : String} {af : Array Edge} {gd : Option (Nat × Bool)}
theorem Yk.extern2 {f : FuncId} {at_ : Array TypeId} {x y : Operand} {v0 v1 v : Value} (hx : evalR ρ x = v0) (hy : evalR ρ y = v1) (hr : (callFunc f #[v0, v1]).run P w = .ok (.value v) w) (hk : K v w) : Yk P K ((execOp (evalR ρ) ⟨d, .call ⟨.value (.func f), #[x, y], at_⟩, ty, pos, af, gd⟩).run P w) := by
  refine Yk.value (v := v) (w' := w) ?_ hk
  have hf : evalR ρ (.func f) = .func (.func f) #[] #[] := rfl
  unfold execOp
  simp [resolve, hf, Deferred.ofValue, invoke, hx, hy, hr]
theorem idsize {x y : List UInt8} (hx : x.length = 32) (hy : y.length = 32) : (Lib.byteCells x).toArray.size = (Lib.byteCells y).toArray.size := by simp [Lib.byteCells, hx, hy]
theorem bytes_len32 {x : List UInt8} (h : (Lib.byteCells x).length = 32) : x.length = 32 := by rwa [Lib.byteCells_length] at h
theorem RB.ofBlk {g : Nat} {l : List UInt8} {t : TypeId} {fr : Nat × Nat} (h : w.heap[g]? = some (.cells (Lib.byteCells l).toArray t fr)) (hl : l.length ≤ 9223372036854775807) : RB w (.slice (some ⟨g, 0, none⟩) l.length l.length) l :=
  ⟨by simp [Lib.byteCells], _, _, rfl, Nat.le_refl _, by unfold maxLen; omega, (fun h => by cases h), fun a ha j u hu => by
    cases ha
    rw [Addr.add_lit, Nat.zero_add]
    exact cellAt h hu⟩
theorem RB.ofBlkN {g n : Nat} {l : List UInt8} {t : TypeId} {fr : Nat × Nat} (h : w.heap[g]? = some (.cells (Lib.byteCells l).toArray t fr)) (hn : l.length = n) (hl : n ≤ 9223372036854775807) : RB w (.slice (some ⟨g, 0, none⟩) n n) l := by
  subst hn
  exact RB.ofBlk h hl
end
/-! ### The order of rows of bytes -/
theorem cmp_self : ∀ a : List UInt8, Lib.compareBytes a a = 0
  | [] => rfl
  | x :: a => by simp [Lib.compareBytes, UInt8.lt_irrefl, cmp_self a]
theorem cmp_range : ∀ a b : List UInt8, Lib.compareBytes a b = -1 ∨ Lib.compareBytes a b = 0 ∨ Lib.compareBytes a b = 1
  | [], [] => .inr (.inl rfl)
  | [], _ :: _ => .inl rfl
  | _ :: _, [] => .inr (.inr rfl)
  | x :: a, y :: b => by
    unfold Lib.compareBytes
    split
    · exact .inl rfl
    · split
      · exact .inr (.inr rfl)
      · exact cmp_range a b
theorem cmp_zero : ∀ {a b : List UInt8}, Lib.compareBytes a b = 0 → a = b
  | [], [], _ => rfl
  | [], _ :: _, h => by simp [Lib.compareBytes] at h
  | _ :: _, [], h => by simp [Lib.compareBytes] at h
  | x :: a, y :: b, h => by
    unfold Lib.compareBytes at h
    split at h
    · cases h
    · split at h
      · cases h
      · rename_i h1 h2
        have hxy : x = y := UInt8.le_antisymm (UInt8.not_lt.1 h2) (UInt8.not_lt.1 h1)
        rw [hxy, cmp_zero h]
theorem cmp_neg : ∀ a b : List UInt8, Lib.compareBytes a b = - Lib.compareBytes b a
  | [], [] => rfl
  | [], _ :: _ => rfl
  | _ :: _, [] => rfl
  | x :: a, y :: b => by
    unfold Lib.compareBytes
    by_cases h1 : x < y
    · rw [if_pos h1, if_neg (UInt8.lt_asymm h1), if_pos h1]
    · by_cases h2 : y < x
      · rw [if_neg h1, if_pos h2, if_pos h2]; rfl
      · rw [if_neg h1, if_neg h2, if_neg h2, if_neg h1]
        exact cmp_neg a b
theorem cmp_trans : ∀ {a b c : List UInt8}, Lib.compareBytes a b ≤ 0 → Lib.compareBytes b c ≤ 0 → Lib.compareBytes a c ≤ 0
  | [], _, [], _, _ => by simp [Lib.compareBytes]
  | [], _, _ :: _, _, _ => by simp [Lib.compareBytes]
  | _ :: _, [], _, h, _ => by simp [Lib.compareBytes] at h
  | _ :: _, _ :: _, [], _, h => by simp [Lib.compareBytes] at h
  | x :: a, y :: b, z :: c, h1, h2 => by
    unfold Lib.compareBytes at h1 h2 ⊢
    by_cases xy : x < y
    · by_cases yz : y < z
      · rw [if_pos (UInt8.lt_trans xy yz)]; decide
      · by_cases zy : z < y
        · rw [if_neg yz, if_pos zy] at h2; exact absurd h2 (by decide)
        · have : y = z := UInt8.le_antisymm (UInt8.not_lt.1 zy) (UInt8.not_lt.1 yz)
          rw [← this, if_pos xy]; decide
    · by_cases yx : y < x
      · rw [if_neg xy, if_pos yx] at h1; exact absurd h1 (by decide)
      · have e : x = y := UInt8.le_antisymm (UInt8.not_lt.1 yx) (UInt8.not_lt.1 xy)
        subst e
        rw [if_neg xy, if_neg xy] at h1
        by_cases xz : x < z
        · rw [if_pos xz]; decide
        · by_cases zx : z < x
          · rw [if_neg xz, if_pos zx] at h2; exact absurd h2 (by decide)
          · rw [if_neg xz, if_neg zx] at h2 ⊢
            exact cmp_trans h1 h2
def Asc (l : List (List UInt8)) : Prop := l.Pairwise fun a b => Lib.compareBytes a b ≤ 0
theorem asc_perm : ∀ {l m : List (List UInt8)}, Asc l → Asc m → l.Perm m → l = m
  | [], m, _, _, h => (List.nil_perm.1 h).symm
  | l, [], _, _, h => List.perm_nil.1 h
  | a :: l, b :: m, h1, h2, h => by
    have ha := List.pairwise_cons.1 h1
    have hb := List.pairwise_cons.1 h2
    have e : a = b := by
      have m1 : a ∈ b :: m := h.subset (by simp)
      have m2 : b ∈ a :: l := h.symm.subset (by simp)
      rcases List.mem_cons.1 m1 with e | m1
      · exact e
      · rcases List.mem_cons.1 m2 with e | m2
        · exact e.symm
        · have k1 := hb.1 a m1
          have k2 := ha.1 b m2
          have k3 := cmp_neg a b
          exact cmp_zero (by omega)
    subst e
    rw [asc_perm ha.2 hb.2 (List.Perm.cons_inv h)]
def insB (x : List UInt8) : List (List UInt8) → List (List UInt8)
  | [] => [x]
  | a :: r => if Lib.compareBytes x a ≤ 0 then x :: a :: r else a :: insB x r
def sortB : List (List UInt8) → List (List UInt8)
  | [] => []
  | a :: r => insB a (sortB r)
theorem insB_perm (x : List UInt8) : ∀ l, (insB x l).Perm (x :: l)
  | [] => List.Perm.refl _
  | a :: r => by
    unfold insB
    split
    · exact List.Perm.refl _
    · exact ((insB_perm x r).cons a).trans (List.Perm.swap x a r)
theorem sortB_perm : ∀ l, (sortB l).Perm l
  | [] => List.Perm.refl _
  | a :: r => (insB_perm a _).trans ((sortB_perm r).cons a)
theorem insB_asc (x : List UInt8) : ∀ l, Asc l → Asc (insB x l)
  | [], _ => by simp [insB, Asc]
  | a :: r, h => by
    have hr := List.pairwise_cons.1 h
    unfold insB
    split
    · rename_i hx
      refine List.pairwise_cons.2 ⟨fun c hc => ?_, h⟩
      rcases List.mem_cons.1 hc with rfl | hc
      · exact hx
      · exact cmp_trans hx (hr.1 c hc)
    · rename_i hx
      refine List.pairwise_cons.2 ⟨fun c hc => ?_, insB_asc x r hr.2⟩
      rcases List.mem_cons.1 ((insB_perm x r).subset hc) with rfl | hc
      · have := cmp_neg c a
        omega
      · exact hr.1 c hc
theorem sortB_asc : ∀ l, Asc (sortB l)
  | [] => List.Pairwise.nil
  | a :: r => insB_asc a _ (sortB_asc r)
theorem sortB_len (l : List (List UInt8)) : (sortB l).length = l.length := (sortB_perm l).length_eq
theorem asc_sortB {l m : List (List UInt8)} (h : Asc m) (hp : m.Perm l) : m = sortB l := asc_perm h (sortB_asc l) (hp.trans (sortB_perm l).symm)
open Go.RowKit
section
variable {P : Program}
theorem run_reslice_readsW {t e : TypeId} {size : Nat} (ht : P.underlying t = some (.slice e)) (he : ∀ w' : World, (sizeOf e).run P w' = .ok size w') {w : World} {v : Value} {n : Nat} {xs : List Value} (hr : Reads w size v n xs) (lo hi : Option Value) (l h : Nat) (hlh : l ≤ h) (hn : h ≤ n)
    (hlo : lo = none ∧ l = 0 ∨ ∃ k, lo = some (.int k l)) (hhi : hi = none ∧ h = n ∨ ∃ k, hi = some (.int k h)) :
    ∃ ao c, ((∀ w : World, (Instr.sliceAt t v lo hi none).run P w = .ok (.slice ao (h - l) c) w) ∧ (Value.slice ao (h - l) c).ownBlock = v.ownBlock) ∧ Reads w size (.slice ao (h - l) c) (h - l) ((xs.drop (l * size)).take ((h - l) * size)) := by
  obtain ⟨h1, ao, cap, rfl, h2, h3, h4, h5⟩ := hr
  have hE : P.elem t = e := by simp [Program.elem, ht]
  have ht' : P.underlying t = some (.slice (P.elem t)) := by rw [hE]; exact ht
  refine ⟨if cap = l then ao else ao.map (·.add (l * size)), cap - l, ⟨?_, ?_⟩, ?_, _, _, rfl, by omega, by omega, ?_, ?_⟩
  · intro w
    rw [run_sliceAt_slice (P := P) w t _ _ _ _ ht']
    have hl' : (l : Int) ≤ (h : Int) := by omega
    have hh' : (h : Int) ≤ (cap : Int) := by omega
    have hn' : (l : Int) ≤ (n : Int) := by omega
    rcases hlo with ⟨rfl, rfl⟩ | ⟨k, rfl⟩ <;> rcases hhi with ⟨rfl, rfl⟩ | ⟨k', rfl⟩
    · rw [run_slice_all (P := P) w t ao h cap ht', hE, he]
      simp [Result.andThen, sliced]
    · rw [run_slice_h (P := P) w t ao n cap ht' k' h (by omega) hh', hE, he]
      simp [Result.andThen, sliced]
    · rw [run_slice_l (P := P) w t ao h cap ht' k l (by omega) hl', hE, he]
      simp [Result.andThen, sliced]
    · rw [run_slice_lh (P := P) w t ao n cap ht' k k' l h (by omega) hl' hh', hE, he]
      simp [Result.andThen, sliced]
  · cases ao with
    | none => simp [Value.ownBlock]
    | some x =>
      split
      · rfl
      · simp only [Option.map_some, Value.ownBlock, Option.some.injEq]
        unfold Addr.add
        split <;> rfl
  · rw [List.length_take, List.length_drop, h1]
    have : (h - l) * size ≤ n * size - l * size := by rw [← Nat.sub_mul]; exact Nat.mul_le_mul_right _ (by omega)
    omega
  · intro hnone
    have : ao = none := by
      cases ao with
      | none => rfl
      | some x => split at hnone <;> simp at hnone
    obtain ⟨h6, h7⟩ := h4 this
    omega
  · intro a ha j u hu
    have hj : j < ((xs.drop (l * size)).take ((h - l) * size)).length := (List.getElem?_eq_some_iff.1 hu).1
    have hj2 : j < (h - l) * size := by rw [List.length_take] at hj; omega
    have hhl : h - l ≠ 0 := fun e => by rw [e] at hj2; simp at hj2
    rw [if_neg (by omega)] at ha
    cases ao with
    | none => simp at ha
    | some x =>
      simp at ha
      subst ha
      rw [addr_add_add]
      refine h5 x rfl _ _ ?_
      rw [List.getElem?_take, if_pos hj2, List.getElem?_drop] at hu
      exact hu
end
section
variable {P : Program} {K : Value → World → Prop} {ρ : Slots} {w w0 : World} {d : Option Tmp} {ty : TypeId} {pos : String} {af : Array Edge} {gd : Option (Nat × Bool)}
variable {α : Type} {k : Nat} {enc : α → List Value} {t e : TypeId}
theorem Yk.sliceLoW (ht : P.underlying t = some (.slice e)) (he : ∀ w' : World, (sizeOf e).run P w' = .ok k w') {x lo : Operand} {v : Value} {xs : List α} (hx : evalR ρ x = v) (h : RG k enc w0 v xs) {kd : IntKind} {l : Nat} (hlo : evalR ρ lo = .int kd (l : Int)) (hl : l ≤ xs.length)
    (hk : ∀ v', RG k enc w0 v' (xs.drop l) → v'.ownBlock = v.ownBlock → K v' w) : Yk P K ((execOp (evalR ρ) ⟨d, .slice t x (some lo) none none, ty, pos, af, gd⟩).run P w) := by
  obtain ⟨ao, c, ⟨hrun, hb⟩, hR⟩ := run_reslice_readsW ht he h.2 (some (.int kd l)) none l xs.length hl (Nat.le_refl _) (.inr ⟨kd, rfl⟩) (.inl ⟨rfl, rfl⟩)
  have hR' := RG.cut h.1 hl (Nat.le_refl _) hR
  rw [List.take_of_length_le (by rw [List.length_drop]; exact Nat.le_refl _)] at hR'
  refine Yk.value (v := .slice ao (xs.length - l) c) (w' := w) ?_ (hk _ hR' hb)
  unfold execOp
  simp only [hx, hlo, Option.map_some, Option.map_none, hrun, Sem.run_bind, Sem.run_pure, Result.andThen_ok]
theorem Yk.sliceHiW (ht : P.underlying t = some (.slice e)) (he : ∀ w' : World, (sizeOf e).run P w' = .ok k w') {x hi : Operand} {v : Value} {xs : List α} (hx : evalR ρ x = v) (h : RG k enc w0 v xs) {kd : IntKind} {n : Nat} (hhi : evalR ρ hi = .int kd (n : Int)) (hl : n ≤ xs.length)
    (hk : ∀ v', RG k enc w0 v' (xs.take n) → v'.ownBlock = v.ownBlock → K v' w) : Yk P K ((execOp (evalR ρ) ⟨d, .slice t x none (some hi) none, ty, pos, af, gd⟩).run P w) := by
  obtain ⟨ao, c, ⟨hrun, hb⟩, hR⟩ := run_reslice_readsW ht he h.2 none (some (.int kd n)) 0 n (Nat.zero_le _) hl (.inl ⟨rfl, rfl⟩) (.inr ⟨kd, rfl⟩)
  have hR' := RG.cut h.1 (Nat.zero_le _) hl hR
  rw [List.drop_zero, Nat.sub_zero] at hR'
  refine Yk.value (v := .slice ao (n - 0) c) (w' := w) ?_ (hk _ hR' hb)
  unfold execOp
  simp only [hx, hhi, Option.map_some, Option.map_none, hrun, Sem.run_bind, Sem.run_pure, Result.andThen_ok]
theorem info_ex {P : Program} {e : TypeId} {k b : Nat} (h : (P.info? e).map (fun i => (i.zero.map (fun z => z.cells.size), i.size, i.bytes)) = some (some k, k, b)) : ∃ z, (P.info? e).map (fun i => (i.zero, i.size, i.bytes)) = some (some z, k, b) ∧ z.cells.size = k := by
  cases hi : P.info? e with
  | none => rw [hi] at h; cases h
  | some i =>
    rw [hi] at h
    simp only [Option.map_some, Option.some.injEq, Prod.mk.injEq] at h
    cases hz : i.zero with
    | none => rw [hz] at h; cases h.1
    | some z =>
      rw [hz] at h
      simp only [Option.map_some, Option.some.injEq] at h
      exact ⟨z, by simp [hz, h.2.1, h.2.2], h.1⟩
theorem Yk.makeG (base : Nat) (z : Value) (bytes : Nat) (ht : P.underlying t = some (.slice e)) (hi : (P.info? e).map (fun i => (i.zero, i.size, i.bytes)) = some (some z, k, bytes)) {x y : Operand} {kl kc : IntKind} {n : Nat} (hx : evalR ρ x = .int kl 0) (hy : evalR ρ y = .int kc (n : Int)) (hb : bytes * n ≤ 281474976710656) (hn : n ≤ 9223372036854775807) (hbase : base ≤ w.heap.size)
    (hk : ∀ v w', OG base e k enc w' v ([] : List α) → Ext w w' → K v w') : Yk P K ((execOp (evalR ρ) ⟨d, .makeSlice t x y, ty, pos, af, gd⟩).run P w) := by
  obtain ⟨i, hi, hz, hsize, hby⟩ := info_parts hi
  obtain ⟨w', hr, h2, h3⟩ := run_make_own (P := P) (w := w) base t e i z k ht hi hz hsize kl kc n (by rw [hby]; exact hb) (by unfold maxLen; omega) hbase
  refine Yk.value (v := .slice (some ⟨w.heap.size, 0, none⟩) 0 n) (w' := w') ?_ (hk _ w' ⟨by simp, h2⟩ (Ext.of h3))
  unfold execOp
  simp only [hx, hy, hr, Sem.run_bind, Sem.run_pure, Result.andThen_ok]
theorem Yk.atSl0 (ht : P.underlying t = some (.slice e)) (he : ∀ w' : World, (sizeOf e).run P w' = .ok 1 w') {x y : Operand} {b i n c : Nat} {kd : IntKind} (hx : evalR ρ x = .slice (some ⟨b, 0, none⟩) n c) (hy : evalR ρ y = .int kd (i : Int)) (hi : i < n) (hk : K (.pointer (some ⟨b, i, none⟩)) w) : Yk P K ((execOp (evalR ρ) ⟨d, .indexAddr t x y, ty, pos, af, gd⟩).run P w) :=
  Yk.atSl ht he hx hy hi (by rw [Nat.zero_add]; exact hk)
theorem OG.base {α : Type} {b b' k : Nat} {e : TypeId} {enc : α → List Value} {v : Value} {l : List α} (h : OG b e k enc w v l) (hb : b' ≤ b) : OG b' e k enc w v l := ⟨h.1, ownsRow_base h.2 hb⟩
def RowG {α : Type} (B N : Nat) (e : TypeId) (k : Nat) (enc : α → List Value) (r : Option Nat) (l : List α) (x : Value) (w' : World) : Prop := OG B e k enc w' x l ∧ ∀ k, x.ownBlock = some k → r = some k ∨ N ≤ k
theorem RG.nilOwn (w : World) (b : Nat) (e : TypeId) : OG b e k enc w (.slice none 0 0) ([] : List α) := OG.nil b e k enc w
structure MI (l O A B : List (List UInt8)) : Prop where
  perm : (O ++ (A ++ B)).Perm l
  ascO : Asc O
  ascA : Asc A
  ascB : Asc B
  le : ∀ x ∈ O, ∀ y ∈ A ++ B, Lib.compareBytes x y ≤ 0
theorem MI.start {l A B : List (List UInt8)} {h : Nat} (hA : A.Perm (l.take h)) (hB : B.Perm (l.drop h)) (a1 : Asc A) (b1 : Asc B) : MI l [] A B :=
  ⟨by rw [List.nil_append]; exact (hA.append hB).trans (by rw [List.take_append_drop]), List.Pairwise.nil, a1, b1, by simp⟩
theorem MI.left {l O A B : List (List UInt8)} (h : MI l O A B) (hA : 0 < A.length) (hB : 0 < B.length) (hc : Lib.compareBytes (A.getD 0 []) (B.getD 0 []) ≤ 0) : MI l (O ++ [A.getD 0 []]) (A.drop 1) B := by
  match A, B, hA, hB, h, hc with
  | a :: A, b :: B, _, _, h, hc =>
    simp only [List.getD_cons_zero, List.drop_succ_cons, List.drop_zero] at hc ⊢
    have hp := List.pairwise_cons.1 h.ascA
    have hq := List.pairwise_cons.1 h.ascB
    have hall : ∀ y ∈ A ++ b :: B, Lib.compareBytes a y ≤ 0 := fun y hy => by
      rcases List.mem_append.1 hy with h1 | h1
      · exact hp.1 y h1
      · rcases List.mem_cons.1 h1 with rfl | h1
        · exact hc
        · exact cmp_trans hc (hq.1 y h1)
    refine ⟨by rw [List.append_assoc]; exact h.perm, ?_, hp.2, h.ascB, ?_⟩
    · unfold Asc
      rw [List.pairwise_append]
      exact ⟨h.ascO, by simp, fun x hx y hy => by rw [List.mem_singleton.1 hy]; exact h.le x hx a (by simp)⟩
    · intro x hx y hy
      rcases List.mem_append.1 hx with h1 | h1
      · exact h.le x h1 y (by simp only [List.cons_append, List.mem_cons]; exact .inr hy)
      · rw [List.mem_singleton.1 h1]; exact hall y hy
theorem MI.right {l O A B : List (List UInt8)} (h : MI l O A B) (hA : 0 < A.length) (hB : 0 < B.length) (hc : ¬ Lib.compareBytes (A.getD 0 []) (B.getD 0 []) ≤ 0) : MI l (O ++ [B.getD 0 []]) A (B.drop 1) := by
  match A, B, hA, hB, h, hc with
  | a :: A, b :: B, _, _, h, hc =>
    simp only [List.getD_cons_zero, List.drop_succ_cons, List.drop_zero] at hc ⊢
    have hp := List.pairwise_cons.1 h.ascA
    have hq := List.pairwise_cons.1 h.ascB
    have hba : Lib.compareBytes b a ≤ 0 := by have := cmp_neg a b; omega
    have hall : ∀ y ∈ a :: A ++ B, Lib.compareBytes b y ≤ 0 := fun y hy => by
      rcases List.mem_append.1 hy with h1 | h1
      · rcases List.mem_cons.1 h1 with rfl | h1
        · exact hba
        · exact cmp_trans hba (hp.1 y h1)
      · exact hq.1 y h1
    refine ⟨?_, ?_, h.ascA, hq.2, ?_⟩
    · refine List.Perm.trans ?_ h.perm
      rw [List.append_assoc]
      refine List.Perm.append_left O ?_
      simp only [List.singleton_append]
      exact (List.perm_middle (l₁ := a :: A) (l₂ := B) (a := b)).symm
    · unfold Asc
      rw [List.pairwise_append]
      exact ⟨h.ascO, by simp, fun x hx y hy => by rw [List.mem_singleton.1 hy]; exact h.le x hx b (by simp)⟩
    · intro x hx y hy
      rcases List.mem_append.1 hx with h1 | h1
      · exact h.le x h1 y (by
          rcases List.mem_append.1 hy with h2 | h2
          · exact List.mem_append_left _ h2
          · exact List.mem_append_right _ (by simp [h2]))
      · rw [List.mem_singleton.1 h1]; exact hall y hy
theorem MI.done {l O A B : List (List UInt8)} (h : MI l O A B) (he : A.length = 0 ∨ B.length = 0) : ((O ++ A) ++ B).Perm l ∧ Asc ((O ++ A) ++ B) := by
  refine ⟨by rw [List.append_assoc]; exact h.perm, ?_⟩
  rw [List.append_assoc]
  unfold Asc
  rw [List.pairwise_append]
  refine ⟨h.ascO, ?_, h.le⟩
  rcases he with he | he
  · rw [List.eq_nil_of_length_eq_zero he, List.nil_append]; exact h.ascB
  · rw [List.eq_nil_of_length_eq_zero he, List.append_nil]; exact h.ascA
theorem asc_short {l : List (List UInt8)} (h : l.length < 2) : Asc l := by
  match l, h with
  | [], _ => exact List.Pairwise.nil
  | [a], _ => simp [Asc]
end
open Go.RowKit
set_option maxRecDepth 100000
set_option linter.unusedVariables false
set_option linter.unusedSimpArgs false
theorem kbM {α β : Type} {ek : α → Value} {ev : β → Value} {D : α → Prop} {w w' : World} {m : Nat} {G : α → Option β} (h : MapF ek ev D w m G) (hg : w.grownBy w' (some m)) {b : Nat} {cs : Array Value} {t : TypeId} {fr : Nat × Nat} (hb : w.heap[b]? = some (.cells cs t fr)) : w'.heap[b]? = some (.cells cs t fr) :=
 kb hg hb fun e => by obtain ⟨es, c, h1, -⟩ := h; rw [e, h1] at hb; cases hb
theorem dw4_ty9 : Tryd.prog.underlying 9 = some (.string) := by kernel_rfl
theorem dw4_ty69 : Tryd.prog.underlying 69 = some (.pointer 71) := by kernel_rfl
theorem dw4_ty52 : Tryd.prog.underlying 52 = some (.map 9 69) := by kernel_rfl
set_option maxHeartbeats 1600000
theorem clo_put {ev : Nat → Value} (w : World) (m : Nat) (G : List UInt8 → Option Nat) (hM : MapF St ev Nm w m (G)) (bf bn fk k : Nat) (to : List UInt8) (h1 : w.heap[bf]? = some (.cells ([PQ fk 0]).toArray 69 (0, 0))) (h2 : w.heap[bn]? = some (.cells ([St to]).toArray 9 (0, 0))) (hev : PQ fk 0 = ev k) (ht : Nm to) :
  Calls Tryd.prog 38 #[.map (some m), PQ bf 0, PQ bn 0] w fun e w' => e = .returned (.tuple #[]) ∧ MapF St ev Nm w' m (updM G to (some k)) ∧ w.grownBy w' (some m) := by
 have hg0 := World.grownBy.refl w (some m)
 refine calls_of_wpF (args := [.map (some m), PQ bf 0, PQ bn 0]) Tryd.func38 rfl 7 rfl (Nat.le_of_ble_eq_true rfl) ?_
 intro ρ0 hb
 have T0 : ρ0 0 = (.map (some m) : Value) := hb.get 0
 have T1 : ρ0 1 = (PQ bf 0 : Value) := hb.get 1
 have T2 : ρ0 2 = (PQ bn 0 : Value) := hb.get 2
 clear hb
 have hE := Ext.refl w
 refine wt (oM rfl (oS rfl (Yk.cell1 dw4_ty9 rfl T2 (cellAt h2 (show _ = some (St (to) : Value) from rfl)) (oS rfl (Yk.cell1 dw4_ty69 rfl T1 (cellAt h1 (show _ = some (PQ fk 0 : Value) from rfl)) (oS rfl (Yk.putM (ev := ev) (c := k) kStr isStr dw4_ty52 T0 (vr (St (to)) rfl) (Eq.trans ((vr (PQ fk 0) rfl)) hev) (hM.keep hE) ht fun w1 hM2 hg3 hs4 => ?_)))))))
 have h1 : w1.heap[bf]? = some (.cells ([PQ fk 0]).toArray 69 (0, 0)) := kbM hM hg3 h1
 have h2 : w1.heap[bn]? = some (.cells ([St to]).toArray 9 (0, 0)) := kbM hM hg3 h2
 have hg0 : w.grownBy w1 (some m) := grownBy_trans hg0 hg3 (fun _ e => .inl e)
 clear hE
 have hM := hM2; clear hM2
 refine oZ (postF_end (fn := Tryd.f38) [] rfl [] (.tuple #[]) rfl trivial ?_)
 exact ⟨rfl, hM, hg0⟩

theorem clo_del {ev : Nat → Value} (w : World) (m : Nat) (G : List UInt8 → Option Nat) (hM : MapF St ev Nm w m (G)) (bs : Nat) (frm : List UInt8) (h3 : w.heap[bs]? = some (.cells ([St frm]).toArray 9 (0, 0))) (hf : Nm frm) :
  Calls Tryd.prog 52 #[.map (some m), PQ bs 0] w fun e w' => e = .returned (.tuple #[]) ∧ MapF St ev Nm w' m (updM G frm none) ∧ w.grownBy w' (some m) := by
 have hg0 := World.grownBy.refl w (some m)
 refine calls_of_wpF (args := [.map (some m), PQ bs 0]) Tryd.func52 rfl 5 rfl (Nat.le_of_ble_eq_true rfl) ?_
 intro ρ0 hb
 have T0 : ρ0 0 = (.map (some m) : Value) := hb.get 0
 have T1 : ρ0 1 = (PQ bs 0 : Value) := hb.get 1
 clear hb
 have hE := Ext.refl w
 refine wt (oM rfl (oS rfl (Yk.cell1 dw4_ty9 rfl T1 (cellAt h3 (show _ = some (St (frm) : Value) from rfl)) (oS rfl (Yk.delM kStr isStr (fun _ _ => st_inj) dw4_ty52 T0 (vr (St (frm)) rfl) (hM.keep hE) hf fun w1 hM2 hg3 hs4 => ?_)))))
 have h3 : w1.heap[bs]? = some (.cells ([St frm]).toArray 9 (0, 0)) := kbM hM hg3 h3
 have hg0 : w.grownBy w1 (some m) := grownBy_trans hg0 hg3 (fun _ e => .inl e)
 clear hE
 have hM := hM2; clear hM2
 refine oZ (postF_end (fn := Tryd.f52) [] rfl [] (.tuple #[]) rfl trivial ?_)
 exact ⟨rfl, hM, hg0⟩

theorem turn_fun {n : Nat} {l : Dir} (h : DirOk n l) (a : ActD) (hn : a.to.length ≠ 0) : updM (updM (lookD l) a.frm none) a.to (some a.file) = lookD (turnD l a) := by
 funext t
 rw [look_turn, if_neg hn]
 unfold updM
 rfl
theorem turn_fun0 {n : Nat} {l : Dir} (h : DirOk n l) (a : ActD) (hn : a.to.length ≠ 0) (hf : a.frm = []) : updM (lookD l) a.to (some a.file) = lookD (turnD l a) := by
 rw [← turn_fun h a hn]
 funext t
 unfold updM
 by_cases ht : t = a.to
 ·rw [if_pos ht, if_pos ht]
 ·rw [if_neg ht, if_neg ht]
  by_cases h2 : t = a.frm
  ·rw [if_pos h2, h2, hf, h.noEmpty]
  ·rw [if_neg h2]
theorem turn_fun1 {l : Dir} (a : ActD) (hn : a.to = []) : updM (lookD l) a.frm none = lookD (turnD l a) := by
 funext t
 rw [look_turn, if_pos (by rw [hn]; rfl)]
 unfold updM
 rfl
theorem act_call {w : World} {F : Nat → Nat} {v : Value} {a : ActD} (h : ActAt w F v a) {m n : Nat} {l : Dir} (hM : MapF St (pF F) Nm w m (lookD l)) (hl : DirOk n l) (ha : ActOk n a) :
  ∃ f caps, v = .func (.func f) #[] caps ∧ Plain Tryd.prog f ∧ Calls Tryd.prog f (#[.map (some m)] ++ caps) w fun e w' => e = .returned (.tuple #[]) ∧ MapF St (pF F) Nm w' m (lookD (turnD l a)) ∧ w.grownBy w' (some m) := by
 rcases h with ⟨bf, bn, e, h1, h2, h3, h4⟩ | ⟨hm, bs, bf, bn, e, h1, h2, h3, h4⟩ | ⟨bn, e, h1, h2⟩
 ·refine ⟨_, _, e, fun _ _ => by kernel_rfl, ?_⟩
  have := clo_put (ev := pF F) w m _ hM bf bn (F a.file) a.file a.to h1 h2 rfl (mayD_pos (ha.may h4)).2
  rw [turn_fun0 hl a h4 h3] at this
  exact this
 ·exact (show False from hm).elim
 ·refine ⟨_, _, e, fun _ _ => by kernel_rfl, ?_⟩
  have := clo_del (ev := pF F) w m _ hM bn a.frm h1 ha.frm
  rw [turn_fun1 a h2] at this
  exact this
open Go.RowKit
set_option linter.unusedVariables false
theorem getD_left {α : Type} {l r : List α} {i : Nat} {x : α} (h : i < l.length) : (l ++ r).getD i x = l.getD i x := by rw [List.getD_eq_getElem?_getD, List.getElem?_append_left h, ← List.getD_eq_getElem?_getD]
theorem getD_last {α : Type} {l : List α} {a x : α} : (l ++ [a]).getD l.length x = a := by rw [List.getD_eq_getElem?_getD, List.getElem?_append_right (Nat.le_refl _), Nat.sub_self]; rfl
section
variable {base : Nat} {w w' : World} {H : Dk} {D : Dsk}
theorem tag_ne {w : World} {i j x y : Nat} (h : tagW w i = some x) (k : tagW w j = some y) (hx : x ≠ y) : i ≠ j := fun e => by rw [e, k] at h; exact hx (Option.some.inj h).symm
theorem DkS.turned (h : DkS base w H D) {a : ActD} (ha : ActOk D.files.length a) {v : Value} (hat : ActAt w H.F v a) {vs : List Value} (hvs : ActsAt base w H.va H.F D.acts vs) {va' : Value}
    (hc : Chg (fun i => i = H.mn ∨ i = H.g ∨ H.va.ownBlock = some i) w w') (hm : MapF St (pF H.F) Nm w' H.mn (lookD (turnD D.now a)))
    (hb : w'.heap[H.g]? = some (.cells (dkC D.quota H.mn H.ml va' D.refused D.arm D.down).toArray 55 (0, 0))) (hr : w'.ownsRow base 73 1 va' (vs ++ [v]).length (vs ++ [v])) :
    DkS base w' { H with va := va' } (turnedD D a) := by
  have hT : ∀ i, i < w.heap.size → (i = H.mn ∨ i = H.g ∨ H.va.ownBlock = some i) → TyB w i := fun i _ e => by
    rcases e with e | e | e
    · exact e ▸ tyb_tag (.inl h.now.tag)
    · exact e ▸ tyb_tag (.inr (.inl h.tg))
    · exact tyb_tag (.inr (.inr (.inr (.inr (h.tA e)))))
  have ne0 : ∀ {i x : Nat}, tagW w i = some x → x ≠ 0 → x ≠ 55 + 1 → x ≠ 73 + 1 → ¬ (i = H.mn ∨ i = H.g ∨ H.va.ownBlock = some i) := fun e h0 h1 h2 q => by
    rcases q with q | q | q
    · rw [q, h.now.tag] at e; exact h0 (Option.some.inj e).symm
    · rw [q, h.tg] at e; exact h1 (Option.some.inj e).symm
    · rw [h.tA q] at e; exact h2 (Option.some.inj e).symm
  refine ⟨hb, hm, h.kept.chg hc fun q => ?_, h.ne, ⟨vs ++ [v], hr, ?_, fun i hi => ?_⟩, h.files.chg hc (fun k hk => ⟨ne0 (h.tF hk) (by decide) (by decide) (by decide), fun i hi => ne0 (h.tV hk hi) (by decide) (by decide) (by decide)⟩), h.ok.turned ha, h.lo⟩
  · rcases q with q | q | q
    · exact h.ne q.symm
    · exact tag_ne h.kept.tag h.tg (by decide) q
    · exact tag_ne h.kept.tag (h.tA q) (by decide) rfl
  · show (vs ++ [v]).length = (D.acts ++ [a]).length
    rw [List.length_append, List.length_append, hvs.len]; rfl
  · show ActAt w' H.F ((vs ++ [v]).getD i undef) ((D.acts ++ [a]).getD i _)
    rw [show (turnedD D a).acts.length = D.acts.length + 1 by show (D.acts ++ [a]).length = _; simp] at hi
    have hl := hvs.len
    by_cases e : i < D.acts.length
    · rw [getD_left (by omega : i < vs.length), getD_left e]
      exact (hvs.at_ i e).chg hc hT rfl
    · obtain rfl : i = D.acts.length := by omega
      rw [getD_last, ← hl, getD_last]
      exact hat.chg hc hT rfl
theorem DkS.synced (h : DkS base w H D) {ml' : Nat} (hc : Chg (fun i => i = H.g) w w') (hn : w.heap.size ≤ ml') (hm : MapF St (pF H.F) Nm w' ml' (lookD D.now)) (h0 : base ≤ w.heap.size)
    (hb : w'.heap[H.g]? = some (.cells (dkC D.quota H.mn ml' (.slice none 0 0) D.refused D.arm D.down).toArray 55 (0, 0))) :
    DkS base w' { H with ml := ml', va := .slice none 0 0 } { D with kept := D.now, acts := [] } := by
  have ne0 : ∀ {i x : Nat}, tagW w i = some x → x ≠ 55 + 1 → i ≠ H.g := fun e hx => tag_ne e h.tg hx
  have hlt := h.now.lt
  exact ⟨hb, h.now.chg hc (ne0 h.now.tag (by decide)), hm, fun (q : H.mn = ml') => by omega, ⟨[], World.ownsRow_nil _ _ _ 1, rfl, fun i hi => absurd hi (Nat.not_lt_zero _)⟩,
    h.files.chg hc (fun k hk => ⟨ne0 (h.tF hk) (by decide), fun i hi => ne0 (h.tV hk hi) (by decide)⟩), ⟨h.ok.now, h.ok.now, fun a ha => (by cases ha), h.ok.syn⟩, ⟨h.lo.1, h.lo.2.1, Nat.le_trans h0 hn⟩⟩
structure DkT (base : Nat) (w : World) (H : Dk) (D : Dsk) (w' : World) (H' : Dk) (D' : Dsk) : Prop where
  st : DkS base w' H' D'
  g : H'.g = H.g
  chg : Chg (Foot H D.files.length) w w'
  foot : ∀ i, Foot H' D'.files.length i → Foot H D.files.length i ∨ w.heap.size ≤ i
theorem DkT.refl (h : DkS base w H D) : DkT base w H D w H D := ⟨h, rfl, Chg.refl _ _, fun _ q => .inl q⟩
theorem DkT.trans {w2 : World} {H1 H2 : Dk} {D1 D2 : Dsk} (h : DkT base w H D w' H1 D1) (k : DkT base w' H1 D1 w2 H2 D2) : DkT base w H D w2 H2 D2 :=
  ⟨k.st, k.g.trans h.g, h.chg.trans k.chg h.foot, fun i q => (k.foot i q).elim (h.foot i) fun r => .inr (Nat.le_trans h.chg.size r)⟩
theorem DkT.keep {w2 : World} {H1 : Dk} {D1 : Dsk} (h : DkT base w H D w' H1 D1) (k : Ext w' w2) : DkT base w H D w2 H1 D1 := ⟨h.st.keep k, h.g, h.chg.keep k, h.foot⟩
theorem RB.chg {B : Nat → Prop} {v : Value} {l : List UInt8} (h : RB w v l) (hc : Chg B w w') (hB : l = [] ∨ ∀ i, v.ownBlock = some i → ¬ B i) : RB w' v l := by
  obtain ⟨h1, ao, cap, rfl, h2, h3, h4, h5⟩ := h
  refine ⟨h1, ao, cap, rfl, h2, h3, h4, fun a ha j u hu => ?_⟩
  have hl := h5 a ha j u hu
  have hlt := World.block_lt_of_cell? w _ hl
  rcases hB with rfl | hB
  · simp [Lib.byteCells] at hu
  · have hn : ¬ B (a.add j).block := hB _ (by rw [ha]; obtain ⟨a1, a2, a3⟩ := a; simp only [Value.ownBlock, Addr.add]; split <;> rfl)
    have hb := hc.blk _ hlt hn
    unfold World.cell? at hl ⊢
    rw [hb]
    exact hl
theorem DkS.offT (h : DkS base w H D) {b : Nat} {cs : Array Value} {t : TypeId} {fr : Nat × Nat} (hb : w.heap[b]? = some (.cells cs t fr)) (h1 : t ≠ 55) (h2 : t ≠ 71) (h3 : t ≠ 5) (h4 : t ≠ 73) : ¬ Foot H D.files.length b := fun q => TyB.off hb h1 h2 h3 h4 (h.foot q).1
theorem DkT.box {H1 : Dk} {D1 : Dsk} (h : DkT base w H D w' H1 D1) (h0 : DkS base w H D) {b : Nat} {cs : Array Value} {t : TypeId} {fr : Nat × Nat} (hb : w.heap[b]? = some (.cells cs t fr)) (h1 : t ≠ 55) (h2 : t ≠ 71) (h3 : t ≠ 5) (h4 : t ≠ 73) : w'.heap[b]? = some (.cells cs t fr) :=
  (h.chg.blk b (bl hb) (h0.offT hb h1 h2 h3 h4)).trans hb
theorem DkS.setFileT (h : DkS base w H D) {k : Nat} (hk : k < D.files.length) {v : Value} {x : List UInt8 × Nat} (hx : x.2 ≤ x.1.length) (hc : Chg (fun i => i = H.F k ∨ (H.V k).ownBlock = some i) w w') (hf : FileAt base w' (H.F k) v x) (hv : ∀ i, v.ownBlock = some i → (H.V k).ownBlock = some i ∨ w.heap.size ≤ i) :
    DkT base w H D w' { H with V := updF H.V k v } { D with files := D.files.set k x } :=
  ⟨h.setFile hk hx hc hf hv, rfl, hc.mono fun i _ e => .inr (.inr (.inr (.inr ⟨k, hk, e⟩))), fun i hi => by
    rcases hi with e | e | e | e | ⟨j, hj, e⟩
    · exact .inl (.inl e)
    · exact .inl (.inr (.inl e))
    · exact .inl (.inr (.inr (.inl e)))
    · exact .inl (.inr (.inr (.inr (.inl e))))
    · have hj : j < D.files.length := by have : j < (D.files.set k x).length := hj; rwa [List.length_set] at this
      rcases e with e | e
      · exact .inl (.inr (.inr (.inr (.inr ⟨j, hj, .inl e⟩))))
      · by_cases ej : j = k
        · have e : (updF H.V k v j).ownBlock = some i := e
          rw [ej, updF_eq] at e
          exact (hv i e).imp (fun q => .inr (.inr (.inr (.inr ⟨k, hk, .inr q⟩)))) id
        · have e : (updF H.V k v j).ownBlock = some i := e
          rw [updF_ne _ _ ej] at e
          exact .inl (.inr (.inr (.inr (.inr ⟨j, hj, .inr e⟩))))⟩
theorem DkS.newFileT (h : DkS base w H D) (hE : Ext w w') {f : Nat} (hf : w.heap.size ≤ f) (hb : w'.heap[f]? = some (.cells ([.slice none 0 0, NI 0]).toArray 71 (0, 0))) (h0 : base ≤ w.heap.size) :
    DkT base w H D w' { H with F := updF H.F D.files.length f, V := updF H.V D.files.length (.slice none 0 0) } { D with files := D.files ++ [([], 0)] } :=
  ⟨h.newFile hE hf hb h0, rfl, Chg.ofExt hE, fun i hi => by
    rcases hi with e | e | e | e | ⟨j, hj, e⟩
    · exact .inl (.inl e)
    · exact .inl (.inr (.inl e))
    · exact .inl (.inr (.inr (.inl e)))
    · exact .inl (.inr (.inr (.inr (.inl e))))
    · have hj : j < D.files.length + 1 := by have : j < (D.files ++ [(([] : List UInt8), 0)]).length := hj; rwa [List.length_append] at this
      by_cases ej : j = D.files.length
      · rcases e with e | e
        · have e : i = updF H.F D.files.length f j := e
          rw [ej, updF_eq] at e
          exact .inr (e ▸ hf)
        · have e : (updF H.V D.files.length (.slice none 0 0) j).ownBlock = some i := e
          rw [ej, updF_eq] at e
          cases e
      · have hj' : j < D.files.length := by omega
        rcases e with e | e
        · have e : i = updF H.F D.files.length f j := e
          rw [updF_lt _ _ hj'] at e
          exact .inl (.inr (.inr (.inr (.inr ⟨j, hj', .inl e⟩))))
        · have e : (updF H.V D.files.length (.slice none 0 0) j).ownBlock = some i := e
          rw [updF_lt _ _ hj'] at e
          exact .inl (.inr (.inr (.inr (.inr ⟨j, hj', .inr e⟩))))⟩
theorem DkS.setBlkT (h : DkS base w H D) (hg : w.grownBy w' (some H.g)) {q rf ar : Nat} {dn : Bool} (hb : w'.heap[H.g]? = some (.cells (dkC q H.mn H.ml H.va rf ar dn).toArray 55 (0, 0))) : DkT base w H D w' H { D with quota := q, refused := rf, arm := ar, down := dn } :=
  ⟨h.setBlk hg hb, rfl, Chg.ofGrown hg fun i e => .inl (.inl (Option.some.inj e).symm), fun i hi => .inl hi⟩
theorem DkS.syncedT (h : DkS base w H D) {ml' : Nat} (hc : Chg (fun i => i = H.g) w w') (hn : w.heap.size ≤ ml') (hm : MapF St (pF H.F) Nm w' ml' (lookD D.now)) (h0 : base ≤ w.heap.size)
    (hb : w'.heap[H.g]? = some (.cells (dkC D.quota H.mn ml' (.slice none 0 0) D.refused D.arm D.down).toArray 55 (0, 0))) :
    DkT base w H D w' { H with ml := ml', va := .slice none 0 0 } { D with kept := D.now, acts := [] } :=
  ⟨h.synced hc hn hm h0 hb, rfl, hc.mono fun i _ e => .inl e, fun i hi => by
    rcases hi with e | e | e | e | e
    · exact .inl (.inl e)
    · exact .inl (.inr (.inl e))
    · exact .inr ((show i = ml' from e) ▸ hn)
    · cases (show (none : Option Nat) = some i from e)
    · exact .inl (.inr (.inr (.inr (.inr e))))⟩
end
open Go.RowKit
set_option maxRecDepth 100000
set_option linter.unusedVariables false
set_option linter.unusedSimpArgs false
theorem Yk.cloT {P : Program} {K : Value → World → Prop} {ρ : Slots} {w : World} {d : Option Tmp} {ty : TypeId} {pos : String} {af : Array Edge} {gd : Option (Nat × Bool)} {f : FuncId} {c x : Operand} {v y : Value} {caps : Array Value} {R : World → Prop} {at_ : Array TypeId} (hp : Plain P f) (hc : evalR ρ c = v) (hve : v = .func (.func f) #[] caps) (hx : evalR ρ x = y)
  (h : Calls P f (#[y] ++ caps) w fun e w' => e = .returned (.tuple #[]) ∧ R w') (hk : ∀ w', R w' → K (.tuple #[]) w') : Yk P K ((execOp (evalR ρ) ⟨d, .call ⟨.value c, #[x], at_⟩, ty, pos, af, gd⟩).run P w) :=
 Yk.clo hp (hc.trans hve) _ (by simp [hx]) (h.mono fun e w' q => ⟨_, q.1, hk w' q.2⟩)
theorem og_mn {base : Nat} {w w' : World} {H : Dk} {D : Dsk} (h : DkS base w H D) (hg : w.grownBy w' (some H.mn)) {vs : List Value} (hr : OG base 73 1 enV w H.va vs) : OG base 73 1 enV w' H.va vs :=
 hr.kept hg fun q => tag_ne h.now.tag (h.tA q) (by decide) rfl
theorem turned_step {base : Nat} {w w' : World} {H : Dk} {D : Dsk} (h : DkS base w H D) {a : ActD} (ha : ActOk D.files.length a) {v : Value} (hat : ActAt w H.F v a) {vs : List Value} (hvs : ActsAt base w H.va H.F D.acts vs) {va' : Value}
  (hc : Chg (fun i => i = H.mn ∨ i = H.g ∨ H.va.ownBlock = some i) w w') (hm : MapF St (pF H.F) Nm w' H.mn (lookD (turnD D.now a)))
  (hb : w'.heap[H.g]? = some (.cells (dkC D.quota H.mn H.ml va' D.refused D.arm D.down).toArray 55 (0, 0))) (hr : w'.ownsRow base 73 1 va' (vs ++ [v]).length (vs ++ [v]))
  (hv : ∀ i, va'.ownBlock = some i → H.va.ownBlock = some i ∨ w.heap.size ≤ i) : DkT base w H D w' { H with va := va' } (turnedD D a) :=
 ⟨h.turned ha hat hvs hc hm hb hr, rfl, hc.mono fun i _ e => e.elim (fun e => .inr (.inl e)) fun e => e.elim .inl fun e => .inr (.inr (.inr (.inl e))), fun i hi => by
  rcases hi with e | e | e | e | e
  ·exact .inl (.inl e)
  ·exact .inl (.inr (.inl e))
  ·exact .inl (.inr (.inr (.inl e)))
  ·exact (hv i e).imp (fun e => .inr (.inr (.inr (.inl e)))) id
  ·exact .inl (.inr (.inr (.inr (.inr e))))⟩
theorem dw5_fo55_1 : FieldOff Tryd.prog 55 1 1 := fun b o w => by simp [go_sem]
theorem dw5_ty52 : Tryd.prog.underlying 52 = some (.map 9 69) := by kernel_rfl
theorem dw5_fo55_3 : FieldOff Tryd.prog 55 3 3 := fun b o w => by simp [go_sem]
theorem dw5_ty53 : Tryd.prog.underlying 53 = some (.slice 73) := by kernel_rfl
theorem dw5_lk53 (f : Fn) (a : Array Value) (c : Array Value) (w : World) : (Instr.buildSlice 53 1 #[(0, .func f a c)]).run Tryd.prog w = .ok (.slice (some ⟨w.heap.size, 0, none⟩) 1 1) (w.alloc (.cells #[.func f a c] 73)) := by kernel_rfl
theorem dw5_ig73 : ∃ z, (Tryd.prog.info? 73).map (fun i => (i.zero, i.size, i.bytes)) = some (some z, 1, 8) ∧ z.cells.size = 1 := info_ex (by kernel_rfl)
theorem dw5_isz53 : (Tryd.prog.info? 53).map (·.size) = some 1 := by kernel_rfl
set_option maxHeartbeats 1600000
theorem turn_at (w0 w : World) (hE0 : Ext w0 w) (H : Dk) (D : Dsk) (hS : DkS w0.heap.size w H D) (v : Value) (a : ActD) (ha : ActOk D.files.length a) (hat : ActAt w H.F v a) (hn : D.acts.length < 1099511627776) :
  Calls Tryd.prog 37 #[PQ H.g 0, v] w fun e w' => ∃ va', e = .returned (.tuple #[]) ∧ DkT w0.heap.size w H D w' { H with va := va' } (turnedD D a) := by
 have hb := hS.blk
 have hgl := (bl hb)
 have hsz0 := hE0.size
 have hmnl := hS.lo.2.1
 have hgl0 := hS.lo.1
 have hS0 := hS
 obtain ⟨vs, hvs⟩ := hS.acts
 have hvl := hvs.len
 have hrow : OG w0.heap.size 73 1 enV w H.va vs := ⟨fun _ _ => rfl, by rw [enV_flat]; exact hvs.row⟩
 have hvg : H.va.ownBlock ≠ some H.g := fun q => tag_ne hS.tg (hS.tA q) (by decide) rfl
 obtain ⟨f, caps, hve, hpl, hcl⟩ := act_call hat hS.now hS.ok.now ha
 refine calls_of_wpF (args := [PQ H.g 0, v]) Tryd.func37 rfl 20 rfl (Nat.le_of_ble_eq_true rfl) ?_
 intro ρ0 hb
 have T0 : ρ0 0 = (PQ H.g 0 : Value) := hb.get 0
 have T1 : ρ0 1 = (v : Value) := hb.get 1
 clear hb
 have hE := Ext.refl w
 refine sk fun K1 hK1 => (wt (oM rfl (oM rfl (oS rfl (Yk.nilCheck T0 (oS rfl (Yk.fieldAt dw5_fo55_1 (vr (PQ H.g 0) rfl) (oS rfl (Yk.cell1 dw5_ty52 rfl (vr (PQ H.g 1) rfl) (cellAt hb (show _ = some (.map (some (H.mn)) : Value) from rfl)) (oS rfl (Yk.cloT hpl T1 hve (vr (.map (some (H.mn))) rfl) hcl fun w2 hR3 => ?_)))))))))))
 have hb : w2.heap[H.g]? = some (.cells (dkC (D.quota) (H.mn) (H.ml) (H.va) (D.refused) (D.arm) (D.down)).toArray 55 (0, 0)) := kbM hS.now hR3.2 hb
 have hrow : OG w0.heap.size 73 1 (enV) w2 H.va vs := og_mn hS hR3.2 hrow
 have hE0 := row_fresh hE0 hR3.2 (Nat.le_trans (Nat.le_refl _) (by omega))
 clear hE
 have hC : Chg (fun i => i = H.g ∨ H.va.ownBlock = some i) w2 w2 := Chg.refl _ _
 refine oZ (tN (hK1 _ _ (wt (oM rfl (oM rfl (oS rfl (Yk.nilCheck T0 (oS rfl (Yk.fieldAt dw5_fo55_3 (vr (PQ H.g 0) rfl) (oS rfl (Yk.cell1 dw5_ty53 rfl (vr (PQ H.g 3) rfl) (cellAt hb (show _ = some (H.va : Value) from rfl)) (oM rfl (oS rfl (Yk.lit1S (a := (v)) (enc := enV) T1 rfl (fun w => by rw [hve]; exact dw5_lk53 _ _ _ w) fun v4 w5 hr6 hx7 => ?_))))))))))))))
 have hb := eb hx7 hb
 have hrow := hrow.keep hx7
 have hE0 := hE0.trans hx7
 have hC : Chg (fun i => i = H.g ∨ H.va.ownBlock = some i) w2 w5 := (hC.keep hx7)
 refine oS rfl (Yk.appendRG _ _ w0.heap.size _ 8 dw5_ty53 dw5_ig73.choose_spec.1 dw5_ig73.choose_spec.2 dw5_ty53 (vs) ([(v)]) (OG.of hrow (vr H.va rfl)) (RG.of hr6 (vr v4 rfl)) (fun y hy u hu => by rw [List.mem_singleton.1 hu, List.mem_singleton.1 hy, hve]; rfl) (by simp; omega) (by simp; omega) hE0.size fun v8 w9 ho10 hg11 => ?_)
 have hg11 : Grew w5 w9 H.va v8 := hg11
 have hap12 : OB v8 H.g := apart_grew hg11 hvg (bl hb)
 have hb := blk_grew hb hg11 hvg
 have hE0 := ext_grew hE0 hg11 hrow.2 (Nat.le_refl _)
 have hvf := fun i e => (hg11.fresh i e).imp id (fun q => Nat.le_trans (Nat.le_trans hR3.2.size hC.size) q)
 have hC : Chg (fun i => i = H.g ∨ H.va.ownBlock = some i) w2 w9 := Chg.grew hC hg11 (fun i e => .inl (.inr e))
 clear hr6
 clear hrow
 refine oS rfl (Yk.nilCheck T0 (oS rfl (Yk.fieldAt dw5_fo55_3 (vr (PQ H.g 0) rfl) (oS rfl (Yk.storeC (i := 3) (v := v8) (vr (PQ H.g 3) rfl) (vr v8 rfl) hb (Nat.le_of_ble_eq_true rfl) dw5_isz53 (own_one ho10.2).1 (own_one ho10.2).2 fun w13 hb14 hg15 hs16 => ?_)))))
 clear hE0
 have hC : Chg (fun i => i = H.g ∨ H.va.ownBlock = some i) w2 w13 := Chg.set hC hg15 (.inl (.inl rfl))
 have ho10 := OG.kept ho10 hg15 hap12
 clear hb
 have hb := hb14; clear hb14
 have hl17 := bl hb
 refine oZ (postF_end (fn := Tryd.f37) [] rfl [] (.tuple #[]) rfl trivial ?_)
 have hC0 : Chg (fun i => i = H.mn ∨ i = H.g ∨ H.va.ownBlock = some i) w w13 := ((Chg.ofGrown hR3.2 (fun i e => .inl (.inl (Option.some.inj e).symm)) : Chg (fun i => i = H.mn ∨ i = H.g ∨ H.va.ownBlock = some i) w w2)).trans hC (fun i e => .inl (.inr e))
 have hmf := hR3.1.chg hC (fun q => q.elim (fun q => tag_ne hS0.now.tag hS0.tg (by decide) q) (fun q => tag_ne hS0.now.tag (hS0.tA q) (by decide) rfl))
 have hown : w13.ownsRow w0.heap.size 73 1 v8 (vs ++ [v]).length (vs ++ [v]) := by have := ho10.2; rw [enV_flat] at this; exact this
 exact ⟨_, rfl, turned_step hS0 ha hat hvs hC0 hmf hb hown hvf⟩
open Go.RowKit
theorem Yp.mono' {P : Program} {K K' : Value → World → Prop} {J J' : List PanicEntry → World → Prop} {r : Result Next} (h : Yp P K J r) (hm : ∀ v w, K v w → K' v w) (hj : ∀ c w, J c w → J' c w) : Yp P K' J' r := by
  match r, h with
  | .ok (.value v) w', h => exact hm _ _ h
  | .ok .skip w', h => exact hm _ _ h
  | .halt (.panic v) w', h => exact hj _ _ h
  | .ok (.enter f args) w', h =>
    refine Calls.mono h fun e w'' hx => ?_
    match e, hx with
    | .returned v, hx => exact hm _ _ hx
    | .panicked ch, hx => exact hj _ _ hx
open Go.RowKit
section
variable {P : Program} {l : List Oper} {kill : Nat → List Nat} {C : Nat → World → Prop} {R : Nat → World → World → Prop} {Φ : Nat → Fact} {a0 : Act}
def StepsFC (P : Program) (l : List Oper) (L : Nat) (C : Nat → World → Prop) (R : Nat → World → World → Prop) (Φ : Nat → Fact) (ρ : Slots) : Nat → List Oper → Prop
  | _, [] => True
  | n, o :: r => (bif Nat.ble L n then True else StepF P l C R Φ ρ n o) ∧ StepsFC P l L C R Φ ρ (n + 1) r
theorem stepFC {L n : Nat} {ρ : Slots} {o : Oper} (h : StepF P l C R Φ ρ n o) : bif Nat.ble L n then True else StepF P l C R Φ ρ n o := by
  cases Nat.ble L n
  · exact h
  · trivial
theorem StepsFC.get {L : Nat} {ρ : Slots} : ∀ (r : List Oper) (n : Nat), StepsFC P l L C R Φ ρ n r → ∀ k o, r[k]? = some o → n + k < L → StepF P l C R Φ ρ (n + k) o
  | [], _, _, k, o, h, _ => by simp at h
  | o' :: r, n, hs, 0, o, h, hne => by
    simp only [List.getElem?_cons_zero, Option.some.injEq] at h
    subst h
    have h1 := hs.1
    rw [show Nat.ble L n = false by rw [← Bool.not_eq_true]; exact fun x => by have := Nat.le_of_ble_eq_true x; omega] at h1
    exact h1
  | o' :: r, n, hs, k + 1, o, h, hne => by
    rw [List.getElem?_cons_succ] at h
    have := StepsFC.get r (n + 1) hs.2 k o h (by omega)
    rwa [show n + 1 + k = n + (k + 1) by omega] at this
end
open Go.RowKit
def dstOf (l : List Oper) (i : Nat) : Option Tmp := l[i]?.bind (·.dst)
def pairB (m : List Nat) : List Nat → Bool
  | [] => true
  | a :: r => r.all (fun b => (m.getD b 0).testBit a) && pairB m r
def ndB : List Tmp → Bool
  | [] => true
  | a :: r => !r.contains a && ndB r
def floatB (l : List Oper) (fs : List (Nat × Tmp)) (cs : List Nat) : Bool :=
  (List.range l.length).all (fun i => (fs.map Prod.fst).contains i || cs.contains i) &&
  ((match cs.getLast? with | some c => fs.all (fun p => ((masks l []).getD c 0).testBit p.1) | none => false) && (ndB (fs.map Prod.snd) && (pairB (masks l []) cs &&
  (fs.all (fun p => match l[p.1]? with
    | some o => (o.guard.isNone && !cs.contains p.1) && (o.dst == some p.2 && (((List.range (p.1 + 1)).all (fun j => match l[j]? with | some q => !(q.looksAt l.toArray).contains p.2 | none => true)) && ((List.range l.length).all (fun j => Nat.beq j p.1 || dstOf l j != some p.2) && cs.all (fun c => match dstOf l c with | some d => !(o.looksAt l.toArray).contains d | none => true))))
    | none => false) &&
  (cs.all (fun c => match l[c]? with | some o => o.guard.isNone | none => false) &&
   l.all (fun o => match o.op with | .select .. => false | _ => true))))))
def chainF (P : Program) (l : List Oper) (I : World → Prop) (K : Slots → World → Prop) : List Nat → Slots → World → Prop
  | [], ρ, w => K ρ w
  | i :: r, ρ, w => match l[i]? with
    | none => False
    | some o => Yk P (fun v w' => (r = [] ∨ I w') ∧ chainF P l I K r (updO ρ o.dst v) w') ((execOp (evalR ρ) o).run P w)
def floatsF : List (Nat × Tmp × Value) → Slots → Slots
  | [], ρ => ρ
  | p :: r, ρ => floatsF r (upd ρ p.2.1 p.2.2)
def chainX (P : Program) (l : List Oper) (X : World → World → Prop) (I : World → Prop) (J : List PanicEntry → World → Prop) (K : Slots → World → Prop) : List Nat → Slots → World → Prop
  | [], ρ, w => K ρ w
  | i :: r, ρ, w => match l[i]? with
    | none => False
    | some o => ∀ w0, X w w0 → Yp P (fun v w' => (r = [] ∨ I w') ∧ chainX P l X I J K r (updO ρ o.dst v) w') J ((execOp (evalR ρ) o).run P w0)
def FloatsX (P : Program) (l : List Oper) (X : World → World → Prop) (I : World → Prop) (ρ : Slots) : List (Nat × Tmp × Value) → Prop
  | [] => True
  | p :: r => (match l[p.1]? with
    | none => False
    | some o => ∀ w, I w → Yk P (fun x w' => x = p.2.2 ∧ X w w') ((execOp (evalR ρ) o).run P w)) ∧ FloatsX P l X I ρ r
def FloatsO (P : Program) (l : List Oper) (I : World → Prop) (ρ : Slots) : List (Nat × Tmp × Value) → Prop
  | [] => True
  | p :: r => (match l[p.1]? with
    | none => False
    | some o => ∀ w, I w → Yk P (fun x w' => x = p.2.2 ∧ w' = w) ((execOp (evalR ρ) o).run P w)) ∧ FloatsO P l I ρ r
theorem chF_step {P : Program} {l : List Oper} {I : World → Prop} {K : Slots → World → Prop} {i : Nat} {r : List Nat} {ρ : Slots} {w : World} {o : Oper} (ho : l[i]? = some o)
    (h : Yk P (fun v w' => (r = [] ∨ I w') ∧ chainF P l I K r (updO ρ o.dst v) w') ((execOp (evalR ρ) o).run P w)) : chainF P l I K (i :: r) ρ w := by
  unfold chainF
  rw [ho]
  exact h
theorem chF_nil {P : Program} {l : List Oper} {I : World → Prop} {K : Slots → World → Prop} {ρ : Slots} {w : World} (h : K ρ w) : chainF P l I K [] ρ w := h
theorem updO_some {ρ : Slots} {d : Tmp} {v : Value} : updO ρ (some d) v = upd ρ d v := rfl
theorem upd_eq {ρ : Slots} {d : Tmp} {v : Value} : upd ρ d v d = v := by simp [upd]
theorem upd_ne {ρ : Slots} {d t : Tmp} {v : Value} (h : t ≠ d) : upd ρ d v t = ρ t := by
  have : Nat.beq t d = false := by rw [← Bool.not_eq_true, Nat.beq_eq]; exact h
  simp [upd, this]
theorem floatsF_old : ∀ (fs : List (Nat × Tmp × Value)) (ρ : Slots) (t : Tmp), (∀ p ∈ fs, p.2.1 ≠ t) → floatsF fs ρ t = ρ t
  | [], _, _, _ => rfl
  | p :: r, ρ, t, h => by
    show floatsF r (upd ρ p.2.1 p.2.2) t = _
    rw [floatsF_old r _ t (fun q hq => h q (by simp [hq])), upd_ne (fun e => h p (by simp) e.symm)]
theorem floatsF_new : ∀ (fs : List (Nat × Tmp × Value)) (ρ : Slots), (fs.map fun p => p.2.1).Nodup → ∀ p ∈ fs, floatsF fs ρ p.2.1 = p.2.2
  | q :: r, ρ, h, p, hp => by
    have hn := List.nodup_cons.1 h
    show floatsF r (upd ρ q.2.1 q.2.2) p.2.1 = _
    rcases List.mem_cons.1 hp with rfl | hp
    · rw [floatsF_old r _ _ (fun x hx e => hn.1 (List.mem_map.2 ⟨x, hx, e⟩)), upd_eq]
    · exact floatsF_new r _ hn.2 p hp
theorem FloatsX.get {P : Program} {l : List Oper} {X : World → World → Prop} {I : World → Prop} {ρ : Slots} : ∀ {fs : List (Nat × Tmp × Value)}, FloatsX P l X I ρ fs → ∀ p ∈ fs, ∀ o, l[p.1]? = some o → ∀ w, I w → Yk P (fun x w' => x = p.2.2 ∧ X w w') ((execOp (evalR ρ) o).run P w)
  | q :: r, h, p, hp, o, ho, w, hI => by
    rcases List.mem_cons.1 hp with rfl | hp
    · have h1 := h.1
      rw [ho] at h1
      exact h1 w hI
    · exact FloatsX.get h.2 p hp o ho w hI
theorem FloatsO.toX {P : Program} {l : List Oper} {I : World → Prop} {ρ : Slots} : ∀ {fs : List (Nat × Tmp × Value)}, FloatsO P l I ρ fs → FloatsX P l Eq I ρ fs
  | [], _ => trivial
  | q :: r, h => by
    refine ⟨?_, FloatsO.toX h.2⟩
    have h1 := h.1
    cases ho : l[q.1]? with
    | none => rw [ho] at h1; exact h1
    | some o => rw [ho] at h1; exact fun w hw => Yk.mono (h1 w hw) fun _ _ h => ⟨h.1, h.2.symm⟩
theorem chainF.toX {P : Program} {l : List Oper} {I : World → Prop} {J : List PanicEntry → World → Prop} {K : Slots → World → Prop} : ∀ {cs : List Nat} {ρ : Slots} {w : World}, chainF P l I K cs ρ w → chainX P l Eq I J K cs ρ w
  | [], _, _, h => h
  | i :: r, ρ, w, h => by
    unfold chainF at h
    unfold chainX
    cases ho : l[i]? with
    | none => rw [ho] at h; exact h
    | some o => rw [ho] at h; exact fun w0 e => by subst e; exact .ofK (Yk.mono h fun _ _ h => ⟨h.1, chainF.toX h.2⟩)
theorem pairB_get {m : List Nat} : ∀ {cs : List Nat}, pairB m cs = true → ∀ a b (u v : List Nat), cs = u ++ a :: v → b ∈ v → (m.getD b 0).testBit a = true
  | [], _, a, b, u, v, e, _ => by simp at e
  | x :: r, h, a, b, u, v, e, hb => by
    unfold pairB at h
    rw [Bool.and_eq_true] at h
    cases u with
    | nil =>
      simp at e
      obtain ⟨rfl, rfl⟩ := e
      exact List.all_eq_true.1 h.1 b hb
    | cons y u =>
      simp at e
      exact pairB_get h.2 a b u v e.2 hb
theorem exec_agree {ρ σ : Slots} {o : Oper} {ops : Array Oper} (hs : ∀ cs b, o.op ≠ .select cs b) (h : ∀ t ∈ o.looksAt ops, σ t = ρ t) : execOp (evalR σ) o = execOp (evalR ρ) o :=
  execOp_congr o hs fun x hx => by
    cases x with
    | tmp t => exact h t (List.mem_append_left _ (List.mem_filterMap.2 ⟨.tmp t, by simpa using hx, rfl⟩))
    | _ => rfl
section
variable {P : Program} {n : Nat} {ρ : Slots} {w : World} {Q : PostF} {l : List Oper} {fs : List (Nat × Tmp × Value)} {cs : List Nat} {I : World → Prop}
structure FInv (l : List Oper) (fs : List (Nat × Tmp × Value)) (cs : List Nat) (X : World → World → Prop) (I : World → Prop) (n : Nat) (ρf ρc : Slots) (wc : World) (rest : List Nat) (listed : Array Bool) (a : Act) (w : World) : Prop where
  size : listed.size = l.length
  closed : ∀ i o, l[i]? = some o → On listed i → ∀ e ∈ o.after, Region.binds .any e = true → On listed e.on
  tmps : a.tmps.size = n
  defers : a.defers = []
  suffix : ∃ u, cs = u ++ rest ∧ (∀ c ∈ u, On listed c) ∧ ∀ c ∈ rest, ¬ On listed c
  agree : ∀ t, (∀ p ∈ fs, ¬ On listed p.1 → p.2.1 ≠ t) → a.tmps.getD t undef = ρc t
  ghost : ∀ t, (∀ c ∈ cs, dstOf l c ≠ some t) → ρc t = ρf t
  inv : rest = [] ∨ I w
  turn : X wc w
  same : rest = [] → wc = w
theorem wp_of_yields {a : Act} {o : Oper} {K : Act → World → Prop} {Q' : Exit → Act → World → Prop} (h : Yk P (fun v w' => K (a.put o.dst v) w') ((execOp a.eval o).run P w)) : o.wp P a w K Q' := by
  unfold Oper.wp Oper.upon
  revert h
  generalize (execOp a.eval o).run P w = r
  intro h
  match r, h with
  | .ok (.value v) w', h => exact h
  | .ok .skip w', h => exact h
  | .ok (.enter f args) w', h =>
    refine Calls.mono h ?_
    rintro e w'' ⟨v, rfl, hk⟩
    exact hk
theorem wp_of_yieldsP {a : Act} {o : Oper} {K : Act → World → Prop} {Q' : Exit → Act → World → Prop} {J : List PanicEntry → World → Prop} (h : Yp P (fun v w' => K (a.put o.dst v) w') J ((execOp a.eval o).run P w)) (hJ : ∀ ch w', J ch w' → Q' (.panic ch) a w') : o.wp P a w K Q' := by
  unfold Oper.wp Oper.upon
  revert h
  generalize (execOp a.eval o).run P w = r
  intro h
  match r, h with
  | .ok (.value v) w', h => exact h
  | .ok .skip w', h => exact h
  | .halt (.panic v) w', h => exact hJ _ _ h
  | .ok (.enter f args) w', h =>
    refine Calls.mono h ?_
    intro e w'' hx
    match e, hx with
    | .returned v, hx => exact hx
    | .panicked ch, hx => exact hJ _ _ hx
theorem ndB_nodup : ∀ {l : List Tmp}, ndB l = true → l.Nodup
  | [], _ => List.nodup_nil
  | a :: r, h => by
    unfold ndB at h
    rw [Bool.and_eq_true] at h
    refine List.nodup_cons.2 ⟨fun hm => ?_, ndB_nodup h.2⟩
    have := h.1
    rw [List.contains_iff_mem.2 hm] at this
    cases this
theorem float_any {X : World → World → Prop} (hX : ∀ a, X a a) (hXt : ∀ a b c, X a b → X b c → X a c) (hIX : ∀ a b, I a → X a b → I b) (hg : goodB l n = true) (hb : floatB l (fs.map fun p => (p.1, p.2.1)) cs = true) (hf : FloatsX P l X I (floatsF fs ρ) fs) :
    ∀ (fuel : Nat) (listed : Array Bool) (a : Act) (w : World) (ρc : Slots) (wc : World) (rest : List Nat), (listed.toList.filter (!·)).length = fuel → FInv l fs cs X I n (floatsF fs ρ) ρc wc rest listed a w → chainX P l X I (fun ch w' => ∀ ρ', Q (.panic ch) ρ' w') (fun ρ w => Q .normal ρ w) rest ρc wc →
      wpAny P .any l.toArray (fun e a' w' => ∃ ρ', Fits n ρ' a' ∧ Q e ρ' w') fuel listed a w := by
  have g := good_of hg
  unfold floatB at hb
  simp only [Bool.and_eq_true] at hb
  obtain ⟨hcov, hlast, hnd, hpair, hfl, hcg, hsel⟩ := hb
  have hcov' : ∀ i, i < l.length → (∃ p ∈ fs, p.1 = i) ∨ i ∈ cs := fun i hi => by
    have := List.all_eq_true.1 hcov i (by simpa using hi)
    rw [Bool.or_eq_true] at this
    rcases this with h | h
    · left
      have := List.contains_iff_mem.1 h
      simp at this
      obtain ⟨d, v, h⟩ := this
      exact ⟨_, h, rfl⟩
    · exact .inr (List.contains_iff_mem.1 h)
  have hfl' : ∀ p ∈ fs, ∃ o, l[p.1]? = some o ∧ o.guard = none ∧ p.1 ∉ cs ∧ o.dst = some p.2.1 ∧ (∀ j q, j ≤ p.1 → l[j]? = some q → p.2.1 ∉ q.looksAt l.toArray) ∧ (∀ j, j < l.length → j ≠ p.1 → dstOf l j ≠ some p.2.1) ∧ ∀ c ∈ cs, ∀ d, dstOf l c = some d → d ∉ o.looksAt l.toArray := fun p hp => by
    have := List.all_eq_true.1 hfl (p.1, p.2.1) (List.mem_map.2 ⟨p, hp, rfl⟩)
    dsimp only at this
    cases ho : l[p.1]? with
    | none => rw [ho] at this; cases this
    | some o =>
      rw [ho] at this
      simp only [Bool.and_eq_true] at this
      obtain ⟨⟨h1, h1c⟩, h2, h5, h3, h4⟩ := this
      refine ⟨o, rfl, by simpa using h1, fun hc => ?_, by simpa using h2, fun j q hj hq hx => ?_, fun j hj hne e => ?_, fun c hc d hd hx => ?_⟩
      · rw [List.contains_iff_mem.2 hc] at h1c; cases h1c
      · have := List.all_eq_true.1 h5 j (by simp; omega)
        rw [hq] at this
        simp only at this
        rw [List.contains_iff_mem.2 hx] at this
        cases this
      · have := List.all_eq_true.1 h3 j (by simpa using hj)
        rw [Bool.or_eq_true] at this
        rcases this with h | h
        · exact hne (Nat.eq_of_beq_eq_true h)
        · rw [e] at h; simp at h
      · have := List.all_eq_true.1 h4 c hc
        rw [hd] at this
        simp only at this
        rw [List.contains_iff_mem.2 hx] at this
        cases this
  have hcg' : ∀ c ∈ cs, ∃ o, l[c]? = some o ∧ o.guard = none := fun c hc => by
    have := List.all_eq_true.1 hcg c hc
    cases ho : l[c]? with
    | none => rw [ho] at this; cases this
    | some o => rw [ho] at this; exact ⟨o, rfl, by simpa using this⟩
  have hsel' : ∀ (i : Nat) (o : Oper), l[i]? = some o → ∀ cs b, o.op ≠ Op.select cs b := fun i o ho cs b e => by
    have := List.all_eq_true.1 hsel o (List.mem_of_getElem? ho)
    rw [e] at this
    cases this
  have hnew : ∀ p ∈ fs, floatsF fs ρ p.2.1 = p.2.2 := floatsF_new fs ρ (by
    have := ndB_nodup hnd
    rw [List.map_map] at this
    exact this)
  have hlt : ∀ (i : Nat) (o : Oper), l[i]? = some o → i < l.length := fun i o ho => (List.getElem?_eq_some_iff.1 ho).1
  -- all are done
  have fin : ∀ (listed : Array Bool) (a : Act) (w : World) (ρc : Slots) (wc : World) (rest : List Nat), FInv l fs cs X I n (floatsF fs ρ) ρc wc rest listed a w → chainX P l X I (fun ch w' => ∀ ρ', Q (.panic ch) ρ' w') (fun ρ w => Q .normal ρ w) rest ρc wc → (∀ i, i < l.length → On listed i) → ∃ ρ', Fits n ρ' a ∧ Q .normal ρ' w := fun listed a w ρc wc rest h hc hall => by
    obtain ⟨u, hu, hu1, hu2⟩ := h.suffix
    cases rest with
    | nil => exact ⟨ρc, ⟨h.tmps, h.defers, fun t => h.agree t (fun p hp hno => by
        obtain ⟨o, ho, -⟩ := hfl' p hp
        exact absurd (hall p.1 (hlt _ _ ho)) hno)⟩, by have e := h.same rfl; subst e; exact hc⟩
    | cons c r =>
      obtain ⟨o, ho, -⟩ := hcg' c (by rw [hu]; simp)
      exact absurd (hall c (hlt _ _ ho)) (hu2 c (by simp))
  intro fuel
  induction fuel with
  | zero =>
    intro listed a w ρc wc rest hfu h hc
    have full : ∀ i, i < l.length → On listed i := fun i hi => by
      have := count_zero _ hfu i (by rw [Array.length_toList, h.size]; omega)
      unfold On
      simp at this
      simp [this]
    refine ⟨?_, fin listed a w ρc wc rest h hc full⟩
    cases hr : Region.ready .any l.toArray listed with
    | nil => rfl
    | cons x xs =>
      exfalso
      have hmem : x ∈ Region.ready .any l.toArray listed := by rw [hr]; simp
      obtain ⟨h1, o, ho, _⟩ := mem_ready.1 hmem
      have hx : x < l.length := by simpa using (Array.getElem?_eq_some_iff.1 ho).1
      have h2 := full x hx
      have hx' : x < listed.size := h2.lt
      unfold On at h2
      simp [hx'] at h1 h2
      rw [h1] at h2
      cases h2
  | succ fuel ih =>
    intro listed a w ρc wc rest hfu h hc
    refine ⟨fun hr => fin listed a w ρc wc rest h hc fun i => ?_, fun i hi => ?_⟩
    · induction i using Nat.strongRecOn with
      | _ i ih2 =>
        intro hi
        refine Classical.byContradiction fun hno => ?_
        have ho : l[i]? = some l[i] := List.getElem?_eq_getElem hi
        have : i ∈ Region.ready .any l.toArray listed := by
          refine mem_ready.2 ⟨?_, l[i], by rw [List.getElem?_toArray]; exact ho, fun e he hb => ?_⟩
          · have hi' : i < listed.size := by rw [h.size]; exact hi
            unfold On at hno
            simp [hi'] at hno ⊢
            exact hno
          · have hlt := g.back i _ ho e he hb
            exact ih2 e.on hlt (by omega)
        rw [hr] at this
        cases this
    · obtain ⟨h1, o, ho, hall0⟩ := mem_ready.1 hi
      have ho' : l[i]? = some o := by simpa using ho
      have hilt : i < l.length := hlt i o ho'
      have hil : i < listed.size := by rw [h.size]; exact hilt
      have hno : ¬ On listed i := by
        unfold On
        simp [hil] at h1 ⊢
        exact h1
      have hall : ∀ e ∈ o.after, Region.binds .any e = true → On listed e.on := fun e he hb => hall0 e he hb
      have hI : Inv l (fun _ => []) (fun _ _ => True) (fun _ _ => True) (fun _ _ _ => True) a listed a w :=
        ⟨h.size, h.closed, rfl, rfl, fun _ _ _ => trivial, trivial, fun _ _ => rfl, fun _ _ _ _ _ _ _ _ => trivial⟩
      have hmr : ∀ k, ((masks l []).getD i 0).testBit k = true → On listed k := fun k hk => hI.maskReady ho' hall hk
      have hcnt : ((listed.setIfInBounds i true).toList.filter (!·)).length = fuel := by
        rw [Array.toList_setIfInBounds]
        have := count_set listed.toList i (by
          simp [hil] at h1
          simp [hil, h1])
        omega
      have hcl : ∀ j oj, l[j]? = some oj → On (listed.setIfInBounds i true) j → ∀ e ∈ oj.after, Region.binds .any e = true → On (listed.setIfInBounds i true) e.on := fun j oj hj hon e he hb => by
        rcases (on_set hil).1 hon with rfl | hon
        · obtain rfl : o = oj := by rw [ho'] at hj; exact Option.some.inj hj
          exact (on_set hil).2 (.inr (hall e he hb))
        · exact (on_set hil).2 (.inr (h.closed j oj hj hon e he hb))
      have hF : Fits n (fun t => a.tmps.getD t undef) a := ⟨h.tmps, h.defers, fun t => rfl⟩
      have hroom : ∀ t, o.dst = some t → t < n := fun t ht => g.room i o t ho' ht
      -- what it looks at is as in the frame in order
      have hlook : ∀ t ∈ o.looksAt l.toArray, a.tmps.getD t undef = ρc t := fun t ht => h.agree t fun q hq hnq e => by
        subst e
        obtain ⟨oq, hoq, -, -, hdq, hearly, -⟩ := hfl' q hq
        by_cases hqi : i ≤ q.1
        · exact hearly i o hqi ho' ht
        · exact hnq (hmr q.1 (g.tied i o q.1 oq q.2.1 ho' hoq (by omega) (.inl ⟨hdq, List.mem_append_right _ ht⟩)))
      unfold wpOp
      simp only [List.getElem?_toArray, ho']
      obtain ⟨u, hu, hu1, hu2⟩ := h.suffix
      have hguard : o.guard = none := by
        rcases hcov' i hilt with ⟨p, hp, rfl⟩ | hic
        · obtain ⟨o2, ho2, h2, -⟩ := hfl' p hp
          rw [ho'] at ho2
          cases ho2
          exact h2
        · obtain ⟨o2, ho2, h2⟩ := hcg' i hic
          rw [ho'] at ho2
          cases ho2
          exact h2
      have hw : Region.wanted o (yielded l.toArray a.tmps) = true := by unfold Region.wanted; rw [hguard]
      rw [if_pos hw]
      rcases hcov' i hilt with ⟨p, hp, rfl⟩ | hic
      · refine .inl (wp_of_yields ?_)
        rw [hF.eval]
        obtain ⟨o2, ho2, h2, hpc, hpd, hearly, huniq, hpl⟩ := hfl' p hp
        rw [ho'] at ho2
        cases ho2
        have hghost : ∀ t ∈ o.looksAt l.toArray, a.tmps.getD t undef = floatsF fs ρ t := fun t ht => (hlook t ht).trans (h.ghost t fun c hc e => hpl c hc t e ht)
        rw [exec_agree (ρ := floatsF fs ρ) (hsel' _ _ ho') hghost]
        have hrn : rest ≠ [] := fun e => by
          subst e
          rw [List.append_nil] at hu
          cases hgl : cs.getLast? with
          | none => rw [hgl] at hlast; cases hlast
          | some c =>
            rw [hgl] at hlast
            have hcm : c ∈ cs := List.mem_of_getLast? hgl
            have hb1 := List.all_eq_true.1 hlast (p.1, p.2.1) (List.mem_map.2 ⟨p, hp, rfl⟩)
            exact absurd (hI.mask c p.1 (hu1 c (hu ▸ hcm)) hb1) hno
        have hIw : I w := h.inv.elim (fun e => absurd e hrn) (fun x => x)
        refine Yk.mono (hf.get p hp o ho' w hIw) ?_
        rintro v w' ⟨rfl, hxw⟩
        refine ih _ _ _ ρc wc rest hcnt ⟨by simpa using h.size, hcl, (hF.put o.dst hroom _).size, (hF.put o.dst hroom _).defers, ⟨u, hu, fun c hc => (on_set hil).2 (.inr (hu1 c hc)), fun c hc hx => ?_⟩, fun t ht => ?_, h.ghost, .inr (hIX _ _ hIw hxw), hXt _ _ _ h.turn hxw, fun e => absurd e hrn⟩ hc
        · rcases (on_set hil).1 hx with rfl | hx
          · exact hpc (by rw [hu]; exact List.mem_append_right _ hc)
          · exact hu2 c hc hx
        · rw [(hF.put o.dst hroom _).get t, hpd]
          by_cases e : t = p.2.1
          · subst e
            rw [updO_some, upd_eq, h.ghost _ (fun c hc e => ?_), hnew p hp]
            obtain ⟨oc, hoc, -⟩ := hcg' c hc
            exact huniq c (hlt _ _ hoc) (fun x => hpc (x ▸ hc)) e
          · rw [updO_some, upd_ne e]
            refine h.agree t fun q hq hnq => ?_
            by_cases hqi : q.1 = p.1
            · obtain ⟨oq, hoq, -, -, hdq, -⟩ := hfl' q hq
              rw [hqi, ho'] at hoq
              cases hoq
              rw [hpd] at hdq
              exact fun x => e (x.symm.trans (Option.some.inj hdq).symm)
            · exact ht q hq (fun x => by
                rcases (on_set hil).1 x with x | x
                · exact hqi x
                · exact hnq x)
      · have hir : i ∈ rest := by
          rw [hu] at hic
          rcases List.mem_append.1 hic with x | x
          · exact absurd (hu1 i x) hno
          · exact x
        cases rest with
        | nil => cases hir
        | cons b r =>
          have hib : i = b := by
            refine Classical.byContradiction fun hne => ?_
            rcases List.mem_cons.1 hir with x | x
            · exact hne x
            · exact hu2 b (by simp) (hmr b (pairB_get hpair b i u r hu x))
          subst hib
          have hc' : Yp P (fun v w' => (r = [] ∨ I w') ∧ chainX P l X I (fun ch w' => ∀ ρ', Q (.panic ch) ρ' w') (fun ρ w => Q .normal ρ w) r (updO ρc o.dst v) w') (fun ch w' => ∀ ρ', Q (.panic ch) ρ' w') ((execOp (evalR ρc) o).run P w) := by
            unfold chainX at hc
            rw [ho'] at hc
            exact hc w h.turn
          refine .inl (wp_of_yieldsP (J := fun ch w' => ∀ ρ', Q (.panic ch) ρ' w') ?_ fun ch w' h => ⟨_, hF, h _⟩)
          rw [hF.eval]
          rw [exec_agree (ρ := ρc) (hsel' _ _ ho') hlook]
          refine Yp.mono' hc' ?_ fun _ _ h => h
          rintro v w' ⟨hIw, hcr⟩
          refine ih _ _ _ _ w' r hcnt ⟨by simpa using h.size, hcl, (hF.put o.dst hroom _).size, (hF.put o.dst hroom _).defers, ⟨u ++ [i], by rw [hu]; simp, fun c hcm => ?_, fun c hcm hx => ?_⟩, fun t ht => ?_, fun t ht => ?_, hIw, hX _, fun _ => rfl⟩ hcr
          · rcases List.mem_append.1 hcm with x | x
            · exact (on_set hil).2 (.inr (hu1 c x))
            · exact (on_set hil).2 (.inl (List.mem_singleton.1 x))
          · rcases (on_set hil).1 hx with rfl | hx
            · exact hno (hmr c (pairB_get hpair c c u r hu hcm))
            · exact hu2 c (by simp [hcm]) hx
          · rw [(hF.put o.dst hroom _).get t]
            cases hd : o.dst with
            | none =>
              exact h.agree t fun q hq hnq => ht q hq (fun x => by
                rcases (on_set hil).1 x with x | x
                · obtain ⟨_, _, _, hpc, _⟩ := hfl' q hq
                  exact hpc (x ▸ hic)
                · exact hnq x)
            | some d =>
              rw [updO_some, updO_some]
              by_cases e : t = d
              · subst e; rw [upd_eq, upd_eq]
              · rw [upd_ne e, upd_ne e]
                exact h.agree t fun q hq hnq => ht q hq (fun x => by
                  rcases (on_set hil).1 x with x | x
                  · obtain ⟨_, _, _, hpc, _⟩ := hfl' q hq
                    exact hpc (x ▸ hic)
                  · exact hnq x)
          · have hne := ht i hic
            unfold dstOf at hne
            rw [ho'] at hne
            simp only [Option.bind_some] at hne
            cases hd : o.dst with
            | none => exact h.ghost t ht
            | some d =>
              rw [hd] at hne
              rw [updO_some, upd_ne (fun e => hne (by rw [e]))]
              exact h.ghost t ht
theorem wpF_floatX {X : World → World → Prop} (hX : ∀ a, X a a) (hXt : ∀ a b c, X a b → X b c → X a c) (fs : List (Nat × Tmp × Value)) (cs : List Nat) (I : World → Prop) (hIX : ∀ a b, I a → X a b → I b) {id : Nat} (hm : P.follows .mixedOrders = true) (hg : goodB l n = true) (hb : floatB l (fs.map fun p => (p.1, p.2.1)) cs = true) (hI : I w.drew) (hf : FloatsX P l X I (floatsF fs ρ) fs)
    (hc : chainX P l X I (fun ch w' => ∀ ρ', Q (.panic ch) ρ' w') (fun ρ w => Q .normal ρ w) cs (floatsF fs ρ) w.drew) : wpF P n (.region id l.toArray true) Q ρ w := by
  intro a ha
  exact wp_region_any hm (float_any hX hXt hIX (ρ := ρ) hg hb hf _ _ _ _ (floatsF fs ρ) w.drew cs (by simp) ⟨by simp, fun i o _ h => absurd h On.not_replicate, ha.size, ha.defers, ⟨[], rfl, (fun c hc => by cases hc), fun c _ h => On.not_replicate h⟩, fun t ht => (ha.get t).trans (floatsF_old fs ρ t (fun p hp => ht p hp On.not_replicate)).symm, fun t _ => rfl, .inr hI, hX _, fun _ => rfl⟩ hc)
theorem wpF_float (fs : List (Nat × Tmp × Value)) (cs : List Nat) (I : World → Prop) {id : Nat} (hm : P.follows .mixedOrders = true) (hg : goodB l n = true) (hb : floatB l (fs.map fun p => (p.1, p.2.1)) cs = true) (hI : I w.drew) (hf : FloatsO P l I (floatsF fs ρ) fs)
    (hc : chainF P l I (fun ρ w => Q .normal ρ w) cs (floatsF fs ρ) w.drew) : wpF P n (.region id l.toArray true) Q ρ w :=
  wpF_floatX (X := Eq) (fun _ => rfl) (fun _ _ _ h1 h2 => h1.trans h2) fs cs I (fun _ _ h e => e ▸ h) hm hg hb hI hf.toX hc.toX
end
open Go.Shelf Go.RowKit
def cloneK_ren : Go.Shelf.Ren := ⟨fun | 5 => 44 | 7 => 62 | n => n, fun | 23 => 52 | 25 => 9 | 3 => 69 | 4 => 4 | 20 => 20 | n => n, fun | n => n⟩
theorem cloneK : Go.Proofs.SlLaysW.n5 Tryd.prog cloneK_ren := {
  mixed := by kernel_rfl
  f5 := ⟨Tryd.f44.name, by decide, Tryd.func44.trans (congrArg some (by kernel_rfl))⟩
  f7 := Tryd.func62.trans (congrArg some (by kernel_rfl))
  t4 := Tryd.underlying4
  a4 := Tryd.isAgg4
  z4 := Tryd.sizeOf4
  v4 := Tryd.zeroValue4
  t20 := Tryd.underlying20
  a20 := Tryd.isAgg20
  z20 := Tryd.sizeOf20
  v20 := Tryd.zeroValue20
  t23 := Tryd.underlying52
  a23 := Tryd.isAgg52
  z23 := Tryd.sizeOf52
  v23 := Tryd.zeroValue52 }
def keysK_ren : Go.Shelf.Ren := ⟨fun | 7 => 46 | 10 => 65 | n => n, fun | 23 => 52 | 26 => 9 | 3 => 69 | 28 => 85 | 0 => 0 | 27 => 84 | 33 => 91 | 4 => 4 | n => n, fun | n => n⟩
theorem keysK : Go.Proofs.SlLaysZ.n7 Tryd.prog keysK_ren := {
  mixed := by kernel_rfl
  f7 := ⟨Tryd.f46.name, by decide, Tryd.func46.trans (congrArg some (by kernel_rfl))⟩
  f10 := ⟨Tryd.f65.name, by decide, Tryd.func65.trans (congrArg some (by kernel_rfl))⟩
  t0 := Tryd.underlying0
  a0 := Tryd.isAgg0
  z0 := Tryd.sizeOf0
  v0 := Tryd.zeroValue0
  t4 := Tryd.underlying4
  a4 := Tryd.isAgg4
  z4 := Tryd.sizeOf4
  v4 := Tryd.zeroValue4
  t23 := Tryd.underlying52
  a23 := Tryd.isAgg52
  z23 := Tryd.sizeOf52
  v23 := Tryd.zeroValue52
  t26 := Tryd.underlying9
  a26 := Tryd.isAgg9
  z26 := Tryd.sizeOf9
  v26 := Tryd.zeroValue9
  t27 := Tryd.underlying84
  a27 := Tryd.isAgg84
  z27 := Tryd.sizeOf84
  v27 := Tryd.zeroValue84
  t28 := Tryd.underlying85
  a28 := Tryd.isAgg85
  z28 := Tryd.sizeOf85
  v28 := Tryd.zeroValue85
  t33 := Tryd.underlying91
  a33 := Tryd.isAgg91
  z33 := Tryd.sizeOf91
  v33 := Tryd.zeroValue91 }
def sortedK_ren : Go.Shelf.Ren := ⟨fun | 6 => 45 | 8 => 63 | 9 => 64 | 11 => 74 | 13 => 76 | 12 => 75 | 23 => 90 | 24 => 91 | 14 => 81 | 15 => 82 | 16 => 83 | 17 => 84 | 18 => 85 | 19 => 86 | 20 => 87 | 21 => 88 | 22 => 89 | 25 => 94 | 26 => 95 | 27 => 96 | 28 => 97 | 29 => 98 | 30 => 99 | 31 => 100 | n => n, fun | 26 => 9 | 28 => 85 | 24 => 64 | 0 => 0 | 3 => 3 | 37 => 74 | 48 => 93 | 50 => 102 | 4 => 4 | 40 => 124 | 39 => 123 | 45 => 128 | 5 => 5 | 9 => 9 | 51 => 134 | 55 => 138 | 57 => 140 | 58 => 141 | 33 => 91 | n => n, fun | n => n⟩
theorem sortedK : Go.Proofs.SlLaysZ.n6 Tryd.prog sortedK_ren := {
  mixed := by kernel_rfl
  f6 := ⟨Tryd.f45.name, by decide, Tryd.func45.trans (congrArg some (by kernel_rfl))⟩
  f8 := ⟨Tryd.f63.name, by decide, Tryd.func63.trans (congrArg some (by kernel_rfl))⟩
  f11 := ⟨Tryd.f74.name, by decide, Tryd.func74.trans (congrArg some (by kernel_rfl))⟩
  t0 := Tryd.underlying0
  a0 := Tryd.isAgg0
  z0 := Tryd.sizeOf0
  v0 := Tryd.zeroValue0
  t24 := Tryd.underlying64
  a24 := Tryd.isAgg64
  z24 := Tryd.sizeOf64
  v24 := Tryd.zeroValue64
  t26 := Tryd.underlying9
  a26 := Tryd.isAgg9
  z26 := Tryd.sizeOf9
  v26 := Tryd.zeroValue9
  t28 := Tryd.underlying85
  a28 := Tryd.isAgg85
  z28 := Tryd.sizeOf85
  v28 := Tryd.zeroValue85
  i26 := by kernel_rfl }
def sortK_ren : Go.Shelf.Ren := ⟨fun | 6 => 64 | 8 => 76 | 9 => 75 | 19 => 90 | 20 => 91 | 21 => 81 | 22 => 82 | 23 => 83 | 24 => 84 | 25 => 85 | 26 => 86 | 27 => 87 | 28 => 88 | 29 => 89 | 36 => 94 | 31 => 95 | 32 => 96 | 37 => 97 | 38 => 98 | 39 => 99 | 41 => 100 | n => n, fun | 27 => 64 | 29 => 9 | 3 => 3 | 32 => 74 | 26 => 64 | 0 => 0 | 44 => 93 | 46 => 102 | 4 => 4 | 36 => 124 | 35 => 123 | 41 => 128 | 5 => 5 | 9 => 9 | 53 => 134 | 57 => 138 | 63 => 140 | 64 => 141 | n => n, fun | n => n⟩
theorem sortK : Go.Proofs.SlLaysM.n6 Tryd.prog sortK_ren := {
  mixed := by kernel_rfl
  f6 := ⟨Tryd.f64.name, by decide, Tryd.func64.trans (congrArg some (by kernel_rfl))⟩
  f8 := Tryd.func76.trans (congrArg some (by kernel_rfl))
  f9 := ⟨Tryd.f75.name, by decide, Tryd.func75.trans (congrArg some (by kernel_rfl))⟩
  f19 := Tryd.func90.trans (congrArg some (by kernel_rfl))
  f20 := Tryd.func91.trans (congrArg some (by kernel_rfl))
  f21 := ⟨Tryd.f81.name, by decide, Tryd.func81.trans (congrArg some (by kernel_rfl))⟩
  f22 := ⟨Tryd.f82.name, by decide, Tryd.func82.trans (congrArg some (by kernel_rfl))⟩
  f23 := ⟨Tryd.f83.name, by decide, Tryd.func83.trans (congrArg some (by kernel_rfl))⟩
  f24 := ⟨Tryd.f84.name, by decide, Tryd.func84.trans (congrArg some (by kernel_rfl))⟩
  f25 := ⟨Tryd.f85.name, by decide, Tryd.func85.trans (congrArg some (by kernel_rfl))⟩
  f26 := ⟨Tryd.f86.name, by decide, Tryd.func86.trans (congrArg some (by kernel_rfl))⟩
  f27 := ⟨Tryd.f87.name, by decide, Tryd.func87.trans (congrArg some (by kernel_rfl))⟩
  f28 := ⟨Tryd.f88.name, by decide, Tryd.func88.trans (congrArg some (by kernel_rfl))⟩
  f29 := ⟨Tryd.f89.name, by decide, Tryd.func89.trans (congrArg some (by kernel_rfl))⟩
  f31 := Tryd.func95.trans (congrArg some (by kernel_rfl))
  f32 := Tryd.func96.trans (congrArg some (by kernel_rfl))
  f36 := ⟨Tryd.f94.name, by decide, Tryd.func94.trans (congrArg some (by kernel_rfl))⟩
  f37 := ⟨Tryd.f97.name, by decide, Tryd.func97.trans (congrArg some (by kernel_rfl))⟩
  f38 := ⟨Tryd.f98.name, by decide, Tryd.func98.trans (congrArg some (by kernel_rfl))⟩
  f39 := ⟨Tryd.f99.name, by decide, Tryd.func99.trans (congrArg some (by kernel_rfl))⟩
  f41 := ⟨Tryd.f100.name, by decide, Tryd.func100.trans (congrArg some (by kernel_rfl))⟩
  t0 := Tryd.underlying0
  a0 := Tryd.isAgg0
  z0 := Tryd.sizeOf0
  v0 := Tryd.zeroValue0
  t3 := Tryd.underlying3
  a3 := Tryd.isAgg3
  z3 := Tryd.sizeOf3
  v3 := Tryd.zeroValue3
  t4 := Tryd.underlying4
  a4 := Tryd.isAgg4
  z4 := Tryd.sizeOf4
  v4 := Tryd.zeroValue4
  t5 := Tryd.underlying5
  a5 := Tryd.isAgg5
  z5 := Tryd.sizeOf5
  v5 := Tryd.zeroValue5
  t9 := Tryd.underlying9
  a9 := Tryd.isAgg9
  z9 := Tryd.sizeOf9
  v9 := Tryd.zeroValue9
  t26 := Tryd.underlying64
  a26 := Tryd.isAgg64
  z26 := Tryd.sizeOf64
  v26 := Tryd.zeroValue64
  t27 := Tryd.underlying64
  a27 := Tryd.isAgg64
  z27 := Tryd.sizeOf64
  v27 := Tryd.zeroValue64
  t29 := Tryd.underlying9
  a29 := Tryd.isAgg9
  z29 := Tryd.sizeOf9
  v29 := Tryd.zeroValue9
  t32 := Tryd.underlying74
  a32 := Tryd.isAgg74
  z32 := Tryd.sizeOf74
  v32 := Tryd.zeroValue74
  t35 := Tryd.underlying123
  a35 := Tryd.isAgg123
  z35 := Tryd.sizeOf123
  v35 := Tryd.zeroValue123
  t36 := Tryd.underlying124
  a36 := Tryd.isAgg124
  z36 := Tryd.sizeOf124
  v36 := Tryd.zeroValue124
  t41 := Tryd.underlying128
  a41 := Tryd.isAgg128
  z41 := Tryd.sizeOf128
  v41 := Tryd.zeroValue128
  t44 := Tryd.underlying93
  a44 := Tryd.isAgg93
  z44 := Tryd.sizeOf93
  v44 := Tryd.zeroValue93
  t46 := Tryd.underlying102
  a46 := Tryd.isAgg102
  z46 := Tryd.sizeOf102
  v46 := Tryd.zeroValue102
  t53 := Tryd.underlying134
  a53 := Tryd.isAgg134
  z53 := Tryd.sizeOf134
  v53 := Tryd.zeroValue134
  t57 := Tryd.underlying138
  a57 := Tryd.isAgg138
  z57 := Tryd.sizeOf138
  v57 := Tryd.zeroValue138
  t63 := Tryd.underlying140
  a63 := Tryd.isAgg140
  z63 := Tryd.sizeOf140
  v63 := Tryd.zeroValue140
  t64 := Tryd.underlying141
  a64 := Tryd.isAgg141
  z64 := Tryd.sizeOf141
  v64 := Tryd.zeroValue141 }
open Go.RowKit Go.Shelf
theorem clone_map (w : World) {F : Nat → Nat} {b : Nat} {G : List UInt8 → Option Nat} (h : MapF St (pF F) Nm w b G) :
    Calls Tryd.prog 44 #[.map (some b)] w fun e w' => ∃ n, e = .returned (.map (some n)) ∧ w.heap.size ≤ n ∧ MapF St (pF F) Nm w' n G ∧ Ext w w' := by
  obtain ⟨es, c, hb, hI⟩ := h
  have h0 := AnyW.maps_Clone cloneK b es.toArray c w hb
  change Calls _ 44 _ _ _ at h0
  refine h0.mono fun e w' ⟨he, hw⟩ => ⟨w.heap.size, he, Nat.le_refl _, ⟨es, c, by rw [hw]; exact heap_alloc_new _ _, hI⟩, by rw [hw]; exact (Below.refl _ _).alloc (Nat.le_refl _) _⟩
theorem sortsK (m : Nat) : AnyZ.SortsIn Tryd.prog sortedK_ren Fence.wide m :=
  ⟨fun blk off cap ss W hH hblk hsz => callsIn_wide.2 (AnyM.slices_Sort_string sortK blk off cap ss W hH hblk hsz), fun p cap W => callsIn_wide.2 (AnyM.slices_Sort_string_none sortK p cap W)⟩
theorem keys_map (w : World) (b : Nat) : Calls Tryd.prog 46 #[.map (some b)] w fun e w' => e = .returned (.func (.func 65) #[] #[.pointer (some ⟨w.heap.size, 0, none⟩)]) ∧ w' = w.alloc (.cells #[.map (some b)] 52) := by
  have h := AnyZ.keys_in keysK Fence.wide 5 trivial rfl (some b) w
  exact callsIn_wide.1 h
theorem dir_sorted {n : Nat} {l : Dir} (h : DirOk n l) {ss : List (List UInt8)} (hp : ss.Perm (l.map Prod.fst)) : ss.mergeSort (fun x y => decide (x ≤ y)) = l.map Prod.fst := by
  have h1 := mergeSort_of_perm hp
  refine h1.trans (List.mergeSort_of_pairwise ?_)
  refine h.sort.map _ fun a b q => ?_
  rw [bytesLess_eq, decide_eq_true_eq] at q
  simp only [decide_eq_true_eq]
  exact List.le_of_lt q
set_option maxHeartbeats 1000000 in
theorem sorted_map (w w2 : World) {F : Nat → Nat} {b n : Nat} {l : Dir} (hw : w2 = w.alloc (.cells #[.map (some b)] 52)) (h : MapF St (pF F) Nm w b (lookD l)) (hl : DirOk n l) (hlen : l.length < 1099511627776) :
    Calls Tryd.prog 45 #[.func (.func 65) #[] #[.pointer (some ⟨w.heap.size, 0, none⟩)]] w2 fun e w' => ∃ v, e = .returned v ∧ OG w2.heap.size 9 1 enS w' v (l.map Prod.fst) ∧ Ext w2 w' := by
  subst hw
  obtain ⟨D0, hown, hperm, hsize⟩ := h.owns (P := Tryd.prog) (k := 9) (by kernel_rfl) (fun a q => Nat.le_trans q (by decide)) (keys := l.map Prod.fst) (List.Pairwise.map _ (fun a b q e => by rw [e, bl_irrefl] at q; cases q) hl.sort) (fun s => by
    constructor
    · intro q
      obtain ⟨y, hy⟩ := Option.isSome_iff_exists.1 q
      exact List.mem_map.2 ⟨(s, y), look_mem hy, rfl⟩
    · intro q
      obtain ⟨e, he, rfl⟩ := List.mem_map.1 q
      rw [look_of hl.sort he]; rfl) (by rw [List.length_map]; simp only [maxLen]; omega)
  rw [List.length_map] at hsize
  have hbl := hown.lt
  have hseq : SeqGives Fence.wide 2 Tryd.prog 65 #[.pointer (some ⟨w.heap.size, 0, none⟩)] encStr (fun ss => ss.Perm (strKeys D0)) (Maps.size D0) (w.alloc (.cells #[.map (some b)] 52)) :=
    AnyZ.keys_gives (ρ := keysK_ren) { keysK with } Fence.wide _ trivial rfl (by omega) w.heap.size b _ D0 _ (by simp) (by simp) (by
      obtain ⟨es, clock, hb, Ft, hs, hD⟩ := hown
      exact ⟨es, clock, (Below.heap_alloc _ _ b hbl).trans hb, Ft, hs, hD⟩)
  have hS := AnyZ.sorted_in sortedK Fence.wide 5 trivial trivial trivial trivial rfl (by omega) (sortsK _) (enters_of Tryd.func64 (by kernel_rfl) rfl) 65 #[.pointer (some ⟨w.heap.size, 0, none⟩)] trivial (enters_of Tryd.func65 (by kernel_rfl) rfl) _ _ (by rw [hsize]; simp only [maxLen]; omega) (by rw [hsize]; omega) _ hseq
  refine (callsIn_wide.1 hS).mono fun e w' q => ?_
  obtain ⟨v, ss, he, hp, hrow, -, hB⟩ := q
  refine ⟨v, he, ⟨fun _ _ => rfl, ?_⟩, hB⟩
  have hs := dir_sorted hl (hp.trans hperm)
  rw [hs] at hrow
  rw [enS_flat]
  have hlen : ss.length = (l.map Prod.fst).length := (hp.trans hperm).length_eq
  rw [hlen] at hrow
  exact hrow
open Go.RowKit
set_option maxRecDepth 100000
set_option linter.unusedVariables false
set_option linter.unusedSimpArgs false
theorem turn_to (w0 w : World) (hE0 : Ext w0 w) (H : Dk) (D : Dsk) (hS : DkS w0.heap.size w H D) (g : Nat) (hg : H.g = g) (v : Value) (a : ActD) (ha : ActOk D.files.length a) (hat : ActAt w H.F v a) (hn : D.acts.length < 1099511627776) :
  Calls Tryd.prog 37 #[PQ g 0, v] w fun e w' => ∃ va', e = .returned (.tuple #[]) ∧ DkT w0.heap.size w H D w' { H with va := va' } (turnedD D a) := by
 subst hg
 exact turn_at w0 w hE0 H D hS v a ha hat hn
theorem off_next {base : Nat} {w w' : World} {H H1 : Dk} {D D1 : Dsk} (h : DkT base w H D w' H1 D1) {v : Value} {b : List UInt8} (hr : RB w v b) (ho : b = [] ∨ ∀ i, v.ownBlock = some i → ¬ Foot H D.files.length i) : b = [] ∨ ∀ i, v.ownBlock = some i → ¬ Foot H1 D1.files.length i := by
 rcases ho with h0 | ho
 ·exact .inl h0
 ·by_cases hb : b = []
  ·exact .inl hb
  ·refine .inr fun i hi q => ?_
   rcases h.foot i q with q | q
   ·exact ho i hi q
   ·have := RB.lt hr (List.length_pos_iff.2 hb) hi
    omega
theorem DkT.ofExt {base : Nat} {w w' : World} {H : Dk} {D : Dsk} (h : DkS base w H D) (hE : Ext w w') : DkT base w H D w' H D := ⟨h.keep hE, rfl, Chg.ofExt hE, fun _ q => .inl q⟩
theorem add_old {D : Dsk} {s b : List UInt8} {k : Nat} (h : lookD D.now s = some k) : addD D s b = { D with files := D.files.set k ((D.files.getD k ([], 0)).1 ++ b, (D.files.getD k ([], 0)).2) } := by unfold addD; rw [h]; rfl
theorem add_new {D : Dsk} {s b : List UInt8} (h : lookD D.now s = none) : { turnedD { D with files := D.files ++ [([], 0)] } ⟨[], s, D.files.length⟩ with files := (turnedD { D with files := D.files ++ [([], 0)] } ⟨[], s, D.files.length⟩).files.set D.files.length (((turnedD { D with files := D.files ++ [([], 0)] } ⟨[], s, D.files.length⟩).files.getD D.files.length ([], 0)).1 ++ b, ((turnedD { D with files := D.files ++ [([], 0)] } ⟨[], s, D.files.length⟩).files.getD D.files.length ([], 0)).2) } = addD D s b := by
 unfold addD
 rw [h]
 have h1 : (turnedD { D with files := D.files ++ [([], 0)] } ⟨[], s, D.files.length⟩).files = D.files ++ [([], 0)] := rfl
 rw [h1, getD_last]
 have h2 : (D.files ++ [(([] : List UInt8), 0)]).set D.files.length ([] ++ b, 0) = D.files ++ [(b, 0)] := by
  rw [List.set_append_right _ _ (Nat.le_refl _), Nat.sub_self]; rfl
 rw [h2]
 rfl
theorem getD_mem_ {α : Type} {l : List α} {k : Nat} {d : α} (h : k < l.length) : l.getD k d ∈ l := by rw [List.getD_eq_getElem?_getD, List.getElem?_eq_getElem h]; exact List.getElem_mem h
theorem dw6_ty23 : Tryd.prog.underlying 23 = some (.pointer 55) := by kernel_rfl
theorem dw6_pl37 : Plain Tryd.prog 37 := fun _ _ => by kernel_rfl
theorem dw6_ty69 : Tryd.prog.underlying 69 = some (.pointer 71) := by kernel_rfl
theorem dw6_fo71_0 : FieldOff Tryd.prog 71 0 0 := fun b o w => by simp [go_sem]
theorem dw6_ty22 : Tryd.prog.underlying 22 = some (.slice 5) := by kernel_rfl
theorem dw6_fo71_1 : FieldOff Tryd.prog 71 1 1 := fun b o w => by simp [go_sem]
theorem dw6_isz3 : (Tryd.prog.info? 3).map (·.size) = some 1 := by kernel_rfl
theorem dw6_fo55_2 : FieldOff Tryd.prog 55 2 2 := fun b o w => by simp [go_sem]
theorem dw6_fo55_3 : FieldOff Tryd.prog 55 3 3 := fun b o w => by simp [go_sem]
theorem dw6_fo55_1 : FieldOff Tryd.prog 55 1 1 := fun b o w => by simp [go_sem]
theorem dw6_ty52 : Tryd.prog.underlying 52 = some (.map 9 69) := by kernel_rfl
theorem dw6_pl44 : Plain Tryd.prog 44 := fun _ _ => by kernel_rfl
theorem dw6_isz52 : (Tryd.prog.info? 52).map (·.size) = some 1 := by kernel_rfl
theorem dw6_isz53 : (Tryd.prog.info? 53).map (·.size) = some 1 := by kernel_rfl
theorem dw6_ty9 : Tryd.prog.underlying 9 = some (.string) := by kernel_rfl
theorem dw6_inf5 : (Tryd.prog.info? 5).map (fun i => (i.zero, i.size, i.bytes)) = some (some (.int .u8 0), 1, 1) := by kernel_rfl
theorem dw6_isz22 : (Tryd.prog.info? 22).map (·.size) = some 1 := by kernel_rfl
theorem dw6_al69 {d : Option Tmp} {ty : TypeId} {pos : String} {af : Array Edge} {gd : Option (Nat × Bool)} (σ : Operand → Value) (w : World) : (execOp σ ⟨d, .alloc 69, ty, pos, af, gd⟩).run Tryd.prog w = .ok (.value (PQ w.heap.size 0)) (w.alloc (.cells ([.pointer none]).toArray 69)) := by kernel_rfl
theorem dw6_isz69 : (Tryd.prog.info? 69).map (·.size) = some 1 := by kernel_rfl
set_option maxHeartbeats 1600000
theorem rm_at (w0 w : World) (hE0 : Ext w0 w) (H : Dk) (D : Dsk) (hS : DkS w0.heap.size w H D) (bd bs k : Nat) (s : List UInt8) (hbd : w.heap[bd]? = some (.cells ([PQ H.g 0]).toArray 23 (0, 0))) (h3 : w.heap[bs]? = some (.cells ([St s]).toArray 9 (0, 0))) (hk : k < D.files.length) (hs : mayD s = true) (hn : D.acts.length < 1099511627776) :
  Calls Tryd.prog 51 #[PQ bd 0, PQ bs 0] w fun e w' => ∃ H', e = .returned (.tuple #[]) ∧ DkT w0.heap.size w H D w' H' (turnedD D ⟨s, [], k⟩) := by
 have hb := hS.blk
 have hgl0 := hS.lo.1
 have hsz0 := hE0.size
 refine calls_of_wpF (args := [PQ bd 0, PQ bs 0]) Tryd.func51 rfl 5 rfl (Nat.le_of_ble_eq_true rfl) ?_
 intro ρ0 hb
 have T0 : ρ0 0 = (PQ bd 0 : Value) := hb.get 0
 have T1 : ρ0 1 = (PQ bs 0 : Value) := hb.get 1
 clear hb
 have hE := Ext.refl w
 refine wt (oS rfl (Yk.cell1 dw6_ty23 rfl T0 (cellAt hbd (show _ = some (PQ H.g 0 : Value) from rfl)) (oS rfl (Yk.mkFunc (vs := #[PQ bs 0]) (by simp only [List.map_toArray, List.map_cons, List.map_nil]; exact congrArg List.toArray (list1 T1)) (oS rfl (Yk.callA2 dw6_pl37 (vr (PQ H.g 0) rfl) (vr (.func (.func 52) #[] #[PQ bs 0]) rfl) ((turn_at w0 _ hE0 H D (hS.keep hE) (.func (.func 52) #[] #[PQ bs 0]) ⟨s, [], k⟩ ⟨hk, fun q => absurd rfl q, (mayD_pos hs).2⟩ (.inr (.inr ⟨bs, rfl, h3, rfl⟩)) hn).mono ?_)))))))
 rintro e w1 ⟨va2, rfl, hT⟩
 refine ⟨_, rfl, ?_⟩
 refine oZ (postF_end (fn := Tryd.f51) [] rfl [] (.tuple #[]) rfl trivial ?_)
 exact ⟨_, rfl, hT⟩

theorem sy_at (w0 w : World) (hE0 : Ext w0 w) (H : Dk) (D : Dsk) (hS : DkS w0.heap.size w H D) (bf bd k : Nat) (hbf : w.heap[bf]? = some (.cells ([PQ (H.F k) 0]).toArray 69 (0, 0))) (hbd : w.heap[bd]? = some (.cells ([PQ H.g 0]).toArray 23 (0, 0))) (hkl : k < D.files.length) :
  Calls Tryd.prog 50 #[PQ bf 0, PQ bd 0] w fun e w' => ∃ H', e = .returned (.tuple #[]) ∧ DkT w0.heap.size w H D w' H' ({ D with files := D.files.set k ((fileD D k).1, (fileD D k).1.length), kept := D.now, acts := [] }) := by
 have hb := hS.blk
 have hgl0 := hS.lo.1
 have hsz0 := hE0.size
 have hS0 := hS
 have hbd0 := hbd
 have hn1 : bf ≠ H.F k := tag_ne (tag_cells hbf) (hS.tF hkl) (by decide)
 have hn2 : bd ≠ H.F k := tag_ne (tag_cells hbd) (hS.tF hkl) (by decide)
 have hn3 : H.g ≠ H.F k := tag_ne hS.tg (hS.tF hkl) (by decide)
 have hfa := hS0.files.at_ k hkl
 have hfb := hfa.blk
 have hfl := (bl hfb)
 have hfo := hfa.row
 have hflo := hfa.lo
 have hfv : (H.V k).ownBlock ≠ some (H.F k) := fun q => tag_ne (hS0.tF hkl) (hS0.tV hkl q) (by decide) rfl
 have hfr : RB w (H.V k) (D.files.getD k ([], 0)).1 := RB.ofOwn hfo
 have hC : Chg (fun i => i = (H.F k)) w w := Chg.refl _ _
 refine calls_of_wpF (args := [PQ bf 0, PQ bd 0]) Tryd.func50 rfl 21 rfl (Nat.le_of_ble_eq_true rfl) ?_
 intro ρ0 hb
 have T0 : ρ0 0 = (PQ bf 0 : Value) := hb.get 0
 have T1 : ρ0 1 = (PQ bd 0 : Value) := hb.get 1
 clear hb
 have hE := Ext.refl w
 refine sk fun K1 hK1 => ?_
 have hx2 : Ext w (World.drew w) := (Below.refl _ _).drew
 have hb := eb hx2 hb
 have hbf := eb hx2 hbf
 have hbd := eb hx2 hbd
 have hfb := eb hx2 hfb
 have hC : Chg (fun i => i = (H.F k)) w (World.drew w) := (hC.keep hx2)
 have hE := hE.trans hx2
 have hE0 := hE0.trans hx2
 refine wpF_float [(0, 2, .pointer (some ⟨(H.F k), 0, none⟩)), (1, 3, .pointer (some ⟨(H.F k), 0, none⟩)), (2, 4, .pointer (some ⟨(H.F k), 0, none⟩)), (3, 5, .pointer (some ⟨(H.F k), 0, none⟩)), (4, 6, (H.V k)), (5, 7, NI (((D.files.getD k ([], 0)).1 : List UInt8).length)), (6, 8, .pointer (some ⟨(H.F k), 0, none⟩)), (7, 9, .pointer (some ⟨(H.F k), 1, none⟩))] [8] (fun wz => wz.heap[H.g]? = some (.cells (dkC (D.quota) (H.mn) (H.ml) (H.va) (D.refused) (D.arm) (D.down)).toArray 55 (0, 0)) ∧ wz.heap[bf]? = some (.cells ([PQ (H.F k) 0]).toArray 69 (0, 0)) ∧ wz.heap[bd]? = some (.cells ([PQ H.g 0]).toArray 23 (0, 0)) ∧ wz.heap[(H.F k)]? = some (.cells ([(H.V k), NI (D.files.getD k ([], 0)).2]).toArray 71 (0, 0)) ∧ Chg (fun i => i = (H.F k)) w wz ∧ Ext w wz ∧ Ext w0 wz ∧ True) (by kernel_rfl) (by kernel_rfl) (by kernel_rfl) ⟨hb, hbf, hbd, hfb, hC, hE, hE0, trivial⟩ ⟨fun w3 ⟨hb, hbf, hbd, hfb, hC, hE, hE0, _⟩ => Yk.cell1 dw6_ty69 rfl T0 (cellAt hbf (show _ = some (.pointer (some ⟨(H.F k), 0, none⟩) : Value) from rfl)) ⟨rfl, rfl⟩, fun w3 ⟨hb, hbf, hbd, hfb, hC, hE, hE0, _⟩ => Yk.cell1 dw6_ty69 rfl T0 (cellAt hbf (show _ = some (.pointer (some ⟨(H.F k), 0, none⟩) : Value) from rfl)) ⟨rfl, rfl⟩, fun w3 ⟨hb, hbf, hbd, hfb, hC, hE, hE0, _⟩ => Yk.nilCheck (vr (.pointer (some ⟨(H.F k), 0, none⟩)) rfl) ⟨rfl, rfl⟩, fun w3 ⟨hb, hbf, hbd, hfb, hC, hE, hE0, _⟩ => Yk.fieldAt dw6_fo71_0 (vr (.pointer (some ⟨(H.F k), 0, none⟩)) rfl) ⟨rfl, rfl⟩, fun w3 ⟨hb, hbf, hbd, hfb, hC, hE, hE0, _⟩ => Yk.cell1 dw6_ty22 rfl (vr (.pointer (some ⟨(H.F k), 0, none⟩)) rfl) (cellAt hfb (show _ = some ((H.V k) : Value) from rfl)) ⟨rfl, rfl⟩, fun w3 ⟨hb, hbf, hbd, hfb, hC, hE, hE0, _⟩ => Yk.lenRB dw6_ty22 (RB.of (hfr.keep hE) (vr (H.V k) rfl)) ⟨rfl, rfl⟩, fun w3 ⟨hb, hbf, hbd, hfb, hC, hE, hE0, _⟩ => Yk.nilCheck (vr (.pointer (some ⟨(H.F k), 0, none⟩)) rfl) ⟨rfl, rfl⟩, fun w3 ⟨hb, hbf, hbd, hfb, hC, hE, hE0, _⟩ => Yk.fieldAt dw6_fo71_1 (vr (.pointer (some ⟨(H.F k), 0, none⟩)) rfl) ⟨rfl, rfl⟩, trivial⟩ (chF_step rfl (Yk.storeC (i := 1) (v := NI (((D.files.getD k ([], 0)).1 : List UInt8).length)) (vr (.pointer (some ⟨(H.F k), 1, none⟩)) rfl) (vr (NI (((D.files.getD k ([], 0)).1 : List UInt8).length)) rfl) hfb (Nat.le_of_ble_eq_true rfl) dw6_isz3 rfl rfl fun w4 hb5 hg6 hs7 => ?_))
 have hb := kb hg6 hb (by omega)
 have hbf := kb hg6 hbf (by omega)
 have hbd := kb hg6 hbd (by omega)
 have hC : Chg (fun i => i = (H.F k)) w w4 := Chg.set hC hg6 (.inl rfl)
 clear hE
 have hE0 := row_fresh hE0 hg6 (Nat.le_trans (Nat.le_refl _) (by omega))
 clear hfb
 have hfb := hb5; clear hb5
 have hl8 := bl hfb
 refine ⟨.inl rfl, ?_⟩
 refine chF_nil ?_
 have hT1 := hS0.setFileT (x := ((D.files.getD k ([], 0)).1, (D.files.getD k ([], 0)).1.length)) hkl (Nat.le_refl _) (hC.mono fun i _ e => .inl e) ⟨hfb, ownsRow_chg hC hfo (fun i e q => hfv (e.trans (congrArg some q))), hflo⟩ (fun i e => .inl e)
 have hbd1 := DkT.box hT1 hS0 hbd0 (by decide) (by decide) (by decide) (by decide)
 obtain ⟨H1, hH1⟩ : ∃ x, x = ({ H with V := updF H.V k (H.V k) } : Dk) := ⟨_, rfl⟩
 obtain ⟨D1, hD1⟩ : ∃ x, x = ({ D with files := D.files.set k ((D.files.getD k ([], 0)).1, (D.files.getD k ([], 0)).1.length) } : Dsk) := ⟨_, rfl⟩
 rw [← hH1, ← hD1] at hT1
 have hg1 : H1.g = H.g := by rw [hH1]
 have hS1 := hT1.st
 have hE1 := hE0
 have hb1 := hS1.blk
 have hgl1 := (bl hb1)
 rw [← hg1] at hbd1
 have hm1 := hS1.now
 have hn4 : bd ≠ H1.g := tag_ne (tag_cells hbd1) hS1.tg (by decide)
 have hgm : H1.g ≠ H1.mn := tag_ne hS1.tg hS1.now.tag (by decide)
 have hmn1 := hS1.now.lt
 have hC2 : Chg (fun i => i = H1.g) w4 w4 := Chg.refl _ _
 have hg1l := hS1.lo.1
 refine tN (hK1 _ _ ?_)
 have hx9 : Ext w4 (World.drew w4) := (Below.refl _ _).drew
 have hE0 := hE0.trans hx9
 have hm1 := hm1.keep hx9
 have hb1 := eb hx9 hb1
 have hbd1 := eb hx9 hbd1
 have hC2 : Chg (fun i => i = H1.g) w4 (World.drew w4) := (hC2.keep hx9)
 refine wpF_float [(0, 10, PQ H1.g 0), (1, 11, PQ H1.g 0), (7, 17, PQ H1.g 0), (8, 18, PQ H1.g 2), (10, 19, PQ H1.g 0), (11, 20, PQ H1.g 3)] [2, 3, 4, 5, 6, 9, 12] (fun wz => Ext w0 wz ∧ MapF St (pF H1.F) Nm wz H1.mn (lookD D1.now) ∧ wz.heap[bd]? = some (.cells ([PQ H1.g 0]).toArray 23 (0, 0)) ∧ Chg (fun i => i = H1.g) w4 wz ∧ True) (by kernel_rfl) (by kernel_rfl) (by kernel_rfl) ⟨hE0, hm1, hbd1, hC2, trivial⟩ ⟨fun w10 ⟨hE0, hm1, hbd1, hC2, _⟩ => Yk.cell1 dw6_ty23 rfl T1 (cellAt hbd1 (show _ = some (PQ H1.g 0 : Value) from rfl)) ⟨rfl, rfl⟩, fun w10 ⟨hE0, hm1, hbd1, hC2, _⟩ => Yk.cell1 dw6_ty23 rfl T1 (cellAt hbd1 (show _ = some (PQ H1.g 0 : Value) from rfl)) ⟨rfl, rfl⟩, fun w10 ⟨hE0, hm1, hbd1, hC2, _⟩ => Yk.nilCheck (vr (PQ H1.g 0) rfl) ⟨rfl, rfl⟩, fun w10 ⟨hE0, hm1, hbd1, hC2, _⟩ => Yk.fieldAt dw6_fo55_2 (vr (PQ H1.g 0) rfl) ⟨rfl, rfl⟩, fun w10 ⟨hE0, hm1, hbd1, hC2, _⟩ => Yk.nilCheck (vr (PQ H1.g 0) rfl) ⟨rfl, rfl⟩, fun w10 ⟨hE0, hm1, hbd1, hC2, _⟩ => Yk.fieldAt dw6_fo55_3 (vr (PQ H1.g 0) rfl) ⟨rfl, rfl⟩, trivial⟩ (chF_step rfl (Yk.cell1 dw6_ty23 rfl T1 (cellAt hbd1 (show _ = some (PQ H1.g 0 : Value) from rfl)) ?_))
 refine ⟨.inr ⟨hE0, hm1, hbd1, hC2, trivial⟩, ?_⟩
 refine chF_step rfl (Yk.nilCheck (vr (PQ H1.g 0) rfl) ?_)
 refine ⟨.inr ⟨hE0, hm1, hbd1, hC2, trivial⟩, ?_⟩
 refine chF_step rfl (Yk.fieldAt dw6_fo55_1 (vr (PQ H1.g 0) rfl) ?_)
 refine ⟨.inr ⟨hE0, hm1, hbd1, hC2, trivial⟩, ?_⟩
 refine chF_step rfl (Yk.cell1 dw6_ty52 rfl (vr (PQ H1.g 1) rfl) (cellAt hb1 (show _ = some (.map (some (H1.mn)) : Value) from rfl)) ?_)
 refine ⟨.inr ⟨hE0, hm1, hbd1, hC2, trivial⟩, ?_⟩
 refine chF_step rfl (Yk.callA1 dw6_pl44 (vr (.map (some (H1.mn))) rfl) ((clone_map _ hm1).mono ?_))
 rintro e w12 ⟨nm, rfl, hnl, hmm, hx11⟩
 refine ⟨_, rfl, ?_⟩
 have hnl1 : w4.heap.size ≤ nm := Nat.le_trans hC2.size hnl
 have hE0 := hE0.trans hx11
 have hm1 := hm1.keep hx11
 have hb1 := eb hx11 hb1
 have hbd1 := eb hx11 hbd1
 have hC2 : Chg (fun i => i = H1.g) w4 w12 := (hC2.keep hx11)
 have hgn : H1.g ≠ nm := by omega
 refine ⟨.inr ⟨hE0, hm1, hbd1, hC2, trivial⟩, ?_⟩
 refine chF_step rfl (Yk.storeC (i := 2) (v := .map (some nm)) (vr (PQ H1.g 2) rfl) (vr (.map (some nm)) rfl) hb1 (Nat.le_of_ble_eq_true rfl) dw6_isz52 rfl rfl fun w13 hb14 hg15 hs16 => ?_)
 have hE0 := row_fresh hE0 hg15 (Nat.le_trans (Nat.le_refl _) (by omega))
 have hm1 := MapF.other hm1 hg15 (some_ne (by omega))
 have hbd1 := kb hg15 hbd1 (by omega)
 have hC2 : Chg (fun i => i = H1.g) w4 w13 := Chg.set hC2 hg15 (.inl rfl)
 have hmm := MapF.other hmm hg15 (some_ne (by omega))
 clear hb1
 have hb1 := hb14; clear hb14
 have hl17 := bl hb1
 refine ⟨.inr ⟨hE0, hm1, hbd1, hC2, trivial⟩, ?_⟩
 refine chF_step rfl (Yk.storeC (i := 3) (v := (Value.slice none 0 0)) (vr (PQ H1.g 3) rfl) (vr (Value.slice none 0 0) rfl) hb1 (Nat.le_of_ble_eq_true rfl) dw6_isz53 rfl rfl fun w18 hb19 hg20 hs21 => ?_)
 have hE0 := row_fresh hE0 hg20 (Nat.le_trans (Nat.le_refl _) (by omega))
 have hm1 := MapF.other hm1 hg20 (some_ne (by omega))
 have hbd1 := kb hg20 hbd1 (by omega)
 have hC2 : Chg (fun i => i = H1.g) w4 w18 := Chg.set hC2 hg20 (.inl rfl)
 have hmm := MapF.other hmm hg20 (some_ne (by omega))
 clear hb1
 have hb1 := hb19; clear hb19
 have hl22 := bl hb1
 refine ⟨.inl rfl, ?_⟩
 refine chF_nil (postF_end (fn := Tryd.f50) [] rfl [] (.tuple #[]) rfl trivial ?_)
 have hb3 := hb1
 have hT2 := hS1.syncedT hC2 hnl1 hmm hE1.size hb3
 exact ⟨_, rfl, by have := hT1.trans hT2; rw [hD1] at this; exact this⟩

theorem add_y (w0 w : World) (hE0 : Ext w0 w) (H : Dk) (D : Dsk) (hS : DkS w0.heap.size w H D) (bd bn bb : Nat) (s b : List UInt8) (vb : Value) (hbd : w.heap[bd]? = some (.cells ([PQ H.g 0]).toArray 23 (0, 0))) (hbn : w.heap[bn]? = some (.cells ([St s]).toArray 9 (0, 0))) (hbb : w.heap[bb]? = some (.cells ([vb]).toArray 22 (0, 0))) (hrb : RB w vb b) (hoff : b = [] ∨ ∀ i, vb.ownBlock = some i → ¬ Foot H D.files.length i) (hs : mayD s = true) (hbl : b.length < 1099511627776) (hfs : ∀ x ∈ D.files, x.1.length < 1099511627776) (hn : D.acts.length < 1099511627776) (k : Nat) (hlk : lookD D.now s = some k) :
  Calls Tryd.prog 36 #[PQ bd 0, PQ bn 0, PQ bb 0] w fun e w' => ∃ H', e = .returned (.tuple #[]) ∧ DkT w0.heap.size w H D w' H' (addD D s b) := by
 have hb := hS.blk
 have hgl0 := hS.lo.1
 have hsz0 := hE0.size
 have hS0 := hS
 have hrb0 := hrb
 have hE00 := hE0
 have hT12 := DkT.refl hS
 have hkl := (hS.ok.now.look hlk).1
 have hlb := hfs _ (getD_mem_ (d := ([], 0)) hkl)
 refine calls_of_wpF (args := [PQ bd 0, PQ bn 0, PQ bb 0]) Tryd.func36 rfl 32 rfl (Nat.le_of_ble_eq_true rfl) ?_
 intro ρ0 hb
 have T0 : ρ0 0 = (PQ bd 0 : Value) := hb.get 0
 have T1 : ρ0 1 = (PQ bn 0 : Value) := hb.get 1
 have T2 : ρ0 2 = (PQ bb 0 : Value) := hb.get 2
 clear hb
 have hE := Ext.refl w
 refine sk fun K1 hK1 => (sk fun K2 hK2 => ?_)
 have hx3 : Ext w (World.drew w) := (Below.refl _ _).drew
 have hb := eb hx3 hb
 have hbd := eb hx3 hbd
 have hbn := eb hx3 hbn
 have hbb := eb hx3 hbb
 have hT12 : DkT w0.heap.size w H D (World.drew w) H D := (hT12.keep hx3)
 have hE := hE.trans hx3
 have hE0 := hE0.trans hx3
 refine wpF_float [(0, 5, PQ H.g 0), (1, 6, PQ H.g 0), (2, 7, PQ H.g 1), (3, 8, .map (some (H.mn))), (4, 9, St (s)), (5, 10, .pointer (some ⟨(H.F k), 0, none⟩))] [6] (fun wz => wz.heap[H.g]? = some (.cells (dkC (D.quota) (H.mn) (H.ml) (H.va) (D.refused) (D.arm) (D.down)).toArray 55 (0, 0)) ∧ wz.heap[bd]? = some (.cells ([PQ H.g 0]).toArray 23 (0, 0)) ∧ wz.heap[bn]? = some (.cells ([St s]).toArray 9 (0, 0)) ∧ wz.heap[bb]? = some (.cells ([vb]).toArray 22 (0, 0)) ∧ DkT w0.heap.size w H D wz H D ∧ Ext w wz ∧ Ext w0 wz ∧ True) (by kernel_rfl) (by kernel_rfl) (by kernel_rfl) ⟨hb, hbd, hbn, hbb, hT12, hE, hE0, trivial⟩ ⟨fun w4 ⟨hb, hbd, hbn, hbb, hT12, hE, hE0, _⟩ => Yk.cell1 dw6_ty23 rfl T0 (cellAt hbd (show _ = some (PQ H.g 0 : Value) from rfl)) ⟨rfl, rfl⟩, fun w4 ⟨hb, hbd, hbn, hbb, hT12, hE, hE0, _⟩ => Yk.nilCheck (vr (PQ H.g 0) rfl) ⟨rfl, rfl⟩, fun w4 ⟨hb, hbd, hbn, hbb, hT12, hE, hE0, _⟩ => Yk.fieldAt dw6_fo55_1 (vr (PQ H.g 0) rfl) ⟨rfl, rfl⟩, fun w4 ⟨hb, hbd, hbn, hbb, hT12, hE, hE0, _⟩ => Yk.cell1 dw6_ty52 rfl (vr (PQ H.g 1) rfl) (cellAt hb (show _ = some (.map (some (H.mn)) : Value) from rfl)) ⟨rfl, rfl⟩, fun w4 ⟨hb, hbd, hbn, hbb, hT12, hE, hE0, _⟩ => Yk.cell1 dw6_ty9 rfl T1 (cellAt hbn (show _ = some (St (s) : Value) from rfl)) ⟨rfl, rfl⟩, fun w4 ⟨hb, hbd, hbn, hbb, hT12, hE, hE0, _⟩ => Yk.lookMS kStr isStr (fun _ _ => st_inj) dw6_ty52 zFile (vr (.map (some (H.mn))) rfl) (vr (St (s)) rfl) hT12.st.now (mayD_pos hs).2 hlk ⟨rfl, rfl⟩, trivial⟩ (chF_step rfl (Yk.eqlNil dw6_ty69 (vr (.pointer (some ⟨(H.F k), 0, none⟩)) rfl) ?_))
 refine ⟨.inl rfl, ?_⟩
 refine chF_nil (tN (hK2 _ _ (wpF_false (vr (.bool (false)) (congrArg Value.bool (rfl))) (wpF_skip (tN (hK1 _ _ (sk fun K5 hK5 => ?_)))))))
 have hx6 : Ext (World.drew w) (World.drew (World.drew w)) := (Below.refl _ _).drew
 have hb := eb hx6 hb
 have hbd := eb hx6 hbd
 have hbn := eb hx6 hbn
 have hbb := eb hx6 hbb
 have hT12 : DkT w0.heap.size w H D (World.drew (World.drew w)) H D := (hT12.keep hx6)
 have hE := hE.trans hx6
 have hE0 := hE0.trans hx6
 refine wpF_float [(0, 17, PQ H.g 0), (1, 18, PQ H.g 0), (2, 19, PQ H.g 1), (3, 20, .map (some (H.mn))), (4, 21, St (s)), (5, 22, .pointer (some ⟨(H.F k), 0, none⟩))] [6] (fun wz => wz.heap[H.g]? = some (.cells (dkC (D.quota) (H.mn) (H.ml) (H.va) (D.refused) (D.arm) (D.down)).toArray 55 (0, 0)) ∧ wz.heap[bd]? = some (.cells ([PQ H.g 0]).toArray 23 (0, 0)) ∧ wz.heap[bn]? = some (.cells ([St s]).toArray 9 (0, 0)) ∧ wz.heap[bb]? = some (.cells ([vb]).toArray 22 (0, 0)) ∧ DkT w0.heap.size w H D wz H D ∧ Ext w wz ∧ Ext w0 wz ∧ True) (by kernel_rfl) (by kernel_rfl) (by kernel_rfl) ⟨hb, hbd, hbn, hbb, hT12, hE, hE0, trivial⟩ ⟨fun w7 ⟨hb, hbd, hbn, hbb, hT12, hE, hE0, _⟩ => Yk.cell1 dw6_ty23 rfl T0 (cellAt hbd (show _ = some (PQ H.g 0 : Value) from rfl)) ⟨rfl, rfl⟩, fun w7 ⟨hb, hbd, hbn, hbb, hT12, hE, hE0, _⟩ => Yk.nilCheck (vr (PQ H.g 0) rfl) ⟨rfl, rfl⟩, fun w7 ⟨hb, hbd, hbn, hbb, hT12, hE, hE0, _⟩ => Yk.fieldAt dw6_fo55_1 (vr (PQ H.g 0) rfl) ⟨rfl, rfl⟩, fun w7 ⟨hb, hbd, hbn, hbb, hT12, hE, hE0, _⟩ => Yk.cell1 dw6_ty52 rfl (vr (PQ H.g 1) rfl) (cellAt hb (show _ = some (.map (some (H.mn)) : Value) from rfl)) ⟨rfl, rfl⟩, fun w7 ⟨hb, hbd, hbn, hbb, hT12, hE, hE0, _⟩ => Yk.cell1 dw6_ty9 rfl T1 (cellAt hbn (show _ = some (St (s) : Value) from rfl)) ⟨rfl, rfl⟩, fun w7 ⟨hb, hbd, hbn, hbb, hT12, hE, hE0, _⟩ => Yk.lookMS kStr isStr (fun _ _ => st_inj) dw6_ty52 zFile (vr (.map (some (H.mn))) rfl) (vr (St (s)) rfl) hT12.st.now (mayD_pos hs).2 hlk ⟨rfl, rfl⟩, trivial⟩ (chF_step rfl (Yk.assign (vr (.pointer (some ⟨(H.F k), 0, none⟩)) rfl) ?_))
 refine ⟨.inl rfl, ?_⟩
 refine chF_nil ?_
 have hTc := hT12
 have hSc := hTc.st
 have hfa := hSc.files.at_ k hkl
 have hfb := hfa.blk
 have hfl := (bl hfb)
 have hfo := hfa.row
 have hflo := hfa.lo
 have hfv : (H.V k).ownBlock ≠ some (H.F k) := fun q => tag_ne (hSc.tF hkl) (hSc.tV hkl q) (by decide) rfl
 have hC : Chg (fun i => i = (H.F k) ∨ (H.V k).ownBlock = some i) (World.drew (World.drew w)) (World.drew (World.drew w)) := Chg.refl _ _
 have hsy := hSc.ok.syn _ (getD_mem_ (d := ([], 0)) hkl)
 have hvb : Value.ownBlock (H.V k) ≠ some bb := fun q => tag_ne (tag_cells hbb) (hSc.tV hkl q) (by decide) rfl
 have hn5 : bb ≠ (H.F k) := tag_ne (tag_cells hbb) (hSc.tF hkl) (by decide)
 refine tN (hK5 _ _ ?_)
 have hx8 : Ext (World.drew (World.drew w)) (World.drew (World.drew (World.drew w))) := (Below.refl _ _).drew
 have hbb := eb hx8 hbb
 have hE := hE.trans hx8
 have hE0 := hE0.trans hx8
 have hfb := eb hx8 hfb
 have hfo := Stab.own _ _ _ _ _ _ _ _ hfo hx8
 have hC : Chg (fun i => i = (H.F k) ∨ (H.V k).ownBlock = some i) (World.drew (World.drew w)) (World.drew (World.drew (World.drew w))) := (hC.keep hx8)
 refine wpF_float [(0, 23, .pointer (some ⟨(H.F k), 0, none⟩)), (1, 24, .pointer (some ⟨(H.F k), 0, none⟩)), (2, 25, .pointer (some ⟨(H.F k), 0, none⟩)), (3, 26, .pointer (some ⟨(H.F k), 0, none⟩)), (4, 27, (H.V k)), (5, 28, vb), (7, 30, .pointer (some ⟨(H.F k), 0, none⟩)), (8, 31, .pointer (some ⟨(H.F k), 0, none⟩))] [6, 9] (fun wz => wz.heap[bb]? = some (.cells ([vb]).toArray 22 (0, 0)) ∧ Ext w0 wz ∧ wz.heap[(H.F k)]? = some (.cells ([(H.V k), NI (D.files.getD k ([], 0)).2]).toArray 71 (0, 0)) ∧ True) (by kernel_rfl) (by kernel_rfl) (by kernel_rfl) ⟨hbb, hE0, hfb, trivial⟩ ⟨fun w9 ⟨hbb, hE0, hfb, _⟩ => Yk.move (vr (.pointer (some ⟨(H.F k), 0, none⟩)) rfl) ⟨rfl, rfl⟩, fun w9 ⟨hbb, hE0, hfb, _⟩ => Yk.move (vr (.pointer (some ⟨(H.F k), 0, none⟩)) rfl) ⟨rfl, rfl⟩, fun w9 ⟨hbb, hE0, hfb, _⟩ => Yk.nilCheck (vr (.pointer (some ⟨(H.F k), 0, none⟩)) rfl) ⟨rfl, rfl⟩, fun w9 ⟨hbb, hE0, hfb, _⟩ => Yk.fieldAt dw6_fo71_0 (vr (.pointer (some ⟨(H.F k), 0, none⟩)) rfl) ⟨rfl, rfl⟩, fun w9 ⟨hbb, hE0, hfb, _⟩ => Yk.cell1 dw6_ty22 rfl (vr (.pointer (some ⟨(H.F k), 0, none⟩)) rfl) (cellAt hfb (show _ = some ((H.V k) : Value) from rfl)) ⟨rfl, rfl⟩, fun w9 ⟨hbb, hE0, hfb, _⟩ => Yk.cell1 dw6_ty22 rfl T2 (cellAt hbb (show _ = some (vb : Value) from rfl)) ⟨rfl, rfl⟩, fun w9 ⟨hbb, hE0, hfb, _⟩ => Yk.nilCheck (vr (.pointer (some ⟨(H.F k), 0, none⟩)) rfl) ⟨rfl, rfl⟩, fun w9 ⟨hbb, hE0, hfb, _⟩ => Yk.fieldAt dw6_fo71_0 (vr (.pointer (some ⟨(H.F k), 0, none⟩)) rfl) ⟨rfl, rfl⟩, trivial⟩ (chF_step rfl (Yk.appendRB _ _ w0.heap.size (.int .u8 0) dw6_ty22 dw6_inf5 rfl dw6_ty22 ((D.files.getD k ([], 0)).1) (b) (own_of hfo (vr (H.V k) rfl)) (RB.of (hrb.keep hE) (vr vb rfl)) (by omega) hE0.size fun v10 w11 ho12 hg13 => ?_))
 have hg13 : Grew (World.drew (World.drew (World.drew w))) w11 (H.V k) v10 := hg13
 have hap14 : Value.ownBlock v10 ≠ some (H.F k) := apart_grew hg13 hfv (bl hfb)
 have hap15 : OB v10 bb := apart_grew hg13 hvb (bl hbb)
 have hbb := blk_grew hbb hg13 hvb
 clear hE
 have hE0 := ext_grew hE0 hg13 hfo (Nat.le_refl _)
 have hfb := blk_grew hfb hg13 hfv
 have hvf := fun i e => (hg13.fresh i e).imp id (fun q => Nat.le_trans hC.size q)
 have hC : Chg (fun i => i = (H.F k) ∨ (H.V k).ownBlock = some i) (World.drew (World.drew w)) w11 := Chg.grew hC hg13 (fun i e => .inl (.inr e))
 clear hfo
 refine ⟨.inr ⟨hbb, hE0, hfb, trivial⟩, ?_⟩
 refine chF_step rfl (Yk.storeC (i := 0) (v := v10) (vr (.pointer (some ⟨(H.F k), 0, none⟩)) rfl) (vr v10 rfl) hfb (Nat.le_of_ble_eq_true rfl) dw6_isz22 (own_one ho12).1 (own_one ho12).2 fun w16 hb17 hg18 hs19 => ?_)
 have hbb := kb hg18 hbb (by omega)
 have hE0 := row_fresh hE0 hg18 (Nat.le_trans (Nat.le_refl _) (by omega))
 have hC : Chg (fun i => i = (H.F k) ∨ (H.V k).ownBlock = some i) (World.drew (World.drew w)) w16 := Chg.set hC hg18 (.inl (.inl rfl))
 have ho12 := own_kept ho12 hg18 hap14
 clear hfb
 have hfb := hb17; clear hb17
 have hl20 := bl hfb
 refine ⟨.inl rfl, ?_⟩
 refine chF_nil (postF_end (fn := Tryd.f36) [] rfl [] (.tuple #[]) rfl trivial ?_)
 have hTf := hSc.setFileT (x := ((D.files.getD k ([], 0)).1 ++ b, (D.files.getD k ([], 0)).2)) hkl (by simp only [List.length_append]; omega) hC ⟨hfb, (show World.ownsRow _ _ _ _ _ _ _ from by simpa using ho12), hflo⟩ hvf
 exact ⟨_, rfl, by rw [add_old hlk]; exact hTc.trans hTf⟩

theorem add_n (w0 w : World) (hE0 : Ext w0 w) (H : Dk) (D : Dsk) (hS : DkS w0.heap.size w H D) (bd bn bb : Nat) (s b : List UInt8) (vb : Value) (hbd : w.heap[bd]? = some (.cells ([PQ H.g 0]).toArray 23 (0, 0))) (hbn : w.heap[bn]? = some (.cells ([St s]).toArray 9 (0, 0))) (hbb : w.heap[bb]? = some (.cells ([vb]).toArray 22 (0, 0))) (hrb : RB w vb b) (hoff : b = [] ∨ ∀ i, vb.ownBlock = some i → ¬ Foot H D.files.length i) (hs : mayD s = true) (hbl : b.length < 1099511627776) (hfs : ∀ x ∈ D.files, x.1.length < 1099511627776) (hn : D.acts.length < 1099511627776) (hlk : lookD D.now s = none) :
  Calls Tryd.prog 36 #[PQ bd 0, PQ bn 0, PQ bb 0] w fun e w' => ∃ H', e = .returned (.tuple #[]) ∧ DkT w0.heap.size w H D w' H' (addD D s b) := by
 have hb := hS.blk
 have hgl0 := hS.lo.1
 have hsz0 := hE0.size
 have hS0 := hS
 have hrb0 := hrb
 have hE00 := hE0
 have hT12 := DkT.refl hS
 refine calls_of_wpF (args := [PQ bd 0, PQ bn 0, PQ bb 0]) Tryd.func36 rfl 32 rfl (Nat.le_of_ble_eq_true rfl) ?_
 intro ρ0 hb
 have T0 : ρ0 0 = (PQ bd 0 : Value) := hb.get 0
 have T1 : ρ0 1 = (PQ bn 0 : Value) := hb.get 1
 have T2 : ρ0 2 = (PQ bb 0 : Value) := hb.get 2
 clear hb
 have hE := Ext.refl w
 refine sk fun K1 hK1 => (sk fun K2 hK2 => ?_)
 have hx3 : Ext w (World.drew w) := (Below.refl _ _).drew
 have hb := eb hx3 hb
 have hbd := eb hx3 hbd
 have hbn := eb hx3 hbn
 have hbb := eb hx3 hbb
 have hT12 : DkT w0.heap.size w H D (World.drew w) H D := (hT12.keep hx3)
 have hE := hE.trans hx3
 have hE0 := hE0.trans hx3
 refine wpF_float [(0, 5, PQ H.g 0), (1, 6, PQ H.g 0), (2, 7, PQ H.g 1), (3, 8, .map (some (H.mn))), (4, 9, St (s)), (5, 10, .pointer none)] [6] (fun wz => wz.heap[H.g]? = some (.cells (dkC (D.quota) (H.mn) (H.ml) (H.va) (D.refused) (D.arm) (D.down)).toArray 55 (0, 0)) ∧ wz.heap[bd]? = some (.cells ([PQ H.g 0]).toArray 23 (0, 0)) ∧ wz.heap[bn]? = some (.cells ([St s]).toArray 9 (0, 0)) ∧ wz.heap[bb]? = some (.cells ([vb]).toArray 22 (0, 0)) ∧ DkT w0.heap.size w H D wz H D ∧ Ext w wz ∧ Ext w0 wz ∧ True) (by kernel_rfl) (by kernel_rfl) (by kernel_rfl) ⟨hb, hbd, hbn, hbb, hT12, hE, hE0, trivial⟩ ⟨fun w4 ⟨hb, hbd, hbn, hbb, hT12, hE, hE0, _⟩ => Yk.cell1 dw6_ty23 rfl T0 (cellAt hbd (show _ = some (PQ H.g 0 : Value) from rfl)) ⟨rfl, rfl⟩, fun w4 ⟨hb, hbd, hbn, hbb, hT12, hE, hE0, _⟩ => Yk.nilCheck (vr (PQ H.g 0) rfl) ⟨rfl, rfl⟩, fun w4 ⟨hb, hbd, hbn, hbb, hT12, hE, hE0, _⟩ => Yk.fieldAt dw6_fo55_1 (vr (PQ H.g 0) rfl) ⟨rfl, rfl⟩, fun w4 ⟨hb, hbd, hbn, hbb, hT12, hE, hE0, _⟩ => Yk.cell1 dw6_ty52 rfl (vr (PQ H.g 1) rfl) (cellAt hb (show _ = some (.map (some (H.mn)) : Value) from rfl)) ⟨rfl, rfl⟩, fun w4 ⟨hb, hbd, hbn, hbb, hT12, hE, hE0, _⟩ => Yk.cell1 dw6_ty9 rfl T1 (cellAt hbn (show _ = some (St (s) : Value) from rfl)) ⟨rfl, rfl⟩, fun w4 ⟨hb, hbd, hbn, hbb, hT12, hE, hE0, _⟩ => Yk.lookMN kStr isStr (fun _ _ => st_inj) dw6_ty52 zFile (vr (.map (some (H.mn))) rfl) (vr (St (s)) rfl) hT12.st.now (mayD_pos hs).2 hlk ⟨rfl, rfl⟩, trivial⟩ (chF_step rfl (Yk.eqlNil dw6_ty69 (vr (.pointer none) rfl) ?_))
 refine ⟨.inl rfl, ?_⟩
 refine chF_nil (tN (hK2 _ _ (wpF_true (vr (.bool (true)) (congrArg Value.bool (rfl))) (sk fun K5 hK5 => (wt (oS rfl (Yk.run (v := .agg #[.slice none 0 0, NI 0]) (by kernel_rfl) ?_)))))))
 have hzb := hE.size
 refine oS rfl (Yk.box (cs := ([.slice none 0 0, NI 0] : List Value).toArray) (show _ = (.agg ([.slice none 0 0, NI 0] : List Value).toArray : Value) from rfl) fun n6 w7 hn8 hb9 hx10 hs11 => ?_)
 have hA12 := Ext.refl (World.drew w)
 have hea13 := hE
 have hea14 := hE0
 have hz15 : w.heap.size ≤ (World.drew w).heap.size := hE.size
 have hz16 : w0.heap.size ≤ (World.drew w).heap.size := hE0.size
 have hlt17 := lte (bl hb) hn8
 have hlt18 := lte (bl hbd) hn8
 have hlt19 := lte (bl hbn) hn8
 have hlt20 := lte (bl hbb) hn8
 have hb := eb hx10 hb
 have hbd := eb hx10 hbd
 have hbn := eb hx10 hbn
 have hbb := eb hx10 hbb
 have hE := hE.trans hx10
 have hE0 := hE0.trans hx10
 have hA12 := hA12.trans hx10
 have hb21 := hb9; clear hb9
 have hl22 : n6 < w7.heap.size := by omega
 refine oS rfl (Yk.alloc (cs := ([.pointer none]).toArray) dw6_al69 fun n23 w24 hn25 hb26 hx27 hs28 => ?_)
 have hA29 := Ext.refl w7
 have hea30 := hE
 have hea31 := hE0
 have hea32 := hA12
 have hz33 := hE.size
 have hz34 := hE0.size
 have hz35 : (World.drew w).heap.size ≤ w7.heap.size := hA12.size
 have hlt36 := lte (bl hb) hn25
 have hlt37 := lte (bl hbd) hn25
 have hlt38 := lte (bl hbn) hn25
 have hlt39 := lte (bl hbb) hn25
 have hlt40 := lte (bl hb21) hn25
 have hb := eb hx27 hb
 have hbd := eb hx27 hbd
 have hbn := eb hx27 hbn
 have hbb := eb hx27 hbb
 have hE := hE.trans hx27
 have hE0 := hE0.trans hx27
 have hA12 := hA12.trans hx27
 have hb21 := eb hx27 hb21
 have hA29 := hA29.trans hx27
 have hb41 := hb26; clear hb26
 have hl42 : n23 < w24.heap.size := by omega
 refine oS rfl (Yk.storeC (i := 0) (v := PQ n6 0) (vr (PQ n23 0) rfl) (vr (PQ n6 0) rfl) hb41 (Nat.le_of_ble_eq_true rfl) dw6_isz69 rfl rfl fun w43 hb44 hg45 hs46 => ?_)
 have hb := kb hg45 hb (by omega)
 have hbd := kb hg45 hbd (by omega)
 have hbn := kb hg45 hbn (by omega)
 have hbb := kb hg45 hbb (by omega)
 have hE := row_fresh hE hg45 (Nat.le_trans hz33 (by omega))
 have hE0 := row_fresh hE0 hg45 (Nat.le_trans hz34 (by omega))
 have hA12 := row_fresh hA12 hg45 (Nat.le_trans hz35 (by omega))
 have hb21 := kb hg45 hb21 (by omega)
 have hA29 := row_fresh hA29 hg45 (Nat.le_trans (Nat.le_refl _) (by omega))
 clear hb41
 have hb41 := hb44; clear hb44
 have hl47 := bl hb41
 refine oZ (tN (hK5 _ _ (wt (oS rfl (Yk.cell1 dw6_ty23 rfl T0 (cellAt hbd (show _ = some (PQ H.g 0 : Value) from rfl)) (oS rfl (Yk.mkFunc (vs := #[PQ n23 0, PQ bn 0]) (by simp only [List.map_toArray, List.map_cons, List.map_nil]; exact congrArg List.toArray (list2 (vr (PQ n23 0) rfl) T1)) ?_)))))))
 have hT1 := hS0.newFileT (f := n6) hE (by omega) hb21 hE00.size
 obtain ⟨H1, hH1⟩ : ∃ x, x = ({ H with F := updF H.F D.files.length n6, V := updF H.V D.files.length (.slice none 0 0) } : Dk) := ⟨_, rfl⟩
 obtain ⟨D1, hD1⟩ : ∃ x, x = ({ D with files := D.files ++ [([], 0)] } : Dsk) := ⟨_, rfl⟩
 rw [← hH1, ← hD1] at hT1
 have hS1 := hT1.st
 have hg1 : H1.g = H.g := by rw [hH1]
 have hF1 : H1.F D.files.length = n6 := by rw [hH1]; exact updF_eq _ _ _
 have hD1l : D1.files.length = D.files.length + 1 := by rw [hD1]; simp
 have hsl := (mayD_pos hs).1
 have hbd1 := hbd
 have hbn1 := hbn
 have hbb1 := hbb
 have hrb1 := (hrb.keep hE)
 refine oS rfl (Yk.callA2 dw6_pl37 (vr (PQ H.g 0) rfl) (vr (.func (.func 38) #[] #[PQ n23 0, PQ bn 0]) rfl) ((turn_to w0 _ hE0 H1 D1 hS1 H.g hg1 (.func (.func 38) #[] #[PQ n23 0, PQ bn 0]) ⟨[], s, D.files.length⟩ ⟨by rw [hD1l]; exact Nat.lt_succ_self _, fun _ => hs, Nat.zero_le _⟩ (.inl ⟨n23, bn, rfl, by rw [hF1]; exact hb41, hbn, rfl, show s.length ≠ 0 from by omega⟩) (by rw [hD1]; exact hn)).mono ?_))
 rintro e w48 ⟨va2, rfl, hT2⟩
 refine ⟨_, rfl, ?_⟩
 have hE0 := Chg.ext hE0 hT2.chg (fun i q => (hS1.foot q).2.2)
 have hT12 := hT1.trans hT2
 obtain ⟨H2, hH2⟩ : ∃ x, x = ({ H1 with va := va2 } : Dk) := ⟨_, rfl⟩
 obtain ⟨D2, hD2⟩ : ∃ x, x = turnedD D1 ⟨[], s, D.files.length⟩ := ⟨_, rfl⟩
 rw [← hH2, ← hD2] at hT12
 have hg2 : H2.g = H.g := by rw [hH2]; exact hg1
 have hlk2 : lookD D2.now s = some D.files.length := by rw [hD2]; exact (look_turn _ _ _).trans ((if_neg (show s.length ≠ 0 by omega)).trans (if_pos rfl))
 have hkl := (hT12.st.ok.now.look hlk2).1
 have hlb : (D2.files.getD D.files.length ([], 0)).1.length < 1099511627776 := by rw [hD2, hD1]; show ((D.files ++ [(([] : List UInt8), 0)]).getD D.files.length ([], 0)).1.length < _; rw [getD_last]; decide
 have hoff1 := off_next hT1 hrb0 hoff
 have hbd := DkT.box hT2 hS1 hbd1 (by decide) (by decide) (by decide) (by decide)
 have hbn := DkT.box hT2 hS1 hbn1 (by decide) (by decide) (by decide) (by decide)
 have hbb := DkT.box hT2 hS1 hbb1 (by decide) (by decide) (by decide) (by decide)
 have hrb := hrb1.chg hT2.chg hoff1
 have hb := hT12.st.blk
 rw [hg2] at hb
 have hgl2 := (bl hb)
 refine oZ (tN (hK1 _ _ (sk fun K49 hK49 => ?_)))
 have hx50 : Ext w48 (World.drew w48) := (Below.refl _ _).drew
 have hE0 := hE0.trans hx50
 have hT12 : DkT w0.heap.size w H D (World.drew w48) H2 D2 := (hT12.keep hx50)
 have hb := eb hx50 hb
 have hbd := eb hx50 hbd
 have hbn := eb hx50 hbn
 have hbb := eb hx50 hbb
 have hrb := hrb.keep hx50
 refine wpF_float [(0, 17, PQ H.g 0), (1, 18, PQ H.g 0), (2, 19, PQ H.g 1), (3, 20, .map (some (H2.mn))), (4, 21, St (s)), (5, 22, .pointer (some ⟨(H2.F (D.files.length)), 0, none⟩))] [6] (fun wz => Ext w0 wz ∧ DkT w0.heap.size w H D wz H2 D2 ∧ wz.heap[H.g]? = some (.cells (dkC (D2.quota) (H2.mn) (H2.ml) (H2.va) (D2.refused) (D2.arm) (D2.down)).toArray 55 (0, 0)) ∧ wz.heap[bd]? = some (.cells ([PQ H.g 0]).toArray 23 (0, 0)) ∧ wz.heap[bn]? = some (.cells ([St s]).toArray 9 (0, 0)) ∧ wz.heap[bb]? = some (.cells ([vb]).toArray 22 (0, 0)) ∧ RB wz vb b ∧ True) (by kernel_rfl) (by kernel_rfl) (by kernel_rfl) ⟨hE0, hT12, hb, hbd, hbn, hbb, hrb, trivial⟩ ⟨fun w51 ⟨hE0, hT12, hb, hbd, hbn, hbb, hrb, _⟩ => Yk.cell1 dw6_ty23 rfl T0 (cellAt hbd (show _ = some (PQ H.g 0 : Value) from rfl)) ⟨rfl, rfl⟩, fun w51 ⟨hE0, hT12, hb, hbd, hbn, hbb, hrb, _⟩ => Yk.nilCheck (vr (PQ H.g 0) rfl) ⟨rfl, rfl⟩, fun w51 ⟨hE0, hT12, hb, hbd, hbn, hbb, hrb, _⟩ => Yk.fieldAt dw6_fo55_1 (vr (PQ H.g 0) rfl) ⟨rfl, rfl⟩, fun w51 ⟨hE0, hT12, hb, hbd, hbn, hbb, hrb, _⟩ => Yk.cell1 dw6_ty52 rfl (vr (PQ H.g 1) rfl) (cellAt hb (show _ = some (.map (some (H2.mn)) : Value) from rfl)) ⟨rfl, rfl⟩, fun w51 ⟨hE0, hT12, hb, hbd, hbn, hbb, hrb, _⟩ => Yk.cell1 dw6_ty9 rfl T1 (cellAt hbn (show _ = some (St (s) : Value) from rfl)) ⟨rfl, rfl⟩, fun w51 ⟨hE0, hT12, hb, hbd, hbn, hbb, hrb, _⟩ => Yk.lookMS kStr isStr (fun _ _ => st_inj) dw6_ty52 zFile (vr (.map (some (H2.mn))) rfl) (vr (St (s)) rfl) hT12.st.now (mayD_pos hs).2 hlk2 ⟨rfl, rfl⟩, trivial⟩ (chF_step rfl (Yk.assign (vr (.pointer (some ⟨(H2.F (D.files.length)), 0, none⟩)) rfl) ?_))
 refine ⟨.inl rfl, ?_⟩
 refine chF_nil ?_
 have hTc := hT12
 have hSc := hTc.st
 have hfa := hSc.files.at_ (D.files.length) hkl
 have hfb := hfa.blk
 have hfl := (bl hfb)
 have hfo := hfa.row
 have hflo := hfa.lo
 have hfv : (H2.V (D.files.length)).ownBlock ≠ some (H2.F (D.files.length)) := fun q => tag_ne (hSc.tF hkl) (hSc.tV hkl q) (by decide) rfl
 have hC : Chg (fun i => i = (H2.F (D.files.length)) ∨ (H2.V (D.files.length)).ownBlock = some i) (World.drew w48) (World.drew w48) := Chg.refl _ _
 have hsy := hSc.ok.syn _ (getD_mem_ (d := ([], 0)) hkl)
 have hvb : Value.ownBlock (H2.V (D.files.length)) ≠ some bb := fun q => tag_ne (tag_cells hbb) (hSc.tV hkl q) (by decide) rfl
 have hn5 : bb ≠ (H2.F (D.files.length)) := tag_ne (tag_cells hbb) (hSc.tF hkl) (by decide)
 refine tN (hK49 _ _ ?_)
 have hx52 : Ext (World.drew w48) (World.drew (World.drew w48)) := (Below.refl _ _).drew
 have hE0 := hE0.trans hx52
 have hbb := eb hx52 hbb
 have hrb := hrb.keep hx52
 have hfb := eb hx52 hfb
 have hfo := Stab.own _ _ _ _ _ _ _ _ hfo hx52
 have hC : Chg (fun i => i = (H2.F (D.files.length)) ∨ (H2.V (D.files.length)).ownBlock = some i) (World.drew w48) (World.drew (World.drew w48)) := (hC.keep hx52)
 refine wpF_float [(0, 23, .pointer (some ⟨(H2.F (D.files.length)), 0, none⟩)), (1, 24, .pointer (some ⟨(H2.F (D.files.length)), 0, none⟩)), (2, 25, .pointer (some ⟨(H2.F (D.files.length)), 0, none⟩)), (3, 26, .pointer (some ⟨(H2.F (D.files.length)), 0, none⟩)), (4, 27, (H2.V (D.files.length))), (5, 28, vb), (7, 30, .pointer (some ⟨(H2.F (D.files.length)), 0, none⟩)), (8, 31, .pointer (some ⟨(H2.F (D.files.length)), 0, none⟩))] [6, 9] (fun wz => Ext w0 wz ∧ wz.heap[bb]? = some (.cells ([vb]).toArray 22 (0, 0)) ∧ wz.heap[(H2.F (D.files.length))]? = some (.cells ([(H2.V (D.files.length)), NI (D2.files.getD (D.files.length) ([], 0)).2]).toArray 71 (0, 0)) ∧ True) (by kernel_rfl) (by kernel_rfl) (by kernel_rfl) ⟨hE0, hbb, hfb, trivial⟩ ⟨fun w53 ⟨hE0, hbb, hfb, _⟩ => Yk.move (vr (.pointer (some ⟨(H2.F (D.files.length)), 0, none⟩)) rfl) ⟨rfl, rfl⟩, fun w53 ⟨hE0, hbb, hfb, _⟩ => Yk.move (vr (.pointer (some ⟨(H2.F (D.files.length)), 0, none⟩)) rfl) ⟨rfl, rfl⟩, fun w53 ⟨hE0, hbb, hfb, _⟩ => Yk.nilCheck (vr (.pointer (some ⟨(H2.F (D.files.length)), 0, none⟩)) rfl) ⟨rfl, rfl⟩, fun w53 ⟨hE0, hbb, hfb, _⟩ => Yk.fieldAt dw6_fo71_0 (vr (.pointer (some ⟨(H2.F (D.files.length)), 0, none⟩)) rfl) ⟨rfl, rfl⟩, fun w53 ⟨hE0, hbb, hfb, _⟩ => Yk.cell1 dw6_ty22 rfl (vr (.pointer (some ⟨(H2.F (D.files.length)), 0, none⟩)) rfl) (cellAt hfb (show _ = some ((H2.V (D.files.length)) : Value) from rfl)) ⟨rfl, rfl⟩, fun w53 ⟨hE0, hbb, hfb, _⟩ => Yk.cell1 dw6_ty22 rfl T2 (cellAt hbb (show _ = some (vb : Value) from rfl)) ⟨rfl, rfl⟩, fun w53 ⟨hE0, hbb, hfb, _⟩ => Yk.nilCheck (vr (.pointer (some ⟨(H2.F (D.files.length)), 0, none⟩)) rfl) ⟨rfl, rfl⟩, fun w53 ⟨hE0, hbb, hfb, _⟩ => Yk.fieldAt dw6_fo71_0 (vr (.pointer (some ⟨(H2.F (D.files.length)), 0, none⟩)) rfl) ⟨rfl, rfl⟩, trivial⟩ (chF_step rfl (Yk.appendRB _ _ w0.heap.size (.int .u8 0) dw6_ty22 dw6_inf5 rfl dw6_ty22 ((D2.files.getD (D.files.length) ([], 0)).1) (b) (own_of hfo (vr (H2.V (D.files.length)) rfl)) (RB.of hrb (vr vb rfl)) (by omega) hE0.size fun v54 w55 ho56 hg57 => ?_))
 have hg57 : Grew (World.drew (World.drew w48)) w55 (H2.V (D.files.length)) v54 := hg57
 have hap58 : Value.ownBlock v54 ≠ some (H2.F (D.files.length)) := apart_grew hg57 hfv (bl hfb)
 have hap59 : OB v54 bb := apart_grew hg57 hvb (bl hbb)
 have hE0 := ext_grew hE0 hg57 hfo (Nat.le_refl _)
 have hbb := blk_grew hbb hg57 hvb
 clear hrb
 have hfb := blk_grew hfb hg57 hfv
 have hvf := fun i e => (hg57.fresh i e).imp id (fun q => Nat.le_trans hC.size q)
 have hC : Chg (fun i => i = (H2.F (D.files.length)) ∨ (H2.V (D.files.length)).ownBlock = some i) (World.drew w48) w55 := Chg.grew hC hg57 (fun i e => .inl (.inr e))
 clear hfo
 refine ⟨.inr ⟨hE0, hbb, hfb, trivial⟩, ?_⟩
 refine chF_step rfl (Yk.storeC (i := 0) (v := v54) (vr (.pointer (some ⟨(H2.F (D.files.length)), 0, none⟩)) rfl) (vr v54 rfl) hfb (Nat.le_of_ble_eq_true rfl) dw6_isz22 (own_one ho56).1 (own_one ho56).2 fun w60 hb61 hg62 hs63 => ?_)
 have hE0 := row_fresh hE0 hg62 (Nat.le_trans (Nat.le_refl _) (by omega))
 have hbb := kb hg62 hbb (by omega)
 have hC : Chg (fun i => i = (H2.F (D.files.length)) ∨ (H2.V (D.files.length)).ownBlock = some i) (World.drew w48) w60 := Chg.set hC hg62 (.inl (.inl rfl))
 have ho56 := own_kept ho56 hg62 hap58
 clear hfb
 have hfb := hb61; clear hb61
 have hl64 := bl hfb
 refine ⟨.inl rfl, ?_⟩
 refine chF_nil (postF_end (fn := Tryd.f36) [] rfl [] (.tuple #[]) rfl trivial ?_)
 have hTf := hSc.setFileT (x := ((D2.files.getD (D.files.length) ([], 0)).1 ++ b, (D2.files.getD (D.files.length) ([], 0)).2)) hkl (by simp only [List.length_append]; omega) hC ⟨hfb, (show World.ownsRow _ _ _ _ _ _ _ from by simpa using ho56), hflo⟩ hvf
 exact ⟨_, rfl, by rw [← add_new hlk]; have := hTc.trans hTf; rw [hD2, hD1] at this; exact this⟩
open Go.RowKit
set_option maxRecDepth 100000
set_option linter.unusedVariables false
set_option linter.unusedSimpArgs false
theorem Yk.cloN {P : Program} {K : Value → World → Prop} {ρ : Slots} {w : World} {d : Option Tmp} {ty : TypeId} {pos : String} {af : Array Edge} {gd : Option (Nat × Bool)} {f : FuncId} {c : Operand} {v : Value} {caps : Array Value} {R : World → Prop} {at_ : Array TypeId} (hp : Plain P f) (hc : evalR ρ c = v) (hve : v = .func (.func f) #[] caps)
  (h : Calls P f caps w fun e w' => e = .returned (.tuple #[]) ∧ R w') (hk : ∀ w', R w' → K (.tuple #[]) w') : Yk P K ((execOp (evalR ρ) ⟨d, .call ⟨.value c, #[], at_⟩, ty, pos, af, gd⟩).run P w) :=
 Yk.clo hp (hc.trans hve) _ (by simp) (h.mono fun e w' q => ⟨_, q.1, hk w' q.2⟩)
theorem dw7_fo55_5 : FieldOff Tryd.prog 55 5 5 := fun b o w => by simp [go_sem]
theorem dw7_ty3 : Tryd.prog.underlying 3 = some (.int .i64) := by kernel_rfl
theorem dw7_isz3 : (Tryd.prog.info? 3).map (·.size) = some 1 := by kernel_rfl
theorem dw7_fo55_6 : FieldOff Tryd.prog 55 6 6 := fun b o w => by simp [go_sem]
theorem dw7_isz4 : (Tryd.prog.info? 4).map (·.size) = some 1 := by kernel_rfl
set_option maxHeartbeats 1600000
theorem act_at (w0 w : World) (hE0 : Ext w0 w) (H : Dk) (D : Dsk) (hS : DkS w0.heap.size w H D) (hdn : D.down = false) (har : D.arm < 9223372036854775808) (v : Value) (f : FuncId) (caps : Array Value) (hpl : Plain Tryd.prog f) (hve : v = .func (.func f) #[] caps) (g : Dsk → Dsk)
  (hc : ∀ w1 D1, DkT w0.heap.size w H D w1 H D1 → D1 = (armD D).1 → Calls Tryd.prog f caps w1 fun e w' => e = .returned (.tuple #[]) ∧ ∃ H', DkT w0.heap.size w1 H D1 w' H' (g D1)) :
  Calls Tryd.prog 35 #[PQ H.g 0, v] w fun e w' => ∃ H', e = .returned (NI (doD D g).2) ∧ DkT w0.heap.size w H D w' H' (doD D g).1 := by
 have hb := hS.blk
 have hgl := (bl hb)
 have hgl0 := hS.lo.1
 have hsz0 := hE0.size
 have hS0 := hS
 have hgr := World.grownBy.refl w (some H.g)
 refine calls_of_wpF (args := [PQ H.g 0, v]) Tryd.func35 rfl 27 rfl (Nat.le_of_ble_eq_true rfl) ?_
 intro ρ0 hb
 have T0 : ρ0 0 = (PQ H.g 0 : Value) := hb.get 0
 have T1 : ρ0 1 = (v : Value) := hb.get 1
 clear hb
 have hE := Ext.refl w
 refine sk fun K1 hK1 => (wt (oA rfl (oZ ?_)))
 by_cases ha0 : D.arm = 0
 ·have hA : armD D = (D, false) := if_pos ha0
  have hV : doD D g = (g D, 0) := by unfold doD; rw [hA]; rfl
  refine tN (hK1 _ _ (sk fun K2 hK2 => (sk fun K3 hK3 => (wt (oM rfl (oS rfl (Yk.nilCheck T0 (oS rfl (Yk.fieldAt dw7_fo55_5 (vr (PQ H.g 0) rfl) (oS rfl (Yk.cell1 dw7_ty3 rfl (vr (PQ H.g 5) rfl) (cellAt hb (show _ = some (NI D.arm : Value) from rfl)) (oS rfl (Yk.eqI (a := (D.arm : Nat)) (b := (0 : Nat)) rfl rfl (k_gtr _ _ _ _) (oZ (tN (hK3 _ _ (wpF_false (vr (.bool (false)) (congrArg Value.bool (decide_eq_false (by omega)))) (wpF_skip (tN (hK2 _ _ (sk fun K4 hK4 => (wt ?_))))))))))))))))))))))
  refine oM rfl ?_
  have hT1 := DkT.ofExt hS0 hE
  have hD1 : D = (armD D).1 := by rw [hA]
  refine oS rfl (Yk.cloN hpl T1 hve (hc _ _ hT1 hD1) fun w5 hR6 => ?_)
  obtain ⟨H3, hT2⟩ := hR6
  have hT3 := hT1.trans hT2
  refine oZ (tN (hK4 _ _ (sk fun K7 hK7 => (wt (oA rfl (oZ (tN (hK7 _ _ (wpF_ret (postF_ret (fn := Tryd.f35) _ rfl [NI 0] (NI 0) rfl ⟨rfl, trivial⟩ ?_))))))))))
  exact ⟨H3, by rw [hV], by rw [hV]; exact hT3⟩
 have hA : armD D = ({ D with arm := D.arm - 1, down := decide (D.arm - 1 = 0) }, decide (D.arm - 1 = 0)) := if_neg ha0
 by_cases ha1 : D.arm - 1 = 0
 ·rw [decide_eq_true ha1] at hA
  have hV : doD D g = ({ D with arm := D.arm - 1, down := true }, 9) := by unfold doD; rw [hA]; rfl
  refine tN (hK1 _ _ (sk fun K8 hK8 => (sk fun K9 hK9 => (wt (oM rfl (oS rfl (Yk.nilCheck T0 (oS rfl (Yk.fieldAt dw7_fo55_5 (vr (PQ H.g 0) rfl) (oS rfl (Yk.cell1 dw7_ty3 rfl (vr (PQ H.g 5) rfl) (cellAt hb (show _ = some (NI D.arm : Value) from rfl)) (oS rfl (Yk.eqI (a := (D.arm : Nat)) (b := (0 : Nat)) rfl rfl (k_gtr _ _ _ _) (oZ (tN (hK9 _ _ (wpF_true (vr (.bool (true)) (congrArg Value.bool (decide_eq_true (by omega)))) (sk fun K10 hK10 => (wt (oM rfl (oS rfl (Yk.nilCheck T0 ?_))))))))))))))))))))))
  refine oS rfl (Yk.fieldAt dw7_fo55_5 (vr (PQ H.g 0) rfl) (oS rfl (Yk.cell1 dw7_ty3 rfl (vr (PQ H.g 5) rfl) (cellAt hb (show _ = some (NI D.arm : Value) from rfl)) (oS rfl (Yk.bin (xv := NI D.arm) (yv := NI 1) rfl rfl rfl (i64_sub _ _ _ (by omega) (by omega)) (oS rfl (Yk.nilCheck T0 (oS rfl (Yk.fieldAt dw7_fo55_5 (vr (PQ H.g 0) rfl) (oS rfl (Yk.storeC (i := 5) (v := NI ((D.arm) - (1))) (vr (PQ H.g 5) rfl) (vr (NI ((D.arm) - (1))) rfl) hb (Nat.le_of_ble_eq_true rfl) dw7_isz3 rfl rfl fun w11 hb12 hg13 hs14 => ?_)))))))))))
  have hgr : w.grownBy w11 (some H.g) := grownBy_trans hgr hg13 (fun _ e => .inl e)
  clear hE
  have hE0 := row_fresh hE0 hg13 (Nat.le_trans (Nat.le_refl _) (by omega))
  clear hb
  have hb := hb12; clear hb12
  have hl15 := bl hb
  refine oZ (tN (hK10 _ _ (sk fun K16 hK16 => (wt (oM rfl (oS rfl (Yk.nilCheck T0 (oS rfl (Yk.fieldAt dw7_fo55_5 (vr (PQ H.g 0) rfl) (oS rfl (Yk.cell1 dw7_ty3 rfl (vr (PQ H.g 5) rfl) (cellAt hb (show _ = some (NI ((D.arm) - (1)) : Value) from rfl)) (oS rfl (Yk.eqI (a := ((D.arm) - (1) : Nat)) (b := (0 : Nat)) rfl rfl (k_eql _ _ _ _) (oZ (tN (hK16 _ _ (wpF_true (vr (.bool (true)) (congrArg Value.bool (decide_eq_true (by omega)))) (sk fun K17 hK17 => (wt (oM rfl (oS rfl (Yk.nilCheck T0 ?_))))))))))))))))))))))
  refine oS rfl (Yk.fieldAt dw7_fo55_6 (vr (PQ H.g 0) rfl) (oS rfl (Yk.storeC (i := 6) (v := .bool (true)) (vr (PQ H.g 6) rfl) (vr (.bool (true)) rfl) hb (Nat.le_of_ble_eq_true rfl) dw7_isz4 rfl rfl fun w18 hb19 hg20 hs21 => ?_)))
  have hgr : w.grownBy w18 (some H.g) := grownBy_trans hgr hg20 (fun _ e => .inl e)
  have hE0 := row_fresh hE0 hg20 (Nat.le_trans (Nat.le_refl _) (by omega))
  clear hb
  have hb := hb19; clear hb19
  have hl22 := bl hb
  refine oZ (tN (hK17 _ _ (sk fun K23 hK23 => (wt (oA rfl (oZ (tN (hK23 _ _ (wpF_ret (thenF_ret (postF_ret (fn := Tryd.f35) _ rfl [NI 9] (NI 9) rfl ⟨rfl, trivial⟩ ?_)))))))))))
  exact ⟨H, by rw [hV], by rw [hV]; exact hS0.setBlkT hgr hb⟩
 rw [decide_eq_false ha1] at hA
 have hV : doD D g = (g { D with arm := D.arm - 1, down := false }, 0) := by unfold doD; rw [hA]; rfl
 refine tN (hK1 _ _ (sk fun K24 hK24 => (sk fun K25 hK25 => (wt (oM rfl (oS rfl (Yk.nilCheck T0 (oS rfl (Yk.fieldAt dw7_fo55_5 (vr (PQ H.g 0) rfl) (oS rfl (Yk.cell1 dw7_ty3 rfl (vr (PQ H.g 5) rfl) (cellAt hb (show _ = some (NI D.arm : Value) from rfl)) (oS rfl (Yk.eqI (a := (D.arm : Nat)) (b := (0 : Nat)) rfl rfl (k_gtr _ _ _ _) (oZ (tN (hK25 _ _ (wpF_true (vr (.bool (true)) (congrArg Value.bool (decide_eq_true (by omega)))) (sk fun K26 hK26 => (wt (oM rfl (oS rfl (Yk.nilCheck T0 ?_))))))))))))))))))))))
 refine oS rfl (Yk.fieldAt dw7_fo55_5 (vr (PQ H.g 0) rfl) (oS rfl (Yk.cell1 dw7_ty3 rfl (vr (PQ H.g 5) rfl) (cellAt hb (show _ = some (NI D.arm : Value) from rfl)) (oS rfl (Yk.bin (xv := NI D.arm) (yv := NI 1) rfl rfl rfl (i64_sub _ _ _ (by omega) (by omega)) (oS rfl (Yk.nilCheck T0 (oS rfl (Yk.fieldAt dw7_fo55_5 (vr (PQ H.g 0) rfl) (oS rfl (Yk.storeC (i := 5) (v := NI ((D.arm) - (1))) (vr (PQ H.g 5) rfl) (vr (NI ((D.arm) - (1))) rfl) hb (Nat.le_of_ble_eq_true rfl) dw7_isz3 rfl rfl fun w27 hb28 hg29 hs30 => ?_)))))))))))
 have hgr : w.grownBy w27 (some H.g) := grownBy_trans hgr hg29 (fun _ e => .inl e)
 clear hE
 have hE0 := row_fresh hE0 hg29 (Nat.le_trans (Nat.le_refl _) (by omega))
 clear hb
 have hb := hb28; clear hb28
 have hl31 := bl hb
 refine oZ (tN (hK26 _ _ (sk fun K32 hK32 => (wt (oM rfl (oS rfl (Yk.nilCheck T0 (oS rfl (Yk.fieldAt dw7_fo55_5 (vr (PQ H.g 0) rfl) (oS rfl (Yk.cell1 dw7_ty3 rfl (vr (PQ H.g 5) rfl) (cellAt hb (show _ = some (NI ((D.arm) - (1)) : Value) from rfl)) (oS rfl (Yk.eqI (a := ((D.arm) - (1) : Nat)) (b := (0 : Nat)) rfl rfl (k_eql _ _ _ _) (oZ (tN (hK32 _ _ (wpF_false (vr (.bool (false)) (congrArg Value.bool (decide_eq_false (by omega)))) (wpF_skip (tN (hK24 _ _ (sk fun K33 hK33 => (wt ?_))))))))))))))))))))))
 refine oM rfl ?_
 have hT1 := hS0.setBlkT hgr hb
 have hD1 : ({ D with quota := D.quota, refused := D.refused, arm := D.arm - 1, down := D.down } : Dsk) = (armD D).1 := by rw [hA, hdn]
 refine oS rfl (Yk.cloN hpl T1 hve (hc _ _ hT1 hD1) fun w34 hR35 => ?_)
 obtain ⟨H3, hT2⟩ := hR35
 have hT3 := hT1.trans hT2
 refine oZ (tN (hK33 _ _ (sk fun K36 hK36 => (wt (oA rfl (oZ (tN (hK36 _ _ (wpF_ret (postF_ret (fn := Tryd.f35) _ rfl [NI 0] (NI 0) rfl ⟨rfl, trivial⟩ ?_))))))))))
 exact ⟨H3, by rw [hV], by rw [hV]; rw [← hdn]; exact hT3⟩
end Go.Proofs.YtejpjjhkjdpeaaaDoor
