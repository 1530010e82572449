/- Part 3 of what stands behind these statements: laws and walks of the functions that are reached. Conditions: those that each theorem names. -/
import Derived.Test.YtmonlobfofkbdaaDoorK2
set_option linter.unusedVariables false
set_option linter.unusedSimpArgs false
namespace Go.Proofs.YtmonlobfofkbdaaDoor
open Go.RowKit
set_option maxRecDepth 100000
def NewOG (t : TypeId) (w0 wb w : World) (v : Value) (l : List Nmd) : Prop := OG w0.heap.size t 33 nmdC w v l ∧ ∀ k, v.ownBlock = some k → wb.heap.size ≤ k
theorem NewOG.keep {t : TypeId} {w0 wb w w' : World} {v : Value} {l : List Nmd} (h : NewOG t w0 wb w v l) (k : Ext w w') : NewOG t w0 wb w' v l := ⟨h.1.keep k, h.2⟩
theorem NewOG.of {t : TypeId} {w0 wb w1 w : World} {v : Value} {l : List Nmd} (h : OG w1.heap.size t 33 nmdC w v l) (h0 : w0.heap.size ≤ wb.heap.size) (h1 : wb.heap.size ≤ w1.heap.size) : NewOG t w0 wb w v l := ⟨h.low (Nat.le_trans h0 h1), fun k hk => Nat.le_trans h1 (h.2.lt k hk).1⟩
theorem NewOG.apart {t : TypeId} {w0 wb w : World} {v : Value} {l : List Nmd} {g : Nat} (h : NewOG t w0 wb w v l) (hg : g < wb.heap.size) : v.ownBlock ≠ some g := fun e => by have := h.2 g e; omega
theorem NewOG.apartv {α : Type} {t t' : TypeId} {w0 wb w wa : World} {v u : Value} {l : List Nmd} {b k : Nat} {enc : α → List Value} {m : List α} (h : NewOG t w0 wb w v l) (hu : OG b t' k enc wa u m) (hle : wa.heap.size ≤ wb.heap.size) : ApartV u v := fun i h1 h2 => by
 have := (hu.2.lt i h1).2
 have := h.2 i h2
 omega
abbrev fnV (f : Nat) : Value := .func (.func f) #[] #[]
def doG : UInt8 → Option Nat := updM (updM (updM (fun _ => none) 1 (some 122)) 2 (some 123)) 3 (some 124)
theorem zeroFn : ∀ u : World, (zeroValue 128).run Tryd.prog u = .ok Value.nilFunc u := fun _ => by kernel_rfl
theorem wr34_fo53_0 : FieldOff Tryd.prog 53 0 0 := fun b o w => by simp [go_sem]
theorem wr34_ty51 : Tryd.prog.underlying 51 = some (.slice 70) := by kernel_rfl
theorem wr34_ty67 : ∃ fs, Tryd.prog.underlying 67 = some (.struct fs) := struct_of (by kernel_rfl)
theorem wr34_isz67 : (Tryd.prog.info? 67).map (·.size) = some 66 := by kernel_rfl
theorem wr34_pl149 : Plain Tryd.prog 149 := fun _ _ => by kernel_rfl
theorem wr34_fo67_3 : FieldOff Tryd.prog 67 3 34 := fun b o w => by simp [go_sem]
theorem wr34_ty25 : Tryd.prog.underlying 25 = some (.array 32 5) := by kernel_rfl
theorem wr34_pl83 : Plain Tryd.prog 83 := fun _ _ => by kernel_rfl
theorem wr34_fo67_2 : FieldOff Tryd.prog 67 2 2 := fun b o w => by simp [go_sem]
theorem wr34_fo53_2 : FieldOff Tryd.prog 53 2 2 := fun b o w => by simp [go_sem]
theorem wr34_ty9 : Tryd.prog.underlying 9 = some (.string) := by kernel_rfl
theorem wr34_fo67_1 : FieldOff Tryd.prog 67 1 1 := fun b o w => by simp [go_sem]
theorem wr34_isz51 : (Tryd.prog.info? 51).map (·.size) = some 1 := by kernel_rfl
theorem wr34_fo53_1 : FieldOff Tryd.prog 53 1 1 := fun b o w => by simp [go_sem]
theorem wr34_isz9 : (Tryd.prog.info? 9).map (·.size) = some 1 := by kernel_rfl
theorem wr34_fo53_3 : FieldOff Tryd.prog 53 3 3 := fun b o w => by simp [go_sem]
theorem wr34_isz25 : (Tryd.prog.info? 25).map (·.size) = some 32 := by kernel_rfl
theorem wr34_ty125 : Tryd.prog.underlying 125 = some (.map 5 128) := by kernel_rfl
set_option maxHeartbeats 1600000
theorem branch_any (w0 w : World) (g : Nat) (z : RefsV) (hA : AppAt w0 w g z) (hS : Sorted z.1) (y : Upd) :
  Calls Tryd.prog 122 #[PQ g 0, .agg (updC y).toArray] w fun e w' => ∃ z', (e = .returned (NI (branchP z.1 y).1) ∧ z'.1 = (branchP z.1 y).2) ∧ AppAt w0 w' g z' ∧ z'.2.log = z.2.log ∧ w.grownBy w' (some g) := by
 have hgr := World.grownBy.refl w (some g)
 have hE0 := hA.ext
 have hg0 := hA.g0
 have hblk := hA.blk
 have hbr := hA.br
 have htg := hA.tg
 have hlg := hA.lg
 have hab := hA.ab
 have hat := hA.at_
 have hal := hA.al
 have hlb := hA.lb
 have hlt := hA.lt
 have hlg0 := hA.lg
 have hgl := (bl hblk)
 refine calls_of_wpF (args := [PQ g 0, .agg (updC y).toArray]) Tryd.func122 rfl 45 rfl (Nat.le_of_ble_eq_true rfl) ?_
 intro ρ0 hb
 have T0 : ρ0 0 = (PQ g 0 : Value) := hb.get 0
 have T1 : ρ0 1 = (.agg (updC y).toArray : Value) := hb.get 1
 clear hb
 have hE := Ext.refl w
 refine sk fun K1 hK1 => (wt (oS rfl (Yk.box (cs := (updC y : List Value).toArray) T1 fun n2 w3 hn4 hb5 hx6 hs7 => ?_)))
 have hA8 := Ext.refl w
 have hea9 := hE
 have hea10 := hE0
 have hz11 := hE.size
 have hz12 := hE0.size
 have hlt13 := lte (bl hblk) hn4
 have hap14 : OB z.2.branches n2 := own_newer hbr.2 (by omega)
 have hap15 : OB z.2.tags n2 := own_newer htg.2 (by omega)
 have hap16 : OB z.2.log n2 := own_newer hlg.2 (by omega)
 have hblk := eb hx6 hblk
 have hbr := hbr.keep hx6
 have htg := htg.keep hx6
 have hlg := hlg.keep hx6
 have hgr : w.grownBy w3 (some g) := grownBy_trans hgr hx6.grown (fun _ e => by cases e)
 have hE := hE.trans hx6
 have hE0 := hE0.trans hx6
 have hA8 := hA8.trans hx6
 have hb17 := hb5; clear hb5
 have hl18 : n2 < w3.heap.size := by omega
 refine oA rfl (oZ (tN (hK1 _ _ (sk fun K19 hK19 => ?_))))
 refine wpF_draw [Is (PQ g 0), Is (PQ g 0), Is (PQ g 0), Is (z.2.branches), Is (.agg (updC y).toArray), fun x w' => ∃ v, x = .tuple #[v, NI (turnQ z.1.branches y).1] ∧ NewOG 70 w0 w3 w' v ((turnQ z.1.branches y).2), fun x w' => ∃ v, x = .tuple #[v, NI (turnQ z.1.branches y).1] ∧ NewOG 70 w0 w3 w' v ((turnQ z.1.branches y).2), fun x w' => NewOG 70 w0 w3 w' x ((turnQ z.1.branches y).2), Is (NI ((turnQ z.1.branches y).1)), fun x w' => NewOG 70 w0 w3 w' x ((turnQ z.1.branches y).2), Is (NI ((turnQ z.1.branches y).1))] (by kernel_rfl) [8, 9, 10, 11, 12, 13, 7, 14, 15, 5, 6] (by kernel_rfl) (by kernel_rfl) (si5 ⟨(fun _ _ _ ⟨v, h1, h2⟩ k => ⟨v, h1, h2.keep k⟩), (fun _ _ _ ⟨v, h1, h2⟩ k => ⟨v, h1, h2.keep k⟩), (fun _ _ _ h k => NewOG.keep h k), Stab.is _, (fun _ _ _ h k => NewOG.keep h k), Stab.is _, trivial⟩) ?hs1001 ?hQ1001
 case hs1001 =>
  refine ⟨?_, ?_, ?_, ?_, ?_, ?_, ?_, ?_, ?_, ?_, ?_, trivial⟩
  ·refine stepN rfl fun σ w1 hC h => ?_
   have e0 := (eqo (h 0 (by decide))).trans T0
   exact Yk.move e0 ⟨Ext.refl _, rfl⟩
  ·refine stepN rfl fun σ w1 hC h => ?_
   have e8 := eqo (h 8 (by decide))
   exact Yk.nilCheck e8 ⟨Ext.refl _, rfl⟩
  ·refine stepN rfl fun σ w1 hC h => ?_
   have e9 := eqo (h 9 (by decide))
   exact Yk.fieldAt wr34_fo53_0 e9 ⟨Ext.refl _, rfl⟩
  ·refine stepN rfl fun σ w1 hC h => ?_
   have e10 := eqo (h 10 (by decide))
   exact Yk.cell1 wr34_ty51 rfl e10 (cellAt (eb hC hblk) (show (refsC z)[0]? = some (z.2.branches : Value) from refs_g0 z)) ⟨Ext.refl _, rfl⟩
  ·refine stepN rfl fun σ w1 hC h => ?_
   have e3 : σ 3 = PQ n2 0 := (eqo (h 3 (by decide))).trans rfl
   exact Yk.loadAll e3 (eb hC hb17) (wr34_ty67).choose_spec rfl (st_isz (upd_len y) wr34_isz67) ⟨Ext.refl _, rfl⟩
  ·refine stepN rfl fun σ w1 hC h => ?_
   have e11 := eqo (h 11 (by decide))
   have e12 := eqo (h 12 (by decide))
   refine Yk.callA2 wr34_pl149 e11 e12 ((turned_any _ z.2.branches z.1.branches (RG.ofOwn (hbr.keep hC)) (by have := hS.bl; omega) hS.br y).mono ?_)
   rintro e w2 ⟨v, rfl, ho, hx⟩
   exact ⟨_, rfl, hx, v, rfl, NewOG.of ho hE0.size hC.size⟩
  ·refine stepN rfl fun σ w1 hC h => ?_
   have e13 : (fun x w' => ∃ v, x = .tuple #[v, NI (turnQ z.1.branches y).1] ∧ NewOG 70 w0 w3 w' v ((turnQ z.1.branches y).2)) (σ 13) w1 := h 13 (by decide)
   exact Yk.move rfl ⟨Ext.refl _, e13⟩
  ·refine stepN rfl fun σ w1 hC h => ?_
   have e7 : (fun x w' => ∃ v, x = .tuple #[v, NI (turnQ z.1.branches y).1] ∧ NewOG 70 w0 w3 w' v ((turnQ z.1.branches y).2)) (σ 7) w1 := h 7 (by decide)
   obtain ⟨v0, h1_, h2_⟩ := e7
   exact Yk.extract (vs := [v0, _]) h1_ (show _ = some v0 from rfl) ⟨Ext.refl _, h2_⟩
  ·refine stepN rfl fun σ w1 hC h => ?_
   have e7 : (fun x w' => ∃ v, x = .tuple #[v, NI (turnQ z.1.branches y).1] ∧ NewOG 70 w0 w3 w' v ((turnQ z.1.branches y).2)) (σ 7) w1 := h 7 (by decide)
   obtain ⟨v0, h1_, h2_⟩ := e7
   exact Yk.extract (vs := [v0, NI (turnQ z.1.branches y).1]) h1_ (show _ = some (NI (turnQ z.1.branches y).1 : Value) from rfl) ⟨Ext.refl _, rfl⟩
  ·refine stepN rfl fun σ w1 hC h => ?_
   have e14 : (fun x w' => NewOG 70 w0 w3 w' x ((turnQ z.1.branches y).2)) (σ 14) w1 := h 14 (by decide)
   exact Yk.assign rfl ⟨Ext.refl _, e14⟩
  ·refine stepN rfl fun σ w1 hC h => ?_
   have e15 := eqo (h 15 (by decide))
   exact Yk.assign e15 ⟨Ext.refl _, rfl⟩
 intro ρ20 w21 hx22 he hf
 obtain ⟨-, -, -, -, -, -, -, -, -, k5, k6, -⟩ := hf
 obtain ⟨T0, T1, T3, T4, -⟩ := he.hold [(0, _), (1, _), (3, PQ n2 0), (4, NI 0)] ⟨T0, T1, rfl, rfl, trivial⟩ rfl
 clear he
 have hblk := eb hx22 hblk
 have hbr := hbr.keep hx22
 have htg := htg.keep hx22
 have hlg := hlg.keep hx22
 have hgr : w.grownBy w21 (some g) := grownBy_trans hgr hx22.grown (fun _ e => by cases e)
 have hE := hE.trans hx22
 have hE0 := hE0.trans hx22
 have hA8 := hA8.trans hx22
 have hb17 := eb hx22 hb17
 have k5 : (fun x w' => NewOG 70 w0 w3 w' x ((turnQ z.1.branches y).2)) (ρ20 5) w21 := k5
 obtain ⟨v23, T5⟩ : ∃ v, ρ20 5 = v := ⟨_, rfl⟩
 rw [T5] at k5
 have hk24 := k5; clear k5
 have hap25 : OB v23 g := NewOG.apart hk24 (by omega)
 have hap26 : OB v23 n2 := NewOG.apart hk24 (by omega)
 have hap27 : ApartV z.2.log v23 := NewOG.apartv hk24 hlg0 (by omega)
 have ho28 := hk24.1; clear hk24
 have T6 : ρ20 6 = NI ((turnQ z.1.branches y).1) := k6
 clear k6
 refine tN (hK19 _ _ (sk fun K29 hK29 => (sk fun K30 hK30 => ?_)))
 refine wpF_draw [Is (NI ((turnQ z.1.branches y).1)), Is (.bool (decide (((turnQ z.1.branches y).1 : Nat) = (0)))), Is (.bool (decide (((turnQ z.1.branches y).1 : Nat) = (0)))), Is (cond ((decide (((turnQ z.1.branches y).1 : Nat) = (0)))) (PQ n2 34) undef), Is (cond ((decide (((turnQ z.1.branches y).1 : Nat) = (0)))) (AB y.new.1) undef), Is (cond ((decide (((turnQ z.1.branches y).1 : Nat) = (0)))) (.bool (zeroB y.new)) undef), Is (.bool ((decide (((turnQ z.1.branches y).1 : Nat) = (0))) && (zeroB y.new))), Is (.bool ((decide (((turnQ z.1.branches y).1 : Nat) = (0))) && (zeroB y.new))), Is (cond ((decide (((turnQ z.1.branches y).1 : Nat) = (0))) && (zeroB y.new)) (PQ n2 2) undef), Is (cond ((decide (((turnQ z.1.branches y).1 : Nat) = (0))) && (zeroB y.new)) (AB y.old.1) undef), Is (cond ((decide (((turnQ z.1.branches y).1 : Nat) = (0))) && (zeroB y.new)) (.bool (zeroB y.old)) undef), Is (cond ((decide (((turnQ z.1.branches y).1 : Nat) = (0))) && (zeroB y.new)) (.bool (!(zeroB y.old))) undef), Is (.bool (((decide (((turnQ z.1.branches y).1 : Nat) = (0))) && (zeroB y.new)) && (!(zeroB y.old)))), Is (.bool (((decide (((turnQ z.1.branches y).1 : Nat) = (0))) && (zeroB y.new)) && (!(zeroB y.old)))), Is (cond (((decide (((turnQ z.1.branches y).1 : Nat) = (0))) && (zeroB y.new)) && (!(zeroB y.old))) (PQ g 0) undef), Is (cond (((decide (((turnQ z.1.branches y).1 : Nat) = (0))) && (zeroB y.new)) && (!(zeroB y.old))) (PQ g 0) undef), Is (cond (((decide (((turnQ z.1.branches y).1 : Nat) = (0))) && (zeroB y.new)) && (!(zeroB y.old))) (PQ g 2) undef), Is (cond (((decide (((turnQ z.1.branches y).1 : Nat) = (0))) && (zeroB y.new)) && (!(zeroB y.old))) (St (z.1.head)) undef), Is (cond (((decide (((turnQ z.1.branches y).1 : Nat) = (0))) && (zeroB y.new)) && (!(zeroB y.old))) (PQ n2 1) undef), Is (cond (((decide (((turnQ z.1.branches y).1 : Nat) = (0))) && (zeroB y.new)) && (!(zeroB y.old))) (St (y.name)) undef), Is (cond (((decide (((turnQ z.1.branches y).1 : Nat) = (0))) && (zeroB y.new)) && (!(zeroB y.old))) (.bool (decide ((z.1.head : List UInt8) = (y.name : List UInt8)))) undef), Is (.bool ((((decide (((turnQ z.1.branches y).1 : Nat) = (0))) && (zeroB y.new)) && (!(zeroB y.old))) && (decide ((z.1.head : List UInt8) = (y.name : List UInt8)))))] (by kernel_rfl) [16, 17, 18, 19, 20, 21, 22, 23, 24, 25, 26, 27, 28, 29, 30, 31, 32, 33, 34, 35, 36, 37] (by kernel_rfl) (by kernel_rfl) (si10 (si12 trivial)) ?hs2002 ?hQ2002
 case hs2002 =>
  refine ⟨?_, ?_, ?_, ?_, ?_, ?_, ?_, ?_, ?_, ?_, ?_, ?_, ?_, ?_, ?_, ?_, ?_, ?_, ?_, ?_, ?_, ?_, trivial⟩
  ·refine stepN rfl fun σ w1 hC h => ?_
   have e6 := (eqo (h 6 (by decide))).trans T6
   exact Yk.move e6 ⟨Ext.refl _, rfl⟩
  ·refine stepN rfl fun σ w1 hC h => ?_
   have e16 := eqo (h 16 (by decide))
   exact Yk.eqI (a := ((turnQ z.1.branches y).1 : Nat)) (b := (0 : Nat)) e16 rfl (k_eql _ _ _ _) ⟨Ext.refl _, rfl⟩
  ·refine stepN rfl fun σ w1 hC h => ?_
   have e17 := eqo (h 17 (by decide))
   exact Yk.move e17 ⟨Ext.refl _, rfl⟩
  ·refine stepM 2 true 18 (G := (decide (((turnQ z.1.branches y).1 : Nat) = (0)))) rfl rfl (fun x _ (h : x = .bool (decide (((turnQ z.1.branches y).1 : Nat) = (0)))) => gT h) (fun hu_ _ => mayU hu_) fun hG σ w1 hC h => ?_
   have e3 := (eqo (h 3 (by decide))).trans T3
   exact Yk.fieldAt wr34_fo67_3 e3 ⟨Ext.refl _, mayI hG⟩
  ·refine stepM 2 true 18 (G := (decide (((turnQ z.1.branches y).1 : Nat) = (0)))) rfl rfl (fun x _ (h : x = .bool (decide (((turnQ z.1.branches y).1 : Nat) = (0)))) => gT h) (fun hu_ _ => mayU hu_) fun hG σ w1 hC h => ?_
   have e19 := eqo (h 19 (by decide))
   exact Yk.loadPR (PR.blk (eb hC hb17) (upd_m3 y) (upd_n3 y) (mayT e19 hG)) wr34_ty25 rfl (sizeId_of y.new.2) ⟨Ext.refl _, mayI hG⟩
  ·refine stepM 2 true 18 (G := (decide (((turnQ z.1.branches y).1 : Nat) = (0)))) rfl rfl (fun x _ (h : x = .bool (decide (((turnQ z.1.branches y).1 : Nat) = (0)))) => gT h) (fun hu_ _ => mayU hu_) fun hG σ w1 hC h => ?_
   have e20 := eqo (h 20 (by decide))
   refine Yk.callA1 wr34_pl83 (mayT e20 hG) ((fzero_any _ y.new).mono ?_)
   rintro e w2 ⟨rfl, hx⟩
   exact ⟨_, rfl, hx, mayI hG⟩
  ·refine stepN rfl fun σ w1 hC h => ?_
   have e18 := eqo (h 18 (by decide))
   have e21 := eqo (h 21 (by decide))
   exact Yk.pickAnd e18 (fun hA => (mayT e21 hA)) (vr (.bool (false)) rfl) ⟨Ext.refl _, rfl⟩
  ·refine stepN rfl fun σ w1 hC h => ?_
   have e22 := eqo (h 22 (by decide))
   exact Yk.move e22 ⟨Ext.refl _, rfl⟩
  ·refine stepM 7 true 23 (G := (decide (((turnQ z.1.branches y).1 : Nat) = (0))) && (zeroB y.new)) rfl rfl (fun x _ (h : x = .bool ((decide (((turnQ z.1.branches y).1 : Nat) = (0))) && (zeroB y.new))) => gT h) (fun hu_ _ => mayU hu_) fun hG σ w1 hC h => ?_
   have e3 := (eqo (h 3 (by decide))).trans T3
   exact Yk.fieldAt wr34_fo67_2 e3 ⟨Ext.refl _, mayI hG⟩
  ·refine stepM 7 true 23 (G := (decide (((turnQ z.1.branches y).1 : Nat) = (0))) && (zeroB y.new)) rfl rfl (fun x _ (h : x = .bool ((decide (((turnQ z.1.branches y).1 : Nat) = (0))) && (zeroB y.new))) => gT h) (fun hu_ _ => mayU hu_) fun hG σ w1 hC h => ?_
   have e24 := eqo (h 24 (by decide))
   exact Yk.loadPR (PR.blk (eb hC hb17) (upd_m2 y) (upd_n2 y) (mayT e24 hG)) wr34_ty25 rfl (sizeId_of y.old.2) ⟨Ext.refl _, mayI hG⟩
  ·refine stepM 7 true 23 (G := (decide (((turnQ z.1.branches y).1 : Nat) = (0))) && (zeroB y.new)) rfl rfl (fun x _ (h : x = .bool ((decide (((turnQ z.1.branches y).1 : Nat) = (0))) && (zeroB y.new))) => gT h) (fun hu_ _ => mayU hu_) fun hG σ w1 hC h => ?_
   have e25 := eqo (h 25 (by decide))
   refine Yk.callA1 wr34_pl83 (mayT e25 hG) ((fzero_any _ y.old).mono ?_)
   rintro e w2 ⟨rfl, hx⟩
   exact ⟨_, rfl, hx, mayI hG⟩
  ·refine stepM 7 true 23 (G := (decide (((turnQ z.1.branches y).1 : Nat) = (0))) && (zeroB y.new)) rfl rfl (fun x _ (h : x = .bool ((decide (((turnQ z.1.branches y).1 : Nat) = (0))) && (zeroB y.new))) => gT h) (fun hu_ _ => mayU hu_) fun hG σ w1 hC h => ?_
   have e26 := eqo (h 26 (by decide))
   exact Yk.notB (mayT e26 hG) ⟨Ext.refl _, mayI hG⟩
  ·refine stepN rfl fun σ w1 hC h => ?_
   have e23 := eqo (h 23 (by decide))
   have e27 := eqo (h 27 (by decide))
   exact Yk.pickAnd e23 (fun hA => (mayT e27 hA)) (vr (.bool (false)) rfl) ⟨Ext.refl _, rfl⟩
  ·refine stepN rfl fun σ w1 hC h => ?_
   have e28 := eqo (h 28 (by decide))
   exact Yk.move e28 ⟨Ext.refl _, rfl⟩
  ·refine stepM 13 true 29 (G := ((decide (((turnQ z.1.branches y).1 : Nat) = (0))) && (zeroB y.new)) && (!(zeroB y.old))) rfl rfl (fun x _ (h : x = .bool (((decide (((turnQ z.1.branches y).1 : Nat) = (0))) && (zeroB y.new)) && (!(zeroB y.old)))) => gT h) (fun hu_ _ => mayU hu_) fun hG σ w1 hC h => ?_
   have e0 := (eqo (h 0 (by decide))).trans T0
   exact Yk.move e0 ⟨Ext.refl _, mayI hG⟩
  ·refine stepM 13 true 29 (G := ((decide (((turnQ z.1.branches y).1 : Nat) = (0))) && (zeroB y.new)) && (!(zeroB y.old))) rfl rfl (fun x _ (h : x = .bool (((decide (((turnQ z.1.branches y).1 : Nat) = (0))) && (zeroB y.new)) && (!(zeroB y.old)))) => gT h) (fun hu_ _ => mayU hu_) fun hG σ w1 hC h => ?_
   have e30 := eqo (h 30 (by decide))
   exact Yk.nilCheck (mayT e30 hG) ⟨Ext.refl _, mayI hG⟩
  ·refine stepM 13 true 29 (G := ((decide (((turnQ z.1.branches y).1 : Nat) = (0))) && (zeroB y.new)) && (!(zeroB y.old))) rfl rfl (fun x _ (h : x = .bool (((decide (((turnQ z.1.branches y).1 : Nat) = (0))) && (zeroB y.new)) && (!(zeroB y.old)))) => gT h) (fun hu_ _ => mayU hu_) fun hG σ w1 hC h => ?_
   have e31 := eqo (h 31 (by decide))
   exact Yk.fieldAt wr34_fo53_2 (mayT e31 hG) ⟨Ext.refl _, mayI hG⟩
  ·refine stepM 13 true 29 (G := ((decide (((turnQ z.1.branches y).1 : Nat) = (0))) && (zeroB y.new)) && (!(zeroB y.old))) rfl rfl (fun x _ (h : x = .bool (((decide (((turnQ z.1.branches y).1 : Nat) = (0))) && (zeroB y.new)) && (!(zeroB y.old)))) => gT h) (fun hu_ _ => mayU hu_) fun hG σ w1 hC h => ?_
   have e32 := eqo (h 32 (by decide))
   exact Yk.cell1 wr34_ty9 rfl (mayT e32 hG) (cellAt (eb hC hblk) (show (refsC z)[2]? = some (St (z.1.head) : Value) from refs_g2 z)) ⟨Ext.refl _, mayI hG⟩
  ·refine stepM 13 true 29 (G := ((decide (((turnQ z.1.branches y).1 : Nat) = (0))) && (zeroB y.new)) && (!(zeroB y.old))) rfl rfl (fun x _ (h : x = .bool (((decide (((turnQ z.1.branches y).1 : Nat) = (0))) && (zeroB y.new)) && (!(zeroB y.old)))) => gT h) (fun hu_ _ => mayU hu_) fun hG σ w1 hC h => ?_
   have e3 := (eqo (h 3 (by decide))).trans T3
   exact Yk.fieldAt wr34_fo67_1 e3 ⟨Ext.refl _, mayI hG⟩
  ·refine stepM 13 true 29 (G := ((decide (((turnQ z.1.branches y).1 : Nat) = (0))) && (zeroB y.new)) && (!(zeroB y.old))) rfl rfl (fun x _ (h : x = .bool (((decide (((turnQ z.1.branches y).1 : Nat) = (0))) && (zeroB y.new)) && (!(zeroB y.old)))) => gT h) (fun hu_ _ => mayU hu_) fun hG σ w1 hC h => ?_
   have e34 := eqo (h 34 (by decide))
   exact Yk.cell1 wr34_ty9 rfl (mayT e34 hG) (cellAt (eb hC hb17) (show (updC y)[1]? = some (St (y.name) : Value) from upd_g1 y)) ⟨Ext.refl _, mayI hG⟩
  ·refine stepM 13 true 29 (G := ((decide (((turnQ z.1.branches y).1 : Nat) = (0))) && (zeroB y.new)) && (!(zeroB y.old))) rfl rfl (fun x _ (h : x = .bool (((decide (((turnQ z.1.branches y).1 : Nat) = (0))) && (zeroB y.new)) && (!(zeroB y.old)))) => gT h) (fun hu_ _ => mayU hu_) fun hG σ w1 hC h => ?_
   have e33 := eqo (h 33 (by decide))
   have e35 := eqo (h 35 (by decide))
   exact Yk.eqSt (l := z.1.head) (m := y.name) (.inl rfl) (mayT e33 hG) (mayT e35 hG) (decide ((z.1.head : List UInt8) = (y.name : List UInt8))) rfl ⟨Ext.refl _, mayI hG⟩
  ·refine stepN rfl fun σ w1 hC h => ?_
   have e29 := eqo (h 29 (by decide))
   have e36 := eqo (h 36 (by decide))
   exact Yk.pickAnd e29 (fun hA => (mayT e36 hA)) (vr (.bool (false)) rfl) ⟨Ext.refl _, rfl⟩
 intro ρ31 w32 hx33 he hf
 obtain ⟨-, -, -, -, -, -, -, -, -, -, -, -, -, -, -, -, -, -, -, -, -, k37, -⟩ := hf
 obtain ⟨T0, T1, T3, T4, T5, T6, -⟩ := he.hold [(0, _), (1, _), (3, _), (4, _), (5, _), (6, _)] ⟨T0, T1, T3, T4, T5, T6, trivial⟩ rfl
 clear he
 have hblk := eb hx33 hblk
 have hbr := hbr.keep hx33
 have htg := htg.keep hx33
 have hlg := hlg.keep hx33
 have hgr : w.grownBy w32 (some g) := grownBy_trans hgr hx33.grown (fun _ e => by cases e)
 have hE := hE.trans hx33
 have hE0 := hE0.trans hx33
 have hA8 := hA8.trans hx33
 have hb17 := eb hx33 hb17
 have ho28 := ho28.keep hx33
 have T37 : ρ31 37 = .bool ((((decide (((turnQ z.1.branches y).1 : Nat) = (0))) && (zeroB y.new)) && (!(zeroB y.old))) && (decide ((z.1.head : List UInt8) = (y.name : List UInt8)))) := k37
 clear k37
 refine tN (hK30 _ _ ?_)
 refine wpF_condB ((((decide (((turnQ z.1.branches y).1 : Nat) = (0))) && (zeroB y.new)) && (!(zeroB y.old))) && (decide ((z.1.head : List UInt8) = (y.name : List UInt8)))) T37 (fun hc0 => ?_) (fun hc0 => ?_)
 ·have h0c : hdlost z.1 y = true := hc0
  refine sk fun K34 hK34 => (wt (oA rfl (oZ (tN (hK34 _ _ (wpF_ret (thenF_ret (postF_ret (fn := Tryd.f122) _ rfl [NI 16] (NI 16) rfl ⟨rfl, trivial⟩ ?_))))))))
  exact ⟨z, ⟨by unfold branchP; rw [if_pos h0c], by unfold branchP; rw [if_pos h0c]⟩, ⟨hE0, hg0, hblk, hbr, htg, hlg, hab, hat, hal, hlb, hlt⟩, rfl, hgr⟩
 have h0c : hdlost z.1 y = false := hc0
 refine wpF_skip (tN (hK29 _ _ (sk fun K35 hK35 => (sk fun K36 hK36 => (wt (oM rfl (oS rfl (Yk.eqI (a := ((turnQ z.1.branches y).1 : Nat)) (b := (0 : Nat)) T6 rfl (k_eql _ _ _ _) (oZ (tN (hK36 _ _ ?_)))))))))))
 refine wpF_cond (((turnQ z.1.branches y).1 : Nat) = (0)) (vr (.bool (decide (((turnQ z.1.branches y).1 : Nat) = (0)))) rfl) (fun hc1 => ?_) (fun hc1 => ?_)
 ·have h1c := hc1
  refine wt (oM rfl (oM rfl (oS rfl (Yk.nilCheck T0 (oS rfl (Yk.fieldAt wr34_fo53_0 (vr (PQ g 0) rfl) (oS rfl (Yk.storeC (i := 0) (v := v23) (vr (PQ g 0) rfl) T5 hblk (by rw [refs_len]; decide) wr34_isz51 (RG.one (RG.ofOwn ho28)).1 (RG.one (RG.ofOwn ho28)).2 fun w37 hb38 hg39 hs40 => ?_))))))))
  have hbr := OG.kept hbr hg39 hab
  have htg := OG.kept htg hg39 hat
  have hlg := OG.kept hlg hg39 hal
  have hgr : w.grownBy w37 (some g) := grownBy_trans hgr hg39 (fun _ e => .inl e)
  clear hE
  have hE0 := row_fresh hE0 hg39 (Nat.le_trans (Nat.le_refl _) (by omega))
  clear hA8
  have hb17 := kb hg39 hb17 (by omega)
  have ho28 := OG.kept ho28 hg39 hap25
  clear hblk
  have hblk : w37.heap[g]? = some (.cells (refsC ((⟨(turnQ z.1.branches y).2, z.1.tags, z.1.head, z.1.at_, z.1.log⟩, ⟨v23, z.2.tags, z.2.log⟩) : RefsV)).toArray 53 (0, 0)) := blk_eq hb38 (refs_s0 z v23 ((turnQ z.1.branches y).2)); clear hb38
  have hl41 := bl hblk
  refine oZ (tN (hK35 _ _ (sk fun K42 hK42 => (wt (oM rfl (oA rfl (oZ (tN (hK42 _ _ (wpF_ret (postF_ret (fn := Tryd.f122) _ rfl [NI ((turnQ z.1.branches y).1)] (NI ((turnQ z.1.branches y).1)) rfl ⟨T6, trivial⟩ ?_)))))))))))
  exact ⟨((⟨(turnQ z.1.branches y).2, z.1.tags, z.1.head, z.1.at_, z.1.log⟩, ⟨v23, z.2.tags, z.2.log⟩) : RefsV), ⟨by unfold branchP; rw [if_neg (by rw [h0c]; decide), if_pos h1c, h1c], by unfold branchP; rw [if_neg (by rw [h0c]; decide), if_pos h1c]⟩, ⟨hE0, hg0, hblk, ho28, htg, hlg, hap25, hat, hal, hap27, hlt⟩, rfl, hgr⟩
 have h1c := hc1
 refine wpF_skip (tN (hK35 _ _ (sk fun K43 hK43 => (wt (oM rfl (oA rfl (oZ (tN (hK43 _ _ (wpF_ret (postF_ret (fn := Tryd.f122) _ rfl [NI ((turnQ z.1.branches y).1)] (NI ((turnQ z.1.branches y).1)) rfl ⟨T6, trivial⟩ ?_)))))))))))
 exact ⟨z, ⟨by unfold branchP; rw [if_neg (by rw [h0c]; decide), if_neg h1c], by unfold branchP; rw [if_neg (by rw [h0c]; decide), if_neg h1c]⟩, ⟨hE0, hg0, hblk, hbr, htg, hlg, hab, hat, hal, hlb, hlt⟩, rfl, hgr⟩

theorem tag_any (w0 w : World) (g : Nat) (z : RefsV) (hA : AppAt w0 w g z) (hS : Sorted z.1) (y : Upd) :
  Calls Tryd.prog 123 #[PQ g 0, .agg (updC y).toArray] w fun e w' => ∃ z', (e = .returned (NI (tagP z.1 y).1) ∧ z'.1 = (tagP z.1 y).2) ∧ AppAt w0 w' g z' ∧ z'.2.log = z.2.log ∧ w.grownBy w' (some g) := by
 have hgr := World.grownBy.refl w (some g)
 have hE0 := hA.ext
 have hg0 := hA.g0
 have hblk := hA.blk
 have hbr := hA.br
 have htg := hA.tg
 have hlg := hA.lg
 have hab := hA.ab
 have hat := hA.at_
 have hal := hA.al
 have hlb := hA.lb
 have hlt := hA.lt
 have hlg0 := hA.lg
 have hgl := (bl hblk)
 refine calls_of_wpF (args := [PQ g 0, .agg (updC y).toArray]) Tryd.func123 rfl 23 rfl (Nat.le_of_ble_eq_true rfl) ?_
 intro ρ0 hb
 have T0 : ρ0 0 = (PQ g 0 : Value) := hb.get 0
 have T1 : ρ0 1 = (.agg (updC y).toArray : Value) := hb.get 1
 clear hb
 have hE := Ext.refl w
 refine sk fun K1 hK1 => (wt (oS rfl (Yk.box (cs := (updC y : List Value).toArray) T1 fun n2 w3 hn4 hb5 hx6 hs7 => ?_)))
 have hA8 := Ext.refl w
 have hea9 := hE
 have hea10 := hE0
 have hz11 := hE.size
 have hz12 := hE0.size
 have hlt13 := lte (bl hblk) hn4
 have hap14 : OB z.2.branches n2 := own_newer hbr.2 (by omega)
 have hap15 : OB z.2.tags n2 := own_newer htg.2 (by omega)
 have hap16 : OB z.2.log n2 := own_newer hlg.2 (by omega)
 have hblk := eb hx6 hblk
 have hbr := hbr.keep hx6
 have htg := htg.keep hx6
 have hlg := hlg.keep hx6
 have hgr : w.grownBy w3 (some g) := grownBy_trans hgr hx6.grown (fun _ e => by cases e)
 have hE := hE.trans hx6
 have hE0 := hE0.trans hx6
 have hA8 := hA8.trans hx6
 have hb17 := hb5; clear hb5
 have hl18 : n2 < w3.heap.size := by omega
 refine oA rfl (oZ (tN (hK1 _ _ (sk fun K19 hK19 => ?_))))
 refine wpF_draw [Is (PQ g 0), Is (PQ g 0), Is (PQ g 1), Is (z.2.tags), Is (.agg (updC y).toArray), fun x w' => ∃ v, x = .tuple #[v, NI (turnQ z.1.tags y).1] ∧ NewOG 70 w0 w3 w' v ((turnQ z.1.tags y).2), fun x w' => ∃ v, x = .tuple #[v, NI (turnQ z.1.tags y).1] ∧ NewOG 70 w0 w3 w' v ((turnQ z.1.tags y).2), fun x w' => NewOG 70 w0 w3 w' x ((turnQ z.1.tags y).2), Is (NI ((turnQ z.1.tags y).1)), fun x w' => NewOG 70 w0 w3 w' x ((turnQ z.1.tags y).2), Is (NI ((turnQ z.1.tags y).1))] (by kernel_rfl) [8, 9, 10, 11, 12, 13, 7, 14, 15, 5, 6] (by kernel_rfl) (by kernel_rfl) (si5 ⟨(fun _ _ _ ⟨v, h1, h2⟩ k => ⟨v, h1, h2.keep k⟩), (fun _ _ _ ⟨v, h1, h2⟩ k => ⟨v, h1, h2.keep k⟩), (fun _ _ _ h k => NewOG.keep h k), Stab.is _, (fun _ _ _ h k => NewOG.keep h k), Stab.is _, trivial⟩) ?hs1001 ?hQ1001
 case hs1001 =>
  refine ⟨?_, ?_, ?_, ?_, ?_, ?_, ?_, ?_, ?_, ?_, ?_, trivial⟩
  ·refine stepN rfl fun σ w1 hC h => ?_
   have e0 := (eqo (h 0 (by decide))).trans T0
   exact Yk.move e0 ⟨Ext.refl _, rfl⟩
  ·refine stepN rfl fun σ w1 hC h => ?_
   have e8 := eqo (h 8 (by decide))
   exact Yk.nilCheck e8 ⟨Ext.refl _, rfl⟩
  ·refine stepN rfl fun σ w1 hC h => ?_
   have e9 := eqo (h 9 (by decide))
   exact Yk.fieldAt wr34_fo53_1 e9 ⟨Ext.refl _, rfl⟩
  ·refine stepN rfl fun σ w1 hC h => ?_
   have e10 := eqo (h 10 (by decide))
   exact Yk.cell1 wr34_ty51 rfl e10 (cellAt (eb hC hblk) (show (refsC z)[1]? = some (z.2.tags : Value) from refs_g1 z)) ⟨Ext.refl _, rfl⟩
  ·refine stepN rfl fun σ w1 hC h => ?_
   have e3 : σ 3 = PQ n2 0 := (eqo (h 3 (by decide))).trans rfl
   exact Yk.loadAll e3 (eb hC hb17) (wr34_ty67).choose_spec rfl (st_isz (upd_len y) wr34_isz67) ⟨Ext.refl _, rfl⟩
  ·refine stepN rfl fun σ w1 hC h => ?_
   have e11 := eqo (h 11 (by decide))
   have e12 := eqo (h 12 (by decide))
   refine Yk.callA2 wr34_pl149 e11 e12 ((turned_any _ z.2.tags z.1.tags (RG.ofOwn (htg.keep hC)) (by have := hS.tl; omega) hS.tg y).mono ?_)
   rintro e w2 ⟨v, rfl, ho, hx⟩
   exact ⟨_, rfl, hx, v, rfl, NewOG.of ho hE0.size hC.size⟩
  ·refine stepN rfl fun σ w1 hC h => ?_
   have e13 : (fun x w' => ∃ v, x = .tuple #[v, NI (turnQ z.1.tags y).1] ∧ NewOG 70 w0 w3 w' v ((turnQ z.1.tags y).2)) (σ 13) w1 := h 13 (by decide)
   exact Yk.move rfl ⟨Ext.refl _, e13⟩
  ·refine stepN rfl fun σ w1 hC h => ?_
   have e7 : (fun x w' => ∃ v, x = .tuple #[v, NI (turnQ z.1.tags y).1] ∧ NewOG 70 w0 w3 w' v ((turnQ z.1.tags y).2)) (σ 7) w1 := h 7 (by decide)
   obtain ⟨v0, h1_, h2_⟩ := e7
   exact Yk.extract (vs := [v0, _]) h1_ (show _ = some v0 from rfl) ⟨Ext.refl _, h2_⟩
  ·refine stepN rfl fun σ w1 hC h => ?_
   have e7 : (fun x w' => ∃ v, x = .tuple #[v, NI (turnQ z.1.tags y).1] ∧ NewOG 70 w0 w3 w' v ((turnQ z.1.tags y).2)) (σ 7) w1 := h 7 (by decide)
   obtain ⟨v0, h1_, h2_⟩ := e7
   exact Yk.extract (vs := [v0, NI (turnQ z.1.tags y).1]) h1_ (show _ = some (NI (turnQ z.1.tags y).1 : Value) from rfl) ⟨Ext.refl _, rfl⟩
  ·refine stepN rfl fun σ w1 hC h => ?_
   have e14 : (fun x w' => NewOG 70 w0 w3 w' x ((turnQ z.1.tags y).2)) (σ 14) w1 := h 14 (by decide)
   exact Yk.assign rfl ⟨Ext.refl _, e14⟩
  ·refine stepN rfl fun σ w1 hC h => ?_
   have e15 := eqo (h 15 (by decide))
   exact Yk.assign e15 ⟨Ext.refl _, rfl⟩
 intro ρ20 w21 hx22 he hf
 obtain ⟨-, -, -, -, -, -, -, -, -, k5, k6, -⟩ := hf
 obtain ⟨T0, T1, T3, T4, -⟩ := he.hold [(0, _), (1, _), (3, PQ n2 0), (4, NI 0)] ⟨T0, T1, rfl, rfl, trivial⟩ rfl
 clear he
 have hblk := eb hx22 hblk
 have hbr := hbr.keep hx22
 have htg := htg.keep hx22
 have hlg := hlg.keep hx22
 have hgr : w.grownBy w21 (some g) := grownBy_trans hgr hx22.grown (fun _ e => by cases e)
 have hE := hE.trans hx22
 have hE0 := hE0.trans hx22
 have hA8 := hA8.trans hx22
 have hb17 := eb hx22 hb17
 have k5 : (fun x w' => NewOG 70 w0 w3 w' x ((turnQ z.1.tags y).2)) (ρ20 5) w21 := k5
 obtain ⟨v23, T5⟩ : ∃ v, ρ20 5 = v := ⟨_, rfl⟩
 rw [T5] at k5
 have hk24 := k5; clear k5
 have hap25 : OB v23 g := NewOG.apart hk24 (by omega)
 have hap26 : OB v23 n2 := NewOG.apart hk24 (by omega)
 have hap27 : ApartV z.2.log v23 := NewOG.apartv hk24 hlg0 (by omega)
 have ho28 := hk24.1; clear hk24
 have T6 : ρ20 6 = NI ((turnQ z.1.tags y).1) := k6
 clear k6
 refine tN (hK19 _ _ (sk fun K29 hK29 => (sk fun K30 hK30 => (wt (oM rfl (oS rfl (Yk.eqI (a := ((turnQ z.1.tags y).1 : Nat)) (b := (0 : Nat)) T6 rfl (k_eql _ _ _ _) (oZ (tN (hK30 _ _ ?_))))))))))
 refine wpF_cond (((turnQ z.1.tags y).1 : Nat) = (0)) (vr (.bool (decide (((turnQ z.1.tags y).1 : Nat) = (0)))) rfl) (fun hc0 => ?_) (fun hc0 => ?_)
 ·have h1c := hc0
  refine wt (oM rfl (oM rfl (oS rfl (Yk.nilCheck T0 (oS rfl (Yk.fieldAt wr34_fo53_1 (vr (PQ g 0) rfl) (oS rfl (Yk.storeC (i := 1) (v := v23) (vr (PQ g 1) rfl) T5 hblk (by rw [refs_len]; decide) wr34_isz51 (RG.one (RG.ofOwn ho28)).1 (RG.one (RG.ofOwn ho28)).2 fun w31 hb32 hg33 hs34 => ?_))))))))
  have hbr := OG.kept hbr hg33 hab
  have htg := OG.kept htg hg33 hat
  have hlg := OG.kept hlg hg33 hal
  have hgr : w.grownBy w31 (some g) := grownBy_trans hgr hg33 (fun _ e => .inl e)
  clear hE
  have hE0 := row_fresh hE0 hg33 (Nat.le_trans (Nat.le_refl _) (by omega))
  clear hA8
  have hb17 := kb hg33 hb17 (by omega)
  have ho28 := OG.kept ho28 hg33 hap25
  clear hblk
  have hblk : w31.heap[g]? = some (.cells (refsC ((⟨z.1.branches, (turnQ z.1.tags y).2, z.1.head, z.1.at_, z.1.log⟩, ⟨z.2.branches, v23, z.2.log⟩) : RefsV)).toArray 53 (0, 0)) := blk_eq hb32 (refs_s1 z v23 ((turnQ z.1.tags y).2)); clear hb32
  have hl35 := bl hblk
  refine oZ (tN (hK29 _ _ (sk fun K36 hK36 => (wt (oM rfl (oA rfl (oZ (tN (hK36 _ _ (wpF_ret (postF_ret (fn := Tryd.f123) _ rfl [NI ((turnQ z.1.tags y).1)] (NI ((turnQ z.1.tags y).1)) rfl ⟨T6, trivial⟩ ?_)))))))))))
  exact ⟨((⟨z.1.branches, (turnQ z.1.tags y).2, z.1.head, z.1.at_, z.1.log⟩, ⟨z.2.branches, v23, z.2.log⟩) : RefsV), ⟨by unfold tagP; rw [if_pos h1c, h1c], by unfold tagP; rw [if_pos h1c]⟩, ⟨hE0, hg0, hblk, hbr, ho28, hlg, hab, hap25, hal, hlb, hap27⟩, rfl, hgr⟩
 have h1c := hc0
 refine wpF_skip (tN (hK29 _ _ (sk fun K37 hK37 => (wt (oM rfl (oA rfl (oZ (tN (hK37 _ _ (wpF_ret (postF_ret (fn := Tryd.f123) _ rfl [NI ((turnQ z.1.tags y).1)] (NI ((turnQ z.1.tags y).1)) rfl ⟨T6, trivial⟩ ?_)))))))))))
 exact ⟨z, ⟨by unfold tagP; rw [if_neg h1c], by unfold tagP; rw [if_neg h1c]⟩, ⟨hE0, hg0, hblk, hbr, htg, hlg, hab, hat, hal, hlb, hlt⟩, rfl, hgr⟩

theorem head_any (w0 w : World) (g : Nat) (z : RefsV) (hA : AppAt w0 w g z) (hS : Sorted z.1) (y : Upd) :
  Calls Tryd.prog 124 #[PQ g 0, .agg (updC y).toArray] w fun e w' => ∃ z', (e = .returned (NI (headP z.1 y).1) ∧ z'.1 = (headP z.1 y).2) ∧ AppAt w0 w' g z' ∧ z'.2.log = z.2.log ∧ w.grownBy w' (some g) := by
 have hgr := World.grownBy.refl w (some g)
 have hE0 := hA.ext
 have hg0 := hA.g0
 have hblk := hA.blk
 have hbr := hA.br
 have htg := hA.tg
 have hlg := hA.lg
 have hab := hA.ab
 have hat := hA.at_
 have hal := hA.al
 have hlb := hA.lb
 have hlt := hA.lt
 have hlg0 := hA.lg
 have hgl := (bl hblk)
 refine calls_of_wpF (args := [PQ g 0, .agg (updC y).toArray]) Tryd.func124 rfl 15 rfl (Nat.le_of_ble_eq_true rfl) ?_
 intro ρ0 hb
 have T0 : ρ0 0 = (PQ g 0 : Value) := hb.get 0
 have T1 : ρ0 1 = (.agg (updC y).toArray : Value) := hb.get 1
 clear hb
 have hE := Ext.refl w
 refine sk fun K1 hK1 => (wt (oS rfl (Yk.box (cs := (updC y : List Value).toArray) T1 fun n2 w3 hn4 hb5 hx6 hs7 => ?_)))
 have hA8 := Ext.refl w
 have hea9 := hE
 have hea10 := hE0
 have hz11 := hE.size
 have hz12 := hE0.size
 have hlt13 := lte (bl hblk) hn4
 have hap14 : OB z.2.branches n2 := own_newer hbr.2 (by omega)
 have hap15 : OB z.2.tags n2 := own_newer htg.2 (by omega)
 have hap16 : OB z.2.log n2 := own_newer hlg.2 (by omega)
 have hblk := eb hx6 hblk
 have hbr := hbr.keep hx6
 have htg := htg.keep hx6
 have hlg := hlg.keep hx6
 have hgr : w.grownBy w3 (some g) := grownBy_trans hgr hx6.grown (fun _ e => by cases e)
 have hE := hE.trans hx6
 have hE0 := hE0.trans hx6
 have hA8 := hA8.trans hx6
 have hb17 := hb5; clear hb5
 have hl18 : n2 < w3.heap.size := by omega
 refine oA rfl (oZ (tN (hK1 _ _ (sk fun K19 hK19 => ?_))))
 have hx20 : Ext w3 (World.drew w3) := (Below.refl _ _).drew
 have hblk := eb hx20 hblk
 have hbr := hbr.keep hx20
 have htg := htg.keep hx20
 have hlg := hlg.keep hx20
 have hgr : w.grownBy (World.drew w3) (some g) := grownBy_trans hgr hx20.grown (fun _ e => by cases e)
 have hE := hE.trans hx20
 have hE0 := hE0.trans hx20
 have hA8 := hA8.trans hx20
 have hb17 := eb hx20 hb17
 refine wpF_float [(0, 5, PQ g 0), (1, 6, PQ g 0), (2, 7, PQ n2 1), (3, 8, St (y.name)), (4, 9, PQ n2 34), (5, 10, AB y.new.1)] [6, 7, 8, 9, 10, 11] (fun wz => Ext w0 wz ∧ wz.heap[n2]? = some (.cells (updC y).toArray 67 (0, 0)) ∧ True) (by kernel_rfl) (by kernel_rfl) (by kernel_rfl) ⟨hE0, hb17, trivial⟩ ⟨fun w21 ⟨hE0, hb17, _⟩ => Yk.move T0 ⟨rfl, rfl⟩, fun w21 ⟨hE0, hb17, _⟩ => Yk.move T0 ⟨rfl, rfl⟩, fun w21 ⟨hE0, hb17, _⟩ => Yk.fieldAt wr34_fo67_1 (vr (PQ n2 0) rfl) ⟨rfl, rfl⟩, fun w21 ⟨hE0, hb17, _⟩ => Yk.cell1 wr34_ty9 rfl (vr (PQ n2 1) rfl) (cellAt hb17 (show (updC y)[1]? = some (St (y.name) : Value) from upd_g1 y)) ⟨rfl, rfl⟩, fun w21 ⟨hE0, hb17, _⟩ => Yk.fieldAt wr34_fo67_3 (vr (PQ n2 0) rfl) ⟨rfl, rfl⟩, fun w21 ⟨hE0, hb17, _⟩ => Yk.loadPR (PR.blk hb17 (upd_m3 y) (upd_n3 y) (vr (PQ n2 34) rfl)) wr34_ty25 rfl (sizeId_of y.new.2) ⟨rfl, rfl⟩, trivial⟩ (chF_step rfl (Yk.nilCheck (vr (PQ g 0) rfl) ?_))
 refine ⟨.inr ⟨hE0, hb17, trivial⟩, ?_⟩
 refine chF_step rfl (Yk.fieldAt wr34_fo53_2 (vr (PQ g 0) rfl) ?_)
 refine ⟨.inr ⟨hE0, hb17, trivial⟩, ?_⟩
 refine chF_step rfl (Yk.storeC (i := 2) (v := St (y.name)) (vr (PQ g 2) rfl) (vr (St (y.name)) rfl) hblk (by rw [refs_len]; decide) wr34_isz9 rfl rfl fun w22 hb23 hg24 hs25 => ?_)
 have hbr := OG.kept hbr hg24 hab
 have htg := OG.kept htg hg24 hat
 have hlg := OG.kept hlg hg24 hal
 have hgr : w.grownBy w22 (some g) := grownBy_trans hgr hg24 (fun _ e => .inl e)
 clear hE
 have hE0 := row_fresh hE0 hg24 (Nat.le_trans (Nat.le_refl _) (by omega))
 clear hA8
 have hb17 := kb hg24 hb17 (by omega)
 clear hblk
 have hblk : w22.heap[g]? = some (.cells (refsC ((⟨z.1.branches, z.1.tags, y.name, z.1.at_, z.1.log⟩, ⟨z.2.branches, z.2.tags, z.2.log⟩) : RefsV)).toArray 53 (0, 0)) := blk_eq hb23 (refs_s2 z y.name); clear hb23
 have hl26 := bl hblk
 refine ⟨.inr ⟨hE0, hb17, trivial⟩, ?_⟩
 refine chF_step rfl (Yk.nilCheck (vr (PQ g 0) rfl) ?_)
 refine ⟨.inr ⟨hE0, hb17, trivial⟩, ?_⟩
 refine chF_step rfl (Yk.fieldAt wr34_fo53_3 (vr (PQ g 0) rfl) ?_)
 refine ⟨.inr ⟨hE0, hb17, trivial⟩, ?_⟩
 refine chF_step rfl (Yk.storeMid (a := refs_a3 ((⟨z.1.branches, z.1.tags, y.name, z.1.at_, z.1.log⟩, ⟨z.2.branches, z.2.tags, z.2.log⟩) : RefsV)) (m := Lib.byteCells z.1.at_.1) (z := refs_z3 ((⟨z.1.branches, z.1.tags, y.name, z.1.at_, z.1.log⟩, ⟨z.2.branches, z.2.tags, z.2.log⟩) : RefsV)) (cells := Lib.byteCells y.new.1) (vr (PQ g 3) rfl) (vr (AB y.new.1) rfl) (refs_m3 ((⟨z.1.branches, z.1.tags, y.name, z.1.at_, z.1.log⟩, ⟨z.2.branches, z.2.tags, z.2.log⟩) : RefsV) ▸ hblk) (refs_n3 ((⟨z.1.branches, z.1.tags, y.name, z.1.at_, z.1.log⟩, ⟨z.2.branches, z.2.tags, z.2.log⟩) : RefsV)) (by rw [Lib.byteCells_length, Lib.byteCells_length, z.1.at_.2, y.new.2]) (by rw [Lib.byteCells_length, y.new.2]; exact wr34_isz25) (byteCells_one _) fun w27 hb28 hg29 hs30 => ?_)
 have hbr := OG.kept hbr hg29 hab
 have htg := OG.kept htg hg29 hat
 have hlg := OG.kept hlg hg29 hal
 have hgr : w.grownBy w27 (some g) := grownBy_trans hgr hg29 (fun _ e => .inl e)
 have hE0 := row_fresh hE0 hg29 (Nat.le_trans (Nat.le_refl _) (by omega))
 have hb17 := kb hg29 hb17 (by omega)
 clear hblk
 have hblk : w27.heap[g]? = some (.cells (refsC ((⟨z.1.branches, z.1.tags, y.name, y.new, z.1.log⟩, ⟨z.2.branches, z.2.tags, z.2.log⟩) : RefsV)).toArray 53 (0, 0)) := blk_eq hb28 (refs_s3 ((⟨z.1.branches, z.1.tags, y.name, z.1.at_, z.1.log⟩, ⟨z.2.branches, z.2.tags, z.2.log⟩) : RefsV) y.new); clear hb28
 have hl31 := bl hblk
 refine ⟨.inl rfl, ?_⟩
 refine chF_nil (tN (hK19 _ _ (sk fun K32 hK32 => (wt (oA rfl (oZ (tN (hK32 _ _ (wpF_ret (postF_ret (fn := Tryd.f124) _ rfl [NI 0] (NI 0) rfl ⟨rfl, trivial⟩ ?_))))))))))
 exact ⟨((⟨z.1.branches, z.1.tags, y.name, y.new, z.1.log⟩, ⟨z.2.branches, z.2.tags, z.2.log⟩) : RefsV), ⟨rfl, rfl⟩, ⟨hE0, hg0, hblk, hbr, htg, hlg, hab, hat, hal, hlb, hlt⟩, rfl, hgr⟩

theorem fkinds_any (w : World) :
  Calls Tryd.prog 76 #[] w fun e w' => ∃ b, e = .returned (.map (some b)) ∧ MapF B8 fnV (fun _ : UInt8 => True) w' b doG ∧ w.heap.size ≤ b ∧ Ext w w' := by
 refine calls_of_wpF (args := []) Tryd.func76 rfl 3 rfl (Nat.le_of_ble_eq_true rfl) ?_
 intro ρ0 hb
 clear hb
 have hE := Ext.refl w
 refine sk fun K1 hK1 => (wt (oA rfl (oZ (tN (hK1 _ _ (sk fun K2 hK2 => (wt (oS rfl (Yk.mkMap B8 fnV (fun _ : UInt8 => True) fun n3 w4 hn5 hb6 hx7 hs8 => ?_)))))))))
 have hE := hE.trans hx7
 have hl9 : n3 < w4.heap.size := by omega
 refine oS rfl (Yk.insM (ek := B8) (ev := fnV) (D := (fun _ : UInt8 => True)) (c := 122) u8Law u8_ok wr34_ty125 (vr (.map (some n3)) rfl) (vr (B8 (1)) rfl) rfl hb6 trivial fun w10 hb11 hg12 hs13 => ?_)
 have hE := row_fresh hE hg12 (Nat.le_trans (Nat.le_refl _) (by omega))
 clear hb6
 have hl14 : n3 < w10.heap.size := hb11.lt
 refine oS rfl (Yk.insM (ek := B8) (ev := fnV) (D := (fun _ : UInt8 => True)) (c := 123) u8Law u8_ok wr34_ty125 (vr (.map (some n3)) rfl) (vr (B8 (2)) rfl) rfl hb11 trivial fun w15 hb16 hg17 hs18 => ?_)
 have hE := row_fresh hE hg17 (Nat.le_trans (Nat.le_refl _) (by omega))
 clear hb11
 have hl19 : n3 < w15.heap.size := hb16.lt
 refine oS rfl (Yk.insM (ek := B8) (ev := fnV) (D := (fun _ : UInt8 => True)) (c := 124) u8Law u8_ok wr34_ty125 (vr (.map (some n3)) rfl) (vr (B8 (3)) rfl) rfl hb16 trivial fun w20 hb21 hg22 hs23 => ?_)
 have hE := row_fresh hE hg22 (Nat.le_trans (Nat.le_refl _) (by omega))
 clear hb16
 have hl24 : n3 < w20.heap.size := hb21.lt
 refine oM rfl (oA rfl (oZ (tN (hK2 _ _ (wpF_ret (postF_ret (fn := Tryd.f76) _ rfl [.map (some n3)] (.map (some n3)) rfl ⟨rfl, trivial⟩ ?_))))))
 exact ⟨_, rfl, hb21, by omega, hE⟩
open Go.RowKit
theorem doG_cases {k : UInt8} {f : Nat} (h : doG k = some f) : (k.toNat = 1 ∧ f = 122) ∨ (k.toNat = 2 ∧ f = 123) ∨ (k.toNat = 3 ∧ f = 124) := by
  unfold doG updM at h
  split at h
  · rename_i e; subst e; exact .inr (.inr ⟨rfl, (Option.some.inj h).symm⟩)
  · split at h
    · rename_i e; subst e; exact .inr (.inl ⟨rfl, (Option.some.inj h).symm⟩)
    · split at h
      · rename_i e; subst e; exact .inl ⟨rfl, (Option.some.inj h).symm⟩
      · cases h
theorem doG_some {k : UInt8} (h : kindB k = true) : ∃ f, doG k = some f := by
  unfold kindB at h
  simp only [Bool.or_eq_true, decide_eq_true_eq] at h
  rcases h with (h | h) | h
  · obtain rfl : k = 1 := UInt8.toNat_inj.1 h
    exact ⟨_, rfl⟩
  · obtain rfl : k = 2 := UInt8.toNat_inj.1 h
    exact ⟨_, rfl⟩
  · obtain rfl : k = 3 := UInt8.toNat_inj.1 h
    exact ⟨_, rfl⟩
theorem plB : Plain Tryd.prog 122 := fun _ _ => by kernel_rfl
theorem plT : Plain Tryd.prog 123 := fun _ _ => by kernel_rfl
theorem plH : Plain Tryd.prog 124 := fun _ _ => by kernel_rfl
theorem plain_do {k : UInt8} {f : Nat} (h : doG k = some f) : Plain Tryd.prog f := by
  rcases doG_cases h with ⟨-, e⟩ | ⟨-, e⟩ | ⟨-, e⟩ <;> rw [e]
  · exact plB
  · exact plT
  · exact plH
theorem do_any (w0 w : World) (g : Nat) (z : RefsV) (hA : AppAt w0 w g z) (hS : Sorted z.1) (y : Upd) {f : Nat} (hf : doG y.kind = some f) :
    Calls Tryd.prog f #[PQ g 0, .agg (updC y).toArray] w fun e w' => ∃ z', (e = .returned (NI (doP z.1 y).1) ∧ z'.1 = (doP z.1 y).2) ∧ AppAt w0 w' g z' ∧ z'.2.log = z.2.log ∧ w.grownBy w' (some g) := by
  rcases doG_cases hf with ⟨hk, rfl⟩ | ⟨hk, rfl⟩ | ⟨hk, rfl⟩
  · rw [show doP z.1 y = branchP z.1 y by unfold doP; rw [if_pos hk]]; exact branch_any w0 w g z hA hS y
  · rw [show doP z.1 y = tagP z.1 y by unfold doP; rw [if_neg (by omega), if_pos hk]]; exact tag_any w0 w g z hA hS y
  · rw [show doP z.1 y = headP z.1 y by unfold doP; rw [if_neg (by omega), if_neg (by omega)]]; exact head_any w0 w g z hA hS y
section
variable {α β : Type} {b b' k k' g : Nat} {t t' : TypeId} {enc : α → List Value} {enc' : β → List Value} {w : World} {u v : Value} {l : List α} {m : List β}
theorem OG.off (h : OG b t k enc w v l) {cs : Array Value} {fr : Nat × Nat} (hb : w.heap[g]? = some (.cells cs t' fr)) (hne : t ≠ t') : v.ownBlock ≠ some g := by
  obtain ⟨-, -, ⟨rfl, -⟩ | ⟨g', c, cur, rfl, -, hg, -⟩⟩ := h
  · simp [Value.ownBlock]
  · intro e
    obtain rfl : g' = g := by simpa [Value.ownBlock] using e
    rw [hg] at hb
    simp only [Option.some.injEq, Obj.cells.injEq] at hb
    exact hne hb.2.1
theorem OG.offMap {γ δ : Type} {ek : γ → Value} {ev : δ → Value} {D : γ → Prop} {G : γ → Option δ} (h : OG b t k enc w v l) (hb : MapF ek ev D w g G) : v.ownBlock ≠ some g := by
  obtain ⟨es, c, hm, -⟩ := hb
  obtain ⟨-, -, ⟨rfl, -⟩ | ⟨g', c, cur, rfl, -, hg, -⟩⟩ := h
  · simp [Value.ownBlock]
  · intro e
    obtain rfl : g' = g := by simpa [Value.ownBlock] using e
    rw [hg] at hm
    cases hm
theorem OG.apart (hu : OG b t k enc w u l) (hv : OG b' t' k' enc' w v m) (hne : t ≠ t') : ApartV u v := fun g h1 h2 => by
  obtain ⟨-, -, ⟨rfl, -⟩ | ⟨g', c, cur, rfl, -, hg, -⟩⟩ := hv
  · simp [Value.ownBlock] at h2
  · obtain rfl : g' = g := by simpa [Value.ownBlock] using h2
    exact hu.off hg hne h1
end
structure RefsOw (b : Nat) (w : World) (z : RefsV) : Prop where
  br : OG b 70 33 nmdC w z.2.branches z.1.branches
  tg : OG b 70 33 nmdC w z.2.tags z.1.tags
  lg : OG b 122 67 entC w z.2.log z.1.log
theorem RefsOw.keep {b : Nat} {w w' : World} {z : RefsV} (h : RefsOw b w z) (k : Ext w w') : RefsOw b w' z := ⟨h.br.keep k, h.tg.keep k, h.lg.keep k⟩
theorem RefsOw.zero {b : Nat} {w : World} {z : RefsV} (h : RefsOw b w z) : RefsOw 0 w z := ⟨h.br.low (Nat.zero_le _), h.tg.low (Nat.zero_le _), h.lg.low (Nat.zero_le _)⟩
theorem Yk.maxNI {P : Program} {K : Value → World → Prop} {ρ : Slots} {w : World} {d : Option Tmp} {ty : TypeId} {pos : String} {af : Array Edge} {gd : Option (Nat × Bool)} {t1 t2 : TypeId} {x y : Operand} {n m : Nat} (hx : evalR ρ x = .int .i64 ((n : Int) - (m : Int))) (hy : evalR ρ y = NI 0) (hk : K (NI (n - m)) w) :
    Yk P K ((execOp (evalR ρ) ⟨d, .call ⟨.builtin .max, #[x, y], #[t1, t2]⟩, ty, pos, af, gd⟩).run P w) := by
  refine Yk.value (v := NI (n - m)) (w' := w) ?_ hk
  unfold execOp
  simp only [resolve, invoke, builtin, hx, hy, List.map_toArray, List.map_cons, List.map_nil, Sem.run_bind, Sem.run_pure, Result.andThen_ok]
  have hr : (Builtin.max_ #[t1, t2] ty #[.int .i64 ((n : Int) - (m : Int)), NI 0]).run P w = .ok (NI (n - m)) w := by
    simp only [Builtin.max_, List.foldlM_cons, List.foldlM_nil, Sem.run_bind, Builtin.max2, Sem.run_pure, Result.andThen_ok]
    congr 2
    simp only [Int.natCast_zero]
    split <;> omega
  rw [hr]
  rfl
abbrev zeroR : Refs := ⟨[], [], [], zid, []⟩
def entOf (y : Upd) (note : Bs) : Ent := ⟨y.kind, y.name, y.old, y.new, note⟩
def addlog (r : Refs) (e : Ent) : Refs := ⟨r.branches, r.tags, r.head, r.at_, r.log ++ [e]⟩
def stepP (note : Bs) (r : Refs) (y : Upd) : Nat × Refs := if updErr y ≠ 0 then (updErr y, r) else if (doP r y).1 ≠ 0 then ((doP r y).1, r) else (0, addlog (doP r y).2 (entOf y note))
def runP (note : Bs) : Refs → List Upd → Nat × Refs
  | r, [] => (0, r)
  | r, y :: l => if (stepP note r y).1 ≠ 0 then ((stepP note r y).1, zeroR) else runP note (stepP note r y).2 l
def cutlog (r : Refs) : Refs := ⟨r.branches, r.tags, r.head, r.at_, r.log.drop (r.log.length - 64)⟩
noncomputable def applyP (r : Refs) (l : List Upd) (note : Bs) : Nat × Refs :=
  if ((!rightF r) || (!noteB note)) = true then (1, zeroR) else if (runP note r l).1 ≠ 0 then ((runP note r l).1, zeroR) else (0, cutlog (runP note r l).2)
theorem runP_at {note : Bs} {r : Refs} {l : List Upd} {i : Nat} (hi : i < l.length) : runP note r (l.drop i) = if (stepP note r (l.getD i dUpd)).1 ≠ 0 then ((stepP note r (l.getD i dUpd)).1, zeroR) else runP note (stepP note r (l.getD i dUpd)).2 (l.drop (i + 1)) := by
  rw [List.drop_eq_getElem_cons hi, List.getD_eq_getElem?_getD, List.getElem?_eq_getElem hi]
  rfl
section
variable {note : Bs} {r r' : Refs} {l : List Upd} {i e : Nat}
theorem runP_err1 (hi : i < l.length) (h : updErr (l.getD i dUpd) ≠ 0) : runP note r (l.drop i) = (updErr (l.getD i dUpd), zeroR) := by
  rw [runP_at hi, show stepP note r (l.getD i dUpd) = (updErr (l.getD i dUpd), r) by unfold stepP; rw [if_pos h], if_pos h]
theorem runP_err2 (hi : i < l.length) (h : updErr (l.getD i dUpd) = 0) (h2 : (doP r (l.getD i dUpd)).1 ≠ 0) : runP note r (l.drop i) = ((doP r (l.getD i dUpd)).1, zeroR) := by
  rw [runP_at hi, show stepP note r (l.getD i dUpd) = ((doP r (l.getD i dUpd)).1, r) by unfold stepP; rw [if_neg (fun k => k h), if_pos h2], if_pos h2]
theorem runP_next (hi : i < l.length) (h : updErr (l.getD i dUpd) = 0) (h2 : (doP r (l.getD i dUpd)).1 = 0) : runP note r (l.drop i) = runP note (addlog (doP r (l.getD i dUpd)).2 (entOf (l.getD i dUpd) note)) (l.drop (i + 1)) := by
  rw [runP_at hi, show stepP note r (l.getD i dUpd) = (0, addlog (doP r (l.getD i dUpd)).2 (entOf (l.getD i dUpd) note)) by unfold stepP; rw [if_neg (fun k => k h), if_neg (fun k => k h2)], if_neg (fun k => k rfl)]
theorem runP_end (hi : l.length ≤ i) : runP note r (l.drop i) = (0, r) := by rw [List.drop_of_length_le hi]; rfl
theorem applyP_bad (h : ((!rightF r) || (!noteB note)) = true) : applyP r l note = (1, zeroR) := by unfold applyP; rw [if_pos h]
theorem applyP_err (h0 : ((!rightF r) || (!noteB note)) = false) (h : runP note r l = (e, zeroR)) (he : e ≠ 0) : applyP r l note = (e, zeroR) := by unfold applyP; rw [h0, if_neg (by decide), h, if_pos he]
theorem applyP_ok (h0 : ((!rightF r) || (!noteB note)) = false) (h : runP note r l = (0, r')) : applyP r l note = (0, cutlog r') := by unfold applyP; rw [h0, if_neg (by decide), h, if_neg (fun k => k rfl)]
theorem updErr_kind {y : Upd} (h : updErr y = 0) : kindB y.kind = true := by
  unfold updErr at h
  cases hk : kindB y.kind with
  | true => rfl
  | false => rw [hk] at h; simp at h
end
theorem sortN_map {l : List Nmd} : sortN l ↔ (l.map (·.name)).Pairwise (· < ·) := by
  rw [List.pairwise_map, List.pairwise_iff_getElem]
  unfold sortN
  constructor
  · intro h i j hi hj hij
    have := h i j hij hj
    rwa [List.getD_eq_getElem?_getD, List.getElem?_eq_getElem hi, List.getD_eq_getElem?_getD, List.getElem?_eq_getElem hj] at this
  · intro h i j hij hj
    have := h i j (by omega) hj hij
    rw [List.getD_eq_getElem?_getD, List.getElem?_eq_getElem (by omega), List.getD_eq_getElem?_getD, List.getElem?_eq_getElem hj]
    exact this
theorem placeN_cons {a : Nmd} {l : List Nmd} {s : Bs} : placeN (a :: l) s = if a.name < s then placeN l s + 1 else 0 := by
  unfold placeN
  rw [List.takeWhile_cons]
  by_cases h : a.name < s <;> simp [h]
theorem placeN_le : ∀ (l : List Nmd) (s : Bs), placeN l s ≤ l.length
  | [], s => Nat.le_refl _
  | a :: l, s => by rw [placeN_cons]; have := placeN_le l s; split <;> simp <;> omega
theorem placeN_lt : ∀ {l : List Nmd} {s : Bs} {j : Nat}, j < placeN l s → (l.getD j dNmd).name < s
  | [], s, j, h => by simp [placeN] at h
  | a :: l, s, j, h => by
    rw [placeN_cons] at h
    split at h
    · cases j with
      | zero => assumption
      | succ j => exact placeN_lt (l := l) (by omega)
    · omega
theorem placeN_ge : ∀ {l : List Nmd} {s : Bs}, placeN l s < l.length → ¬ (l.getD (placeN l s) dNmd).name < s
  | [], s, h => by simp at h
  | a :: l, s, h => by
    rw [placeN_cons] at h ⊢
    split at h
    · rename_i e
      rw [if_pos e]
      exact placeN_ge (l := l) (by simpa using h)
    · rename_i e
      rw [if_neg e]
      exact e
theorem placeN_at {l : List Nmd} {s : Bs} (hs : sortN l) : placeAt l s (placeN l s) := by
  refine ⟨placeN_le l s, fun j hj => placeN_lt hj, fun j h1 h2 => ?_⟩
  exact place_high hs (placeN_ge (by omega)) j h1 h2
theorem names_tri {a b : Bs} (h : ¬ a < b) (h2 : a ≠ b) : b < a := by
  by_cases h3 : b < a
  · exact h3
  · exact absurd (List.le_antisymm h3 h) h2
theorem getD_map_name {l : List Nmd} {i : Nat} : (l.getD i dNmd).name = (l.map (·.name)).getD i [] := by
  rw [List.getD_eq_getElem?_getD, List.getD_eq_getElem?_getD, List.getElem?_map]
  cases l[i]? <;> rfl
theorem turnQ_sorted {l : List Nmd} {y : Upd} (hs : sortN l) (hl : l.length ≤ 64) : sortN (turnQ l y).2 ∧ (turnQ l y).2.length ≤ 64 := by
  have hp := placeN_at (s := y.name) hs
  have hnil : sortN [] := fun i j _ h => by simp at h
  unfold turnQ
  rcases hf : foundN l y.name (placeN l y.name) with _ | _
  · rw [turnF hf]
    split
    · exact ⟨hnil, by simp⟩
    · split
      · exact ⟨hs, hl⟩
      · split
        · exact ⟨hnil, by simp⟩
        · refine ⟨?_, by rw [List.length_append, List.length_cons, List.length_take, List.length_drop]; have := hp.1; omega⟩
          have hs0 := hs
          rw [sortN_map] at hs ⊢
          rw [List.map_append, List.map_cons, List.pairwise_append, List.pairwise_cons]
          refine ⟨?_, ⟨?_, ?_⟩, ?_⟩
          · rw [List.map_take]; exact hs.sublist (List.take_sublist _ _)
          · intro a ha
            obtain ⟨n, hn, rfl⟩ := List.mem_map.1 ha
            obtain ⟨i, hi, rfl⟩ := List.mem_iff_getElem.1 hn
            rw [List.length_drop] at hi
            have h1 := hp.2.2 (placeN l y.name + i) (by omega) (by omega)
            rw [List.getD_eq_getElem?_getD, List.getElem?_eq_getElem (by omega)] at h1
            rw [List.getElem_drop]
            refine names_tri h1 fun e => ?_
            have hi0 : i = 0 := by
              refine Nat.eq_zero_of_not_pos fun h0 => ?_
              have h2 := hs0 (placeN l y.name) (placeN l y.name + i) (by omega) (by omega)
              rw [show l.getD (placeN l y.name + i) dNmd = l[placeN l y.name + i]'(by omega) from by rw [List.getD_eq_getElem?_getD, List.getElem?_eq_getElem (by omega)]; rfl] at h2
              refine hp.2.2 (placeN l y.name) (Nat.le_refl _) (by omega) ?_
              rw [e] at h2; exact h2
            subst hi0
            unfold foundN at hf
            rw [List.getD_eq_getElem?_getD, List.getElem?_eq_getElem (by omega)] at hf
            simp only [Bool.and_eq_false_iff, decide_eq_false_iff_not] at hf
            rcases hf with hf | hf
            · omega
            · exact hf e
          · rw [List.map_drop]; exact hs.sublist (List.drop_sublist _ _)
          · intro a ha c hc
            obtain ⟨n, hn, rfl⟩ := List.mem_map.1 ha
            obtain ⟨i, hi, rfl⟩ := List.mem_iff_getElem.1 hn
            rw [List.length_take] at hi
            rw [List.getElem_take]
            have h1 := hp.2.1 i (by omega)
            rw [List.getD_eq_getElem?_getD, List.getElem?_eq_getElem (by omega)] at h1
            rcases List.mem_cons.1 hc with rfl | hc
            · exact h1
            · obtain ⟨m, hm, rfl⟩ := List.mem_map.1 hc
              obtain ⟨j, hj, rfl⟩ := List.mem_iff_getElem.1 hm
              rw [List.length_drop] at hj
              rw [List.getElem_drop]
              have h2 := hs0 i (placeN l y.name + j) (by omega) (by omega)
              rw [List.getD_eq_getElem?_getD, List.getElem?_eq_getElem (by omega), List.getD_eq_getElem?_getD, List.getElem?_eq_getElem (by omega)] at h2
              exact h2
  · rw [turnT hf]
    have hlt := found_lt hf
    split
    · exact ⟨hnil, by simp⟩
    · split
      · refine ⟨?_, Nat.le_trans (List.length_eraseIdx_le _ _) hl⟩
        rw [sortN_map] at hs ⊢
        exact hs.sublist ((List.eraseIdx_sublist _ _).map _)
      · refine ⟨?_, by rw [List.length_set]; exact hl⟩
        rw [sortN_map] at hs ⊢
        rw [List.map_set, getD_map_name]
        rw [show (l.map (·.name)).set (placeN l y.name) ((l.map (·.name)).getD (placeN l y.name) []) = l.map (·.name) from by
          rw [List.getD_eq_getElem?_getD, List.getElem?_eq_getElem (by rw [List.length_map]; exact hlt)]; exact List.set_getElem_self _]
        exact hs
theorem doP_sorted {r : Refs} {y : Upd} (h : Sorted r) : Sorted (doP r y).2 := by
  unfold doP
  split
  · unfold branchP
    split
    · exact h
    · split
      · have := turnQ_sorted (y := y) h.br h.bl
        exact ⟨this.1, h.tg, this.2, h.tl⟩
      · exact h
  · split
    · unfold tagP
      split
      · have := turnQ_sorted (y := y) h.tg h.tl
        exact ⟨h.br, this.1, h.bl, this.2⟩
      · exact h
    · exact ⟨h.br, h.tg, h.bl, h.tl⟩
theorem doP_log {r : Refs} {y : Upd} : (doP r y).2.log = r.log := by
  unfold doP
  split
  · unfold branchP; split
    · rfl
    · split <;> rfl
  · split
    · unfold tagP; split <;> rfl
    · rfl
theorem nlistB_sorted {l : List Nmd} (h : nlistB l = true) : sortN l ∧ l.length ≤ 64 := by
  classical
  unfold nlistB at h
  have h := of_decide_eq_true h
  refine ⟨?_, h.2⟩
  have step : ∀ j, j + 1 < l.length → (l.getD j dNmd).name < (l.getD (j + 1) dNmd).name := fun j hj => by
    have := h.1 (j + 1) hj
    unfold nE at this
    simp only [Bool.or_eq_false_iff, Bool.and_eq_false_iff, decide_eq_false_iff_not, Bool.not_eq_false', Nat.add_sub_cancel] at this
    rcases this.2 with h1 | h1
    · omega
    · rw [bytesLess_eq] at h1
      exact of_decide_eq_true h1
  intro i j hij hj
  induction j with
  | zero => omega
  | succ j ih =>
    by_cases e : i = j
    · subst e; exact step i hj
    · exact List.lt_trans (ih (by omega) (by omega)) (step j hj)
theorem rightF_lists {r : Refs} (h : rightF r = true) : nlistB r.branches = true ∧ nlistB r.tags = true ∧ r.log.length ≤ 64 := by
  unfold rightF at h
  simp only [Bool.and_eq_true] at h
  have h1 := h.1
  unfold rE1 at h1
  simp only [Bool.not_eq_true', Bool.or_eq_false_iff, Bool.not_eq_false', decide_eq_false_iff_not] at h1
  exact ⟨h1.1.1, h1.1.2, by omega⟩
theorem rightF_sorted {r : Refs} (h : rightF r = true) : Sorted r := by
  obtain ⟨h1, h2, -⟩ := rightF_lists h
  exact ⟨(nlistB_sorted h1).1, (nlistB_sorted h2).1, (nlistB_sorted h1).2, (nlistB_sorted h2).2⟩
open Go.RowKit
theorem applyP_zero {r : Refs} {l : List Upd} {note : Bs} (h : (applyP r l note).1 ≠ 0) : (applyP r l note).2 = zeroR := by
  unfold applyP at h ⊢
  split
  · rfl
  · rename_i h1
    rw [if_neg h1] at h
    split
    · rfl
    · rename_i h2
      rw [if_neg h2] at h
      exact absurd rfl h
theorem applyP_right {r : Refs} {l : List Upd} {note : Bs} (h : (applyP r l note).1 = 0) : ((!rightF r) || (!noteB note)) = false ∧ (runP note r l).1 = 0 ∧ (applyP r l note).2 = cutlog (runP note r l).2 := by
  unfold applyP at h ⊢
  split
  · rename_i h1; rw [if_pos h1] at h; simp at h
  · rename_i h1
    rw [if_neg h1] at h
    split
    · rename_i h2; rw [if_pos h2] at h; exact absurd h h2
    · rename_i h2; exact ⟨by simpa using h1, Classical.not_not.1 h2, rfl⟩
open Go.RowKit
structure GoodR (r : Refs) : Prop where
  br : nlistB r.branches = true
  tg : nlistB r.tags = true
  hd : rE2 r = false
  lg : ∀ e ∈ r.log, kindB e.kind = true ∧ noteB e.note = true ∧ e.name.length ≤ 32
theorem nlistB_iff {l : List Nmd} : nlistB l = true ↔ (∀ n ∈ l, nameB n.name = true ∧ zeroB n.id = false) ∧ sortN l ∧ l.length ≤ 64 := by
  classical
  constructor
  · intro h
    refine ⟨fun n hn => ?_, nlistB_sorted h⟩
    unfold nlistB at h
    have h := (of_decide_eq_true h).1
    obtain ⟨i, hi, rfl⟩ := List.mem_iff_getElem.1 hn
    have := h i hi
    unfold nE at this
    rw [List.getD_eq_getElem?_getD, List.getElem?_eq_getElem hi] at this
    simp only [Bool.or_eq_false_iff, Bool.not_eq_false', Option.getD_some] at this
    exact this.1
  · rintro ⟨h1, h2, h3⟩
    unfold nlistB
    refine decide_eq_true ⟨fun j hj => ?_, h3⟩
    unfold nE
    have := h1 (l.getD j dNmd) (getD_mem dNmd hj)
    rw [this.1, this.2]
    simp only [Bool.not_true, Bool.false_or, Bool.and_eq_false_iff, decide_eq_false_iff_not, Bool.not_eq_false']
    by_cases h0 : 0 < j
    · right
      rw [bytesLess_eq]
      exact decide_eq_true (h2 (j - 1) j (by omega) hj)
    · exact .inl h0
theorem rightF_iff {r : Refs} : rightF r = true ↔ GoodR r ∧ r.log.length ≤ 64 := by
  classical
  constructor
  · intro h
    obtain ⟨h1, h2, h3⟩ := rightF_lists h
    unfold rightF at h
    simp only [Bool.and_eq_true, Bool.not_eq_true', decide_eq_true_eq] at h
    refine ⟨⟨h1, h2, h.2.1, fun e he => ?_⟩, h3⟩
    obtain ⟨i, hi, rfl⟩ := List.mem_iff_getElem.1 he
    have := h.2.2 i hi
    unfold entE at this
    rw [List.getD_eq_getElem?_getD, List.getElem?_eq_getElem hi] at this
    simp only [Bool.or_eq_false_iff, Bool.not_eq_false', Option.getD_some, decide_eq_false_iff_not] at this
    exact ⟨this.1.1, this.1.2, by omega⟩
  · rintro ⟨h, h3⟩
    refine rightF_all (i := r.log.length) ?_ h.hd (Nat.le_refl _) fun j hj => ?_
    · unfold rE1; rw [h.br, h.tg]; simp; omega
    · have := h.lg _ (getD_mem dEntry hj)
      unfold entE
      rw [this.1, this.2.1, decide_eq_false (by omega)]
      rfl
theorem good_cut {r : Refs} (h : GoodR r) : rightF (cutlog r) = true := by
  refine rightF_iff.2 ⟨⟨h.br, h.tg, h.hd, fun e he => h.lg e (List.mem_of_mem_drop he)⟩, ?_⟩
  show (r.log.drop (r.log.length - 64)).length ≤ 64
  rw [List.length_drop]; omega
theorem turnQ_good {l : List Nmd} {y : Upd} (h : nlistB l = true) (hn : nameB y.name = true) : nlistB (turnQ l y).2 = true := by
  obtain ⟨h1, h2, h3⟩ := nlistB_iff.1 h
  obtain ⟨h4, h5⟩ := turnQ_sorted (y := y) h2 h3
  refine nlistB_iff.2 ⟨fun n hm => ?_, h4, h5⟩
  unfold turnQ at hm
  cases hf : foundN l y.name (placeN l y.name) with
  | true =>
    have hlt := found_lt hf
    rw [turnT hf] at hm
    split at hm
    · cases hm
    · split at hm
      · exact h1 n (List.mem_of_mem_eraseIdx hm)
      · rename_i hz
        rcases List.mem_or_eq_of_mem_set hm with hm | rfl
        · exact h1 n hm
        · exact ⟨(h1 _ (getD_mem dNmd hlt)).1, by simpa using hz⟩
  | false =>
    rw [turnF hf] at hm
    split at hm
    · cases hm
    · split at hm
      · exact h1 n hm
      · rename_i hz
        split at hm
        · cases hm
        · rcases List.mem_append.1 hm with hm | hm
          · exact h1 n (List.mem_of_mem_take hm)
          · rcases List.mem_cons.1 hm with rfl | hm
            · exact ⟨hn, by simpa using hz⟩
            · exact h1 n (List.mem_of_mem_drop hm)
theorem upd_facts {y : Upd} (h : updErr y = 0) : kindB y.kind = true ∧ uE1 y = false ∧ uE2 y = false ∧ uE3 y = false := by
  refine ⟨updErr_kind h, ?_⟩
  unfold updErr at h
  rw [updErr_kind h] at h
  simp only [Bool.not_true, Bool.false_eq_true, if_false] at h
  cases h1 : uE1 y with
  | true => rw [h1] at h; simp at h
  | false =>
    rw [h1] at h
    simp only [Bool.false_eq_true, if_false] at h
    cases h2 : uE2 y with
    | true => rw [h2] at h; simp at h
    | false =>
      rw [h2] at h
      simp only [Bool.false_eq_true, if_false] at h
      cases h3 : uE3 y with
      | true => rw [h3] at h; simp at h
      | false => exact ⟨rfl, rfl, rfl⟩
theorem upd_name {y : Upd} (h : updErr y = 0) : (y.kind.toNat ≠ 3 → nameB y.name = true) ∧ (y.name ≠ [] → nameB y.name = true) ∧ y.name.length ≤ 32 := by
  obtain ⟨-, -, -, h3⟩ := upd_facts h
  unfold uE3 at h3
  simp only [Bool.and_eq_false_iff, Bool.not_eq_false', Bool.or_eq_false_iff, decide_eq_false_iff_not] at h3
  refine ⟨fun hk => ?_, fun hn => ?_, ?_⟩
  · rcases h3 with h3 | h3
    · exact h3
    · exact absurd hk h3.1
  · rcases h3 with h3 | h3
    · exact h3
    · exact absurd hn h3.2
  · rcases h3 with h3 | h3
    · exact (nameB_len h3).2
    · rw [Classical.not_not.1 h3.2]; simp
theorem doP_good {r : Refs} {y : Upd} (h : GoodR r) (hu : updErr y = 0) (_h0 : (doP r y).1 = 0) : GoodR (doP r y).2 := by
  obtain ⟨hk, -, h2, h3⟩ := upd_facts hu
  obtain ⟨hn1, hn2, -⟩ := upd_name hu
  unfold doP
  split
  · rename_i hk1
    have hn := hn1 (by omega)
    unfold branchP
    split
    · exact h
    · split
      · exact ⟨turnQ_good h.br hn, h.tg, h.hd, h.lg⟩
      · exact h
  · split
    · rename_i hk2
      have hn := hn1 (by omega)
      unfold tagP
      split
      · exact ⟨h.br, turnQ_good h.tg hn, h.hd, h.lg⟩
      · exact h
    · rename_i hk1 hk2
      refine ⟨h.br, h.tg, ?_, h.lg⟩
      have hk3 : y.kind.toNat = 3 := by
        unfold kindB at hk
        simp only [Bool.or_eq_true, decide_eq_true_eq] at hk
        omega
      unfold uE2 at h2
      rw [hk3] at h2
      simp only [decide_true, Bool.true_and, Bool.or_eq_false_iff, Bool.not_eq_false'] at h2
      show rE2 ⟨r.branches, r.tags, y.name, y.new, r.log⟩ = false
      unfold rE2
      by_cases hy : y.name = []
      · have h4 := h2.2
        rw [decide_eq_true hy] at h4
        simp only [hy]
        cases hz : zeroB y.new with
        | true => rw [hz] at h4; simp at h4
        | false => simp
      · have h4 := h2.2
        rw [decide_eq_false hy] at h4
        simp only [hn2 hy]
        cases hz : zeroB y.new with
        | false => rw [hz] at h4; simp at h4
        | true => simp [hy]
theorem step_good {note : Bs} {r : Refs} {y : Upd} (hn : noteB note = true) (h : GoodR r) (h0 : (stepP note r y).1 = 0) : GoodR (stepP note r y).2 ∧ updErr y = 0 ∧ (doP r y).1 = 0 ∧ (stepP note r y).2 = addlog (doP r y).2 (entOf y note) := by
  unfold stepP at h0 ⊢
  split
  · rename_i h1; rw [if_pos h1] at h0; exact absurd h0 h1
  · rename_i h1
    rw [if_neg h1] at h0
    have h1 := Classical.not_not.1 h1
    split
    · rename_i h2; rw [if_pos h2] at h0; exact absurd h0 h2
    · rename_i h2
      have h2 := Classical.not_not.1 h2
      have h3 := doP_good h h1 h2
      refine ⟨⟨h3.br, h3.tg, h3.hd, fun e he => ?_⟩, h1, h2, rfl⟩
      rcases List.mem_append.1 he with he | he
      · exact h3.lg e he
      · rw [List.mem_singleton.1 he]
        exact ⟨(upd_facts h1).1, hn, (upd_name h1).2.2⟩
theorem run_good {note : Bs} (hn : noteB note = true) : ∀ {l : List Upd} {r : Refs}, GoodR r → (runP note r l).1 = 0 → GoodR (runP note r l).2
  | [], r, h, _ => h
  | y :: l, r, h, h0 => by
    unfold runP at h0 ⊢
    split
    · rename_i h1; rw [if_pos h1] at h0; exact absurd h0 h1
    · rename_i h1; rw [if_neg h1] at h0; exact run_good hn (step_good hn h (Classical.not_not.1 h1)).1 h0
theorem apply_right {note : Bs} {r : Refs} {l : List Upd} (h : (applyP r l note).1 = 0) : rightF (applyP r l note).2 = true := by
  obtain ⟨h1, h2, h3⟩ := applyP_right h
  simp only [Bool.or_eq_false_iff, Bool.not_eq_false'] at h1
  rw [h3]
  exact good_cut (run_good h1.2 (rightF_iff.1 h1.1).1 h2)
theorem doP_log' {b t : List Nmd} {hd : Bs} {a : Id32} {L : List Ent} {y : Upd} : (doP ⟨b, t, hd, a, L⟩ y).1 = (doP ⟨b, t, hd, a, []⟩ y).1 ∧ (doP ⟨b, t, hd, a, L⟩ y).2 = ⟨(doP ⟨b, t, hd, a, []⟩ y).2.branches, (doP ⟨b, t, hd, a, []⟩ y).2.tags, (doP ⟨b, t, hd, a, []⟩ y).2.head, (doP ⟨b, t, hd, a, []⟩ y).2.at_, L⟩ := by
  unfold doP
  split
  · unfold branchP hdlost
    dsimp only
    split
    · exact ⟨rfl, rfl⟩
    · split <;> exact ⟨rfl, rfl⟩
  · split
    · unfold tagP
      dsimp only
      split <;> exact ⟨rfl, rfl⟩
    · exact ⟨rfl, rfl⟩
theorem last_cut {α : Type} (L : List α) (e : α) : (L.drop (L.length - 64) ++ [e]).drop ((L.drop (L.length - 64) ++ [e]).length - 64) = (L ++ [e]).drop ((L ++ [e]).length - 64) := by
  by_cases h : L.length ≤ 64
  · rw [show L.length - 64 = 0 by omega, List.drop_zero]
  · have h1 : (L.drop (L.length - 64)).length = 64 := by rw [List.length_drop]; omega
    rw [List.length_append, h1, List.length_append, List.length_singleton, List.drop_append_of_le_length (by omega), List.drop_drop, List.drop_append_of_le_length (by omega)]
    congr 2
    omega
theorem cut_cut (x : Refs) : cutlog (cutlog x) = cutlog x := by
  obtain ⟨b, t, hd, a, L⟩ := x
  show (⟨b, t, hd, a, (L.drop (L.length - 64)).drop ((L.drop (L.length - 64)).length - 64)⟩ : Refs) = ⟨b, t, hd, a, L.drop (L.length - 64)⟩
  rw [List.length_drop, show L.length - (L.length - 64) - 64 = 0 by omega, List.drop_zero]
theorem step_cut {note : Bs} {x : Refs} {y : Upd} : (stepP note (cutlog x) y).1 = (stepP note x y).1 ∧ ((stepP note x y).1 = 0 → cutlog (stepP note (cutlog x) y).2 = cutlog (stepP note x y).2) := by
  obtain ⟨b, t, hd, a, L⟩ := x
  obtain ⟨e1, e2⟩ := doP_log' (b := b) (t := t) (hd := hd) (a := a) (L := L) (y := y)
  obtain ⟨f1, f2⟩ := doP_log' (b := b) (t := t) (hd := hd) (a := a) (L := L.drop (L.length - 64)) (y := y)
  unfold stepP
  show (if updErr y ≠ 0 then (updErr y, cutlog ⟨b, t, hd, a, L⟩) else if (doP ⟨b, t, hd, a, L.drop (L.length - 64)⟩ y).1 ≠ 0 then _ else _).1 = _ ∧ _
  rw [e1, e2]
  show (if updErr y ≠ 0 then (updErr y, cutlog ⟨b, t, hd, a, L⟩) else if (doP ⟨b, t, hd, a, L.drop (L.length - 64)⟩ y).1 ≠ 0 then ((doP ⟨b, t, hd, a, L.drop (L.length - 64)⟩ y).1, _) else (0, addlog (doP ⟨b, t, hd, a, L.drop (L.length - 64)⟩ y).2 (entOf y note))).1 = _ ∧ (_ → cutlog (if updErr y ≠ 0 then (updErr y, cutlog ⟨b, t, hd, a, L⟩) else if (doP ⟨b, t, hd, a, L.drop (L.length - 64)⟩ y).1 ≠ 0 then ((doP ⟨b, t, hd, a, L.drop (L.length - 64)⟩ y).1, cutlog ⟨b, t, hd, a, L⟩) else (0, addlog (doP ⟨b, t, hd, a, L.drop (L.length - 64)⟩ y).2 (entOf y note))).2 = _)
  rw [f1, f2]
  split
  · rename_i h; exact ⟨rfl, fun h0 => absurd h0 h⟩
  · split
    · rename_i h; exact ⟨rfl, fun h0 => absurd h0 h⟩
    · refine ⟨rfl, fun _ => ?_⟩
      unfold cutlog addlog
      dsimp only
      rw [last_cut]
noncomputable def seqP (note : Bs) (r : Refs) (l : List Upd) : Nat → Nat × Refs
  | 0 => (0, r)
  | i + 1 => applyP (seqP note r l i).2 [l.getD i dUpd] note
theorem apply_one {note : Bs} {s : Refs} {y : Upd} (hn : noteB note = true) (hr : rightF s = true) : applyP s [y] note = if (stepP note s y).1 ≠ 0 then ((stepP note s y).1, zeroR) else (0, cutlog (stepP note s y).2) := by
  have hrun : runP note s [y] = if (stepP note s y).1 ≠ 0 then ((stepP note s y).1, zeroR) else (0, (stepP note s y).2) := rfl
  unfold applyP
  rw [hr, hn, if_neg (by decide), hrun]
  split
  · rfl
  · rfl
theorem seq_run {note : Bs} {r : Refs} {l : List Upd} (hn : noteB note = true) (hr : rightF r = true) : ∀ {i : Nat}, i ≤ l.length → (∀ j, j < i → (seqP note r l j).1 = 0) →
    ∃ x, GoodR x ∧ ((seqP note r l i).1 = 0 → cutlog (seqP note r l i).2 = cutlog x ∧ rightF (seqP note r l i).2 = true ∧ (seqP note r l i).2 = (if i = 0 then r else cutlog x) ∧ runP note r l = runP note x (l.drop i)) ∧ ((seqP note r l i).1 ≠ 0 → (runP note r l).1 = (seqP note r l i).1)
  | 0, _, _ => ⟨r, (rightF_iff.1 hr).1, fun _ => ⟨rfl, hr, rfl, rfl⟩, fun h => absurd rfl h⟩
  | i + 1, hi, h => by
    obtain ⟨x, hx, h1, -⟩ := seq_run hn hr (i := i) (by omega) fun j hj => h j (by omega)
    obtain ⟨h2, h3, h4, h5⟩ := h1 (h i (by omega))
    have e : seqP note r l (i + 1) = applyP (seqP note r l i).2 [l.getD i dUpd] note := rfl
    rw [e, apply_one hn h3]
    have hst : (stepP note (seqP note r l i).2 (l.getD i dUpd)).1 = (stepP note x (l.getD i dUpd)).1 ∧ ((stepP note x (l.getD i dUpd)).1 = 0 → cutlog (stepP note (seqP note r l i).2 (l.getD i dUpd)).2 = cutlog (stepP note x (l.getD i dUpd)).2) := by
      have a := step_cut (note := note) (x := (seqP note r l i).2) (y := l.getD i dUpd)
      have b := step_cut (note := note) (x := x) (y := l.getD i dUpd)
      rw [h2] at a
      refine ⟨a.1.symm.trans b.1, fun h0 => ?_⟩
      rw [← a.2 (by rw [← a.1, b.1]; exact h0), b.2 h0]
    rw [runP_at (by omega)] at h5
    by_cases h0 : (stepP note x (l.getD i dUpd)).1 = 0
    · have hs0 : (stepP note (seqP note r l i).2 (l.getD i dUpd)).1 = 0 := hst.1.trans h0
      rw [if_neg (fun k => k hs0)]
      refine ⟨(stepP note x (l.getD i dUpd)).2, (step_good hn hx h0).1, fun _ => ⟨?_, ?_, ?_, ?_⟩, fun k => absurd rfl k⟩
      · show cutlog (cutlog _) = _
        rw [hst.2 h0, cut_cut]
      · show rightF (cutlog _) = true
        rw [hst.2 h0]
        exact good_cut (step_good hn hx h0).1
      · rw [if_neg (by omega)]
        exact hst.2 h0
      · rw [h5, if_neg (fun k => k h0)]
    · have hs0 : (stepP note (seqP note r l i).2 (l.getD i dUpd)).1 ≠ 0 := fun k => h0 (hst.1.symm.trans k)
      rw [if_pos hs0]
      refine ⟨x, hx, fun k => absurd k hs0, fun _ => ?_⟩
      rw [h5, if_pos h0]
      exact hst.1.symm
theorem whole_ok {note : Bs} {r : Refs} {l : List Upd} {i : Nat} (hn : noteB note = true) (hi : i ≤ l.length) (h : ∀ j, j < i → (seqP note r l j).1 = 0) (hend : i = l.length ∨ (seqP note r l i).1 ≠ 0) :
    ((applyP r l note).1 ≠ 0 → l.length = 0 ∨ (seqP note r l i).1 = (applyP r l note).1) ∧ ((applyP r l note).1 = 0 → (seqP note r l i).1 = 0 ∧ (l.length ≠ 0 → (seqP note r l i).2 = (applyP r l note).2)) := by
  cases hr : rightF r with
  | false =>
    have hb : ∀ l, applyP r l note = (1, zeroR) := fun l => applyP_bad (by rw [hr]; rfl)
    rw [hb]
    refine ⟨fun _ => ?_, fun k => by simp at k⟩
    by_cases h0 : l.length = 0
    · exact .inl h0
    · right
      have e1 : (seqP note r l 1).1 = 1 := by show (applyP r [l.getD 0 dUpd] note).1 = 1; rw [hb]
      by_cases hi0 : i = 0
      · subst hi0
        rcases hend with k | k
        · exact absurd k.symm h0
        · exact absurd rfl k
      · by_cases hi1 : i = 1
        · subst hi1; exact e1
        · have := h 1 (by omega); rw [e1] at this; cases this
  | true =>
    obtain ⟨x, hx, h1, h2⟩ := seq_run hn hr hi h
    have ha : applyP r l note = if (runP note r l).1 ≠ 0 then ((runP note r l).1, zeroR) else (0, cutlog (runP note r l).2) := by unfold applyP; rw [hr, hn, if_neg (by decide)]
    rw [ha]
    by_cases hs : (seqP note r l i).1 = 0
    · obtain ⟨-, -, h4, h5⟩ := h1 hs
      obtain rfl : i = l.length := hend.resolve_right (fun k => k hs)
      rw [runP_end (Nat.le_refl _)] at h5
      rw [h5, if_neg (fun k => k rfl)]
      refine ⟨fun k => absurd rfl k, fun _ => ⟨hs, fun h0 => ?_⟩⟩
      rw [h4, if_neg h0]
    · have h3 := h2 hs
      rw [if_pos (by rw [h3]; exact hs)]
      exact ⟨fun _ => .inr h3.symm, fun k => absurd (h3.symm.trans k) hs⟩
open Go.RowKit
set_option maxRecDepth 100000
noncomputable def look0P (r : Refs) : Id32 × Nat := if rightF r = true then (if r.head = [] then (r.at_, 0) else if foundN r.branches r.head (placeN r.branches r.head) = true then ((r.branches.getD (placeN r.branches r.head) dNmd).id, 0) else (zid, 4)) else (zid, 1)
theorem wr36_al25 {d : Option Tmp} {ty : TypeId} {pos : String} {af : Array Edge} {gd : Option (Nat × Bool)} (σ : Operand → Value) (w : World) : (execOp σ ⟨d, .alloc 25, ty, pos, af, gd⟩).run Tryd.prog w = .ok (.value (PQ w.heap.size 0)) (w.alloc (.cells (Lib.byteCells (List.replicate 32 0)).toArray 25)) := by kernel_rfl
theorem wr36_ty53 : ∃ fs, Tryd.prog.underlying 53 = some (.struct fs) := struct_of (by kernel_rfl)
theorem wr36_isz53 : (Tryd.prog.info? 53).map (·.size) = some 36 := by kernel_rfl
theorem wr36_pl31 : Plain Tryd.prog 31 := fun _ _ => by kernel_rfl
theorem wr36_ty25 : Tryd.prog.underlying 25 = some (.array 32 5) := by kernel_rfl
theorem wr36_fo53_2 : FieldOff Tryd.prog 53 2 2 := fun b o w => by simp [go_sem]
theorem wr36_ty9 : Tryd.prog.underlying 9 = some (.string) := by kernel_rfl
theorem wr36_fo53_3 : FieldOff Tryd.prog 53 3 3 := fun b o w => by simp [go_sem]
theorem wr36_fo53_0 : FieldOff Tryd.prog 53 0 0 := fun b o w => by simp [go_sem]
theorem wr36_ty51 : Tryd.prog.underlying 51 = some (.slice 70) := by kernel_rfl
theorem wr36_pl88 : Plain Tryd.prog 88 := fun _ _ => by kernel_rfl
theorem wr36_szg70 : ∀ w' : World, (sizeOf 70).run Tryd.prog w' = .ok 33 w' := fun _ => by kernel_rfl
theorem wr36_fo70_1 : FieldOff Tryd.prog 70 1 1 := fun b o w => by simp [go_sem]
theorem wr36_isz25 : (Tryd.prog.info? 25).map (·.size) = some 32 := by kernel_rfl
set_option maxHeartbeats 1600000
theorem look0_any (w : World) (z : RefsV) (hm : RefsAt w z) (hL : RefsLt z.1) :
  Calls Tryd.prog 39 #[.agg (refsC z).toArray, St []] w fun e w' => e = .returned (.tuple #[AB ((look0P z.1).1.1), NI (look0P z.1).2]) ∧ Ext w w' := by
 have hmt := hm.branches
 have hmg := hm.tags
 have hml := hm.log
 refine calls_of_wpF (args := [.agg (refsC z).toArray, St (([] : List UInt8))]) Tryd.func39 rfl 70 rfl (Nat.le_of_ble_eq_true rfl) ?_
 intro ρ0 hb
 have T0 : ρ0 0 = (.agg (refsC z).toArray : Value) := hb.get 0
 have T1 : ρ0 1 = (St (([] : List UInt8)) : Value) := hb.get 1
 clear hb
 have hE := Ext.refl w
 refine sk fun K1 hK1 => (wt (oS rfl (Yk.box (cs := (refsC z : List Value).toArray) T0 fun n2 w3 hn4 hb5 hx6 hs7 => ?_)))
 have hE := hE.trans hx6
 have hb8 := hb5; clear hb5
 have hl9 : n2 < w3.heap.size := by omega
 refine oS rfl (Yk.alloc (cs := (Lib.byteCells (List.replicate 32 0)).toArray) wr36_al25 fun n10 w11 hn12 hb13 hx14 hs15 => ?_)
 have hA16 := Ext.refl w3
 have hea17 := hE
 have hz18 := hE.size
 have hlt19 := lte (bl hb8) hn12
 have hE := hE.trans hx14
 have hb8 := eb hx14 hb8
 have hA16 := hA16.trans hx14
 have hb20 := hb13; clear hb13
 have hl21 : n10 < w11.heap.size := by omega
 refine oA rfl (oZ (tN (hK1 _ _ (sk fun K22 hK22 => (sk fun K23 hK23 => (wt (oS rfl (Yk.loadAll (vr (PQ n2 0) rfl) hb8 (wr36_ty53).choose_spec rfl (st_isz (refs_len z) wr36_isz53) (oS rfl (Yk.callA1 wr36_pl31 (vr (.agg (refsC z).toArray) rfl) ((fright_any _ z ⟨(hmt.keep hE), (hmg.keep hE), (hml.keep hE)⟩ hL).mono ?_)))))))))))
 rintro e w25 ⟨rfl, hx24⟩
 refine ⟨_, rfl, ?_⟩
 have hE := hE.trans hx24
 have hb8 := eb hx24 hb8
 have hA16 := hA16.trans hx24
 have hb20 := eb hx24 hb20
 refine oS rfl (Yk.notB (vr (.bool (rightF z.1)) rfl) (oZ (tN (hK23 _ _ ?_))))
 refine wpF_condB (!(rightF z.1)) (vr (.bool (!(rightF z.1))) rfl) (fun hc0 => ?_) (fun hc0 => ?_)
 ·have hrt : rightF z.1 = false := by simpa using hc0
  refine sk fun K26 hK26 => (wt (oS rfl (Yk.run (v := AB (List.replicate 32 0)) (by kernel_rfl) (oS rfl (Yk.storeAll (vr (PQ n10 0) rfl) (vr (AB (List.replicate 32 0)) rfl) hb20 (by exact idsize List.length_replicate List.length_replicate) (by exact sizeId_of List.length_replicate) (byteCells_one _) fun w27 hb28 hg29 hs30 => ?_)))))
  have hE := row_fresh hE hg29 (Nat.le_trans hz18 (by omega))
  have hb8 := kb hg29 hb8 (by omega)
  have hA16 := row_fresh hA16 hg29 (Nat.le_trans (Nat.le_refl _) (by omega))
  clear hb20
  have hb20 := hb28; clear hb28
  have hl31 := bl hb20
  refine oA rfl (oZ (tN (hK26 _ _ (wpF_ret (thenF_ret (postF_ret (fn := Tryd.f39) _ rfl [AB (List.replicate 32 0), NI 1] (.tuple #[AB (List.replicate 32 0), NI 1]) rfl ⟨ResF.row rfl hb20 wr36_ty25 rfl (by exact sizeId_of List.length_replicate), rfl, trivial⟩ ?_))))))
  have hT : look0P z.1 = (zid, 1) := by unfold look0P; rw [if_neg (by rw [hrt]; decide)]
  exact ⟨by rw [hT]; try rfl, hE⟩
 have hrt : rightF z.1 = true := by simpa using hc0
 have hS := rightF_sorted hrt
 refine wpF_skip (tN (hK22 _ _ (sk fun K32 hK32 => (sk fun K33 hK33 => (wt (oM rfl (oS rfl (Yk.eqSt (l := ([] : List UInt8)) (m := ([] : List UInt8)) (.inl rfl) T1 (vr (St (([] : List UInt8))) rfl) (decide (([] : List UInt8) = (([] : List UInt8) : List UInt8))) rfl (oZ (tN (hK33 _ _ (wpF_true (vr (.bool (true)) (congrArg Value.bool (decide_eq_true (rfl)))) (sk fun K34 hK34 => (sk fun K35 hK35 => (wt (oS rfl (Yk.fieldAt wr36_fo53_2 (vr (PQ n2 0) rfl) (oS rfl (Yk.cell1 wr36_ty9 rfl (vr (PQ n2 2) rfl) (cellAt hb8 (show (refsC z)[2]? = some (St (z.1.head) : Value) from refs_g2 z)) (oS rfl (Yk.eqSt (l := z.1.head) (m := ([] : List UInt8)) (.inl rfl) (vr (St (z.1.head)) rfl) (vr (St (([] : List UInt8))) rfl) (decide ((z.1.head : List UInt8) = (([] : List UInt8) : List UInt8))) rfl ?_)))))))))))))))))))))
 refine oZ (tN (hK35 _ _ ?_))
 refine wpF_cond ((z.1.head : List UInt8) = (([] : List UInt8) : List UInt8)) (vr (.bool (decide ((z.1.head : List UInt8) = (([] : List UInt8) : List UInt8)))) rfl) (fun hc2 => ?_) (fun hc2 => ?_)
 ·have hh := hc2
  refine sk fun K36 hK36 => (wt (oS rfl (Yk.fieldAt wr36_fo53_3 (vr (PQ n2 0) rfl) (oS rfl (Yk.loadPR (PR.blk hb8 (refs_m3 z) (refs_n3 z) (vr (PQ n2 3) rfl)) wr36_ty25 rfl (sizeId_of z.1.at_.2) (oS rfl (Yk.storeAll (vr (PQ n10 0) rfl) (vr (AB z.1.at_.1) rfl) hb20 (by exact idsize z.1.at_.2 List.length_replicate) (by exact sizeId_of z.1.at_.2) (byteCells_one _) fun w37 hb38 hg39 hs40 => ?_)))))))
  have hE := row_fresh hE hg39 (Nat.le_trans hz18 (by omega))
  have hb8 := kb hg39 hb8 (by omega)
  have hA16 := row_fresh hA16 hg39 (Nat.le_trans (Nat.le_refl _) (by omega))
  clear hb20
  have hb20 := hb38; clear hb38
  have hl41 := bl hb20
  refine oA rfl (oZ (tN (hK36 _ _ (wpF_ret (thenF_ret (thenF_ret (postF_ret (fn := Tryd.f39) _ rfl [AB z.1.at_.1, NI 0] (.tuple #[AB z.1.at_.1, NI 0]) rfl ⟨ResF.row rfl hb20 wr36_ty25 rfl (by exact sizeId_of z.1.at_.2), rfl, trivial⟩ ?_)))))))
  have hT : look0P z.1 = (z.1.at_, 0) := by unfold look0P; rw [if_pos hrt, if_pos hh]
  exact ⟨by rw [hT]; try rfl, hE⟩
 have hh := hc2
 refine wpF_skip (tN (hK34 _ _ (sk fun K42 hK42 => (sk fun K43 hK43 => (wt (oS rfl (Yk.fieldAt wr36_fo53_0 (vr (PQ n2 0) rfl) (oS rfl (Yk.cell1 wr36_ty51 rfl (vr (PQ n2 0) rfl) (cellAt hb8 (show (refsC z)[0]? = some (z.2.branches : Value) from refs_g0 z)) (oS rfl (Yk.fieldAt wr36_fo53_2 (vr (PQ n2 0) rfl) (oS rfl (Yk.cell1 wr36_ty9 rfl (vr (PQ n2 2) rfl) (cellAt hb8 (show (refsC z)[2]? = some (St (z.1.head) : Value) from refs_g2 z)) (oS rfl (Yk.callA2 wr36_pl88 (vr z.2.branches rfl) (vr (St (z.1.head)) rfl) ((place_any _ _ z.1.branches (hmt.keep hE) (by have := hS.bl; omega) hS.br z.1.head).mono ?_))))))))))))))))
 rintro e w45 ⟨⟨p, rfl, hp⟩, hx44⟩
 refine ⟨_, rfl, ?_⟩
 have hE := hE.trans hx44
 have hb8 := eb hx44 hb8
 have hA16 := hA16.trans hx44
 have hb20 := eb hx44 hb20
 refine oM rfl (oS rfl (Yk.extract (vs := [NI p, .bool (foundN z.1.branches z.1.head p)]) (vr (.tuple #[NI p, .bool (foundN z.1.branches z.1.head p)]) rfl) (show _ = some (NI p : Value) from rfl) (oS rfl (Yk.extract (vs := [NI p, .bool (foundN z.1.branches z.1.head p)]) (vr (.tuple #[NI p, .bool (foundN z.1.branches z.1.head p)]) rfl) (show _ = some (.bool (foundN z.1.branches z.1.head p) : Value) from rfl) (oA rfl (oA rfl (oZ (tN (hK43 _ _ (sk fun K46 hK46 => (wt (oM rfl (oZ (tN (hK46 _ _ ?_)))))))))))))))
 refine wpF_condB (foundN z.1.branches z.1.head p) (vr (.bool (foundN z.1.branches z.1.head p)) rfl) (fun hc3 => ?_) (fun hc3 => ?_)
 ·have hf := hc3
  have hlt := found_lt hf
  refine sk fun K47 hK47 => (wt (oS rfl (Yk.fieldAt wr36_fo53_0 (vr (PQ n2 0) rfl) (oS rfl (Yk.cell1 wr36_ty51 rfl (vr (PQ n2 0) rfl) (cellAt hb8 (show (refsC z)[0]? = some (z.2.branches : Value) from refs_g0 z)) (oM rfl ?_))))))
  have hl50 : (nmdC ((z.1.branches).getD (p) dNmd)).length = 33 := (RG.elem (hmt.keep hE) dNmd (hlt))
  refine oS rfl (Yk.atRG wr36_ty51 wr36_szg70 (by decide) dNmd (RG.of (hmt.keep hE) (vr z.2.branches rfl)) (vr (NI p) rfl) (hlt) fun v48 hp49 => ?_)
  have hl53 : (Lib.byteCells ((z.1.branches).getD (p) dNmd).id.1).length = 32 := by rw [Lib.byteCells_length, ((z.1.branches).getD (p) dNmd).id.2]
  refine oS rfl (Yk.fieldPR (n := 32) wr36_fo70_1 (PR.of hp49 (vr v48 rfl)) fun v51 hp52 => ?_)
  have hp52 : PR (Lib.byteCells ((z.1.branches).getD (p) dNmd).id.1) v51 w45 := (nmd_f1 ((z.1.branches).getD (p) dNmd)) ▸ hp52
  refine oS rfl (Yk.loadPR (PR.of hp52 (vr v51 rfl)) wr36_ty25 rfl (by rw [hl53]; exact wr36_isz25) (oS rfl (Yk.storeAll (vr (PQ n10 0) rfl) (vr (AB (((z.1.branches).getD (p) dNmd).id.1)) rfl) hb20 (by exact idsize (bytes_len32 (hl53)) List.length_replicate) (by exact sizeId_of (bytes_len32 (hl53))) (byteCells_one _) fun w54 hb55 hg56 hs57 => ?_)))
  have hE := row_fresh hE hg56 (Nat.le_trans hz18 (by omega))
  have hb8 := kb hg56 hb8 (by omega)
  have hA16 := row_fresh hA16 hg56 (Nat.le_trans (Nat.le_refl _) (by omega))
  clear hp49
  clear hp52
  clear hb20
  have hb20 := hb55; clear hb55
  have hl58 := bl hb20
  refine oA rfl (oZ (tN (hK47 _ _ (wpF_ret (thenF_ret (thenF_ret (postF_ret (fn := Tryd.f39) _ rfl [AB (((z.1.branches).getD (p) dNmd).id.1), NI 0] (.tuple #[AB (((z.1.branches).getD (p) dNmd).id.1), NI 0]) rfl ⟨ResF.row rfl hb20 wr36_ty25 rfl (by exact sizeId_of (bytes_len32 (hl53))), rfl, trivial⟩ ?_)))))))
  have hT : look0P z.1 = ((z.1.branches.getD p dNmd).id, 0) := by unfold look0P; rw [if_pos hrt, if_neg hh, ← place_uniq hp, if_pos hf]
  exact ⟨by rw [hT]; try rfl, hE⟩
 have hf := hc3
 refine wpF_skip (tN (hK42 _ _ (sk fun K59 hK59 => (wt (oS rfl (Yk.run (v := AB (List.replicate 32 0)) (by kernel_rfl) (oS rfl (Yk.storeAll (vr (PQ n10 0) rfl) (vr (AB (List.replicate 32 0)) rfl) hb20 (by exact idsize List.length_replicate List.length_replicate) (by exact sizeId_of List.length_replicate) (byteCells_one _) fun w60 hb61 hg62 hs63 => ?_))))))))
 have hE := row_fresh hE hg62 (Nat.le_trans hz18 (by omega))
 have hb8 := kb hg62 hb8 (by omega)
 have hA16 := row_fresh hA16 hg62 (Nat.le_trans (Nat.le_refl _) (by omega))
 clear hb20
 have hb20 := hb61; clear hb61
 have hl64 := bl hb20
 refine oA rfl (oZ (tN (hK59 _ _ (wpF_ret (thenF_ret (postF_ret (fn := Tryd.f39) _ rfl [AB (List.replicate 32 0), NI 4] (.tuple #[AB (List.replicate 32 0), NI 4]) rfl ⟨ResF.row rfl hb20 wr36_ty25 rfl (by exact sizeId_of List.length_replicate), rfl, trivial⟩ ?_))))))
 have hT : look0P z.1 = (zid, 4) := by unfold look0P; rw [if_pos hrt, if_neg hh, ← place_uniq hp, if_neg (by rw [hf]; decide)]
 exact ⟨by rw [hT]; try rfl, hE⟩
open Go.RowKit
abbrev mainB : Bs := [109, 97, 105, 110]
abbrev id1 : Id32 := ⟨1 :: List.replicate 31 0, rfl⟩
abbrev u1 : Upd := ⟨1, mainB, zid, id1⟩
abbrev u2 : Upd := ⟨1, mainB, id1, zid⟩
abbrev firstB : Bs := [102, 105, 114, 115, 116]
abbrev againB : Bs := [97, 103, 97, 105, 110]
abbrev r1 : Refs := ⟨[⟨mainB, id1⟩], [], mainB, zid, [entOf u1 firstB]⟩
theorem main_name : nameB mainB = true := by decide
theorem dec_ascii {l : Bs} {a : Nat} (h : ∀ x ∈ l, x.toNat < 128) (ha : a < l.length) : decU l a = some (a + 1) := by
  have hx : (l.getD a 0).toNat < 128 := h _ (getD_mem 0 ha)
  have hl : leadO (l.getD a 0) = some (0, (l.getD a 0).toNat, 0) := by unfold leadO; rw [if_pos hx]
  unfold decU
  rw [hl]
  simp only [tailU]
  rw [if_neg (by omega), if_pos ⟨Nat.zero_le _, by unfold mayB; simp only [Nat.zero_le, decide_true, Bool.true_and, Bool.and_eq_true, Bool.or_eq_true, decide_eq_true_eq]; omega⟩]
theorem utf_ascii {l : Bs} (h : ∀ x ∈ l, x.toNat < 128) : ∀ (n a : Nat), l.length ≤ a + n → utfB l a = true
  | 0, a, hn => utfB_end (by omega)
  | n + 1, a, hn => by
    by_cases ha : a < l.length
    · rw [utfB_some ha (dec_ascii h ha)]; exact utf_ascii h n _ (by omega)
    · exact utfB_end ha
theorem note_ascii {l : Bs} (h : ∀ x ∈ l, x.toNat < 128) (hl : l.length ≤ 256) : noteB l = true := by unfold noteB; rw [decide_eq_true hl, utf_ascii h l.length 0 (by omega)]; rfl
theorem first_note : noteB firstB = true := note_ascii (by decide) (by decide)
theorem again_note : noteB againB = true := note_ascii (by decide) (by decide)
theorem nil_note : noteB [] = true := note_ascii (by decide) (by decide)
theorem nil_list : nlistB [] = true := by rw [nlistB_all (i := 0) (Nat.le_refl _) (fun j hj => absurd hj (Nat.not_lt_zero _))]; rfl
theorem one_list : nlistB [⟨mainB, id1⟩] = true := by
  rw [nlistB_all (i := 1) (Nat.le_refl _) (fun j hj => by cases j with
    | zero => rfl
    | succ j => omega)]; rfl
theorem right0 : rightF beginV.1 = true := rightF_all (i := 0) (by unfold rE1; rw [nil_list]; rfl) (by unfold rE2; rw [show beginV.1.head = mainB from rfl, main_name]; rfl) (Nat.le_refl _) (fun j hj => absurd hj (Nat.not_lt_zero _))
theorem right1 : rightF r1 = true := rightF_all (i := 1) (by unfold rE1; rw [nil_list, one_list]; rfl) (by unfold rE2; rw [main_name]; rfl) (Nat.le_refl _) (fun j hj => by
  cases j with
  | zero => show entE [entOf u1 firstB] 0 = false; unfold entE; rw [show (([entOf u1 firstB] : List Ent).getD 0 dEntry).note = firstB from rfl, first_note]; rfl
  | succ j => omega)
theorem updErr1 : updErr u1 = 0 := by decide
theorem updErr2 : updErr u2 = 0 := by decide
theorem do1 : doP beginV.1 u1 = (0, ⟨[⟨mainB, id1⟩], [], mainB, zid, []⟩) := rfl
theorem do2 : (doP r1 u1).1 = 15 := by decide
theorem do3 : (doP r1 u2).1 = 16 := by decide
theorem apply_1 : applyP beginV.1 [u1] firstB = (0, r1) := by
  have h := runP_next (note := firstB) (r := beginV.1) (l := [u1]) (i := 0) (by decide) updErr1 (by show (doP beginV.1 u1).1 = 0; rw [do1])
  rw [List.drop_zero] at h
  rw [applyP_ok (by rw [right0, first_note]; rfl) (h.trans (runP_end (by decide)))]
  show (0, cutlog (addlog (doP beginV.1 u1).2 (entOf u1 firstB))) = _
  rw [do1]
  rfl
theorem look_1 : look0P r1 = (id1, 0) := by
  unfold look0P
  rw [if_pos right1]
  rfl
theorem apply_2 : applyP r1 [u1] againB = (15, zeroR) := by
  have h := runP_err2 (note := againB) (r := r1) (l := [u1]) (i := 0) (by decide) updErr1 (by show (doP r1 u1).1 ≠ 0; rw [do2]; decide)
  rw [List.drop_zero, show (doP r1 ([u1].getD 0 dUpd)).1 = 15 from do2] at h
  exact applyP_err (by rw [right1, again_note]; rfl) h (by decide)
theorem apply_3 : applyP r1 [u2] [] = (16, zeroR) := by
  have h := runP_err2 (note := []) (r := r1) (l := [u2]) (i := 0) (by decide) updErr2 (by show (doP r1 u2).1 ≠ 0; rw [do3]; decide)
  rw [List.drop_zero, show (doP r1 ([u2].getD 0 dUpd)).1 = 16 from do3] at h
  exact applyP_err (by rw [right1, nil_note]; rfl) h (by decide)
open Go.RowKit
/-! ### Numbers below 0; a literal of bytes (any program) -/
theorem zi_sub (t : TypeId) (a b : Int) (h : -9223372036854775808 ≤ a - b ∧ a - b ≤ 9223372036854775807) : Go.binOp .sub t (.int .i64 a) (.int .i64 b) = pure (.int .i64 (a - b)) := by
  show pure (Value.int .i64 (IntKind.i64.wrap (a - b))) = _
  rw [IntWalk.i64_in _ h]
open Go.RowKit
set_option maxRecDepth 100000
theorem entC_of (y : Upd) (note : Bs) : updC y ++ [Value.string ⟨note.toArray⟩] = entC (entOf y note) := by simp [entC, updC, entOf]
theorem wr35_al53 {d : Option Tmp} {ty : TypeId} {pos : String} {af : Array Edge} {gd : Option (Nat × Bool)} (σ : Operand → Value) (w : World) : (execOp σ ⟨d, .alloc 53, ty, pos, af, gd⟩).run Tryd.prog w = .ok (.value (PQ w.heap.size 0)) (w.alloc (.cells (refsC ((⟨[], [], [], zid, []⟩, ⟨.slice none 0 0, .slice none 0 0, .slice none 0 0⟩) : RefsV)).toArray 53)) := by kernel_rfl
theorem wr35_ty53 : ∃ fs, Tryd.prog.underlying 53 = some (.struct fs) := struct_of (by kernel_rfl)
theorem wr35_isz53 : (Tryd.prog.info? 53).map (·.size) = some 36 := by kernel_rfl
theorem wr35_pl31 : Plain Tryd.prog 31 := fun _ _ => by kernel_rfl
theorem wr35_pl73 : Plain Tryd.prog 73 := fun _ _ => by kernel_rfl
theorem wr35_fo53_0 : FieldOff Tryd.prog 53 0 0 := fun b o w => by simp [go_sem]
theorem wr35_ty51 : Tryd.prog.underlying 51 = some (.slice 70) := by kernel_rfl
theorem wr35_pl74 : Plain Tryd.prog 74 := fun _ _ => by kernel_rfl
theorem wr35_fo53_1 : FieldOff Tryd.prog 53 1 1 := fun b o w => by simp [go_sem]
theorem wr35_fo53_4 : FieldOff Tryd.prog 53 4 35 := fun b o w => by simp [go_sem]
theorem wr35_ty47 : Tryd.prog.underlying 47 = some (.slice 122) := by kernel_rfl
theorem wr35_pl75 : Plain Tryd.prog 75 := fun _ _ => by kernel_rfl
theorem wr35_isz51 : (Tryd.prog.info? 51).map (·.size) = some 1 := by kernel_rfl
theorem wr35_isz47 : (Tryd.prog.info? 47).map (·.size) = some 1 := by kernel_rfl
theorem wr35_pl76 : Plain Tryd.prog 76 := fun _ _ => by kernel_rfl
theorem wr35_ty22 : Tryd.prog.underlying 22 = some (.slice 67) := by kernel_rfl
theorem wr35_szg67 : ∀ w' : World, (sizeOf 67).run Tryd.prog w' = .ok 66 w' := fun _ => by kernel_rfl
theorem wr35_ty67 : ∃ fs, Tryd.prog.underlying 67 = some (.struct fs) := struct_of (by kernel_rfl)
theorem wr35_isz67 : (Tryd.prog.info? 67).map (·.size) = some 66 := by kernel_rfl
theorem wr35_al67 {d : Option Tmp} {ty : TypeId} {pos : String} {af : Array Edge} {gd : Option (Nat × Bool)} (σ : Operand → Value) (w : World) : (execOp σ ⟨d, .alloc 67, ty, pos, af, gd⟩).run Tryd.prog w = .ok (.value (PQ w.heap.size 0)) (w.alloc (.cells (updC (⟨0, [], zid, zid⟩ : Upd)).toArray 67)) := by kernel_rfl
theorem wr35_pl77 : Plain Tryd.prog 77 := fun _ _ => by kernel_rfl
theorem wr35_fo67_0 : FieldOff Tryd.prog 67 0 0 := fun b o w => by simp [go_sem]
theorem wr35_ty5 : Tryd.prog.underlying 5 = some (.int .u8) := by kernel_rfl
theorem wr35_ty125 : Tryd.prog.underlying 125 = some (.map 5 128) := by kernel_rfl
theorem wr35_bdE : ∀ (cs : Array Value), cs.size = 66 → ∀ (s : ByteArray) (w : World), (Instr.build 122 #[(0, Value.agg cs), (1, Value.string s)]).run Tryd.prog w = .ok (.agg (cs.toList ++ [Value.string s]).toArray) w
 | ⟨c0 :: c1 :: c2 :: c3 :: c4 :: c5 :: c6 :: c7 :: c8 :: c9 :: c10 :: c11 :: c12 :: c13 :: c14 :: c15 :: c16 :: c17 :: c18 :: c19 :: c20 :: c21 :: c22 :: c23 :: c24 :: c25 :: c26 :: c27 :: c28 :: c29 :: c30 :: c31 :: c32 :: c33 :: c34 :: c35 :: c36 :: c37 :: c38 :: c39 :: c40 :: c41 :: c42 :: c43 :: c44 :: c45 :: c46 :: c47 :: c48 :: c49 :: c50 :: c51 :: c52 :: c53 :: c54 :: c55 :: c56 :: c57 :: c58 :: c59 :: c60 :: c61 :: c62 :: c63 :: c64 :: c65 :: []⟩, _, s, w => by kernel_rfl
theorem wr35_lh47 (c0 c1 c2 c3 c4 c5 c6 c7 c8 c9 c10 c11 c12 c13 c14 c15 c16 c17 c18 c19 c20 c21 c22 c23 c24 c25 c26 c27 c28 c29 c30 c31 c32 c33 c34 c35 c36 c37 c38 c39 c40 c41 c42 c43 c44 c45 c46 c47 c48 c49 c50 c51 c52 c53 c54 c55 c56 c57 c58 c59 c60 c61 c62 c63 c64 c65 c66 : Value) (w : World) : (Instr.buildSlice 47 1 #[(0, .agg #[c0, c1, c2, c3, c4, c5, c6, c7, c8, c9, c10, c11, c12, c13, c14, c15, c16, c17, c18, c19, c20, c21, c22, c23, c24, c25, c26, c27, c28, c29, c30, c31, c32, c33, c34, c35, c36, c37, c38, c39, c40, c41, c42, c43, c44, c45, c46, c47, c48, c49, c50, c51, c52, c53, c54, c55, c56, c57, c58, c59, c60, c61, c62, c63, c64, c65, c66])]).run Tryd.prog w = .ok (.slice (some ⟨w.heap.size, 0, none⟩) 1 1) (w.alloc (.cells #[c0, c1, c2, c3, c4, c5, c6, c7, c8, c9, c10, c11, c12, c13, c14, c15, c16, c17, c18, c19, c20, c21, c22, c23, c24, c25, c26, c27, c28, c29, c30, c31, c32, c33, c34, c35, c36, c37, c38, c39, c40, c41, c42, c43, c44, c45, c46, c47, c48, c49, c50, c51, c52, c53, c54, c55, c56, c57, c58, c59, c60, c61, c62, c63, c64, c65, c66] 122)) := by kernel_rfl
theorem wr35_lg47 : ∀ (cs : Array Value), cs.size = 67 → ∀ w : World, (Instr.buildSlice 47 1 #[(0, .agg cs)]).run Tryd.prog w = .ok (.slice (some ⟨w.heap.size, 0, none⟩) 1 1) (w.alloc (.cells cs 122))
 | ⟨c0 :: c1 :: c2 :: c3 :: c4 :: c5 :: c6 :: c7 :: c8 :: c9 :: c10 :: c11 :: c12 :: c13 :: c14 :: c15 :: c16 :: c17 :: c18 :: c19 :: c20 :: c21 :: c22 :: c23 :: c24 :: c25 :: c26 :: c27 :: c28 :: c29 :: c30 :: c31 :: c32 :: c33 :: c34 :: c35 :: c36 :: c37 :: c38 :: c39 :: c40 :: c41 :: c42 :: c43 :: c44 :: c45 :: c46 :: c47 :: c48 :: c49 :: c50 :: c51 :: c52 :: c53 :: c54 :: c55 :: c56 :: c57 :: c58 :: c59 :: c60 :: c61 :: c62 :: c63 :: c64 :: c65 :: c66 :: []⟩, _, w => wr35_lh47 c0 c1 c2 c3 c4 c5 c6 c7 c8 c9 c10 c11 c12 c13 c14 c15 c16 c17 c18 c19 c20 c21 c22 c23 c24 c25 c26 c27 c28 c29 c30 c31 c32 c33 c34 c35 c36 c37 c38 c39 c40 c41 c42 c43 c44 c45 c46 c47 c48 c49 c50 c51 c52 c53 c54 c55 c56 c57 c58 c59 c60 c61 c62 c63 c64 c65 c66 w
theorem wr35_ig122 : ∃ z, (Tryd.prog.info? 122).map (fun i => (i.zero, i.size, i.bytes)) = some (some z, 67, 104) ∧ z.cells.size = 67 := info_ex (by kernel_rfl)
theorem wr35_szg122 : ∀ w' : World, (sizeOf 122).run Tryd.prog w' = .ok 67 w' := fun _ => by kernel_rfl
set_option maxHeartbeats 1600000
theorem apply20_any (w : World) (z0 : RefsV) (hm : RefsAt w z0) (hL : RefsLt z0.1) (lv : Value) (l : List Upd) (hr : RG 66 updC w lv l) (hl : l.length ≤ 1000) (hln : ∀ u ∈ l, u.name.length ≤ 9223372036854775807) (note : Bs) :
  Calls Tryd.prog 26 #[.agg (refsC z0).toArray, lv, St note] w fun e w' => ∃ v, e = .returned (.tuple #[.agg (refsC ((applyP z0.1 l note).2, v)).toArray, NI (applyP z0.1 l note).1]) ∧ RefsOw w.heap.size w' ((applyP z0.1 l note).2, v) ∧ Ext w w' := by
 have hmt := hm.branches
 have hmg := hm.tags
 have hml := hm.log
 refine calls_of_wpF (args := [.agg (refsC z0).toArray, lv, St (note)]) Tryd.func26 rfl 77 rfl (Nat.le_of_ble_eq_true rfl) ?_
 intro ρ0 hb
 have T0 : ρ0 0 = (.agg (refsC z0).toArray : Value) := hb.get 0
 have T1 : ρ0 1 = (lv : Value) := hb.get 1
 have T2 : ρ0 2 = (St (note) : Value) := hb.get 2
 clear hb
 have hE := Ext.refl w
 refine sk fun K1 hK1 => (wt (oS rfl (Yk.box (cs := (refsC z0 : List Value).toArray) T0 fun n2 w3 hn4 hb5 hx6 hs7 => ?_)))
 have hE := hE.trans hx6
 have hb8 := hb5; clear hb5
 have hl9 : n2 < w3.heap.size := by omega
 refine oS rfl (Yk.alloc (cs := (refsC ((⟨[], [], [], zid, []⟩, ⟨.slice none 0 0, .slice none 0 0, .slice none 0 0⟩) : RefsV)).toArray) wr35_al53 fun n10 w11 hn12 hb13 hx14 hs15 => ?_)
 have hA16 := Ext.refl w3
 have hea17 := hE
 have hz18 := hE.size
 have hlt19 := lte (bl hb8) hn12
 have hE := hE.trans hx14
 have hb8 := eb hx14 hb8
 have hA16 := hA16.trans hx14
 have hb20 := hb13; clear hb13
 have hl21 : n10 < w11.heap.size := by omega
 refine oA rfl (oZ (tN (hK1 _ _ (sk fun K22 hK22 => (sk fun K23 hK23 => (wt (oS rfl (Yk.loadAll (vr (PQ n2 0) rfl) hb8 (wr35_ty53).choose_spec rfl (st_isz (refs_len z0) wr35_isz53) (oS rfl (Yk.callA1 wr35_pl31 (vr (.agg (refsC z0).toArray) rfl) ((fright_any _ z0 ⟨(hmt.keep hE), (hmg.keep hE), (hml.keep hE)⟩ hL).mono ?_)))))))))))
 rintro e w25 ⟨rfl, hx24⟩
 refine ⟨_, rfl, ?_⟩
 have hE := hE.trans hx24
 have hb8 := eb hx24 hb8
 have hA16 := hA16.trans hx24
 have hb20 := eb hx24 hb20
 refine oS rfl (Yk.notB (vr (.bool (rightF z0.1)) rfl) (oM rfl (opsF_mayV (St (note)) rfl rfl (gF (vr (.bool (!(rightF z0.1))) rfl)) (fun hG26 => Yk.move T2 ⟨rfl, rfl⟩) (opsF_mayC (.bool (noteB note)) rfl rfl (gF (vr (.bool (!(rightF z0.1))) rfl)) (fun hG27 => Yk.callA1 wr35_pl73 (mayT (vr (cond (!(!(rightF z0.1))) (St (note)) undef) rfl) hG27) ((note_any _ note).mono (by rintro e w2 ⟨rfl, hx⟩; exact ⟨_, rfl, rfl, hx⟩))) fun w29 hx30 => ?_))))
 have hE := hE.trans hx30
 have hb8 := eb hx30 hb8
 have hA16 := hA16.trans hx30
 have hb20 := eb hx30 hb20
 refine opsF_mayV (.bool (!(noteB note))) rfl rfl (gF (vr (.bool (!(rightF z0.1))) rfl)) (fun hG31 => Yk.notB (mayT (vr (cond (!(!(rightF z0.1))) (.bool (noteB note)) undef) rfl) hG31) ⟨rfl, rfl⟩) (oS rfl (Yk.pickOrN (vr (.bool (!(rightF z0.1))) rfl) (vr (.bool (true)) rfl) (fun hA => (mayT (vr (cond (!(!(rightF z0.1))) (.bool (!(noteB note))) undef) rfl) (not_i hA))) fun bb32 hbb33 => (oZ (tN (hK23 _ _ ?_)))))
 refine wpF_condB (bb32) (vr (.bool (bb32)) rfl) (fun hc0 => ?_) (fun hc0 => ?_)
 ·subst hbb33
  have h0c : ((!rightF z0.1) || (!noteB note)) = true := hc0
  refine sk fun K34 hK34 => (wt (oS rfl (Yk.run (v := .agg (refsC ((⟨[], [], [], zid, []⟩, ⟨.slice none 0 0, .slice none 0 0, .slice none 0 0⟩) : RefsV)).toArray) (by kernel_rfl) (oS rfl (Yk.storeAll (vr (PQ n10 0) rfl) (vr (.agg (refsC ((⟨[], [], [], zid, []⟩, ⟨.slice none 0 0, .slice none 0 0, .slice none 0 0⟩) : RefsV)).toArray) rfl) hb20 (by simp only [List.size_toArray, refs_len]) (st_isz (refs_len _) wr35_isz53) (refs_one (x := ((⟨[], [], [], zid, []⟩, ⟨.slice none 0 0, .slice none 0 0, .slice none 0 0⟩) : RefsV)) rfl rfl rfl) fun w35 hb36 hg37 hs38 => ?_)))))
  have hE := row_fresh hE hg37 (Nat.le_trans hz18 (by omega))
  have hb8 := kb hg37 hb8 (by omega)
  have hA16 := row_fresh hA16 hg37 (Nat.le_trans (Nat.le_refl _) (by omega))
  clear hb20
  have hb20 : w35.heap[n10]? = some (.cells (refsC ((⟨[], [], [], zid, []⟩, ⟨.slice none 0 0, .slice none 0 0, .slice none 0 0⟩) : RefsV)).toArray 53 (0, 0)) := hb36; clear hb36
  have hl39 := bl hb20
  refine oA rfl (oZ (tN (hK34 _ _ (wpF_ret (thenF_ret (postF_ret (fn := Tryd.f26) _ rfl [.agg (refsC ((⟨[], [], [], zid, []⟩, ⟨.slice none 0 0, .slice none 0 0, .slice none 0 0⟩) : RefsV)).toArray, NI 1] (.tuple #[.agg (refsC ((⟨[], [], [], zid, []⟩, ⟨.slice none 0 0, .slice none 0 0, .slice none 0 0⟩) : RefsV)).toArray, NI 1]) rfl ⟨ResF.row rfl hb20 (wr35_ty53).choose_spec rfl (st_isz (refs_len _) wr35_isz53), rfl, trivial⟩ ?_))))))
  have hAp := applyP_bad (l := l) h0c
  exact ⟨⟨.slice none 0 0, .slice none 0 0, .slice none 0 0⟩, by rw [hAp], by rw [hAp]; exact ⟨OG.nil _ _ _ _ _, OG.nil _ _ _ _ _, OG.nil _ _ _ _ _⟩, hE⟩
 subst hbb33
 have h0c : ((!rightF z0.1) || (!noteB note)) = false := hc0
 have hrt : rightF z0.1 = true := by simp only [Bool.or_eq_false_iff, Bool.not_eq_false'] at h0c; exact h0c.1
 have hS0 := rightF_sorted hrt
 have hlg := (rightF_lists hrt).2.2
 have hb0 := hS0.bl
 have ht0 := hS0.tl
 refine wpF_skip (tN (hK22 _ _ (sk fun K40 hK40 => ?_)))
 refine wpF_draw_cut 9 [Is (PQ n2 0), Is (z0.2.branches), fun z' w' => OG w.heap.size 70 33 nmdC w' z' (z0.1.branches), Is (PQ n2 1), Is (z0.2.tags), fun z' w' => OG w.heap.size 70 33 nmdC w' z' (z0.1.tags), Is (PQ n2 35), Is (z0.2.log), fun z' w' => OG w.heap.size 122 67 entC w' z' (z0.1.log)] (by kernel_rfl) [22, 23, 24, 25, 26, 27, 28, 29, 30, 31, 32, 33] (by kernel_rfl) (by kernel_rfl) (by kernel_rfl) (by kernel_rfl) rfl rfl (si2 ⟨(fun _ _ _ h k => OG.keep h k), (si2 ⟨(fun _ _ _ h k => OG.keep h k), (si2 ⟨(fun _ _ _ h k => OG.keep h k), trivial⟩)⟩)⟩) ?hs1003 ?hQ1003
 case hs1003 =>
  refine ⟨?_, ?_, ?_, ?_, ?_, ?_, ?_, ?_, ?_, ?_, ?_, ?_, ?_, ?_, ?_, trivial⟩
  ·refine stepFC (stepN rfl fun σ w1 hC h => ?_)
   have e3 : σ 3 = PQ n2 0 := (eqo (h 3 (by decide))).trans rfl
   exact Yk.fieldAt wr35_fo53_0 e3 ⟨Ext.refl _, rfl⟩
  ·refine stepFC (stepN rfl fun σ w1 hC h => ?_)
   have e22 := eqo (h 22 (by decide))
   exact Yk.cell1 wr35_ty51 rfl e22 (cellAt (eb hC hb8) (show (refsC z0)[0]? = some (z0.2.branches : Value) from refs_g0 z0)) ⟨Ext.refl _, rfl⟩
  ·refine stepFC (stepN rfl fun σ w1 hC h => ?_)
   have e23 := eqo (h 23 (by decide))
   refine Yk.callA1 wr35_pl74 e23 ((cloneNmd_any _ z0.2.branches (z0.1.branches) (hmt.keep (hE.trans hC)) (by have := hb0; omega)).mono ?_)
   rintro e w2 ⟨v, rfl, ho, hx⟩
   exact ⟨_, rfl, hx, OG.low ho (Nat.le_trans hE.size hC.size)⟩
  ·refine stepFC (stepN rfl fun σ w1 hC h => ?_)
   have e3 : σ 3 = PQ n2 0 := (eqo (h 3 (by decide))).trans rfl
   exact Yk.fieldAt wr35_fo53_1 e3 ⟨Ext.refl _, rfl⟩
  ·refine stepFC (stepN rfl fun σ w1 hC h => ?_)
   have e25 := eqo (h 25 (by decide))
   exact Yk.cell1 wr35_ty51 rfl e25 (cellAt (eb hC hb8) (show (refsC z0)[1]? = some (z0.2.tags : Value) from refs_g1 z0)) ⟨Ext.refl _, rfl⟩
  ·refine stepFC (stepN rfl fun σ w1 hC h => ?_)
   have e26 := eqo (h 26 (by decide))
   refine Yk.callA1 wr35_pl74 e26 ((cloneNmd_any _ z0.2.tags (z0.1.tags) (hmg.keep (hE.trans hC)) (by have := ht0; omega)).mono ?_)
   rintro e w2 ⟨v, rfl, ho, hx⟩
   exact ⟨_, rfl, hx, OG.low ho (Nat.le_trans hE.size hC.size)⟩
  ·refine stepFC (stepN rfl fun σ w1 hC h => ?_)
   have e3 : σ 3 = PQ n2 0 := (eqo (h 3 (by decide))).trans rfl
   exact Yk.fieldAt wr35_fo53_4 e3 ⟨Ext.refl _, rfl⟩
  ·refine stepFC (stepN rfl fun σ w1 hC h => ?_)
   have e28 := eqo (h 28 (by decide))
   exact Yk.cell1 wr35_ty47 rfl e28 (cellAt (eb hC hb8) (show (refsC z0)[35]? = some (z0.2.log : Value) from refs_g4 z0)) ⟨Ext.refl _, rfl⟩
  ·refine stepFC (stepN rfl fun σ w1 hC h => ?_)
   have e29 := eqo (h 29 (by decide))
   refine Yk.callA1 wr35_pl75 e29 ((cloneEnt_any _ z0.2.log (z0.1.log) (hml.keep (hE.trans hC)) (by have := hlg; omega)).mono ?_)
   rintro e w2 ⟨v, rfl, ho, hx⟩
   exact ⟨_, rfl, hx, OG.low ho (Nat.le_trans hE.size hC.size)⟩
  ·exact trivial
  ·exact trivial
  ·exact trivial
  ·exact trivial
  ·exact trivial
  ·exact trivial
 intro ρ41 w42 hx43 he hf
 obtain ⟨-, -, k24, -, -, k27, -, -, k30, -⟩ := hf
 obtain ⟨T0, T1, T2, T3, T6, T7, -⟩ := he.hold [(0, _), (1, _), (2, _), (3, PQ n2 0), (6, PQ n10 0), (7, NI 0)] ⟨T0, T1, T2, rfl, rfl, rfl, trivial⟩ rfl
 clear he
 have hE := hE.trans hx43
 have hb8 := eb hx43 hb8
 have hA16 := hA16.trans hx43
 have hb20 := eb hx43 hb20
 have k24 : (fun z' w' => OG w.heap.size 70 33 nmdC w' z' (z0.1.branches)) (ρ41 24) w42 := k24
 obtain ⟨v44, T24⟩ : ∃ v, ρ41 24 = v := ⟨_, rfl⟩
 rw [T24] at k24
 have hk45 := k24; clear k24
 have hap46 := OG.off hk45 hb8 (by decide)
 have hap47 := OG.off hk45 hb20 (by decide)
 have k27 : (fun z' w' => OG w.heap.size 70 33 nmdC w' z' (z0.1.tags)) (ρ41 27) w42 := k27
 obtain ⟨v48, T27⟩ : ∃ v, ρ41 27 = v := ⟨_, rfl⟩
 rw [T27] at k27
 have hk49 := k27; clear k27
 have hap50 := OG.off hk49 hb8 (by decide)
 have hap51 := OG.off hk49 hb20 (by decide)
 have k30 : (fun z' w' => OG w.heap.size 122 67 entC w' z' (z0.1.log)) (ρ41 30) w42 := k30
 obtain ⟨v52, T30⟩ : ∃ v, ρ41 30 = v := ⟨_, rfl⟩
 rw [T30] at k30
 have hk53 := k30; clear k30
 have hap54 := OG.off hk53 hb8 (by decide)
 have hap55 := OG.off hk53 hb20 (by decide)
 refine oS rfl (Yk.fieldAt wr35_fo53_0 T3 (oS rfl (Yk.storeC (i := 0) (v := v44) (vr (PQ n2 0) rfl) T24 hb8 (by rw [refs_len]; decide) wr35_isz51 (RG.one (RG.ofOwn hk45)).1 (RG.one (RG.ofOwn hk45)).2 fun w56 hb57 hg58 hs59 => ?_)))
 have hE := row_fresh hE hg58 (Nat.le_trans (Nat.le_refl _) (by omega))
 clear hA16
 have hb20 := kb hg58 hb20 (by omega)
 have hk45 := OG.kept hk45 hg58 hap46
 have hk49 := OG.kept hk49 hg58 hap50
 have hk53 := OG.kept hk53 hg58 hap54
 clear hb8
 have hb8 : w56.heap[n2]? = some (.cells (refsC ((⟨z0.1.branches, z0.1.tags, z0.1.head, z0.1.at_, z0.1.log⟩, ⟨v44, z0.2.tags, z0.2.log⟩) : RefsV)).toArray 53 (0, 0)) := blk_eq hb57 (refs_s0 z0 v44 (z0.1.branches)); clear hb57
 have hl60 := bl hb8
 refine oS rfl (Yk.fieldAt wr35_fo53_1 T3 (oS rfl (Yk.storeC (i := 1) (v := v48) (vr (PQ n2 1) rfl) T27 hb8 (by rw [refs_len]; decide) wr35_isz51 (RG.one (RG.ofOwn hk49)).1 (RG.one (RG.ofOwn hk49)).2 fun w61 hb62 hg63 hs64 => ?_)))
 have hE := row_fresh hE hg63 (Nat.le_trans (Nat.le_refl _) (by omega))
 have hb20 := kb hg63 hb20 (by omega)
 have hk45 := OG.kept hk45 hg63 hap46
 have hk49 := OG.kept hk49 hg63 hap50
 have hk53 := OG.kept hk53 hg63 hap54
 clear hb8
 have hb8 : w61.heap[n2]? = some (.cells (refsC ((⟨z0.1.branches, z0.1.tags, z0.1.head, z0.1.at_, z0.1.log⟩, ⟨v44, v48, z0.2.log⟩) : RefsV)).toArray 53 (0, 0)) := blk_eq hb62 (refs_s1 ((⟨z0.1.branches, z0.1.tags, z0.1.head, z0.1.at_, z0.1.log⟩, ⟨v44, z0.2.tags, z0.2.log⟩) : RefsV) v48 (z0.1.tags)); clear hb62
 have hl65 := bl hb8
 refine oS rfl (Yk.fieldAt wr35_fo53_4 T3 (oS rfl (Yk.storeC (i := 35) (v := v52) (vr (PQ n2 35) rfl) T30 hb8 (by rw [refs_len]; decide) wr35_isz47 (RG.one (RG.ofOwn hk53)).1 (RG.one (RG.ofOwn hk53)).2 fun w66 hb67 hg68 hs69 => ?_)))
 have hE := row_fresh hE hg68 (Nat.le_trans (Nat.le_refl _) (by omega))
 have hb20 := kb hg68 hb20 (by omega)
 have hk45 := OG.kept hk45 hg68 hap46
 have hk49 := OG.kept hk49 hg68 hap50
 have hk53 := OG.kept hk53 hg68 hap54
 clear hb8
 have hb8 : w66.heap[n2]? = some (.cells (refsC ((⟨z0.1.branches, z0.1.tags, z0.1.head, z0.1.at_, z0.1.log⟩, ⟨v44, v48, v52⟩) : RefsV)).toArray 53 (0, 0)) := blk_eq hb67 (refs_s4 ((⟨z0.1.branches, z0.1.tags, z0.1.head, z0.1.at_, z0.1.log⟩, ⟨v44, v48, z0.2.log⟩) : RefsV) v52 (z0.1.log)); clear hb67
 have hl70 := bl hb8
 refine oZ (tN (hK40 _ _ (sk fun K71 hK71 => (wt (oS rfl (Yk.callA0 wr35_pl76  ((fkinds_any _).mono ?_)))))))
 rintro e w73 ⟨gm, rfl, hmp, hgm, hx72⟩
 refine ⟨_, rfl, ?_⟩
 have hlt74 : n10 < gm := Nat.lt_of_lt_of_le (bl hb20) hgm
 have hlt75 : n2 < gm := Nat.lt_of_lt_of_le (bl hb8) hgm
 have hE := hE.trans hx72
 have hb20 := eb hx72 hb20
 have hk45 := hk45.keep hx72
 have hk49 := hk49.keep hx72
 have hk53 := hk53.keep hx72
 have hb8 := eb hx72 hb8
 have hgl : gm < w73.heap.size := hmp.lt
 refine oA rfl (oZ (tN (hK71 _ _ (sk fun K76 hK76 => (sk fun K77 hK77 => (wt (oM rfl (oS rfl (Yk.lenRG wr35_ty22 (RG.of (hr.keep hE) T1) (oM rfl (oL_ [(0, .agg (refsC z0).toArray), (1, lv), (2, St (note)), (3, PQ n2 0), (6, PQ n10 0), (7, NI 0), (8, .map (some gm)), (35, lv), (36, NI l.length), (37, NI 0)] ⟨T0, T1, T2, T3, T6, T7, rfl, T1, rfl, rfl, trivial⟩ fun ρ78 ⟨T0, T1, T2, T3, T6, T7, T8, T35, T36, T37, _⟩ => ?_)))))))))))
 have ho79 : OG w.heap.size 70 33 nmdC w73 v44 (z0.1.branches) := hk45
 have ho80 : OG w.heap.size 70 33 nmdC w73 v48 (z0.1.tags) := hk49
 have ho81 : OG w.heap.size 122 67 entC w73 v52 (z0.1.log) := hk53
 have hP : AppAt w w73 n2 ((⟨z0.1.branches, z0.1.tags, z0.1.head, z0.1.at_, z0.1.log⟩, ⟨v44, v48, v52⟩) : RefsV) := ⟨hE, by omega, hb8, ho79, ho80, ho81, (OG.off ho79 hb8 (by decide)), (OG.off ho80 hb8 (by decide)), (OG.off ho81 hb8 (by decide)), OG.apart ho81 ho79 (by decide), OG.apart ho81 ho80 (by decide)⟩
 refine tN (hK77 _ _ (wpF_block (wpF_loop (fun (ρ : Slots) (wz : World) => ∃ i : Nat, ∃ z : RefsV, ρ 0 = (.agg (refsC z0).toArray : Value) ∧ ρ 1 = (lv : Value) ∧ ρ 2 = (St (note) : Value) ∧ ρ 3 = (PQ n2 0 : Value) ∧ ρ 6 = (PQ n10 0 : Value) ∧ ρ 8 = (.map (some gm) : Value) ∧ ρ 35 = (lv : Value) ∧ ρ 36 = (NI l.length : Value) ∧ ρ 37 = (NI i : Value) ∧ Ext w wz ∧ wz.heap[n10]? = some (.cells (refsC ((⟨[], [], [], zid, []⟩, ⟨.slice none 0 0, .slice none 0 0, .slice none 0 0⟩) : RefsV)).toArray 53 (0, 0)) ∧ MapF B8 fnV (fun _ : UInt8 => True) wz gm doG ∧ AppAt w wz n2 z ∧ (i ≤ l.length) ∧ (runP note z0.1 l = runP note z.1 (l.drop i)) ∧ (Sorted z.1) ∧ (z.1.log.length ≤ 64 + i) ∧ True) (fun ρ _ => l.length - (intOf (ρ 37)).toNat) ⟨0, ((⟨z0.1.branches, z0.1.tags, z0.1.head, z0.1.at_, z0.1.log⟩, ⟨v44, v48, v52⟩) : RefsV), T0, T1, T2, T3, T6, T8, T35, T36, T37, hE, hb20, hmp, hP, Nat.zero_le _, rfl, ⟨hS0.br, hS0.tg, hS0.bl, hS0.tl⟩, (show z0.1.log.length ≤ 64 + 0 by omega), trivial⟩ ?_)))
 clear hk45
 clear hk49
 clear hk53
 clear hb8
 clear hP
 clear hE hb20 hmp
 rintro ρ82 w83 ⟨i, z, T0, T1, T2, T3, T6, T8, T35, T36, T37, hE, hb20, hmp, hQ, hi, hrun, hS, hlog, -⟩
 have q37 := T37
 refine sk fun K84 hK84 => (wt (oS rfl (Yk.eqI (a := (i : Nat)) (b := (l.length : Nat)) T37 T36 (k_lss _ _ _ _) (oZ (tN (hK84 _ _ (sk fun K85 hK85 => ?_)))))))
 refine wpF_cond ((i) < (l.length)) (vr (.bool (decide ((i) < (l.length)))) rfl) (fun hc1 => ?_) (fun hc1 => ?_)
 ·have hlt : i < l.length := hc1
  refine wpF_skip (tN (hK85 _ _ (sk fun K86 hK86 => (wpF_block (sk fun K87 hK87 => (wt ?_))))))
  have hl90 : (updC (l.getD (i) dUpd)).length = 66 := (RG.elem (hr.keep hE) dUpd (by omega))
  refine oS rfl (Yk.atRG wr35_ty22 wr35_szg67 (by decide) dUpd (RG.of (hr.keep hE) T35) T37 (by omega) fun v88 hp89 => (oS rfl (Yk.loadPR (PR.of hp89 (vr v88 rfl)) (wr35_ty67).choose_spec rfl (by rw [upd_len]; exact wr35_isz67) (oS rfl (Yk.alloc (cs := (updC (⟨0, [], zid, zid⟩ : Upd)).toArray) wr35_al67 fun n91 w92 hn93 hb94 hx95 hs96 => ?_)))))
  have hA97 := Ext.refl w83
  have hea98 := hE
  have hz99 := hE.size
  have hlt100 := lte (bl hb20) hn93
  have hlt101 := lte hmp.lt hn93
  have hE := hE.trans hx95
  have hb20 := eb hx95 hb20
  have hmp := hmp.keep hx95
  have hA97 := hA97.trans hx95
  have hb102 := hb94; clear hb94
  have hl103 : n91 < w92.heap.size := by omega
  refine oS rfl (Yk.storeAll (vr (PQ n91 0) rfl) (vr (.agg (updC (l.getD (i) dUpd)).toArray) rfl) hb102 (by simp only [List.size_toArray, upd_len]) (st_isz (upd_len _) wr35_isz67) (upd_one (x := (l.getD (i) dUpd))) fun w104 hb105 hg106 hs107 => ?_)
  have hE := row_fresh hE hg106 (Nat.le_trans hz99 (by omega))
  have hb20 := kb hg106 hb20 (by omega)
  have hmp := MapF.other hmp hg106 (some_ne (by omega))
  have hA97 := row_fresh hA97 hg106 (Nat.le_trans (Nat.le_refl _) (by omega))
  clear hb102
  have hb102 : w104.heap[n91]? = some (.cells (updC (l.getD (i) dUpd)).toArray 67 (0, 0)) := hb105; clear hb105
  have hl108 := bl hb102
  refine oZ ?_
  clear hp89
  refine tN (hK87 _ _ (sk fun K109 hK109 => (sk fun K110 hK110 => (wt (oS rfl (Yk.loadAll (vr (PQ n91 0) rfl) hb102 (wr35_ty67).choose_spec rfl (st_isz (upd_len (l.getD (i) dUpd)) wr35_isz67) (oS rfl (Yk.callA1 wr35_pl77 (vr (.agg (updC (l.getD (i) dUpd)).toArray) rfl) ((update_any _ (l.getD i dUpd) (hln _ (getD_mem dUpd hlt))).mono ?_)))))))))
  rintro e w112 ⟨rfl, hx111⟩
  refine ⟨_, rfl, ?_⟩
  have hE := hE.trans hx111
  have hb20 := eb hx111 hb20
  have hmp := hmp.keep hx111
  have hA97 := hA97.trans hx111
  have hb102 := eb hx111 hb102
  refine oA rfl (oZ (tN (hK110 _ _ (sk fun K113 hK113 => (wt (oM rfl (oS rfl (Yk.eqI (a := (updErr (l.getD i dUpd) : Nat)) (b := (0 : Nat)) rfl rfl (k_neq _ _ _ _) (oZ (tN (hK113 _ _ ?_)))))))))))
  refine wpF_cond ((updErr (l.getD i dUpd) : Nat) ≠ (0)) (vr (.bool (decide ((updErr (l.getD i dUpd) : Nat) ≠ (0)))) rfl) (fun hc2 => ?_) (fun hc2 => ?_)
  ·have hU : updErr (l.getD i dUpd) ≠ 0 := hc2
   refine sk fun K114 hK114 => (wt (oS rfl (Yk.run (v := .agg (refsC ((⟨[], [], [], zid, []⟩, ⟨.slice none 0 0, .slice none 0 0, .slice none 0 0⟩) : RefsV)).toArray) (by kernel_rfl) (oM rfl (oS rfl (Yk.storeAll T6 (vr (.agg (refsC ((⟨[], [], [], zid, []⟩, ⟨.slice none 0 0, .slice none 0 0, .slice none 0 0⟩) : RefsV)).toArray) rfl) hb20 (by simp only [List.size_toArray, refs_len]) (st_isz (refs_len _) wr35_isz53) (refs_one (x := ((⟨[], [], [], zid, []⟩, ⟨.slice none 0 0, .slice none 0 0, .slice none 0 0⟩) : RefsV)) rfl rfl rfl) fun w115 hb116 hg117 hs118 => ?_))))))
   have hE := row_fresh hE hg117 (Nat.le_trans hz18 (by omega))
   have hmp := MapF.other hmp hg117 (some_ne (by omega))
   clear hA97
   have hb102 := kb hg117 hb102 (by omega)
   clear hb20
   have hb20 : w115.heap[n10]? = some (.cells (refsC ((⟨[], [], [], zid, []⟩, ⟨.slice none 0 0, .slice none 0 0, .slice none 0 0⟩) : RefsV)).toArray 53 (0, 0)) := hb116; clear hb116
   have hl119 := bl hb20
   refine oA rfl (oZ (tN (hK114 _ _ (wpF_ret (thenF_ret (inBlockF_ret (thenF_ret (thenF_ret (inBlockF_ret (thenF_ret (postF_ret (fn := Tryd.f26) _ rfl [.agg (refsC ((⟨[], [], [], zid, []⟩, ⟨.slice none 0 0, .slice none 0 0, .slice none 0 0⟩) : RefsV)).toArray, NI (updErr (l.getD i dUpd))] (.tuple #[.agg (refsC ((⟨[], [], [], zid, []⟩, ⟨.slice none 0 0, .slice none 0 0, .slice none 0 0⟩) : RefsV)).toArray, NI (updErr (l.getD i dUpd))]) rfl ⟨ResF.row T6 hb20 (wr35_ty53).choose_spec rfl (st_isz (refs_len _) wr35_isz53), rfl, trivial⟩ ?_)))))))))))
   have hAp := applyP_err h0c (hrun.trans (runP_err1 hlt hU)) hU
   exact ⟨⟨.slice none 0 0, .slice none 0 0, .slice none 0 0⟩, by rw [hAp], by rw [hAp]; exact ⟨OG.nil _ _ _ _ _, OG.nil _ _ _ _ _, OG.nil _ _ _ _ _⟩, hE⟩
  have hU : updErr (l.getD i dUpd) = 0 := by simpa using hc2
  obtain ⟨f, hF⟩ := doG_some (updErr_kind hU)
  refine wpF_skip (tN (hK109 _ _ (sk fun K120 hK120 => (sk fun K121 hK121 => (wt (oM rfl (oS rfl (Yk.fieldAt wr35_fo67_0 (vr (PQ n91 0) rfl) (oS rfl (Yk.cell1 wr35_ty5 rfl (vr (PQ n91 0) rfl) (cellAt hb102 (show (updC (l.getD (i) dUpd))[0]? = some (B8 (((l.getD (i) dUpd)).kind) : Value) from upd_g0 (l.getD (i) dUpd))) (oS rfl (Yk.lookMS (ek := B8) (ev := fnV) (D := fun _ : UInt8 => True) u8Law u8_ok (fun _ _ => b8_inj) wr35_ty125 (z := Value.nilFunc) zeroFn T8 (vr (B8 (((l.getD (i) dUpd)).kind)) rfl) hmp trivial hF (oS rfl (Yk.loadAll (vr (PQ n91 0) rfl) hb102 (wr35_ty67).choose_spec rfl (st_isz (upd_len (l.getD (i) dUpd)) wr35_isz67) (oS rfl (Yk.clo (plain_do hF) (caps := #[]) (vr (fnV f) rfl) #[PQ n2 0, .agg (updC (l.getD (i) dUpd)).toArray] (by simp only [List.map_toArray, List.map_cons, List.map_nil, List.append_toArray, List.cons_append, List.nil_append]; exact congrArg List.toArray (list2 T3 (vr (.agg (updC (l.getD (i) dUpd)).toArray) rfl))) ((do_any w _ n2 z (hQ.keep hA97) hS (l.getD i dUpd) hF).mono ?_)))))))))))))))))
  rintro e w123 ⟨z1, ⟨rfl, hz1⟩, hR, hl1, hg1⟩
  refine ⟨_, rfl, ?_⟩
  have hE := row_fresh hE hg1 (Nat.le_trans (Nat.le_refl _) (by omega))
  have hb20 := kb hg1 hb20 (by omega)
  have hmp := MapF.other hmp hg1 (some_ne (by omega))
  clear hA97
  have hb102 := kb hg1 hb102 (by omega)
  refine oA rfl (oZ ?_)
  have hb124 := hR.blk
  have ho125 := hR.br
  have ho126 := hR.tg
  have ho127 := hR.lg
  have hap128 := OG.off ho125 hb20 (by decide)
  have hap129 := OG.off ho126 hb20 (by decide)
  have hap130 := OG.off ho127 hb20 (by decide)
  have hap131 := OG.offMap ho127 hmp
  have hap132 := OG.off ho125 hb102 (by decide)
  have hap133 := OG.off ho126 hb102 (by decide)
  have hap134 := OG.off ho127 hb102 (by decide)
  have hap135 := OG.off ho125 hb124 (by decide)
  have hap136 := OG.off ho126 hb124 (by decide)
  have hap137 := OG.off ho127 hb124 (by decide)
  have hap138 := OG.apart ho127 ho125 (by decide)
  have hap139 := OG.apart ho127 ho126 (by decide)
  clear hR
  refine tN (hK121 _ _ (sk fun K140 hK140 => (wt (oM rfl (oS rfl (Yk.eqI (a := ((doP z.1 (l.getD i dUpd)).1 : Nat)) (b := (0 : Nat)) rfl rfl (k_neq _ _ _ _) (oZ (tN (hK140 _ _ ?_)))))))))
  refine wpF_cond (((doP z.1 (l.getD i dUpd)).1 : Nat) ≠ (0)) (vr (.bool (decide (((doP z.1 (l.getD i dUpd)).1 : Nat) ≠ (0)))) rfl) (fun hc3 => ?_) (fun hc3 => ?_)
  ·have hD : (doP z.1 (l.getD i dUpd)).1 ≠ 0 := hc3
   refine sk fun K141 hK141 => (wt (oS rfl (Yk.run (v := .agg (refsC ((⟨[], [], [], zid, []⟩, ⟨.slice none 0 0, .slice none 0 0, .slice none 0 0⟩) : RefsV)).toArray) (by kernel_rfl) (oM rfl (oS rfl (Yk.storeAll T6 (vr (.agg (refsC ((⟨[], [], [], zid, []⟩, ⟨.slice none 0 0, .slice none 0 0, .slice none 0 0⟩) : RefsV)).toArray) rfl) hb20 (by simp only [List.size_toArray, refs_len]) (st_isz (refs_len _) wr35_isz53) (refs_one (x := ((⟨[], [], [], zid, []⟩, ⟨.slice none 0 0, .slice none 0 0, .slice none 0 0⟩) : RefsV)) rfl rfl rfl) fun w142 hb143 hg144 hs145 => ?_))))))
   have hE := row_fresh hE hg144 (Nat.le_trans hz18 (by omega))
   have hmp := MapF.other hmp hg144 (some_ne (by omega))
   have hb102 := kb hg144 hb102 (by omega)
   have hb124 := kb hg144 hb124 (by omega)
   have ho125 := OG.kept ho125 hg144 hap128
   have ho126 := OG.kept ho126 hg144 hap129
   have ho127 := OG.kept ho127 hg144 hap130
   clear hb20
   have hb20 : w142.heap[n10]? = some (.cells (refsC ((⟨[], [], [], zid, []⟩, ⟨.slice none 0 0, .slice none 0 0, .slice none 0 0⟩) : RefsV)).toArray 53 (0, 0)) := hb143; clear hb143
   have hl146 := bl hb20
   refine oA rfl (oZ (tN (hK141 _ _ (wpF_ret (thenF_ret (inBlockF_ret (thenF_ret (thenF_ret (inBlockF_ret (thenF_ret (postF_ret (fn := Tryd.f26) _ rfl [.agg (refsC ((⟨[], [], [], zid, []⟩, ⟨.slice none 0 0, .slice none 0 0, .slice none 0 0⟩) : RefsV)).toArray, NI ((doP z.1 (l.getD i dUpd)).1)] (.tuple #[.agg (refsC ((⟨[], [], [], zid, []⟩, ⟨.slice none 0 0, .slice none 0 0, .slice none 0 0⟩) : RefsV)).toArray, NI ((doP z.1 (l.getD i dUpd)).1)]) rfl ⟨ResF.row T6 hb20 (wr35_ty53).choose_spec rfl (st_isz (refs_len _) wr35_isz53), rfl, trivial⟩ ?_)))))))))))
   have hAp := applyP_err h0c (hrun.trans (runP_err2 hlt hU hD)) hD
   exact ⟨⟨.slice none 0 0, .slice none 0 0, .slice none 0 0⟩, by rw [hAp], by rw [hAp]; exact ⟨OG.nil _ _ _ _ _, OG.nil _ _ _ _ _, OG.nil _ _ _ _ _⟩, hE⟩
  have hD : (doP z.1 (l.getD i dUpd)).1 = 0 := by simpa using hc3
  refine wpF_skip (tN (hK120 _ _ (wt (oS rfl (Yk.fieldAt wr35_fo53_4 T3 (oS rfl (Yk.cell1 wr35_ty47 rfl (vr (PQ n2 35) rfl) (cellAt hb124 (show (refsC z1)[35]? = some (z1.2.log : Value) from refs_g4 z1)) (oS rfl (Yk.loadAll (vr (PQ n91 0) rfl) hb102 (wr35_ty67).choose_spec rfl (st_isz (upd_len (l.getD (i) dUpd)) wr35_isz67) (oM rfl (oS rfl (Yk.build2 (vr (.agg (updC (l.getD (i) dUpd)).toArray) rfl) T2 (fun w => (wr35_bdE _ (by rw [List.size_toArray]; exact upd_len _) _ w).trans (by rw [List.toList_toArray, entC_of])) (oS rfl (Yk.lit1G (a := (entOf (l.getD i dUpd) note)) (enc := entC) (vr (.agg (entC (entOf (l.getD i dUpd) note)).toArray) rfl) (ent_len _) wr35_lg47 fun v147 w148 hr149 hx150 => ?_))))))))))))))
  have hE := hE.trans hx150
  have hb20 := eb hx150 hb20
  have hmp := hmp.keep hx150
  have hb102 := eb hx150 hb102
  have hb124 := eb hx150 hb124
  have ho125 := ho125.keep hx150
  have ho126 := ho126.keep hx150
  have ho127 := ho127.keep hx150
  refine oS rfl (Yk.appendRG _ _ w.heap.size _ 104 wr35_ty47 wr35_ig122.choose_spec.1 wr35_ig122.choose_spec.2 wr35_ty47 (z1.1.log) ([(entOf (l.getD i dUpd) note)]) (OG.of ho127 (vr z1.2.log rfl)) (RG.of hr149 (vr v147 rfl)) (fun _ _ => ent_one) (by have h_ := congrArg (fun r => r.log.length) hz1; simp only [doP_log] at h_; simp only [List.length_cons, List.length_nil]; omega) (by have h_ := congrArg (fun r => r.log.length) hz1; simp only [doP_log] at h_; simp only [List.length_cons, List.length_nil]; omega) hE.size fun v151 w152 ho153 hg154 => ?_)
  have hg154 : Grew w148 w152 z1.2.log v151 := hg154
  have hap155 : OB v151 n10 := apart_grew hg154 hap130 (bl hb20)
  have hap156 : OB v151 gm := apart_grew hg154 hap131 hmp.lt
  have hap157 : OB v151 n91 := apart_grew hg154 hap134 (bl hb102)
  have hap158 : OB v151 n2 := apart_grew hg154 hap137 (bl hb124)
  have hap159 : ApartV v151 z1.2.branches := apartv_grew hg154 hap138 ho125.2
  have hap160 : ApartV z1.2.branches v151 := fun k h1 h2 => hap159 k h2 h1
  have hap161 : ApartV v151 z1.2.tags := apartv_grew hg154 hap139 ho126.2
  have hap162 : ApartV z1.2.tags v151 := fun k h1 h2 => hap161 k h2 h1
  have hE := ext_grew hE hg154 ho127.2 (Nat.le_refl _)
  have hb20 := blk_grew hb20 hg154 hap130
  have hmp := MapF.grew hmp hg154 hap131
  have hb102 := blk_grew hb102 hg154 hap134
  have hb124 := blk_grew hb124 hg154 hap137
  have ho125 := og_grew ho125 hg154 hap138
  have ho126 := og_grew ho126 hg154 hap139
  clear hr149
  clear ho127
  refine oS rfl (Yk.fieldAt wr35_fo53_4 T3 (oS rfl (Yk.storeC (i := 35) (v := v151) (vr (PQ n2 35) rfl) (vr v151 rfl) hb124 (by rw [refs_len]; decide) wr35_isz47 (RG.one (RG.ofOwn ho153)).1 (RG.one (RG.ofOwn ho153)).2 fun w163 hb164 hg165 hs166 => ?_)))
  have hE := row_fresh hE hg165 (Nat.le_trans (Nat.le_refl _) (by omega))
  have hb20 := kb hg165 hb20 (by omega)
  have hmp := MapF.other hmp hg165 (some_ne (by omega))
  have hb102 := kb hg165 hb102 (by omega)
  have ho125 := OG.kept ho125 hg165 hap135
  have ho126 := OG.kept ho126 hg165 hap136
  have ho153 := OG.kept ho153 hg165 hap158
  clear hb124
  have hb124 : w163.heap[n2]? = some (.cells (refsC ((⟨z1.1.branches, z1.1.tags, z1.1.head, z1.1.at_, (z1.1.log) ++ [(entOf (l.getD i dUpd) note)]⟩, ⟨z1.2.branches, z1.2.tags, v151⟩) : RefsV)).toArray 53 (0, 0)) := blk_eq hb164 (refs_s4 z1 v151 ((z1.1.log) ++ [(entOf (l.getD i dUpd) note)])); clear hb164
  have hl167 := bl hb124
  refine oZ (bN (tN (hK86 _ _ (wt (oS rfl (Yk.bin (xv := NI i) (yv := NI 1) T37 rfl rfl (i64_add _ _ _ (by omega)) (oM rfl (oL_ [(0, .agg (refsC z0).toArray), (1, lv), (2, St (note)), (3, PQ n2 0), (6, PQ n10 0), (8, .map (some gm)), (10, PQ n91 0), (11, NI (updErr (l.getD i dUpd))), (12, NI ((doP z.1 (l.getD i dUpd)).1)), (35, lv), (36, NI l.length), (37, NI ((i) + (1)))] ⟨T0, T1, T2, T3, T6, T8, rfl, rfl, rfl, T35, T36, rfl, trivial⟩ fun ρ168 ⟨T0, T1, T2, T3, T6, T8, T10, T11, T12, T35, T36, T37, _⟩ => ?_))))))))
  have ho169 : OG w.heap.size 70 33 nmdC w163 z1.2.branches (z1.1.branches) := ho125
  have ho170 : OG w.heap.size 70 33 nmdC w163 z1.2.tags (z1.1.tags) := ho126
  have ho171 : OG w.heap.size 122 67 entC w163 v151 ((z1.1.log) ++ [(entOf (l.getD i dUpd) note)]) := ho153
  have hP : AppAt w w163 n2 ((⟨z1.1.branches, z1.1.tags, z1.1.head, z1.1.at_, (z1.1.log) ++ [(entOf (l.getD i dUpd) note)]⟩, ⟨z1.2.branches, z1.2.tags, v151⟩) : RefsV) := ⟨hE, by omega, hb124, ho169, ho170, ho171, (OG.off ho169 hb124 (by decide)), (OG.off ho170 hb124 (by decide)), (OG.off ho171 hb124 (by decide)), OG.apart ho171 ho169 (by decide), OG.apart ho171 ho170 (by decide)⟩
  have hS2 : Sorted (addlog (doP z.1 (l.getD i dUpd)).2 (entOf (l.getD i dUpd) note)) := by have h_ := doP_sorted (y := (l.getD i dUpd)) hS; exact ⟨h_.br, h_.tg, h_.bl, h_.tl⟩
  have hlog2 : (addlog (doP z.1 (l.getD i dUpd)).2 (entOf (l.getD i dUpd) note)).log.length ≤ 64 + (i + 1) := by simp only [addlog, List.length_append, List.length_cons, List.length_nil, doP_log]; omega
  rw [← hz1] at hS2 hlog2
  refine tN (And.intro ⟨i + 1, ((⟨z1.1.branches, z1.1.tags, z1.1.head, z1.1.at_, (z1.1.log) ++ [(entOf (l.getD i dUpd) note)]⟩, ⟨z1.2.branches, z1.2.tags, v151⟩) : RefsV), T0, T1, T2, T3, T6, T8, T35, T36, T37, hE, hb20, hmp, hP, by omega, (hrun.trans (runP_next hlt hU hD)).trans (by rw [hz1]; rfl), hS2, hlog2, trivial⟩ ?_)
  show l.length - (intOf (ρ168 37)).toNat < l.length - (intOf (ρ82 37)).toNat
  rw [T37, q37]
  simp only [intOf, Int.toNat_natCast]; omega
 have hb172 := hQ.blk
 have ho173 := hQ.br
 have ho174 := hQ.tg
 have ho175 := hQ.lg
 have hap176 := OG.off ho173 hb20 (by decide)
 have hap177 := OG.off ho174 hb20 (by decide)
 have hap178 := OG.off ho175 hb20 (by decide)
 have hap179 := OG.offMap ho175 hmp
 have hap180 := OG.off ho173 hb172 (by decide)
 have hap181 := OG.off ho174 hb172 (by decide)
 have hap182 := OG.off ho175 hb172 (by decide)
 have hap183 := OG.apart ho175 ho173 (by decide)
 have hap184 := OG.apart ho175 ho174 (by decide)
 clear hQ
 refine wpF_exit (thenF_exit (thenF_exit (inBlockF_hit (tN (hK76 _ _ (sk fun K185 hK185 => (wt (oS rfl (Yk.fieldAt wr35_fo53_4 T3 (oS rfl (Yk.cell1 wr35_ty47 rfl (vr (PQ n2 35) rfl) (cellAt hb172 (show (refsC z)[35]? = some (z.2.log : Value) from refs_g4 z)) (oS rfl (Yk.fieldAt wr35_fo53_4 T3 (oS rfl (Yk.cell1 wr35_ty47 rfl (vr (PQ n2 35) rfl) (cellAt hb172 (show (refsC z)[35]? = some (z.2.log : Value) from refs_g4 z)) (oS rfl (Yk.lenRG wr35_ty47 (RG.of (RG.ofOwn ho175) (vr z.2.log rfl)) (oS rfl (Yk.bin (xv := .int .i64 ((((z.1.log).length : Nat) : Int))) (yv := .int .i64 (((64 : Nat) : Int))) rfl rfl rfl (zi_sub _ ((((z.1.log).length : Nat) : Int)) (((64 : Nat) : Int)) (by omega)) (oS rfl (Yk.maxNI (n := z.1.log.length) (m := 64) (vr (.int .i64 ((((((z.1.log).length : Nat) : Int)) - (((64 : Nat) : Int))) : Int)) rfl) (vr (NI 0) rfl) (oS rfl (Yk.sliceLoW wr35_ty47 wr35_szg122 (vr z.2.log rfl) (RG.ofOwn ho175) (vr (NI (z.1.log.length - 64)) rfl) (by omega) fun v186 hr187 ha188 => ?_)))))))))))))))))))))))
 have hz_ := hE.size
 refine oS rfl (Yk.callA1 wr35_pl75 (vr v186 rfl) ((cloneEnt_any _ v186 ((z.1.log).drop (z.1.log.length - 64)) hr187 (by rw [List.length_drop]; omega)).mono ?_))
 rintro e w192 ⟨v189, rfl, ho190, hx191⟩
 refine ⟨_, rfl, ?_⟩
 have hE := hE.trans hx191
 have hb20 := eb hx191 hb20
 have hmp := hmp.keep hx191
 have hb172 := eb hx191 hb172
 have ho173 := ho173.keep hx191
 have ho174 := ho174.keep hx191
 have ho175 := ho175.keep hx191
 have hr187 := hr187.keep hx191
 have ho190 := OG.low ho190 hz_
 have hap193 := OG.off ho190 hb172 (by decide)
 have hap194 := OG.off ho190 hb20 (by decide)
 refine oS rfl (Yk.fieldAt wr35_fo53_4 T3 (oS rfl (Yk.storeC (i := 35) (v := v189) (vr (PQ n2 35) rfl) (vr v189 rfl) hb172 (by rw [refs_len]; decide) wr35_isz47 (RG.one (RG.ofOwn ho190)).1 (RG.one (RG.ofOwn ho190)).2 fun w195 hb196 hg197 hs198 => ?_)))
 have hE := row_fresh hE hg197 (Nat.le_trans (Nat.le_refl _) (by omega))
 have hb20 := kb hg197 hb20 (by omega)
 have hmp := MapF.other hmp hg197 (some_ne (by omega))
 have ho173 := OG.kept ho173 hg197 hap180
 have ho174 := OG.kept ho174 hg197 hap181
 have ho175 := OG.kept ho175 hg197 hap182
 clear hr187
 have ho190 := OG.kept ho190 hg197 hap193
 clear hb172
 have hb172 : w195.heap[n2]? = some (.cells (refsC ((⟨z.1.branches, z.1.tags, z.1.head, z.1.at_, (z.1.log).drop (z.1.log.length - 64)⟩, ⟨z.2.branches, z.2.tags, v189⟩) : RefsV)).toArray 53 (0, 0)) := blk_eq hb196 (refs_s4 z v189 ((z.1.log).drop (z.1.log.length - 64))); clear hb196
 have hl199 := bl hb172
 refine oZ (tN (hK185 _ _ (sk fun K200 hK200 => (wt (oS rfl (Yk.loadAll T3 hb172 (wr35_ty53).choose_spec rfl (st_isz (refs_len ((⟨z.1.branches, z.1.tags, z.1.head, z.1.at_, (z.1.log).drop (z.1.log.length - 64)⟩, ⟨z.2.branches, z.2.tags, v189⟩) : RefsV)) wr35_isz53) (oS rfl (Yk.storeAll T6 (vr (.agg (refsC ((⟨z.1.branches, z.1.tags, z.1.head, z.1.at_, (z.1.log).drop (z.1.log.length - 64)⟩, ⟨z.2.branches, z.2.tags, v189⟩) : RefsV)).toArray) rfl) hb20 (by simp only [List.size_toArray, refs_len]) (st_isz (refs_len _) wr35_isz53) (refs_one (x := ((⟨z.1.branches, z.1.tags, z.1.head, z.1.at_, (z.1.log).drop (z.1.log.length - 64)⟩, ⟨z.2.branches, z.2.tags, v189⟩) : RefsV)) (RG.one (RG.ofOwn ho173)).2 (RG.one (RG.ofOwn ho174)).2 (RG.one (RG.ofOwn ho190)).2) fun w201 hb202 hg203 hs204 => ?_))))))))
 have hE := row_fresh hE hg203 (Nat.le_trans hz18 (by omega))
 have hmp := MapF.other hmp hg203 (some_ne (by omega))
 have ho173 := OG.kept ho173 hg203 hap176
 have ho174 := OG.kept ho174 hg203 hap177
 have ho175 := OG.kept ho175 hg203 hap178
 have ho190 := OG.kept ho190 hg203 hap194
 have hb172 := kb hg203 hb172 (by omega)
 clear hb20
 have hb20 : w201.heap[n10]? = some (.cells (refsC ((⟨z.1.branches, z.1.tags, z.1.head, z.1.at_, (z.1.log).drop (z.1.log.length - 64)⟩, ⟨z.2.branches, z.2.tags, v189⟩) : RefsV)).toArray 53 (0, 0)) := hb202; clear hb202
 have hl205 := bl hb20
 refine oA rfl (oZ (tN (hK200 _ _ (wpF_ret (postF_ret (fn := Tryd.f26) _ rfl [.agg (refsC ((⟨z.1.branches, z.1.tags, z.1.head, z.1.at_, (z.1.log).drop (z.1.log.length - 64)⟩, ⟨z.2.branches, z.2.tags, v189⟩) : RefsV)).toArray, NI 0] (.tuple #[.agg (refsC ((⟨z.1.branches, z.1.tags, z.1.head, z.1.at_, (z.1.log).drop (z.1.log.length - 64)⟩, ⟨z.2.branches, z.2.tags, v189⟩) : RefsV)).toArray, NI 0]) rfl ⟨ResF.row T6 hb20 (wr35_ty53).choose_spec rfl (st_isz (refs_len _) wr35_isz53), rfl, trivial⟩ ?_)))))
 have hAp := applyP_ok h0c (hrun.trans (runP_end (show l.length ≤ i by omega)))
 exact ⟨⟨z.2.branches, z.2.tags, v189⟩, by rw [hAp]; rfl, by rw [hAp]; exact ⟨ho173, ho174, ho190⟩, hE⟩
open Go.RowKit
section
variable {P : Program} {l : List Oper} {kill : Nat → List Nat} {C : Nat → World → Prop} {R : Nat → World → World → Prop} {Φ : Nat → Fact} {a0 : Act}
theorem tail_anyW {z : Nat} (g : Good l z) {k : Nat} (ht : ∀ i, k ≤ i → i < l.length → ∀ m, k ≤ m → m < i → ((masks l []).getD i 0).testBit m = true) {Q : Exit → Act → World → Prop} :
    ∀ (fuel m : Nat) (listed : Array Bool) (a : Act) (w : World), listed.size = l.length → (∀ i, On listed i ↔ i < m) → k ≤ m → m ≤ l.length → l.length ≤ m + fuel → wpList P l.toArray Q (l.drop m) a w → wpAny P .any l.toArray Q fuel listed a w := by
  have noReady : ∀ (m : Nat) (listed : Array Bool), listed.size = l.length → (∀ i, On listed i ↔ i < m) → l.length ≤ m → Region.ready .any l.toArray listed = [] := by
    intro m listed hsz hon hm
    cases hr : Region.ready .any l.toArray listed with
    | nil => rfl
    | cons x xs =>
      exfalso
      have hmem : x ∈ Region.ready .any l.toArray listed := by rw [hr]; simp
      obtain ⟨h1, o, ho, _⟩ := mem_ready.1 hmem
      have hx : x < l.length := by simpa using (Array.getElem?_eq_some_iff.1 ho).1
      have h2 := (hon x).2 (by omega)
      have hx' : x < listed.size := h2.lt
      unfold On at h2
      simp [hx'] at h1 h2
      rw [h1] at h2
      cases h2
  intro fuel
  induction fuel with
  | zero =>
    intro m listed a w hsz hon hk hm hf hw
    rw [List.drop_of_length_le (by omega)] at hw
    exact ⟨noReady m listed hsz hon (by omega), hw⟩
  | succ fuel ih =>
    intro m listed a w hsz hon hk hm hf hw
    by_cases hml : m = l.length
    · have hr := noReady m listed hsz hon (by omega)
      rw [List.drop_of_length_le (by omega)] at hw
      exact ⟨fun _ => hw, fun i hi => by rw [hr] at hi; cases hi⟩
    · have hlt : m < l.length := by omega
      have hoff : ¬ On listed m := fun x => by have := (hon m).1 x; omega
      have hI : Inv l (fun _ => []) (fun _ _ => True) (fun _ _ => True) (fun _ _ _ => True) a listed a w :=
        ⟨hsz, fun i o ho hi e he hb => (hon _).2 (by have := g.back i o ho e he hb; have := (hon i).1 hi; omega), rfl, rfl, fun _ _ _ => trivial, trivial, fun _ _ => rfl, fun _ _ _ _ _ _ _ _ => trivial⟩
      refine ⟨fun hr => ?_, fun i hi => ?_⟩
      · exfalso
        have ho : l[m]? = some l[m] := List.getElem?_eq_getElem hlt
        have : m ∈ Region.ready .any l.toArray listed := by
          refine mem_ready.2 ⟨?_, l[m], by rw [List.getElem?_toArray]; exact ho, fun e he hb => (hon _).2 (g.back m _ ho e he hb)⟩
          have hm' : m < listed.size := by omega
          unfold On at hoff
          simp [hm'] at hoff ⊢
          exact hoff
        rw [hr] at this
        cases this
      · obtain ⟨h1, o, ho, hall⟩ := mem_ready.1 hi
        have ho' : l[i]? = some o := by simpa using ho
        have hil : i < l.length := (List.getElem?_eq_some_iff.1 ho').1
        have hno : ¬ On listed i := fun x => by
          have hx : i < listed.size := by omega
          unfold On at x
          simp [hx] at h1 x
          rw [h1] at x
          cases x
        have him : i = m := by
          by_cases h2 : i < m
          · exact absurd ((hon i).2 h2) hno
          · by_cases h3 : i = m
            · exact h3
            · exact absurd (hI.maskReady ho' (fun e he hb => hall e he hb) (ht i (by omega) hil m hk (by omega))) hoff
        subst him
        rw [List.drop_eq_getElem_cons hlt] at hw
        obtain rfl : l[i] = o := by rw [List.getElem?_eq_getElem hlt] at ho'; exact Option.some.inj ho'
        have nxt : ∀ a' w', wpList P l.toArray Q (l.drop (i + 1)) a' w' → wpAny P .any l.toArray Q fuel (listed.setIfInBounds i true) a' w' := fun a' w' hw' =>
          ih (i + 1) _ a' w' (by simpa using hsz) (fun j => by rw [on_set (by omega), hon j]; omega) (by omega) (by omega) (by omega) hw'
        unfold wpOp
        simp only [List.getElem?_toArray, ho']
        unfold wpList at hw
        split at hw
        · rename_i hwt
          rw [if_pos hwt]
          exact hw.imp (fun h => Oper.wp_mono nxt h) (fun h => h)
        · rename_i hwt
          rw [if_neg hwt]
          exact nxt _ _ hw
end
def freeE (l : List Oper) (oe : Oper) (e : Nat) : Bool :=
  (List.range l.length).all fun j => match l[j]? with
    | some o => Nat.beq j e || (o.after.any (fun x => Region.binds .any x && x.on == e) || (oe.apart l.toArray o || ((masks l []).getD e 0).testBit j))
    | none => true
def tailE (l : List Oper) (k e : Nat) : Bool := Nat.blt e k && (List.range l.length).all fun i => Nat.blt i k || (List.range i).all fun m => Nat.beq m e || ((masks l []).getD i 0).testBit m
theorem tailE_iff {l : List Oper} {k e : Nat} (h : tailE l k e = true) : e < k ∧ ∀ i, k ≤ i → i < l.length → ∀ m, m < i → m ≠ e → ((masks l []).getD i 0).testBit m = true := by
  unfold tailE at h
  rw [Bool.and_eq_true] at h
  refine ⟨Nat.le_of_ble_eq_true h.1, fun i hi hl m hm hne => ?_⟩
  have h1 := List.all_eq_true.1 h.2 i (by simpa using hl)
  rcases Bool.or_eq_true _ _ ▸ h1 with h2 | h2
  · have := Nat.le_of_ble_eq_true h2
    omega
  · have h3 := List.all_eq_true.1 h2 m (by simpa using hm)
    rcases Bool.or_eq_true _ _ ▸ h3 with h4 | h4
    · exact absurd (Nat.eq_of_beq_eq_true h4) hne
    · exact h4
section
variable {P : Program} {l : List Oper} {Φ : Nat → Fact} {a0 : Act} {w0 : World} {Q : Exit → Act → World → Prop} {e k : Nat} {oe : Oper}
theorem extract_yields {dst : Option Tmp} {t : Tmp} {n : Nat} {ty : TypeId} {pos : String} {af : Array Edge} (he : l[e]? = some ⟨dst, .extract (.tmp t) n, ty, pos, af, none⟩) {K : Act → World → Prop} {a : Act} {w : World}
    (h : wpOp P l.toArray (fun _ _ _ => False) e K a w) : ∃ x, Yields P l.toArray ⟨dst, .extract (.tmp t) n, ty, pos, af, none⟩ x a ∧ K (a.put dst x) w := by
  unfold wpOp at h
  simp only [List.getElem?_toArray, he, Region.wanted, if_true] at h
  rcases h with h | ⟨-, -, -, h⟩
  · unfold Oper.wp at h
    have hr : ∀ v : Value, (∃ x, ∀ w : World, (Instr.extract v n).run P w = .ok x w) ∨ ∀ w : World, ∃ s, (Instr.extract v n).run P w = .halt (.stuck s) w := by
      intro v
      cases v with
      | tuple vs =>
        cases hx : vs[n]? with
        | some x => exact .inl ⟨x, fun w => by simp [Instr.extract, hx]⟩
        | none => exact .inr fun w => ⟨_, by simp only [Instr.extract, hx]; rfl⟩
      | _ => exact .inr fun w => ⟨_, by simp only [Instr.extract]; rfl⟩
    rcases hr (a.eval (.tmp t)) with ⟨x, hx⟩ | hx
    · have he : ∀ w : World, (execOp a.eval ⟨dst, .extract (.tmp t) n, ty, pos, af, none⟩).run P w = .ok (.value x) w := fun w => by
        unfold execOp
        simp only [Sem.run_bind, hx, Result.andThen_ok, Sem.run_pure]
      rw [he] at h
      exact ⟨x, .inl ⟨rfl, he⟩, h⟩
    · obtain ⟨s, hs⟩ := hx w
      have he : (execOp a.eval ⟨dst, .extract (.tmp t) n, ty, pos, af, none⟩).run P w = .halt (.stuck s) w := by
        unfold execOp
        simp only [Sem.run_bind, hs]
        rfl
      rw [he] at h
      exact h.elim
  · exact h.elim
theorem anyInvE (g : Good l a0.tmps.size) (hsel : Region.noSelect l.toArray = true) {d t : Tmp} {n : Nat} {ty : TypeId} {pos : String} {af : Array Edge} (he : l[e]? = some ⟨some d, .extract (.tmp t) n, ty, pos, af, none⟩)
    (hte : tailE l k e = true) (hfr : freeE l ⟨some d, .extract (.tmp t) n, ty, pos, af, none⟩ e = true) (hk : k ≤ l.length) (hst : ∀ i, Stab Ext (Φ i))
    (hs : ∀ i o, l[i]? = some o → i < k → StepOk P l (fun _ => Ext w0) (fun _ => Ext) Φ a0.tmps i o) (hQp : ∀ v c a w, Q (.panic c) (a.put (some d) v) w → Q (.panic c) a w)
    (hQ : ∀ listed a' w', (∀ i, On listed i ↔ i < k) → Inv l (fun _ => []) (fun _ => Ext w0) (fun _ _ => True) Φ a0 listed a' w' → wpList P l.toArray Q (l.drop k) a' w') :
    ∀ (fuel : Nat) (listed : Array Bool) (a : Act) (w : World), (listed.toList.filter (!·)).length = fuel → (∀ i, On listed i → i < k) → e ∉ Region.ready .any l.toArray listed → Inv l (fun _ => []) (fun _ => Ext w0) (fun _ _ => True) Φ a0 listed a w → wpAny P .any l.toArray Q fuel listed a w := by
  obtain ⟨hek, hte⟩ := tailE_iff hte
  have ht : ∀ i, k ≤ i → i < l.length → ∀ m, k ≤ m → m < i → ((masks l []).getD i 0).testBit m = true := fun i hi hl m hkm hm => hte i hi hl m hm (by omega)
  have hkl : killB l (fun _ => []) = true := by unfold killB; simp
  have hC : ∀ n m, n < l.length → m < l.length → n ≠ m → ((masks l []).getD n 0).testBit m = false → ∀ w w', Ext w0 w → Ext w w' → Ext w0 w' := fun _ _ _ _ _ _ _ _ hc hr => hc.trans hr
  have hE : ∀ n listed (w w' : World), n < l.length → listed.size = l.length → ¬ On listed n → (∀ i k, On listed i ∨ i = n → ((masks l []).getD i 0).testBit k = true → On listed k) → True → Ext w w' → True := fun _ _ _ _ _ _ _ _ _ _ => trivial
  have hΦ : ∀ n i, n < l.length → i < l.length → i ∉ ([] : List Nat) → i ≠ n → ((masks l []).getD i 0).testBit n = false → ∀ v w w', Φ i v w → Ext w w' → Φ i v w' := fun _ i _ _ _ _ _ v w w' => hst i v w w'
  have hRr : ∀ (n : Nat) o (w : World), l[n]? = some o → o.guard.isSome = true → Ext w w := fun _ _ w _ _ => Ext.refl w
  intro fuel
  induction fuel using Nat.strongRecOn with
  | _ fuel ih =>
  intro listed a w hf hoff hre h
  by_cases hfull : ∀ i, i < k → On listed i
  · have hon : ∀ i, On listed i ↔ i < k := fun i => ⟨hoff i, hfull i⟩
    refine tail_anyW g ht fuel k listed a w h.size hon (Nat.le_refl _) hk ?_ (hQ listed a w hon h)
    have e1 := List.take_append_drop k listed.toList
    rw [← e1, List.filter_append, List.length_append] at hf
    have e2 : (listed.toList.drop k).filter (!·) = listed.toList.drop k := List.filter_eq_self.2 fun b hb => by
      obtain ⟨j, hj, rfl⟩ := List.getElem_of_mem hb
      rw [List.getElem_drop]
      have hno : ¬ On listed (k + j) := fun x => by have := hoff _ x; omega
      rw [List.length_drop] at hj
      have hlt : k + j < listed.size := by rw [← Array.length_toList]; omega
      unfold On at hno
      simp [hlt] at hno
      simp [hno]
    rw [e2, List.length_drop] at hf
    have hz : listed.toList.length = l.length := by rw [Array.length_toList]; exact h.size
    omega
  · have hunl : ∀ i, i < l.length → ¬ On listed i → listed.getD i true = false := fun i hi hno => by
      have hi' : i < listed.size := by rw [h.size]; exact hi
      unfold On at hno
      simp [hi'] at hno ⊢
      exact hno
    have hlow : ∃ j, j < k ∧ j ≠ e ∧ ¬ On listed j := by
      refine Classical.byContradiction fun hn => hfull fun i hi => Classical.byContradiction fun hx => ?_
      have hall : ∀ j, j < k → j ≠ e → On listed j := fun j hj hje => Classical.byContradiction fun hx => hn ⟨j, hj, hje, hx⟩
      have hie : i = e := Classical.byContradiction fun hne => hx (hall i hi hne)
      subst hie
      refine hre (mem_ready.2 ⟨hunl i (by omega) hx, _, by rw [List.getElem?_toArray]; exact he, fun x hxm hb => ?_⟩)
      have := g.back i _ he x hxm hb
      exact hall x.on (by omega) (by omega)
    obtain ⟨j0, hj0, hj0e, hoff0⟩ := hlow
    have hpos : ∀ (L : Array Bool) i, L.size = l.length → i < l.length → L.getD i true = false → ∃ m, (L.toList.filter (!·)).length = m + 1 ∧ ((L.setIfInBounds i true).toList.filter (!·)).length = m := fun L i hL hi hx => by
      have hi' : i < L.size := by omega
      have := count_set L.toList i (by simp [hi'] at hx; simp [hi', hx])
      exact ⟨_, this.symm, by rw [Array.toList_setIfInBounds]⟩
    obtain ⟨f0, hf0, -⟩ := hpos listed j0 h.size (by omega) (hunl j0 (by omega) hoff0)
    obtain rfl : fuel = f0 + 1 := by omega
    refine ⟨fun hr => ?_, fun i hi => ?_⟩
    · exfalso
      have full : ∀ i, i < l.length → On listed i := by
        intro i
        induction i using Nat.strongRecOn with
        | _ i ih2 =>
          intro hi
          refine Classical.byContradiction fun hno => ?_
          have ho : l[i]? = some l[i] := List.getElem?_eq_getElem hi
          have : i ∈ Region.ready .any l.toArray listed := mem_ready.2 ⟨hunl i hi hno, l[i], by rw [List.getElem?_toArray]; exact ho, fun x hx hb => by
            have hlt := g.back i _ ho x hx hb
            exact ih2 x.on hlt (by omega)⟩
          rw [hr] at this
          cases this
      exact hoff0 (full j0 (by omega))
    · have hie : i ≠ e := fun x => hre (x ▸ hi)
      obtain ⟨h1, o, ho, hall0⟩ := mem_ready.1 hi
      have ho' : l[i]? = some o := by simpa using ho
      have hilt : i < l.length := (List.getElem?_eq_some_iff.1 ho').1
      have hil : i < listed.size := by rw [h.size]; exact hilt
      have hno : ¬ On listed i := by
        unfold On
        simp [hil] at h1 ⊢
        exact h1
      have hall : ∀ x ∈ o.after, Region.binds .any x = true → On listed x.on := fun x hx hb => hall0 x hx hb
      have hik : i < k := by
        by_cases h2 : i < k
        · exact h2
        · exact absurd (h.maskReady ho' hall (hte i (by omega) hilt j0 (by omega) hj0e)) hoff0
      obtain ⟨f1, hf1, hcnt⟩ := hpos listed i h.size hilt h1
      obtain rfl : f1 = f0 := by omega
      refine h.step g hkl hC hE hΦ hRr ho' hno hall (hs i o ho' hik) fun a' w' h' => ?_
      have hoff' : ∀ j, On (listed.setIfInBounds i true) j → j < k := fun j hx => by
        rcases (on_set hil).1 hx with rfl | h3
        · exact hik
        · exact hoff j h3
      by_cases hre' : e ∈ Region.ready .any l.toArray (listed.setIfInBounds i true)
      · obtain ⟨q1, oe', hoe, hq⟩ := mem_ready.1 hre'
        have hoe' : l[e]? = some oe' := by simpa using hoe
        obtain rfl := Option.some.inj (he.symm.trans hoe')
        have helt : e < l.length := by omega
        have hel : e < (listed.setIfInBounds i true).size := by rw [h'.size]; exact helt
        have hnoe : ¬ On (listed.setIfInBounds i true) e := by
          unfold On
          rw [Array.getD_eq_getD_getElem?] at q1 ⊢
          rw [Array.getElem?_eq_getElem hel] at q1 ⊢
          simp only [Option.getD_some] at q1 ⊢
          rw [q1]
          decide
        have hw := h'.step g hkl hC hE hΦ hRr he hnoe (fun x hx hb => hq x hx hb) (hs e _ he hek) (K := fun a2 w2 => Inv l (fun _ => []) (fun _ => Ext w0) (fun _ _ => True) Φ a0 ((listed.setIfInBounds i true).setIfInBounds e true) a2 w2) (Q := fun _ _ _ => False) (fun _ _ hx => hx)
        obtain ⟨x, hy, hK⟩ := extract_yields he hw
        obtain ⟨f2, hf2, hcnt2⟩ := hpos _ e h'.size helt q1
        obtain rfl : f1 = f2 + 1 := by omega
        refine wpAny_first hoe (Region.noSelect_spec hsel) (hQp x) f2 _ a' w' (fun j oj hoj hje hjun hjno => ?_) hre' hy (ih f2 (by omega) _ _ _ hcnt2 (fun j hx => ?_) (fun hx => ?_) hK)
        · have hoj' : l[j]? = some oj := by simpa using hoj
          have hjl : j < l.length := (List.getElem?_eq_some_iff.1 hoj').1
          have hfj := List.all_eq_true.1 hfr j (by simpa using hjl)
          rw [hoj'] at hfj
          simp only [Bool.or_eq_true] at hfj
          rcases hfj with h3 | h3 | h3 | h3
          · exact absurd (Nat.eq_of_beq_eq_true h3) hje
          · obtain ⟨y, hy1, hy2⟩ := Array.any_eq_true'.1 h3
            simp only [Bool.and_eq_true, beq_iff_eq] at hy2
            exact absurd hy2.2 (hjno y hy1 hy2.1)
          · exact h3
          · have hon := h'.maskReady he (fun x hx hb => hq x hx hb) h3
            have hjl' := hon.lt
            unfold On at hon
            rw [Array.getD_eq_getD_getElem?, Array.getElem?_eq_getElem hjl'] at hon hjun
            simp only [Option.getD_some] at hon hjun
            rw [hon] at hjun
            cases hjun
        · rcases (on_set hel).1 hx with rfl | h3
          · exact hek
          · exact hoff' j h3
        · have := (mem_ready.1 hx).1
          simp [hel] at this
      · exact ih f1 (by omega) _ _ _ hcnt hoff' hre' h'
end
section
variable {P : Program} {n : Nat} {ρ : Slots} {w : World} {Q : PostF}
theorem wpF_draw_late {l r : List Oper} (e k0 : Nat) (Φs : List Fact) {id : Nat} (hm : P.follows .mixedOrders = true) (ds : List Tmp) (hg : goodB l n = true) {d t : Tmp} {m : Nat} {ty : TypeId} {pos : String} {af : Array Edge} (he : l[e]? = some ⟨some d, .extract (.tmp t) m, ty, pos, af, none⟩) (hsel : Region.noSelect l.toArray = true)
    (hn : tailE l k0 e = true) (hfr : freeE l ⟨some d, .extract (.tmp t) m, ty, pos, af, none⟩ e = true) (haf : af.any (fun x => Region.binds .any x) = true) (hk0 : Nat.ble Φs.length k0 = true) (hds : slotsW l = ds) (hr : (l.drop k0) = r) (hlt : Nat.blt k0 l.length = true) (hst : AllStab Ext Φs)
    (hQp : ∀ c ρ ρ' w, Q (.panic c) ρ w → Q (.panic c) ρ' w)
    (hs : StepsFC P l k0 (fun _ => Ext w) (fun _ => Ext) (facts Φs) ρ 0 l)
    (hQ : ∀ (ρ' : Slots) w1, Ext w w1 → EndF ds ρ ρ' → EndFacts l (fun _ => []) (facts Φs) ρ' w1 ds → opsF P l.toArray n Q r ρ' w1) : wpF P n (.region id l.toArray true) Q ρ w := by
  intro a ha
  obtain ⟨T, df⟩ := a
  have hz : T.size = n := ha.size
  subst hz
  have hk1 : k0 < l.length := Nat.le_of_ble_eq_true hlt
  have g := good_of hg
  have hno0 : ∀ i, ¬ On (Array.replicate l.toArray.size false) i := fun i h => by
    unfold On at h
    rw [Array.getD_eq_getD_getElem?, Array.getElem?_replicate] at h
    split at h <;> simp at h
  refine wp_region_any hm (anyInvE (a0 := { tmps := T, defers := df }) (w0 := w) (Φ := facts Φs) g hsel he hn hfr (Nat.le_of_lt hk1) (fun i => hst.get Φs i) (fun i o ho hi => ?_) (fun v c a' w' hx => ?_) (fun listed a' w' hon h => ?_) _ _ _ _ (by simp) (fun i h => absurd h (hno0 i)) ?_ ?_)
  · have hst := StepsFC.get l 0 hs i o ho (by omega)
    rw [Nat.zero_add] at hst
    have h2 := StepsF.ok (P := P) (l := l) (C := fun _ => Ext w) (R := fun _ => Ext) (Φ := facts Φs) (T := T) ha.get [o] i ⟨hst, trivial⟩
    exact h2.1
  · obtain ⟨ρ', hf, hq⟩ := hx
    exact ⟨fun t => a'.tmps.getD t undef, ⟨by have := hf.size; simpa [Act.put] using this, by have := hf.defers; simpa [Act.put] using this, fun _ => rfl⟩, hQp _ _ _ _ hq⟩
  · have hw : ∀ d k, writer l d l.length = some k → (List.range l.length).all (fun n => !([] : List Nat).contains k) = true → facts Φs k (a'.tmps.getD d undef) w' := fun d k hk hall => by
      obtain ⟨h1, ⟨o, ho, hd'⟩, h3⟩ := writer_some _ hk
      by_cases hkL : k0 ≤ k
      · have e : facts Φs k = fun _ _ => True := by
          have := Nat.le_of_ble_eq_true hk0
          unfold facts
          rw [List.getD_eq_getElem?_getD, List.getElem?_eq_none (by omega)]
          rfl
        rw [e]
        trivial
      exact h.new d k o ho hd' ((hon k).2 (by omega)) (fun k' o' hkk ho' hd'' _ => h3 k' o' hkk (List.getElem?_eq_some_iff.1 ho').1 ho' hd'') (fun n hn => by simp)
    have hget : ∀ t, a'.tmps.getD t undef = if t ∈ ds then a'.tmps.getD t undef else ρ t := fun t => by
      by_cases hn : t ∈ ds
      · rw [if_pos hn]
      · rw [if_neg hn, ← ha.get]
        exact h.old t fun k o ho hd _ => hn (by
          rw [← hds]
          unfold slotsW
          rw [List.mem_eraseDups, List.mem_filterMap]
          exact ⟨o, List.mem_of_getElem? ho, hd⟩)
    have hcl := h.cls k0 hk1 (fun x => by have := (hon k0).1 x; omega)
    have hend : EndF ds ρ (fun t => a'.tmps.getD t undef) := ⟨fun t ht => by rw [hget t, if_neg (by simpa using ht)]⟩
    have := hQ (fun t => a'.tmps.getD t undef) w' hcl hend (endFacts_of hw ds)
    rw [hr]
    exact this a' ⟨h.tmps, h.defers.trans ha.defers, fun t => rfl⟩
  · intro hx
    obtain ⟨-, o, ho, hall⟩ := mem_ready.1 hx
    obtain rfl := Option.some.inj (he.symm.trans (by simpa using ho))
    obtain ⟨x, hx1, hx2⟩ := Array.any_eq_true'.1 haf
    exact hno0 _ (hall x hx1 hx2)
  · exact ⟨Array.size_replicate, fun i o _ h => absurd h (hno0 i), rfl, rfl, fun n hn _ => (Below.refl _ _).drew, trivial, fun t _ => rfl, fun t k o _ _ h => absurd h (hno0 k)⟩
end
open Go.RowKit
set_option maxRecDepth 100000
theorem apply_to {w : World} {z : RefsV} {lv : Value} {l : List Upd} {note : Bs} {R : Refs} {n : Nat} (hA : applyP z.1 l note = (n, R)) (hm : RefsAt w z) (hL : RefsLt z.1) (hr : RG 66 updC w lv l) (hl : l.length ≤ 1000) (hln : ∀ u ∈ l, u.name.length ≤ 9223372036854775807) :
  Calls Tryd.prog 26 #[.agg (refsC z).toArray, lv, St note] w fun e w' => ∃ v, e = .returned (.tuple #[.agg (refsC (R, v)).toArray, NI n]) ∧ RefsOw w.heap.size w' (R, v) ∧ Ext w w' := by
 have h := apply20_any w z hm hL lv l hr hl hln note
 rw [hA] at h
 exact h
theorem look_to {w : World} {z : RefsV} {i : Id32} {n : Nat} (hA : look0P z.1 = (i, n)) (hm : RefsAt w z) (hL : RefsLt z.1) :
  Calls Tryd.prog 39 #[.agg (refsC z).toArray, St []] w fun e w' => e = .returned (.tuple #[AB i.1, NI n]) ∧ Ext w w' := by
 have h := look0_any w z hm hL
 rw [hA] at h
 exact h
theorem begin_lt : RefsLt beginV.1 := ⟨by decide, by decide, by decide, by decide, by decide, by decide⟩
theorem r1_lt : RefsLt r1 := ⟨by decide, by decide, by decide, by decide, by decide, by decide⟩
theorem wr37_bs67_0_1_3h (z0 : Int) (z1 : ByteArray) (c3_0 c3_1 c3_2 c3_3 c3_4 c3_5 c3_6 c3_7 c3_8 c3_9 c3_10 c3_11 c3_12 c3_13 c3_14 c3_15 c3_16 c3_17 c3_18 c3_19 c3_20 c3_21 c3_22 c3_23 c3_24 c3_25 c3_26 c3_27 c3_28 c3_29 c3_30 c3_31 : Value) (w : World) : (Instr.build 67 #[(0, .int .u8 z0), (1, .string z1), (3, .agg #[c3_0, c3_1, c3_2, c3_3, c3_4, c3_5, c3_6, c3_7, c3_8, c3_9, c3_10, c3_11, c3_12, c3_13, c3_14, c3_15, c3_16, c3_17, c3_18, c3_19, c3_20, c3_21, c3_22, c3_23, c3_24, c3_25, c3_26, c3_27, c3_28, c3_29, c3_30, c3_31])]).run Tryd.prog w = .ok (.agg #[.int .u8 z0, .string z1, .int .u8 0, .int .u8 0, .int .u8 0, .int .u8 0, .int .u8 0, .int .u8 0, .int .u8 0, .int .u8 0, .int .u8 0, .int .u8 0, .int .u8 0, .int .u8 0, .int .u8 0, .int .u8 0, .int .u8 0, .int .u8 0, .int .u8 0, .int .u8 0, .int .u8 0, .int .u8 0, .int .u8 0, .int .u8 0, .int .u8 0, .int .u8 0, .int .u8 0, .int .u8 0, .int .u8 0, .int .u8 0, .int .u8 0, .int .u8 0, .int .u8 0, .int .u8 0, c3_0, c3_1, c3_2, c3_3, c3_4, c3_5, c3_6, c3_7, c3_8, c3_9, c3_10, c3_11, c3_12, c3_13, c3_14, c3_15, c3_16, c3_17, c3_18, c3_19, c3_20, c3_21, c3_22, c3_23, c3_24, c3_25, c3_26, c3_27, c3_28, c3_29, c3_30, c3_31]) w := by kernel_rfl
theorem wr37_bs67_0_1_3 (z0 : UInt8) (z1 : List UInt8) (z3 : Id32) (w : World) : (Instr.build 67 #[(0, B8 z0), (1, St z1), (3, AB z3.1)]).run Tryd.prog w = .ok (.agg (B8 (z0) :: (St (z1) :: (Lib.byteCells zid.1 ++ (Lib.byteCells z3.1)))).toArray) w := by
 obtain ⟨z3, k3⟩ := z3
 obtain ⟨a3_0, a3_1, a3_2, a3_3, a3_4, a3_5, a3_6, a3_7, a3_8, a3_9, a3_10, a3_11, a3_12, a3_13, a3_14, a3_15, a3_16, a3_17, a3_18, a3_19, a3_20, a3_21, a3_22, a3_23, a3_24, a3_25, a3_26, a3_27, a3_28, a3_29, a3_30, a3_31, rfl⟩ := list32 k3
 exact wr37_bs67_0_1_3h _ _ _ _ _ _ _ _ _ _ _ _ _ _ _ _ _ _ _ _ _ _ _ _ _ _ _ _ _ _ _ _ _ _ w
theorem wr37_al67 {d : Option Tmp} {ty : TypeId} {pos : String} {af : Array Edge} {gd : Option (Nat × Bool)} (σ : Operand → Value) (w : World) : (execOp σ ⟨d, .alloc 67, ty, pos, af, gd⟩).run Tryd.prog w = .ok (.value (PQ w.heap.size 0)) (w.alloc (.cells (updC (⟨0, [], zid, zid⟩ : Upd)).toArray 67)) := by kernel_rfl
theorem wr37_isz67 : (Tryd.prog.info? 67).map (·.size) = some 66 := by kernel_rfl
theorem wr37_pl33 : Plain Tryd.prog 33 := fun _ _ => by kernel_rfl
theorem wr37_ty67 : ∃ fs, Tryd.prog.underlying 67 = some (.struct fs) := struct_of (by kernel_rfl)
theorem wr37_lh22 (c0 c1 c2 c3 c4 c5 c6 c7 c8 c9 c10 c11 c12 c13 c14 c15 c16 c17 c18 c19 c20 c21 c22 c23 c24 c25 c26 c27 c28 c29 c30 c31 c32 c33 c34 c35 c36 c37 c38 c39 c40 c41 c42 c43 c44 c45 c46 c47 c48 c49 c50 c51 c52 c53 c54 c55 c56 c57 c58 c59 c60 c61 c62 c63 c64 c65 : Value) (w : World) : (Instr.buildSlice 22 1 #[(0, .agg #[c0, c1, c2, c3, c4, c5, c6, c7, c8, c9, c10, c11, c12, c13, c14, c15, c16, c17, c18, c19, c20, c21, c22, c23, c24, c25, c26, c27, c28, c29, c30, c31, c32, c33, c34, c35, c36, c37, c38, c39, c40, c41, c42, c43, c44, c45, c46, c47, c48, c49, c50, c51, c52, c53, c54, c55, c56, c57, c58, c59, c60, c61, c62, c63, c64, c65])]).run Tryd.prog w = .ok (.slice (some ⟨w.heap.size, 0, none⟩) 1 1) (w.alloc (.cells #[c0, c1, c2, c3, c4, c5, c6, c7, c8, c9, c10, c11, c12, c13, c14, c15, c16, c17, c18, c19, c20, c21, c22, c23, c24, c25, c26, c27, c28, c29, c30, c31, c32, c33, c34, c35, c36, c37, c38, c39, c40, c41, c42, c43, c44, c45, c46, c47, c48, c49, c50, c51, c52, c53, c54, c55, c56, c57, c58, c59, c60, c61, c62, c63, c64, c65] 67)) := by kernel_rfl
theorem wr37_lg22 : ∀ (cs : Array Value), cs.size = 66 → ∀ w : World, (Instr.buildSlice 22 1 #[(0, .agg cs)]).run Tryd.prog w = .ok (.slice (some ⟨w.heap.size, 0, none⟩) 1 1) (w.alloc (.cells cs 67))
 | ⟨c0 :: c1 :: c2 :: c3 :: c4 :: c5 :: c6 :: c7 :: c8 :: c9 :: c10 :: c11 :: c12 :: c13 :: c14 :: c15 :: c16 :: c17 :: c18 :: c19 :: c20 :: c21 :: c22 :: c23 :: c24 :: c25 :: c26 :: c27 :: c28 :: c29 :: c30 :: c31 :: c32 :: c33 :: c34 :: c35 :: c36 :: c37 :: c38 :: c39 :: c40 :: c41 :: c42 :: c43 :: c44 :: c45 :: c46 :: c47 :: c48 :: c49 :: c50 :: c51 :: c52 :: c53 :: c54 :: c55 :: c56 :: c57 :: c58 :: c59 :: c60 :: c61 :: c62 :: c63 :: c64 :: c65 :: []⟩, _, w => wr37_lh22 c0 c1 c2 c3 c4 c5 c6 c7 c8 c9 c10 c11 c12 c13 c14 c15 c16 c17 c18 c19 c20 c21 c22 c23 c24 c25 c26 c27 c28 c29 c30 c31 c32 c33 c34 c35 c36 c37 c38 c39 c40 c41 c42 c43 c44 c45 c46 c47 c48 c49 c50 c51 c52 c53 c54 c55 c56 c57 c58 c59 c60 c61 c62 c63 c64 c65 w
theorem wr37_pl26 : Plain Tryd.prog 26 := fun _ _ => by kernel_rfl
theorem wr37_al53 {d : Option Tmp} {ty : TypeId} {pos : String} {af : Array Edge} {gd : Option (Nat × Bool)} (σ : Operand → Value) (w : World) : (execOp σ ⟨d, .alloc 53, ty, pos, af, gd⟩).run Tryd.prog w = .ok (.value (PQ w.heap.size 0)) (w.alloc (.cells (refsC ((⟨[], [], [], zid, []⟩, ⟨.slice none 0 0, .slice none 0 0, .slice none 0 0⟩) : RefsV)).toArray 53)) := by kernel_rfl
theorem wr37_isz53 : (Tryd.prog.info? 53).map (·.size) = some 36 := by kernel_rfl
theorem wr37_ty53 : ∃ fs, Tryd.prog.underlying 53 = some (.struct fs) := struct_of (by kernel_rfl)
theorem wr37_pl39 : Plain Tryd.prog 39 := fun _ _ => by kernel_rfl
theorem wr37_al25 {d : Option Tmp} {ty : TypeId} {pos : String} {af : Array Edge} {gd : Option (Nat × Bool)} (σ : Operand → Value) (w : World) : (execOp σ ⟨d, .alloc 25, ty, pos, af, gd⟩).run Tryd.prog w = .ok (.value (PQ w.heap.size 0)) (w.alloc (.cells (Lib.byteCells (List.replicate 32 0)).toArray 25)) := by kernel_rfl
theorem wr37_bs67_0_1_2h (z0 : Int) (z1 : ByteArray) (c2_0 c2_1 c2_2 c2_3 c2_4 c2_5 c2_6 c2_7 c2_8 c2_9 c2_10 c2_11 c2_12 c2_13 c2_14 c2_15 c2_16 c2_17 c2_18 c2_19 c2_20 c2_21 c2_22 c2_23 c2_24 c2_25 c2_26 c2_27 c2_28 c2_29 c2_30 c2_31 : Value) (w : World) : (Instr.build 67 #[(0, .int .u8 z0), (1, .string z1), (2, .agg #[c2_0, c2_1, c2_2, c2_3, c2_4, c2_5, c2_6, c2_7, c2_8, c2_9, c2_10, c2_11, c2_12, c2_13, c2_14, c2_15, c2_16, c2_17, c2_18, c2_19, c2_20, c2_21, c2_22, c2_23, c2_24, c2_25, c2_26, c2_27, c2_28, c2_29, c2_30, c2_31])]).run Tryd.prog w = .ok (.agg #[.int .u8 z0, .string z1, c2_0, c2_1, c2_2, c2_3, c2_4, c2_5, c2_6, c2_7, c2_8, c2_9, c2_10, c2_11, c2_12, c2_13, c2_14, c2_15, c2_16, c2_17, c2_18, c2_19, c2_20, c2_21, c2_22, c2_23, c2_24, c2_25, c2_26, c2_27, c2_28, c2_29, c2_30, c2_31, .int .u8 0, .int .u8 0, .int .u8 0, .int .u8 0, .int .u8 0, .int .u8 0, .int .u8 0, .int .u8 0, .int .u8 0, .int .u8 0, .int .u8 0, .int .u8 0, .int .u8 0, .int .u8 0, .int .u8 0, .int .u8 0, .int .u8 0, .int .u8 0, .int .u8 0, .int .u8 0, .int .u8 0, .int .u8 0, .int .u8 0, .int .u8 0, .int .u8 0, .int .u8 0, .int .u8 0, .int .u8 0, .int .u8 0, .int .u8 0, .int .u8 0, .int .u8 0]) w := by kernel_rfl
theorem wr37_bs67_0_1_2 (z0 : UInt8) (z1 : List UInt8) (z2 : Id32) (w : World) : (Instr.build 67 #[(0, B8 z0), (1, St z1), (2, AB z2.1)]).run Tryd.prog w = .ok (.agg (B8 (z0) :: (St (z1) :: (Lib.byteCells z2.1 ++ (Lib.byteCells zid.1)))).toArray) w := by
 obtain ⟨z2, k2⟩ := z2
 obtain ⟨a2_0, a2_1, a2_2, a2_3, a2_4, a2_5, a2_6, a2_7, a2_8, a2_9, a2_10, a2_11, a2_12, a2_13, a2_14, a2_15, a2_16, a2_17, a2_18, a2_19, a2_20, a2_21, a2_22, a2_23, a2_24, a2_25, a2_26, a2_27, a2_28, a2_29, a2_30, a2_31, rfl⟩ := list32 k2
 exact wr37_bs67_0_1_2h _ _ _ _ _ _ _ _ _ _ _ _ _ _ _ _ _ _ _ _ _ _ _ _ _ _ _ _ _ _ _ _ _ _ w
theorem wr37_ty25 : Tryd.prog.underlying 25 = some (.array 32 5) := by kernel_rfl
theorem wr37_eg25 : Tryd.prog.eqGuardType Tryd.prog.depth 25 = false := by kernel_rfl
theorem wr37_ty5 : Tryd.prog.underlying 5 = some (.int .u8) := by kernel_rfl
theorem wr37_sz5 : ∀ w' : World, (sizeOf 5).run Tryd.prog w' = .ok 1 w' := fun _ => by kernel_rfl
theorem wr37_fo53_4 : FieldOff Tryd.prog 53 4 35 := fun b o w => by simp [go_sem]
theorem wr37_ty47 : Tryd.prog.underlying 47 = some (.slice 122) := by kernel_rfl
set_option maxHeartbeats 1600000
theorem awake20 (w : World) :
  Calls Tryd.prog 35 #[] w fun e w' => e = .returned (.bool true) ∧ Ext w w' := by
 refine calls_of_wpF (args := []) Tryd.func35 rfl 64 rfl (Nat.le_of_ble_eq_true rfl) ?_
 intro ρ0 hb
 clear hb
 have hE := Ext.refl w
 refine sk fun K1 hK1 => (wt (oA rfl (oZ (tN (hK1 _ _ (sk fun K2 hK2 => (wt (oS rfl (Yk.run (v := AB id1.1) (by kernel_rfl) (oS rfl (Yk.build3 (vr (B8 (1)) rfl) (vr (St (([109, 97, 105, 110] : List UInt8))) rfl) (vr (AB id1.1) rfl) (fun w => wr37_bs67_0_1_3 1 ([109, 97, 105, 110] : List UInt8) id1 w) (oS rfl (Yk.alloc (cs := (updC (⟨0, [], zid, zid⟩ : Upd)).toArray) wr37_al67 fun n3 w4 hn5 hb6 hx7 hs8 => ?_)))))))))))))
 have hE := hE.trans hx7
 have hb9 := hb6; clear hb6
 have hl10 : n3 < w4.heap.size := by omega
 refine oS rfl (Yk.storeAll (vr (PQ n3 0) rfl) (vr (.agg (updC (⟨1, ([109, 97, 105, 110] : List UInt8), zid, id1⟩ : Upd)).toArray) rfl) hb9 (by simp only [List.size_toArray, upd_len]) (st_isz (upd_len _) wr37_isz67) (upd_one (x := (⟨1, ([109, 97, 105, 110] : List UInt8), zid, id1⟩ : Upd))) fun w11 hb12 hg13 hs14 => ?_)
 have hE := row_fresh hE hg13 (Nat.le_trans (Nat.le_refl _) (by omega))
 clear hb9
 have hb9 : w11.heap[n3]? = some (.cells (updC (⟨1, ([109, 97, 105, 110] : List UInt8), zid, id1⟩ : Upd)).toArray 67 (0, 0)) := hb12; clear hb12
 have hl15 := bl hb9
 refine oZ (tN (hK2 _ _ (sk fun K16 hK16 => ?_)))
 have hA17 := Ext.refl w11
 have hea18 := hE
 have hz19 := hE.size
 have hlt20 : n3 < w11.heap.size := (bl hb9)
 refine wpF_draw_late 6 8 [Is (.agg (refsC beginV).toArray), Is (.agg (updC (⟨1, ([109, 97, 105, 110] : List UInt8), zid, id1⟩ : Upd)).toArray), fun x w' => RG 66 (updC) w' x ([(⟨1, ([109, 97, 105, 110] : List UInt8), zid, id1⟩ : Upd)]), fun x w' => ∃ v, x = .tuple #[.agg (refsC (r1, v)).toArray, NI 0] ∧ RefsOw 0 w' (r1, v), fun x w' => ∃ v, x = .tuple #[.agg (refsC (r1, v)).toArray, NI 0] ∧ RefsOw 0 w' (r1, v), fun x w' => ∃ v, x = .agg (refsC (r1, v)).toArray ∧ RefsOw 0 w' (r1, v), Is (NI 0), fun x w' => ∃ g, x = PQ g 0 ∧ w'.heap[g]? = some (.cells (refsC ((⟨[], [], [], zid, []⟩, ⟨.slice none 0 0, .slice none 0 0, .slice none 0 0⟩) : RefsV)).toArray 53 (0, 0)) ∧ w11.heap.size ≤ g] (by kernel_rfl) [13, 14, 15, 16, 12, 17, 18, 2, 3] (by kernel_rfl) rfl (by kernel_rfl) (by kernel_rfl) (by kernel_rfl) (by kernel_rfl) (by kernel_rfl) (by kernel_rfl) rfl rfl (si2 ⟨(fun _ _ _ h k => RG.keep h k), (fun _ _ _ ⟨v, h1, h2⟩ k => ⟨v, h1, h2.keep k⟩), (fun _ _ _ ⟨v, h1, h2⟩ k => ⟨v, h1, h2.keep k⟩), (fun _ _ _ ⟨v, h1, h2⟩ k => ⟨v, h1, h2.keep k⟩), Stab.is _, (fun _ _ _ ⟨g, h1, h2, h3⟩ k => ⟨g, h1, eb k h2, h3⟩), trivial⟩) (fun _ _ _ _ h => h) ?hs1002 ?hQ1002
 case hs1002 =>
  refine ⟨?_, ?_, ?_, ?_, ?_, ?_, ?_, ?_, ?_, ?_, trivial⟩
  ·refine stepFC (stepN rfl fun σ w1 hC h => (Yk.callA0 wr37_pl33  ((begin_any _).mono ?_)))
   rintro e w2 ⟨rfl, hx⟩
   exact ⟨_, rfl, hx, rfl⟩
  ·refine stepFC (stepN rfl fun σ w1 hC h => ?_)
   have e1 : σ 1 = PQ n3 0 := (eqo (h 1 (by decide))).trans rfl
   exact Yk.loadAll e1 (eb hC hb9) (wr37_ty67).choose_spec rfl (st_isz (upd_len (⟨1, ([109, 97, 105, 110] : List UInt8), zid, id1⟩ : Upd)) wr37_isz67) ⟨Ext.refl _, rfl⟩
  ·refine stepFC (stepN rfl fun σ w1 hC h => ?_)
   have e14 := eqo (h 14 (by decide))
   exact Yk.lit1G (a := (⟨1, ([109, 97, 105, 110] : List UInt8), zid, id1⟩ : Upd)) (enc := updC) e14 (upd_len _) wr37_lg22 fun v w2 h hx => ⟨hx, h⟩
  ·refine stepFC (stepN rfl fun σ w1 hC h => ?_)
   have e13 := eqo (h 13 (by decide))
   have e15 : (fun x w' => RG 66 (updC) w' x ([(⟨1, ([109, 97, 105, 110] : List UInt8), zid, id1⟩ : Upd)])) (σ 15) w1 := h 15 (by decide)
   refine Yk.callA3 wr37_pl26 e13 rfl (vr (St (([102, 105, 114, 115, 116] : List UInt8))) rfl) ((apply_to apply_1 (lv := σ 15) (z := beginV) ⟨RG.nil _ _ _, RG.nil _ _ _, RG.nil _ _ _⟩ begin_lt e15 (by decide) (by decide)).mono ?_)
   rintro e w2 ⟨v, rfl, hR, hx⟩
   exact ⟨_, rfl, hx, v, rfl, hR.zero⟩
  ·refine stepFC (stepN rfl fun σ w1 hC h => ?_)
   have e16 : (fun x w' => ∃ v, x = .tuple #[.agg (refsC (r1, v)).toArray, NI 0] ∧ RefsOw 0 w' (r1, v)) (σ 16) w1 := h 16 (by decide)
   exact Yk.move rfl ⟨Ext.refl _, e16⟩
  ·refine stepFC (stepN rfl fun σ w1 hC h => ?_)
   have e12 : (fun x w' => ∃ v, x = .tuple #[.agg (refsC (r1, v)).toArray, NI 0] ∧ RefsOw 0 w' (r1, v)) (σ 12) w1 := h 12 (by decide)
   obtain ⟨v0, h1_, h2_⟩ := e12
   exact Yk.extract (vs := [.agg (refsC (r1, v0)).toArray, NI 0]) h1_ (show _ = some (Value.agg (refsC (r1, v0)).toArray) from rfl) ⟨Ext.refl _, v0, rfl, h2_⟩
  ·refine stepFC (stepN rfl fun σ w1 hC h => ?_)
   have e12 : (fun x w' => ∃ v, x = .tuple #[.agg (refsC (r1, v)).toArray, NI 0] ∧ RefsOw 0 w' (r1, v)) (σ 12) w1 := h 12 (by decide)
   obtain ⟨v0, h1_, h2_⟩ := e12
   exact Yk.extract (vs := [.agg (refsC (r1, v0)).toArray, NI 0]) h1_ (show _ = some (NI 0 : Value) from rfl) ⟨Ext.refl _, rfl⟩
  ·refine stepFC (stepN rfl fun σ w1 hC h => ?_)
   exact Yk.alloc (cs := (refsC ((⟨[], [], [], zid, []⟩, ⟨.slice none 0 0, .slice none 0 0, .slice none 0 0⟩) : RefsV)).toArray) wr37_al53 fun g w2 hn hb hx hs => ⟨hx, g, rfl, hb, Nat.le_trans (show Ext w11 w1 from hC).size (Nat.le_of_eq hn)⟩
  ·exact trivial
  ·exact trivial
 intro ρ21 w22 hx23 he hf
 obtain ⟨-, -, -, -, -, k17, k18, k2, -⟩ := hf
 obtain ⟨T0, T1, -⟩ := he.hold [(0, .bool (false)), (1, PQ n3 0)] ⟨rfl, rfl, trivial⟩ rfl
 clear he
 have hE := hE.trans hx23
 have hb9 := eb hx23 hb9
 have hA17 := hA17.trans hx23
 have k17 : (fun x w' => ∃ v, x = .agg (refsC (r1, v)).toArray ∧ RefsOw 0 w' (r1, v)) (ρ21 17) w22 := k17
 obtain ⟨v24, T17⟩ : ∃ v, ρ21 17 = v := ⟨_, rfl⟩
 rw [T17] at k17
 have hk25 := k17; clear k17
 obtain ⟨v26, hq_, hR27⟩ := hk25
 rw [hq_] at T17; clear hq_
 have ho28 : OG 0 70 33 nmdC w22 v26.branches r1.branches := OG.low hR27.br (Nat.zero_le _)
 have hap29 := OG.off ho28 hb9 (by decide)
 have ho30 : OG 0 70 33 nmdC w22 v26.tags r1.tags := OG.low hR27.tg (Nat.zero_le _)
 have hap31 := OG.off ho30 hb9 (by decide)
 have ho32 : OG 0 122 67 entC w22 v26.log r1.log := OG.low hR27.lg (Nat.zero_le _)
 have hap33 := OG.off ho32 hb9 (by decide)
 have T18 : ρ21 18 = NI 0 := k18
 have k2 : (fun x w' => ∃ g, x = PQ g 0 ∧ w'.heap[g]? = some (.cells (refsC ((⟨[], [], [], zid, []⟩, ⟨.slice none 0 0, .slice none 0 0, .slice none 0 0⟩) : RefsV)).toArray 53 (0, 0)) ∧ w11.heap.size ≤ g) (ρ21 2) w22 := k2
 obtain ⟨v34, T2⟩ : ∃ v, ρ21 2 = v := ⟨_, rfl⟩
 rw [T2] at k2
 have hk35 := k2; clear k2
 obtain ⟨n36, rfl, hb37, hn38⟩ := hk35
 have hl39 := bl hb37
 clear k18
 have hap40 := OG.off ho28 hb37 (by decide)
 have hap41 := OG.off ho30 hb37 (by decide)
 have hap42 := OG.off ho32 hb37 (by decide)
 refine oS rfl (Yk.storeAll T2 T17 hb37 (by simp only [List.size_toArray, refs_len]) (st_isz (refs_len _) wr37_isz53) (refs_one (x := (r1, v26)) (RG.one (RG.ofOwn ho28)).2 (RG.one (RG.ofOwn ho30)).2 (RG.one (RG.ofOwn ho32)).2) fun w43 hb44 hg45 hs46 => ?_)
 have hE := row_fresh hE hg45 (Nat.le_trans hz19 (by omega))
 have hb9 := kb hg45 hb9 (by omega)
 have hA17 := row_fresh hA17 hg45 (Nat.le_trans (Nat.le_refl _) (by omega))
 have ho28 := OG.kept ho28 hg45 hap40
 have ho30 := OG.kept ho30 hg45 hap41
 have ho32 := OG.kept ho32 hg45 hap42
 clear hb37
 have hb37 : w43.heap[n36]? = some (.cells (refsC (r1, v26)).toArray 53 (0, 0)) := hb44; clear hb44
 have hl47 := bl hb37
 refine oA rfl (oZ (tN (hK16 _ _ (sk fun K48 hK48 => (wt (oS rfl (Yk.loadAll T2 hb37 (wr37_ty53).choose_spec rfl (st_isz (refs_len (r1, v26)) wr37_isz53) (oS rfl (Yk.callA2 wr37_pl39 (vr (.agg (refsC (r1, v26)).toArray) rfl) (vr (St (([] : List UInt8))) rfl) ((look_to look_1 ⟨RG.ofOwn ho28, RG.ofOwn ho30, RG.ofOwn ho32⟩ r1_lt).mono ?_))))))))))
 rintro e w50 ⟨rfl, hx49⟩
 refine ⟨_, rfl, ?_⟩
 have hE := hE.trans hx49
 have hb9 := eb hx49 hb9
 have hA17 := hA17.trans hx49
 have ho28 := ho28.keep hx49
 have ho30 := ho30.keep hx49
 have ho32 := ho32.keep hx49
 have hb37 := eb hx49 hb37
 refine oM rfl (oS rfl (Yk.extract (vs := [AB id1.1, NI 0]) (vr (.tuple #[AB id1.1, NI 0]) rfl) (show _ = some (AB id1.1 : Value) from rfl) (oS rfl (Yk.extract (vs := [AB id1.1, NI 0]) (vr (.tuple #[AB id1.1, NI 0]) rfl) (show _ = some (NI 0 : Value) from rfl) (oS rfl (Yk.alloc (cs := (Lib.byteCells (List.replicate 32 0)).toArray) wr37_al25 fun n51 w52 hn53 hb54 hx55 hs56 => ?_))))))
 have hA57 := Ext.refl w50
 have hea58 := hE
 have hea59 := hA17
 have hz60 := hE.size
 have hz61 := hA17.size
 have hlt62 := lte (bl hb9) hn53
 have hlt63 := lte (bl hb37) hn53
 have hap64 : OB v26.branches n51 := own_newer ho28.2 (by omega)
 have hap65 : OB v26.tags n51 := own_newer ho30.2 (by omega)
 have hap66 : OB v26.log n51 := own_newer ho32.2 (by omega)
 have hE := hE.trans hx55
 have hb9 := eb hx55 hb9
 have hA17 := hA17.trans hx55
 have ho28 := ho28.keep hx55
 have ho30 := ho30.keep hx55
 have ho32 := ho32.keep hx55
 have hb37 := eb hx55 hb37
 have hA57 := hA57.trans hx55
 have hb67 := hb54; clear hb54
 have hl68 : n51 < w52.heap.size := by omega
 refine oS rfl (Yk.storeAll (vr (PQ n51 0) rfl) (vr (AB id1.1) rfl) hb67 (by exact idsize id1.2 List.length_replicate) (by exact sizeId_of id1.2) (byteCells_one _) fun w69 hb70 hg71 hs72 => ?_)
 have hE := row_fresh hE hg71 (Nat.le_trans hz60 (by omega))
 have hb9 := kb hg71 hb9 (by omega)
 have hA17 := row_fresh hA17 hg71 (Nat.le_trans hz61 (by omega))
 have ho28 := OG.kept ho28 hg71 hap64
 have ho30 := OG.kept ho30 hg71 hap65
 have ho32 := OG.kept ho32 hg71 hap66
 have hb37 := kb hg71 hb37 (by omega)
 have hA57 := row_fresh hA57 hg71 (Nat.le_trans (Nat.le_refl _) (by omega))
 clear hb67
 have hb67 := hb70; clear hb70
 have hl73 := bl hb67
 refine oA rfl (oZ (tN (hK48 _ _ (sk fun K74 hK74 => (wt (oS rfl (Yk.loadAll T2 hb37 (wr37_ty53).choose_spec rfl (st_isz (refs_len (r1, v26)) wr37_isz53) (oS rfl (Yk.loadAll T1 hb9 (wr37_ty67).choose_spec rfl (st_isz (upd_len (⟨1, ([109, 97, 105, 110] : List UInt8), zid, id1⟩ : Upd)) wr37_isz67) (oS rfl (Yk.lit1G (a := (⟨1, ([109, 97, 105, 110] : List UInt8), zid, id1⟩ : Upd)) (enc := updC) (vr (.agg (updC (⟨1, ([109, 97, 105, 110] : List UInt8), zid, id1⟩ : Upd)).toArray) rfl) (upd_len _) wr37_lg22 fun v75 w76 hr77 hx78 => ?_)))))))))))
 have hE := hE.trans hx78
 have hb9 := eb hx78 hb9
 have hA17 := hA17.trans hx78
 have ho28 := ho28.keep hx78
 have ho30 := ho30.keep hx78
 have ho32 := ho32.keep hx78
 have hb37 := eb hx78 hb37
 have hA57 := hA57.trans hx78
 have hb67 := eb hx78 hb67
 refine oS rfl (Yk.callA3 wr37_pl26 (vr (.agg (refsC (r1, v26)).toArray) rfl) (vr v75 rfl) (vr (St (([97, 103, 97, 105, 110] : List UInt8))) rfl) ((apply_to apply_2 ⟨RG.ofOwn ho28, RG.ofOwn ho30, RG.ofOwn ho32⟩ r1_lt hr77 (by decide) (by decide)).mono ?_))
 rintro e w82 ⟨v79, rfl, hR80, hx81⟩
 refine ⟨_, rfl, ?_⟩
 have hE := hE.trans hx81
 have hb9 := eb hx81 hb9
 have hA17 := hA17.trans hx81
 have ho28 := ho28.keep hx81
 have ho30 := ho30.keep hx81
 have ho32 := ho32.keep hx81
 have hb37 := eb hx81 hb37
 have hA57 := hA57.trans hx81
 have hb67 := eb hx81 hb67
 have hr77 := hr77.keep hx81
 have ho83 : OG 0 70 33 nmdC w82 v79.branches zeroR.branches := OG.low hR80.br (Nat.zero_le _)
 have hap84 := OG.off ho83 hb9 (by decide)
 have hap85 := OG.off ho83 hb37 (by decide)
 have hap86 := OG.off ho83 hb67 (by decide)
 have ho87 : OG 0 70 33 nmdC w82 v79.tags zeroR.tags := OG.low hR80.tg (Nat.zero_le _)
 have hap88 := OG.off ho87 hb9 (by decide)
 have hap89 := OG.off ho87 hb37 (by decide)
 have hap90 := OG.off ho87 hb67 (by decide)
 have ho91 : OG 0 122 67 entC w82 v79.log zeroR.log := OG.low hR80.lg (Nat.zero_le _)
 have hap92 := OG.off ho91 hb9 (by decide)
 have hap93 := OG.off ho91 hb37 (by decide)
 have hap94 := OG.off ho91 hb67 (by decide)
 refine oM rfl (oS rfl (Yk.extract (vs := [.agg (refsC (zeroR, v79)).toArray, NI 15]) (vr (.tuple #[.agg (refsC (zeroR, v79)).toArray, NI 15]) rfl) (show _ = some (.agg (refsC (zeroR, v79)).toArray : Value) from rfl) (oS rfl (Yk.extract (vs := [.agg (refsC (zeroR, v79)).toArray, NI 15]) (vr (.tuple #[.agg (refsC (zeroR, v79)).toArray, NI 15]) rfl) (show _ = some (NI 15 : Value) from rfl) (oS rfl (Yk.alloc (cs := (refsC ((⟨[], [], [], zid, []⟩, ⟨.slice none 0 0, .slice none 0 0, .slice none 0 0⟩) : RefsV)).toArray) wr37_al53 fun n95 w96 hn97 hb98 hx99 hs100 => ?_))))))
 have hA101 := Ext.refl w82
 have hea102 := hE
 have hea103 := hA17
 have hea104 := hA57
 have hz105 := hE.size
 have hz106 := hA17.size
 have hz107 := hA57.size
 have hlt108 := lte (bl hb9) hn97
 have hlt109 := lte (bl hb37) hn97
 have hlt110 := lte (bl hb67) hn97
 have hap111 : OB v26.branches n95 := own_newer ho28.2 (by omega)
 have hap112 : OB v26.tags n95 := own_newer ho30.2 (by omega)
 have hap113 : OB v26.log n95 := own_newer ho32.2 (by omega)
 have hap114 : OB v79.branches n95 := own_newer ho83.2 (by omega)
 have hap115 : OB v79.tags n95 := own_newer ho87.2 (by omega)
 have hap116 : OB v79.log n95 := own_newer ho91.2 (by omega)
 have hE := hE.trans hx99
 have hb9 := eb hx99 hb9
 have hA17 := hA17.trans hx99
 have ho28 := ho28.keep hx99
 have ho30 := ho30.keep hx99
 have ho32 := ho32.keep hx99
 have hb37 := eb hx99 hb37
 have hA57 := hA57.trans hx99
 have hb67 := eb hx99 hb67
 have ho83 := ho83.keep hx99
 have ho87 := ho87.keep hx99
 have ho91 := ho91.keep hx99
 have hA101 := hA101.trans hx99
 have hb117 := hb98; clear hb98
 have hl118 : n95 < w96.heap.size := by omega
 refine oS rfl (Yk.storeAll (vr (PQ n95 0) rfl) (vr (.agg (refsC (zeroR, v79)).toArray) rfl) hb117 (by simp only [List.size_toArray, refs_len]) (st_isz (refs_len _) wr37_isz53) (refs_one (x := (zeroR, v79)) (RG.one (RG.ofOwn ho83)).2 (RG.one (RG.ofOwn ho87)).2 (RG.one (RG.ofOwn ho91)).2) fun w119 hb120 hg121 hs122 => ?_)
 have hE := row_fresh hE hg121 (Nat.le_trans hz105 (by omega))
 have hb9 := kb hg121 hb9 (by omega)
 have hA17 := row_fresh hA17 hg121 (Nat.le_trans hz106 (by omega))
 have ho28 := OG.kept ho28 hg121 hap111
 have ho30 := OG.kept ho30 hg121 hap112
 have ho32 := OG.kept ho32 hg121 hap113
 have hb37 := kb hg121 hb37 (by omega)
 have hA57 := row_fresh hA57 hg121 (Nat.le_trans hz107 (by omega))
 have hb67 := kb hg121 hb67 (by omega)
 have ho83 := OG.kept ho83 hg121 hap114
 have ho87 := OG.kept ho87 hg121 hap115
 have ho91 := OG.kept ho91 hg121 hap116
 have hA101 := row_fresh hA101 hg121 (Nat.le_trans (Nat.le_refl _) (by omega))
 clear hb117
 have hb117 : w119.heap[n95]? = some (.cells (refsC (zeroR, v79)).toArray 53 (0, 0)) := hb120; clear hb120
 have hl123 := bl hb117
 refine oA rfl (oZ (tN (hK74 _ _ (sk fun K124 hK124 => (wt (oS rfl (Yk.loadAll T2 hb37 (wr37_ty53).choose_spec rfl (st_isz (refs_len (r1, v26)) wr37_isz53) (oS rfl (Yk.run (v := AB id1.1) (by kernel_rfl) (oS rfl (Yk.build3 (vr (B8 (1)) rfl) (vr (St (([109, 97, 105, 110] : List UInt8))) rfl) (vr (AB id1.1) rfl) (fun w => wr37_bs67_0_1_2 1 ([109, 97, 105, 110] : List UInt8) id1 w) (oS rfl (Yk.lit1G (a := (⟨1, ([109, 97, 105, 110] : List UInt8), id1, zid⟩ : Upd)) (enc := updC) (vr (.agg (updC (⟨1, ([109, 97, 105, 110] : List UInt8), id1, zid⟩ : Upd)).toArray) rfl) (upd_len _) wr37_lg22 fun v125 w126 hr127 hx128 => ?_)))))))))))))
 have hE := hE.trans hx128
 have hb9 := eb hx128 hb9
 have hA17 := hA17.trans hx128
 have ho28 := ho28.keep hx128
 have ho30 := ho30.keep hx128
 have ho32 := ho32.keep hx128
 have hb37 := eb hx128 hb37
 have hA57 := hA57.trans hx128
 have hb67 := eb hx128 hb67
 have ho83 := ho83.keep hx128
 have ho87 := ho87.keep hx128
 have ho91 := ho91.keep hx128
 have hA101 := hA101.trans hx128
 have hb117 := eb hx128 hb117
 refine oS rfl (Yk.callA3 wr37_pl26 (vr (.agg (refsC (r1, v26)).toArray) rfl) (vr v125 rfl) (vr (St (([] : List UInt8))) rfl) ((apply_to apply_3 ⟨RG.ofOwn ho28, RG.ofOwn ho30, RG.ofOwn ho32⟩ r1_lt hr127 (by decide) (by decide)).mono ?_))
 rintro e w132 ⟨v129, rfl, hR130, hx131⟩
 refine ⟨_, rfl, ?_⟩
 have hE := hE.trans hx131
 have hb9 := eb hx131 hb9
 have hA17 := hA17.trans hx131
 have ho28 := ho28.keep hx131
 have ho30 := ho30.keep hx131
 have ho32 := ho32.keep hx131
 have hb37 := eb hx131 hb37
 have hA57 := hA57.trans hx131
 have hb67 := eb hx131 hb67
 have ho83 := ho83.keep hx131
 have ho87 := ho87.keep hx131
 have ho91 := ho91.keep hx131
 have hA101 := hA101.trans hx131
 have hb117 := eb hx131 hb117
 have hr127 := hr127.keep hx131
 have ho133 : OG 0 70 33 nmdC w132 v129.branches zeroR.branches := OG.low hR130.br (Nat.zero_le _)
 have hap134 := OG.off ho133 hb9 (by decide)
 have hap135 := OG.off ho133 hb37 (by decide)
 have hap136 := OG.off ho133 hb67 (by decide)
 have hap137 := OG.off ho133 hb117 (by decide)
 have ho138 : OG 0 70 33 nmdC w132 v129.tags zeroR.tags := OG.low hR130.tg (Nat.zero_le _)
 have hap139 := OG.off ho138 hb9 (by decide)
 have hap140 := OG.off ho138 hb37 (by decide)
 have hap141 := OG.off ho138 hb67 (by decide)
 have hap142 := OG.off ho138 hb117 (by decide)
 have ho143 : OG 0 122 67 entC w132 v129.log zeroR.log := OG.low hR130.lg (Nat.zero_le _)
 have hap144 := OG.off ho143 hb9 (by decide)
 have hap145 := OG.off ho143 hb37 (by decide)
 have hap146 := OG.off ho143 hb67 (by decide)
 have hap147 := OG.off ho143 hb117 (by decide)
 refine oM rfl (oS rfl (Yk.extract (vs := [.agg (refsC (zeroR, v129)).toArray, NI 16]) (vr (.tuple #[.agg (refsC (zeroR, v129)).toArray, NI 16]) rfl) (show _ = some (.agg (refsC (zeroR, v129)).toArray : Value) from rfl) (oS rfl (Yk.extract (vs := [.agg (refsC (zeroR, v129)).toArray, NI 16]) (vr (.tuple #[.agg (refsC (zeroR, v129)).toArray, NI 16]) rfl) (show _ = some (NI 16 : Value) from rfl) (oS rfl (Yk.alloc (cs := (refsC ((⟨[], [], [], zid, []⟩, ⟨.slice none 0 0, .slice none 0 0, .slice none 0 0⟩) : RefsV)).toArray) wr37_al53 fun n148 w149 hn150 hb151 hx152 hs153 => ?_))))))
 have hA154 := Ext.refl w132
 have hea155 := hE
 have hea156 := hA17
 have hea157 := hA57
 have hea158 := hA101
 have hz159 := hE.size
 have hz160 := hA17.size
 have hz161 := hA57.size
 have hz162 := hA101.size
 have hlt163 := lte (bl hb9) hn150
 have hlt164 := lte (bl hb37) hn150
 have hlt165 := lte (bl hb67) hn150
 have hlt166 := lte (bl hb117) hn150
 have hap167 : OB v26.branches n148 := own_newer ho28.2 (by omega)
 have hap168 : OB v26.tags n148 := own_newer ho30.2 (by omega)
 have hap169 : OB v26.log n148 := own_newer ho32.2 (by omega)
 have hap170 : OB v79.branches n148 := own_newer ho83.2 (by omega)
 have hap171 : OB v79.tags n148 := own_newer ho87.2 (by omega)
 have hap172 : OB v79.log n148 := own_newer ho91.2 (by omega)
 have hap173 : OB v129.branches n148 := own_newer ho133.2 (by omega)
 have hap174 : OB v129.tags n148 := own_newer ho138.2 (by omega)
 have hap175 : OB v129.log n148 := own_newer ho143.2 (by omega)
 have hE := hE.trans hx152
 have hb9 := eb hx152 hb9
 have hA17 := hA17.trans hx152
 have ho28 := ho28.keep hx152
 have ho30 := ho30.keep hx152
 have ho32 := ho32.keep hx152
 have hb37 := eb hx152 hb37
 have hA57 := hA57.trans hx152
 have hb67 := eb hx152 hb67
 have ho83 := ho83.keep hx152
 have ho87 := ho87.keep hx152
 have ho91 := ho91.keep hx152
 have hA101 := hA101.trans hx152
 have hb117 := eb hx152 hb117
 have ho133 := ho133.keep hx152
 have ho138 := ho138.keep hx152
 have ho143 := ho143.keep hx152
 have hA154 := hA154.trans hx152
 have hb176 := hb151; clear hb151
 have hl177 : n148 < w149.heap.size := by omega
 refine oS rfl (Yk.storeAll (vr (PQ n148 0) rfl) (vr (.agg (refsC (zeroR, v129)).toArray) rfl) hb176 (by simp only [List.size_toArray, refs_len]) (st_isz (refs_len _) wr37_isz53) (refs_one (x := (zeroR, v129)) (RG.one (RG.ofOwn ho133)).2 (RG.one (RG.ofOwn ho138)).2 (RG.one (RG.ofOwn ho143)).2) fun w178 hb179 hg180 hs181 => ?_)
 have hE := row_fresh hE hg180 (Nat.le_trans hz159 (by omega))
 have hb9 := kb hg180 hb9 (by omega)
 have hA17 := row_fresh hA17 hg180 (Nat.le_trans hz160 (by omega))
 have ho28 := OG.kept ho28 hg180 hap167
 have ho30 := OG.kept ho30 hg180 hap168
 have ho32 := OG.kept ho32 hg180 hap169
 have hb37 := kb hg180 hb37 (by omega)
 have hA57 := row_fresh hA57 hg180 (Nat.le_trans hz161 (by omega))
 have hb67 := kb hg180 hb67 (by omega)
 have ho83 := OG.kept ho83 hg180 hap170
 have ho87 := OG.kept ho87 hg180 hap171
 have ho91 := OG.kept ho91 hg180 hap172
 have hA101 := row_fresh hA101 hg180 (Nat.le_trans hz162 (by omega))
 have hb117 := kb hg180 hb117 (by omega)
 have ho133 := OG.kept ho133 hg180 hap173
 have ho138 := OG.kept ho138 hg180 hap174
 have ho143 := OG.kept ho143 hg180 hap175
 have hA154 := row_fresh hA154 hg180 (Nat.le_trans (Nat.le_refl _) (by omega))
 clear hb176
 have hb176 : w178.heap[n148]? = some (.cells (refsC (zeroR, v129)).toArray 53 (0, 0)) := hb179; clear hb179
 have hl182 := bl hb176
 refine oA rfl (oZ (tN (hK124 _ _ (sk fun K183 hK183 => (wt (oM rfl (oS rfl (Yk.eqI (a := (0 : Nat)) (b := (0 : Nat)) T18 rfl (k_eql _ _ _ _) (oM rfl (opsF_mayV (NI 0) rfl rfl (gT (vr (.bool (decide ((0 : Nat) = (0)))) rfl)) (fun hG184 => Yk.move (vr (NI 0) rfl) ⟨rfl, rfl⟩) (opsF_mayV (.bool (decide ((0 : Nat) = (0)))) rfl rfl (gT (vr (.bool (decide ((0 : Nat) = (0)))) rfl)) (fun hG185 => Yk.eqI (a := ((0 : Nat) : Int)) (b := ((0 : Nat) : Int)) (mayT (vr (cond ((decide ((0 : Nat) = (0)))) (NI 0) undef) rfl) hG185) (vr (NI 0) rfl) (k_eql _ .i64 (0) (0)) ⟨rfl, rfl⟩) (oS rfl (Yk.pickAndN (vr (.bool (decide ((0 : Nat) = (0)))) rfl) (fun hA => (mayT (vr (cond ((decide ((0 : Nat) = (0)))) (.bool (decide ((0 : Nat) = (0)))) undef) rfl) hA)) (vr (.bool (false)) rfl) fun bb186 hbb187 => (oM rfl (opsF_mayV (AB id1.1) rfl rfl (gT (vr (.bool (bb186)) rfl)) (fun hG188 => Yk.loadAll (vr (PQ n51 0) rfl) hb67 wr37_ty25 rfl (by exact sizeId_of id1.2) ⟨rfl, rfl⟩) (opsF_mayV (AB id1.1) rfl rfl (gT (vr (.bool (bb186)) rfl)) (fun hG189 => Yk.run (v := AB id1.1) (by kernel_rfl) ⟨rfl, rfl⟩) (opsF_mayV (.bool (decide (id1.1 = id1.1))) rfl rfl (gT (vr (.bool (bb186)) rfl)) (fun hG190 => Yk.eqArr (l1 := id1.1) (l2 := id1.1) wr37_ty25 wr37_ty5 wr37_sz5 wr37_eg25 (mayT (vr (cond (bb186) (AB id1.1) undef) rfl) hG190) (mayT (vr (cond (bb186) (AB id1.1) undef) rfl) hG190) (id1.2) (id1.2) ⟨rfl, rfl⟩) (oS rfl (Yk.pickAndN (vr (.bool (bb186)) rfl) (fun hA => (mayT (vr (cond (bb186) (.bool (decide (id1.1 = id1.1))) undef) rfl) hA)) (vr (.bool (false)) rfl) fun bb191 hbb192 => ?_)))))))))))))))))))
 refine oM rfl (opsF_mayV (NI 15) rfl rfl (gT (vr (.bool (bb191)) rfl)) (fun hG193 => Yk.move (vr (NI 15) rfl) ⟨rfl, rfl⟩) (opsF_mayV (.bool (decide ((15 : Nat) = (15)))) rfl rfl (gT (vr (.bool (bb191)) rfl)) (fun hG194 => Yk.eqI (a := ((15 : Nat) : Int)) (b := ((15 : Nat) : Int)) (mayT (vr (cond (bb191) (NI 15) undef) rfl) hG194) (vr (NI 15) rfl) (k_eql _ .i64 (15) (15)) ⟨rfl, rfl⟩) (oS rfl (Yk.pickAndN (vr (.bool (bb191)) rfl) (fun hA => (mayT (vr (cond (bb191) (.bool (decide ((15 : Nat) = (15)))) undef) rfl) hA)) (vr (.bool (false)) rfl) fun bb195 hbb196 => (oM rfl (opsF_mayV (NI 16) rfl rfl (gT (vr (.bool (bb195)) rfl)) (fun hG197 => Yk.move (vr (NI 16) rfl) ⟨rfl, rfl⟩) (opsF_mayV (.bool (decide ((16 : Nat) = (16)))) rfl rfl (gT (vr (.bool (bb195)) rfl)) (fun hG198 => Yk.eqI (a := ((16 : Nat) : Int)) (b := ((16 : Nat) : Int)) (mayT (vr (cond (bb195) (NI 16) undef) rfl) hG198) (vr (NI 16) rfl) (k_eql _ .i64 (16) (16)) ⟨rfl, rfl⟩) (oS rfl (Yk.pickAndN (vr (.bool (bb195)) rfl) (fun hA => (mayT (vr (cond (bb195) (.bool (decide ((16 : Nat) = (16)))) undef) rfl) hA)) (vr (.bool (false)) rfl) fun bb199 hbb200 => (oM rfl (opsF_mayV (PQ n36 35) rfl rfl (gT (vr (.bool (bb199)) rfl)) (fun hG201 => Yk.fieldAt wr37_fo53_4 T2 ⟨rfl, rfl⟩) (opsF_mayV (((r1, v26)).2.log) rfl rfl (gT (vr (.bool (bb199)) rfl)) (fun hG202 => Yk.cell1 wr37_ty47 rfl (mayT (vr (cond (bb199) (PQ n36 35) undef) rfl) hG202) (cellAt hb37 (show (refsC (r1, v26))[35]? = some (((r1, v26)).2.log : Value) from refs_g4 (r1, v26))) ⟨rfl, rfl⟩) (opsF_mayV (NI ((r1.log).length)) rfl rfl (gT (vr (.bool (bb199)) rfl)) (fun hG203 => Yk.lenRG wr37_ty47 (RG.of (RG.ofOwn ho32) (mayT (vr (cond (bb199) (((r1, v26)).2.log) undef) rfl) hG203)) ⟨rfl, rfl⟩) (opsF_mayV (.bool (decide (((r1.log).length : Nat) = (1)))) rfl rfl (gT (vr (.bool (bb199)) rfl)) (fun hG204 => Yk.eqI (a := (((r1.log).length : Nat) : Int)) (b := ((1 : Nat) : Int)) (mayT (vr (cond (bb199) (NI ((r1.log).length)) undef) rfl) hG204) (vr (NI 1) rfl) (k_eql _ .i64 ((r1.log).length) (1)) ⟨rfl, rfl⟩) (oS rfl (Yk.pickAndN (vr (.bool (bb199)) rfl) (fun hA => (mayT (vr (cond (bb199) (.bool (decide (((r1.log).length : Nat) = (1)))) undef) rfl) hA)) (vr (.bool (false)) rfl) fun bb205 hbb206 => (oA rfl (oL_ [(0, .bool (bb205)), (1, PQ n3 0), (2, PQ n36 0), (3, NI 0), (4, PQ n51 0), (5, NI 0), (7, NI 15), (9, NI 16)] ⟨rfl, T1, T2, T18, rfl, rfl, rfl, rfl, trivial⟩ fun ρ207 ⟨T0, T1, T2, T3, T4, T5, T7, T9, _⟩ => ?_))))))))))))))))))
 refine tN (hK183 _ _ (wpF_ret (postF_ret (fn := Tryd.f35) _ rfl [.bool (bb205)] (.bool (bb205)) rfl ⟨T0, trivial⟩ ?_)))
 subst hbb187 hbb192 hbb196 hbb200 hbb206
 exact ⟨by first | rfl | decide | simp, hE⟩
open Go.RowKit
set_option maxRecDepth 100000
theorem wr28_al53 {d : Option Tmp} {ty : TypeId} {pos : String} {af : Array Edge} {gd : Option (Nat × Bool)} (σ : Operand → Value) (w : World) : (execOp σ ⟨d, .alloc 53, ty, pos, af, gd⟩).run Tryd.prog w = .ok (.value (PQ w.heap.size 0)) (w.alloc (.cells (refsC ((⟨[], [], [], zid, []⟩, ⟨.slice none 0 0, .slice none 0 0, .slice none 0 0⟩) : RefsV)).toArray 53)) := by kernel_rfl
theorem wr28_fo49_0 : FieldOff Tryd.prog 49 0 0 := fun b o w => by simp [go_sem]
theorem wr28_ty46 : Tryd.prog.underlying 46 = some (.slice 69) := by kernel_rfl
theorem wr28_fo53_0 : FieldOff Tryd.prog 53 0 0 := fun b o w => by simp [go_sem]
theorem wr28_ty51 : Tryd.prog.underlying 51 = some (.slice 70) := by kernel_rfl
theorem wr28_szg69 : ∀ w' : World, (sizeOf 69).run Tryd.prog w' = .ok 33 w' := fun _ => by kernel_rfl
theorem wr28_fo69_0 : FieldOff Tryd.prog 69 0 0 := fun b o w => by simp [go_sem]
theorem wr28_ty9 : Tryd.prog.underlying 9 = some (.string) := by kernel_rfl
theorem wr28_fo69_1 : FieldOff Tryd.prog 69 1 1 := fun b o w => by simp [go_sem]
theorem wr28_ty25 : Tryd.prog.underlying 25 = some (.array 32 5) := by kernel_rfl
theorem wr28_isz25 : (Tryd.prog.info? 25).map (·.size) = some 32 := by kernel_rfl
theorem wr28_bs70_0_1h (z0 : ByteArray) (c1_0 c1_1 c1_2 c1_3 c1_4 c1_5 c1_6 c1_7 c1_8 c1_9 c1_10 c1_11 c1_12 c1_13 c1_14 c1_15 c1_16 c1_17 c1_18 c1_19 c1_20 c1_21 c1_22 c1_23 c1_24 c1_25 c1_26 c1_27 c1_28 c1_29 c1_30 c1_31 : Value) (w : World) : (Instr.build 70 #[(0, .string z0), (1, .agg #[c1_0, c1_1, c1_2, c1_3, c1_4, c1_5, c1_6, c1_7, c1_8, c1_9, c1_10, c1_11, c1_12, c1_13, c1_14, c1_15, c1_16, c1_17, c1_18, c1_19, c1_20, c1_21, c1_22, c1_23, c1_24, c1_25, c1_26, c1_27, c1_28, c1_29, c1_30, c1_31])]).run Tryd.prog w = .ok (.agg #[.string z0, c1_0, c1_1, c1_2, c1_3, c1_4, c1_5, c1_6, c1_7, c1_8, c1_9, c1_10, c1_11, c1_12, c1_13, c1_14, c1_15, c1_16, c1_17, c1_18, c1_19, c1_20, c1_21, c1_22, c1_23, c1_24, c1_25, c1_26, c1_27, c1_28, c1_29, c1_30, c1_31]) w := by kernel_rfl
theorem wr28_bs70_0_1 (z0 : List UInt8) (z1 : Id32) (w : World) : (Instr.build 70 #[(0, St z0), (1, AB z1.1)]).run Tryd.prog w = .ok (.agg (St (z0) :: (Lib.byteCells z1.1)).toArray) w := by
 obtain ⟨z1, k1⟩ := z1
 obtain ⟨a1_0, a1_1, a1_2, a1_3, a1_4, a1_5, a1_6, a1_7, a1_8, a1_9, a1_10, a1_11, a1_12, a1_13, a1_14, a1_15, a1_16, a1_17, a1_18, a1_19, a1_20, a1_21, a1_22, a1_23, a1_24, a1_25, a1_26, a1_27, a1_28, a1_29, a1_30, a1_31, rfl⟩ := list32 k1
 exact wr28_bs70_0_1h _ _ _ _ _ _ _ _ _ _ _ _ _ _ _ _ _ _ _ _ _ _ _ _ _ _ _ _ _ _ _ _ _ w
theorem wr28_lh51 (c0 c1 c2 c3 c4 c5 c6 c7 c8 c9 c10 c11 c12 c13 c14 c15 c16 c17 c18 c19 c20 c21 c22 c23 c24 c25 c26 c27 c28 c29 c30 c31 c32 : Value) (w : World) : (Instr.buildSlice 51 1 #[(0, .agg #[c0, c1, c2, c3, c4, c5, c6, c7, c8, c9, c10, c11, c12, c13, c14, c15, c16, c17, c18, c19, c20, c21, c22, c23, c24, c25, c26, c27, c28, c29, c30, c31, c32])]).run Tryd.prog w = .ok (.slice (some ⟨w.heap.size, 0, none⟩) 1 1) (w.alloc (.cells #[c0, c1, c2, c3, c4, c5, c6, c7, c8, c9, c10, c11, c12, c13, c14, c15, c16, c17, c18, c19, c20, c21, c22, c23, c24, c25, c26, c27, c28, c29, c30, c31, c32] 70)) := by kernel_rfl
theorem wr28_lg51 : ∀ (cs : Array Value), cs.size = 33 → ∀ w : World, (Instr.buildSlice 51 1 #[(0, .agg cs)]).run Tryd.prog w = .ok (.slice (some ⟨w.heap.size, 0, none⟩) 1 1) (w.alloc (.cells cs 70))
 | ⟨c0 :: c1 :: c2 :: c3 :: c4 :: c5 :: c6 :: c7 :: c8 :: c9 :: c10 :: c11 :: c12 :: c13 :: c14 :: c15 :: c16 :: c17 :: c18 :: c19 :: c20 :: c21 :: c22 :: c23 :: c24 :: c25 :: c26 :: c27 :: c28 :: c29 :: c30 :: c31 :: c32 :: []⟩, _, w => wr28_lh51 c0 c1 c2 c3 c4 c5 c6 c7 c8 c9 c10 c11 c12 c13 c14 c15 c16 c17 c18 c19 c20 c21 c22 c23 c24 c25 c26 c27 c28 c29 c30 c31 c32 w
theorem wr28_ig70 : ∃ z, (Tryd.prog.info? 70).map (fun i => (i.zero, i.size, i.bytes)) = some (some z, 33, 48) ∧ z.cells.size = 33 := info_ex (by kernel_rfl)
theorem wr28_isz51 : (Tryd.prog.info? 51).map (·.size) = some 1 := by kernel_rfl
theorem wr28_fo49_1 : FieldOff Tryd.prog 49 1 1 := fun b o w => by simp [go_sem]
theorem wr28_fo53_1 : FieldOff Tryd.prog 53 1 1 := fun b o w => by simp [go_sem]
theorem wr28_fo49_2 : FieldOff Tryd.prog 49 2 2 := fun b o w => by simp [go_sem]
theorem wr28_fo49_3 : FieldOff Tryd.prog 49 3 3 := fun b o w => by simp [go_sem]
theorem wr28_fo53_2 : FieldOff Tryd.prog 53 2 2 := fun b o w => by simp [go_sem]
theorem wr28_fo53_3 : FieldOff Tryd.prog 53 3 3 := fun b o w => by simp [go_sem]
theorem wr28_isz9 : (Tryd.prog.info? 9).map (·.size) = some 1 := by kernel_rfl
theorem wr28_fo53_4 : FieldOff Tryd.prog 53 4 35 := fun b o w => by simp [go_sem]
theorem wr28_ty47 : Tryd.prog.underlying 47 = some (.slice 122) := by kernel_rfl
theorem wr28_fo49_4 : FieldOff Tryd.prog 49 4 35 := fun b o w => by simp [go_sem]
theorem wr28_ig122 : ∃ z, (Tryd.prog.info? 122).map (fun i => (i.zero, i.size, i.bytes)) = some (some z, 67, 104) ∧ z.cells.size = 67 := info_ex (by kernel_rfl)
theorem wr28_isz47 : (Tryd.prog.info? 47).map (·.size) = some 1 := by kernel_rfl
theorem wr28_ty53 : ∃ fs, Tryd.prog.underlying 53 = some (.struct fs) := struct_of (by kernel_rfl)
theorem wr28_isz53 : (Tryd.prog.info? 53).map (·.size) = some 36 := by kernel_rfl
theorem wr28_al49 {d : Option Tmp} {ty : TypeId} {pos : String} {af : Array Edge} {gd : Option (Nat × Bool)} (σ : Operand → Value) (w : World) : (execOp σ ⟨d, .alloc 49, ty, pos, af, gd⟩).run Tryd.prog w = .ok (.value (PQ w.heap.size 0)) (w.alloc (.cells (refsC ((⟨[], [], [], zid, []⟩, ⟨.slice none 0 0, .slice none 0 0, .slice none 0 0⟩) : RefsV)).toArray 49)) := by kernel_rfl
theorem wr28_szg70 : ∀ w' : World, (sizeOf 70).run Tryd.prog w' = .ok 33 w' := fun _ => by kernel_rfl
theorem wr28_fo70_0 : FieldOff Tryd.prog 70 0 0 := fun b o w => by simp [go_sem]
theorem wr28_fo70_1 : FieldOff Tryd.prog 70 1 1 := fun b o w => by simp [go_sem]
theorem wr28_bs69_0_1h (z0 : ByteArray) (c1_0 c1_1 c1_2 c1_3 c1_4 c1_5 c1_6 c1_7 c1_8 c1_9 c1_10 c1_11 c1_12 c1_13 c1_14 c1_15 c1_16 c1_17 c1_18 c1_19 c1_20 c1_21 c1_22 c1_23 c1_24 c1_25 c1_26 c1_27 c1_28 c1_29 c1_30 c1_31 : Value) (w : World) : (Instr.build 69 #[(0, .string z0), (1, .agg #[c1_0, c1_1, c1_2, c1_3, c1_4, c1_5, c1_6, c1_7, c1_8, c1_9, c1_10, c1_11, c1_12, c1_13, c1_14, c1_15, c1_16, c1_17, c1_18, c1_19, c1_20, c1_21, c1_22, c1_23, c1_24, c1_25, c1_26, c1_27, c1_28, c1_29, c1_30, c1_31])]).run Tryd.prog w = .ok (.agg #[.string z0, c1_0, c1_1, c1_2, c1_3, c1_4, c1_5, c1_6, c1_7, c1_8, c1_9, c1_10, c1_11, c1_12, c1_13, c1_14, c1_15, c1_16, c1_17, c1_18, c1_19, c1_20, c1_21, c1_22, c1_23, c1_24, c1_25, c1_26, c1_27, c1_28, c1_29, c1_30, c1_31]) w := by kernel_rfl
theorem wr28_bs69_0_1 (z0 : List UInt8) (z1 : Id32) (w : World) : (Instr.build 69 #[(0, St z0), (1, AB z1.1)]).run Tryd.prog w = .ok (.agg (St (z0) :: (Lib.byteCells z1.1)).toArray) w := by
 obtain ⟨z1, k1⟩ := z1
 obtain ⟨a1_0, a1_1, a1_2, a1_3, a1_4, a1_5, a1_6, a1_7, a1_8, a1_9, a1_10, a1_11, a1_12, a1_13, a1_14, a1_15, a1_16, a1_17, a1_18, a1_19, a1_20, a1_21, a1_22, a1_23, a1_24, a1_25, a1_26, a1_27, a1_28, a1_29, a1_30, a1_31, rfl⟩ := list32 k1
 exact wr28_bs69_0_1h _ _ _ _ _ _ _ _ _ _ _ _ _ _ _ _ _ _ _ _ _ _ _ _ _ _ _ _ _ _ _ _ _ w
theorem wr28_lh46 (c0 c1 c2 c3 c4 c5 c6 c7 c8 c9 c10 c11 c12 c13 c14 c15 c16 c17 c18 c19 c20 c21 c22 c23 c24 c25 c26 c27 c28 c29 c30 c31 c32 : Value) (w : World) : (Instr.buildSlice 46 1 #[(0, .agg #[c0, c1, c2, c3, c4, c5, c6, c7, c8, c9, c10, c11, c12, c13, c14, c15, c16, c17, c18, c19, c20, c21, c22, c23, c24, c25, c26, c27, c28, c29, c30, c31, c32])]).run Tryd.prog w = .ok (.slice (some ⟨w.heap.size, 0, none⟩) 1 1) (w.alloc (.cells #[c0, c1, c2, c3, c4, c5, c6, c7, c8, c9, c10, c11, c12, c13, c14, c15, c16, c17, c18, c19, c20, c21, c22, c23, c24, c25, c26, c27, c28, c29, c30, c31, c32] 69)) := by kernel_rfl
theorem wr28_lg46 : ∀ (cs : Array Value), cs.size = 33 → ∀ w : World, (Instr.buildSlice 46 1 #[(0, .agg cs)]).run Tryd.prog w = .ok (.slice (some ⟨w.heap.size, 0, none⟩) 1 1) (w.alloc (.cells cs 69))
 | ⟨c0 :: c1 :: c2 :: c3 :: c4 :: c5 :: c6 :: c7 :: c8 :: c9 :: c10 :: c11 :: c12 :: c13 :: c14 :: c15 :: c16 :: c17 :: c18 :: c19 :: c20 :: c21 :: c22 :: c23 :: c24 :: c25 :: c26 :: c27 :: c28 :: c29 :: c30 :: c31 :: c32 :: []⟩, _, w => wr28_lh46 c0 c1 c2 c3 c4 c5 c6 c7 c8 c9 c10 c11 c12 c13 c14 c15 c16 c17 c18 c19 c20 c21 c22 c23 c24 c25 c26 c27 c28 c29 c30 c31 c32 w
theorem wr28_ig69 : ∃ z, (Tryd.prog.info? 69).map (fun i => (i.zero, i.size, i.bytes)) = some (some z, 33, 48) ∧ z.cells.size = 33 := info_ex (by kernel_rfl)
theorem wr28_isz46 : (Tryd.prog.info? 46).map (·.size) = some 1 := by kernel_rfl
theorem wr28_ty49 : ∃ fs, Tryd.prog.underlying 49 = some (.struct fs) := struct_of (by kernel_rfl)
theorem wr28_isz49 : (Tryd.prog.info? 49).map (·.size) = some 36 := by kernel_rfl
set_option maxHeartbeats 1600000
theorem told20_any (w : World) (y : RefsV) (hm : RefsAt w y) (hc : y.1.branches.length ≤ 80 ∧ y.1.tags.length ≤ 80 ∧ y.1.log.length ≤ 80) :
  Calls Tryd.prog 27 #[.agg (refsC y).toArray] w fun e w' => ∃ z, e = .returned (.agg (refsC (y.1, z)).toArray) ∧ RefsAt w' (y.1, z) ∧ Ext w w' := by
 have hmt := hm.branches
 have hmg := hm.tags
 have hml := hm.log
 obtain ⟨hc1, hc2, hc3⟩ := hc
 refine calls_of_wpF (args := [.agg (refsC y).toArray]) Tryd.func27 rfl 69 rfl (Nat.le_of_ble_eq_true rfl) ?_
 intro ρ0 hb
 have T0 : ρ0 0 = (.agg (refsC y).toArray : Value) := hb.get 0
 clear hb
 have hE := Ext.refl w
 refine sk fun K1 hK1 => (wt (oS rfl (Yk.box (cs := (refsC y : List Value).toArray) T0 fun n2 w3 hn4 hb5 hx6 hs7 => ?_)))
 have hE := hE.trans hx6
 have hb8 := hb5; clear hb5
 have hl9 : n2 < w3.heap.size := by omega
 refine oS rfl (Yk.alloc (cs := (refsC ((⟨[], [], [], zid, []⟩, ⟨.slice none 0 0, .slice none 0 0, .slice none 0 0⟩) : RefsV)).toArray) wr28_al53 fun n10 w11 hn12 hb13 hx14 hs15 => ?_)
 have hA16 := Ext.refl w3
 have hea17 := hE
 have hz18 := hE.size
 have hlt19 := lte (bl hb8) hn12
 have hE := hE.trans hx14
 have hb8 := eb hx14 hb8
 have hA16 := hA16.trans hx14
 have hb20 := hb13; clear hb13
 have hl21 : n10 < w11.heap.size := by omega
 refine oZ (tN (hK1 _ _ (sk fun K22 hK22 => (wt (oS rfl (Yk.alloc (cs := (refsC ((⟨[], [], [], zid, []⟩, ⟨.slice none 0 0, .slice none 0 0, .slice none 0 0⟩) : RefsV)).toArray) wr28_al53 fun n23 w24 hn25 hb26 hx27 hs28 => ?_))))))
 have hA29 := Ext.refl w11
 have hea30 := hE
 have hea31 := hA16
 have hz32 := hE.size
 have hz33 := hA16.size
 have hlt34 := lte (bl hb8) hn25
 have hlt35 := lte (bl hb20) hn25
 have hE := hE.trans hx27
 have hb8 := eb hx27 hb8
 have hA16 := hA16.trans hx27
 have hb20 := eb hx27 hb20
 have hA29 := hA29.trans hx27
 have hb36 := hb26; clear hb26
 have hl37 : n23 < w24.heap.size := by omega
 refine oZ (tN (hK22 _ _ (sk fun K38 hK38 => (sk fun K39 hK39 => (wt (oA rfl (oL_ [(0, .agg (refsC y).toArray), (1, PQ n2 0), (2, PQ n10 0), (3, PQ n23 0), (4, NI 0)] ⟨T0, rfl, rfl, rfl, rfl, trivial⟩ fun ρ40 ⟨T0, T1, T2, T3, T4, _⟩ => (tN (hK39 _ _ (wpF_block (wpF_loop (fun (ρ : Slots) (wz : World) => ∃ i1 : Nat, ∃ vb1 : Value, ρ 0 = (.agg (refsC y).toArray : Value) ∧ ρ 1 = (PQ n2 0 : Value) ∧ ρ 2 = (PQ n10 0 : Value) ∧ ρ 3 = (PQ n23 0 : Value) ∧ ρ 4 = (NI i1 : Value) ∧ Ext w wz ∧ wz.heap[n2]? = some (.cells (refsC y).toArray 49 (0, 0)) ∧ wz.heap[n10]? = some (.cells (refsC ((⟨[], [], [], zid, []⟩, ⟨.slice none 0 0, .slice none 0 0, .slice none 0 0⟩) : RefsV)).toArray 53 (0, 0)) ∧ wz.heap[n23]? = some (.cells (refsC ((⟨(y.1.branches.take i1), [], (((⟨[], [], [], zid, []⟩, ⟨.slice none 0 0, .slice none 0 0, .slice none 0 0⟩) : RefsV)).1.head, (((⟨[], [], [], zid, []⟩, ⟨.slice none 0 0, .slice none 0 0, .slice none 0 0⟩) : RefsV)).1.at_, []⟩, ⟨vb1, (Value.slice none 0 0), (Value.slice none 0 0)⟩) : RefsV)).toArray 53 (0, 0)) ∧ OG w.heap.size 70 33 (nmdC) wz vb1 (y.1.branches.take i1) ∧ (i1 ≤ y.1.branches.length) ∧ (OB vb1 n2) ∧ (OB vb1 n10) ∧ (OB vb1 n23) ∧ True) (fun ρ _ => y.1.branches.length - (intOf (ρ 4)).toNat) ⟨0, (Value.slice none 0 0), T0, T1, T2, T3, T4, hE, hb8, hb20, hb36, OG.nil _ _ _ _ _, Nat.zero_le _, (fun h => by cases h), (fun h => by cases h), (fun h => by cases h), trivial⟩ ?_)))))))))))
 clear hA16
 clear hA29
 clear hb36
 clear hE hb8 hb20
 rintro ρ41 w42 ⟨i1, vb1, T0, T1, T2, T3, T4, hE, hb8, hb20, hm1, ho1, hi1, hap_vb1_n2, hap_vb1_n10, hap_vb1_n23, -⟩
 have q4 := T4
 have hl43 := (bl hb8)
 have hl44 := (bl hb20)
 have hl45 := (bl hm1)
 refine sk fun K46 hK46 => (sk fun K47 hK47 => (wt (oM rfl (oS rfl (Yk.fieldAt wr28_fo49_0 T1 (oS rfl (Yk.cell1 wr28_ty46 rfl (vr (PQ n2 0) rfl) (cellAt hb8 (show (refsC y)[0]? = some (y.2.branches : Value) from refs_g0 y)) (oS rfl (Yk.lenRG wr28_ty46 (RG.of (hmt.keep hE) (vr y.2.branches rfl)) (oS rfl (Yk.eqI (a := (i1 : Nat)) (b := ((y.1.branches).length : Nat)) T4 rfl (k_lss _ _ _ _) (oZ (tN (hK47 _ _ ?_))))))))))))))
 refine wpF_cond ((i1) < ((y.1.branches).length)) (vr (.bool (decide ((i1) < ((y.1.branches).length)))) rfl) (fun hc0 => ?_) (fun hc0 => ?_)
 ·have hlt1 : i1 < y.1.branches.length := hc0
  refine wpF_skip (tN (hK46 _ _ (sk fun K48 hK48 => (wpF_block ?_))))
  refine wpF_draw_cut 16 [Is (PQ n23 0), Is (vb1), Is (PQ n2 0), Is (y.2.branches), Is (NI i1), fun x w' => PR (nmdC ((y.1.branches).getD (i1) dNmd)) x w', PCell (St (((y.1.branches).getD (i1) dNmd).name)), Is (St (((y.1.branches).getD (i1) dNmd).name)), Is (PQ n2 0), Is (y.2.branches), Is (NI i1), fun x w' => PR (nmdC ((y.1.branches).getD (i1) dNmd)) x w', fun x w' => PR (Lib.byteCells ((y.1.branches).getD (i1) dNmd).id.1) x w', Is (AB (((y.1.branches).getD (i1) dNmd).id.1)), Is (.agg (nmdC (⟨(((y.1.branches).getD (i1) dNmd).name), ((y.1.branches).getD (i1) dNmd).id⟩ : Nmd)).toArray), fun x w' => RG 33 (nmdC) w' x ([(⟨(((y.1.branches).getD (i1) dNmd).name), ((y.1.branches).getD (i1) dNmd).id⟩ : Nmd)])] (by kernel_rfl) [13, 14, 15, 16, 17, 18, 19, 20, 21, 22, 23, 24, 25, 26, 27, 28, 29, 30] (by kernel_rfl) (by kernel_rfl) (by kernel_rfl) (by kernel_rfl) rfl rfl (si5 ⟨(fun _ _ _ h k => PR.keep h k), Stab.pcell _, (si4 ⟨(fun _ _ _ h k => PR.keep h k), (fun _ _ _ h k => PR.keep h k), (si2 ⟨(fun _ _ _ h k => RG.keep h k), trivial⟩)⟩)⟩) ?hs2005 ?hQ2005
  case hs2005 =>
   refine ⟨?_, ?_, ?_, ?_, ?_, ?_, ?_, ?_, ?_, ?_, ?_, ?_, ?_, ?_, ?_, ?_, ?_, ?_, ?_, trivial⟩
   ·refine stepFC (stepN rfl fun σ w1 hC h => ?_)
    have e3 := (eqo (h 3 (by decide))).trans T3
    exact Yk.fieldAt wr28_fo53_0 e3 ⟨Ext.refl _, rfl⟩
   ·refine stepFC (stepN rfl fun σ w1 hC h => ?_)
    have e13 := eqo (h 13 (by decide))
    exact Yk.cell1 wr28_ty51 rfl e13 (cellAt (eb hC hm1) (show (refsC ((⟨(y.1.branches.take i1), [], (((⟨[], [], [], zid, []⟩, ⟨.slice none 0 0, .slice none 0 0, .slice none 0 0⟩) : RefsV)).1.head, (((⟨[], [], [], zid, []⟩, ⟨.slice none 0 0, .slice none 0 0, .slice none 0 0⟩) : RefsV)).1.at_, []⟩, ⟨vb1, (Value.slice none 0 0), (Value.slice none 0 0)⟩) : RefsV))[0]? = some (vb1 : Value) from refs_g0 ((⟨(y.1.branches.take i1), [], (((⟨[], [], [], zid, []⟩, ⟨.slice none 0 0, .slice none 0 0, .slice none 0 0⟩) : RefsV)).1.head, (((⟨[], [], [], zid, []⟩, ⟨.slice none 0 0, .slice none 0 0, .slice none 0 0⟩) : RefsV)).1.at_, []⟩, ⟨vb1, (Value.slice none 0 0), (Value.slice none 0 0)⟩) : RefsV))) ⟨Ext.refl _, rfl⟩
   ·refine stepFC (stepN rfl fun σ w1 hC h => ?_)
    have e1 := (eqo (h 1 (by decide))).trans T1
    exact Yk.fieldAt wr28_fo49_0 e1 ⟨Ext.refl _, rfl⟩
   ·refine stepFC (stepN rfl fun σ w1 hC h => ?_)
    have e15 := eqo (h 15 (by decide))
    exact Yk.cell1 wr28_ty46 rfl e15 (cellAt (eb hC hb8) (show (refsC y)[0]? = some (y.2.branches : Value) from refs_g0 y)) ⟨Ext.refl _, rfl⟩
   ·refine stepFC (stepN rfl fun σ w1 hC h => ?_)
    have e4 := (eqo (h 4 (by decide))).trans T4
    exact Yk.move e4 ⟨Ext.refl _, rfl⟩
   ·refine stepFC (stepN rfl fun σ w1 hC h => ?_)
    have e16 := eqo (h 16 (by decide))
    have e17 := eqo (h 17 (by decide))
    exact Yk.atRG wr28_ty46 wr28_szg69 (by decide) dNmd (RG.of (hmt.keep (hE.trans hC)) e16) e17 (by omega) fun v h => ⟨Ext.refl _, h⟩
   ·refine stepFC (stepN rfl fun σ w1 hC h => ?_)
    have e18 : (fun x w' => PR (nmdC ((y.1.branches).getD (i1) dNmd)) x w') (σ 18) w1 := h 18 (by decide)
    exact Yk.fieldPR (n := 1) wr28_fo69_0 e18 fun v h => ⟨Ext.refl _, PR.pcell (by rw [nmd_f0] at h; exact h)⟩
   ·refine stepFC (stepN rfl fun σ w1 hC h => ?_)
    have e19 : (PCell (St (((y.1.branches).getD (i1) dNmd).name))) (σ 19) w1 := h 19 (by decide)
    exact Yk.loadC wr28_ty9 rfl e19 ⟨Ext.refl _, rfl⟩
   ·refine stepFC (stepN rfl fun σ w1 hC h => ?_)
    have e1 := (eqo (h 1 (by decide))).trans T1
    exact Yk.fieldAt wr28_fo49_0 e1 ⟨Ext.refl _, rfl⟩
   ·refine stepFC (stepN rfl fun σ w1 hC h => ?_)
    have e21 := eqo (h 21 (by decide))
    exact Yk.cell1 wr28_ty46 rfl e21 (cellAt (eb hC hb8) (show (refsC y)[0]? = some (y.2.branches : Value) from refs_g0 y)) ⟨Ext.refl _, rfl⟩
   ·refine stepFC (stepN rfl fun σ w1 hC h => ?_)
    have e4 := (eqo (h 4 (by decide))).trans T4
    exact Yk.move e4 ⟨Ext.refl _, rfl⟩
   ·refine stepFC (stepN rfl fun σ w1 hC h => ?_)
    have e22 := eqo (h 22 (by decide))
    have e23 := eqo (h 23 (by decide))
    exact Yk.atRG wr28_ty46 wr28_szg69 (by decide) dNmd (RG.of (hmt.keep (hE.trans hC)) e22) e23 (by omega) fun v h => ⟨Ext.refl _, h⟩
   ·refine stepFC (stepN rfl fun σ w1 hC h => ?_)
    have e24 : (fun x w' => PR (nmdC ((y.1.branches).getD (i1) dNmd)) x w') (σ 24) w1 := h 24 (by decide)
    exact Yk.fieldPR (n := 32) wr28_fo69_1 e24 fun v h => ⟨Ext.refl _, by rw [nmd_f1] at h; exact h⟩
   ·refine stepFC (stepN rfl fun σ w1 hC h => ?_)
    have e25 : (fun x w' => PR (Lib.byteCells ((y.1.branches).getD (i1) dNmd).id.1) x w') (σ 25) w1 := h 25 (by decide)
    exact Yk.loadPR e25 wr28_ty25 rfl (by rw [Lib.byteCells_length, ((y.1.branches).getD (i1) dNmd).id.2]; exact wr28_isz25) ⟨Ext.refl _, rfl⟩
   ·refine stepFC (stepN rfl fun σ w1 hC h => ?_)
    have e20 := eqo (h 20 (by decide))
    have e26 := eqo (h 26 (by decide))
    exact Yk.build2 e20 e26 (fun w => wr28_bs70_0_1 (((y.1.branches).getD (i1) dNmd).name) (((y.1.branches).getD (i1) dNmd).id) w) ⟨Ext.refl _, rfl⟩
   ·refine stepFC (stepN rfl fun σ w1 hC h => ?_)
    have e27 := eqo (h 27 (by decide))
    exact Yk.lit1G (a := (⟨(((y.1.branches).getD (i1) dNmd).name), ((y.1.branches).getD (i1) dNmd).id⟩ : Nmd)) (enc := nmdC) e27 (nmd_len _) wr28_lg51 fun v w2 h hx => ⟨hx, h⟩
   ·exact trivial
   ·exact trivial
   ·exact trivial
  intro ρ49 w50 hx51 he hf
  obtain ⟨-, k14, -, -, -, -, -, -, -, -, -, -, -, -, -, k28, -⟩ := hf
  obtain ⟨T0, T1, T2, T3, T4, -⟩ := he.hold [(0, _), (1, _), (2, _), (3, _), (4, _)] ⟨T0, T1, T2, T3, T4, trivial⟩ rfl
  clear he
  have hE := hE.trans hx51
  have hb8 := eb hx51 hb8
  have hb20 := eb hx51 hb20
  have hm1 := eb hx51 hm1
  have ho1 := ho1.keep hx51
  have T14 : ρ49 14 = vb1 := k14
  have k28 : (fun x w' => RG 33 (nmdC) w' x ([(⟨(((y.1.branches).getD (i1) dNmd).name), ((y.1.branches).getD (i1) dNmd).id⟩ : Nmd)])) (ρ49 28) w50 := k28
  obtain ⟨v52, T28⟩ : ∃ v, ρ49 28 = v := ⟨_, rfl⟩
  rw [T28] at k28
  have hk53 := k28; clear k28
  clear k14
  refine oS rfl (Yk.appendRG _ _ w.heap.size _ 48 wr28_ty51 wr28_ig70.choose_spec.1 wr28_ig70.choose_spec.2 wr28_ty51 (y.1.branches.take i1) ([(⟨(((y.1.branches).getD (i1) dNmd).name), ((y.1.branches).getD (i1) dNmd).id⟩ : Nmd)]) (OG.of ho1 T14) (RG.of hk53 T28) (fun _ _ => nmd_one) (by simp only [List.length_take, List.length_append, List.length_cons, List.length_nil]; omega) (by simp only [List.length_take, List.length_append, List.length_cons, List.length_nil]; omega) hE.size fun v54 w55 ho56 hg57 => ?_)
  have hg57 : Grew w50 w55 vb1 v54 := .eqv T14 hg57
  have hap58 : OB v54 n2 := apart_grew hg57 hap_vb1_n2 (bl hb8)
  have hap59 : OB v54 n10 := apart_grew hg57 hap_vb1_n10 (bl hb20)
  have hap60 : OB v54 n23 := apart_grew hg57 hap_vb1_n23 (bl hm1)
  have hE := ext_grew hE hg57 ho1.2 (Nat.le_refl _)
  have hb8 := blk_grew hb8 hg57 hap_vb1_n2
  have hb20 := blk_grew hb20 hg57 hap_vb1_n10
  have hm1 := blk_grew hm1 hg57 hap_vb1_n23
  clear ho1
  clear hk53
  refine oS rfl (Yk.fieldAt wr28_fo53_0 T3 (oS rfl (Yk.storeC (i := 0) (v := v54) (vr (PQ n23 0) rfl) (vr v54 rfl) hm1 (by rw [refs_len]; decide) wr28_isz51 (RG.one (RG.ofOwn ho56)).1 (RG.one (RG.ofOwn ho56)).2 fun w61 hb62 hg63 hs64 => ?_)))
  have hE := row_fresh hE hg63 (Nat.le_trans hz32 (by omega))
  have hb8 := kb hg63 hb8 (by omega)
  have hb20 := kb hg63 hb20 (by omega)
  clear hm1
  have ho56 := OG.kept ho56 hg63 hap60
  have hm1 : w61.heap[n23]? = some (.cells (refsC ((⟨(y.1.branches.take i1) ++ [(⟨(((y.1.branches).getD (i1) dNmd).name), ((y.1.branches).getD (i1) dNmd).id⟩ : Nmd)], [], (((⟨[], [], [], zid, []⟩, ⟨.slice none 0 0, .slice none 0 0, .slice none 0 0⟩) : RefsV)).1.head, (((⟨[], [], [], zid, []⟩, ⟨.slice none 0 0, .slice none 0 0, .slice none 0 0⟩) : RefsV)).1.at_, []⟩, ⟨v54, (Value.slice none 0 0), (Value.slice none 0 0)⟩) : RefsV)).toArray 53 (0, 0)) := blk_eq hb62 (refs_s0 ((⟨(y.1.branches.take i1), [], (((⟨[], [], [], zid, []⟩, ⟨.slice none 0 0, .slice none 0 0, .slice none 0 0⟩) : RefsV)).1.head, (((⟨[], [], [], zid, []⟩, ⟨.slice none 0 0, .slice none 0 0, .slice none 0 0⟩) : RefsV)).1.at_, []⟩, ⟨vb1, (Value.slice none 0 0), (Value.slice none 0 0)⟩) : RefsV) v54 ((y.1.branches.take i1) ++ [(⟨(((y.1.branches).getD (i1) dNmd).name), ((y.1.branches).getD (i1) dNmd).id⟩ : Nmd)])); clear hb62
  have hl65 := bl hm1
  refine oZ (bN (tN (hK48 _ _ (wt (oM rfl (oS rfl (Yk.bin (xv := NI i1) (yv := NI 1) T4 rfl rfl (i64_add _ _ _ (by omega)) (oA rfl (oL_ [(0, .agg (refsC y).toArray), (1, PQ n2 0), (2, PQ n10 0), (3, PQ n23 0), (4, NI ((i1) + (1)))] ⟨T0, T1, T2, T3, rfl, trivial⟩ fun ρ66 ⟨T0, T1, T2, T3, T4, _⟩ => (tN (And.intro ⟨i1 + 1, v54, T0, T1, T2, T3, T4, hE, hb8, hb20, hm1, og_eq ho56 (take_snoc hlt1), by omega, hap58, hap59, hap60, trivial⟩ ?_)))))))))))
  show y.1.branches.length - (intOf (ρ66 4)).toNat < y.1.branches.length - (intOf (ρ41 4)).toNat
  rw [T4, q4]
  simp only [intOf, Int.toNat_natCast]; omega
 refine wpF_exit (thenF_exit (thenF_exit (inBlockF_hit (tN (hK38 _ _ (sk fun K67 hK67 => (sk fun K68 hK68 => (wt (oA rfl (oL_ [(0, .agg (refsC y).toArray), (1, PQ n2 0), (2, PQ n10 0), (3, PQ n23 0), (4, NI i1), (5, NI 0)] ⟨T0, T1, T2, T3, T4, rfl, trivial⟩ fun ρ69 ⟨T0, T1, T2, T3, T4, T5, _⟩ => (tN (hK68 _ _ (wpF_block (wpF_loop (fun (ρ : Slots) (wz : World) => ∃ i2 : Nat, ∃ vb2 : Value, ρ 0 = (.agg (refsC y).toArray : Value) ∧ ρ 1 = (PQ n2 0 : Value) ∧ ρ 2 = (PQ n10 0 : Value) ∧ ρ 3 = (PQ n23 0 : Value) ∧ ρ 4 = (NI i1 : Value) ∧ ρ 5 = (NI i2 : Value) ∧ Ext w wz ∧ wz.heap[n2]? = some (.cells (refsC y).toArray 49 (0, 0)) ∧ wz.heap[n10]? = some (.cells (refsC ((⟨[], [], [], zid, []⟩, ⟨.slice none 0 0, .slice none 0 0, .slice none 0 0⟩) : RefsV)).toArray 53 (0, 0)) ∧ OG w.heap.size 70 33 (nmdC) wz vb1 (y.1.branches.take i1) ∧ wz.heap[n23]? = some (.cells (refsC ((⟨(y.1.branches.take i1), (y.1.tags.take i2), (((⟨[], [], [], zid, []⟩, ⟨.slice none 0 0, .slice none 0 0, .slice none 0 0⟩) : RefsV)).1.head, (((⟨[], [], [], zid, []⟩, ⟨.slice none 0 0, .slice none 0 0, .slice none 0 0⟩) : RefsV)).1.at_, []⟩, ⟨vb1, vb2, (Value.slice none 0 0)⟩) : RefsV)).toArray 53 (0, 0)) ∧ OG w.heap.size 70 33 (nmdC) wz vb2 (y.1.tags.take i2) ∧ (i2 ≤ y.1.tags.length) ∧ (OB vb2 n2) ∧ (OB vb2 n10) ∧ (OB vb2 n23) ∧ (ApartV vb2 vb1) ∧ True) (fun ρ _ => y.1.tags.length - (intOf (ρ 5)).toNat) ⟨0, (Value.slice none 0 0), T0, T1, T2, T3, T4, T5, hE, hb8, hb20, ho1, hm1, OG.nil _ _ _ _ _, Nat.zero_le _, (fun h => by cases h), (fun h => by cases h), (fun h => by cases h), (fun k h => by cases h), trivial⟩ ?_))))))))))))))
 clear hm1
 clear hE hb8 hb20 ho1
 rintro ρ70 w71 ⟨i2, vb2, T0, T1, T2, T3, T4, T5, hE, hb8, hb20, ho1, hm2, ho2, hi2, hap_vb2_n2, hap_vb2_n10, hap_vb2_n23, hap_vb2_vb1, -⟩
 have q5 := T5
 have hl72 := (bl hb8)
 have hl73 := (bl hb20)
 have hl74 := (bl hm2)
 refine sk fun K75 hK75 => (sk fun K76 hK76 => (wt (oM rfl (oS rfl (Yk.fieldAt wr28_fo49_1 T1 (oS rfl (Yk.cell1 wr28_ty46 rfl (vr (PQ n2 1) rfl) (cellAt hb8 (show (refsC y)[1]? = some (y.2.tags : Value) from refs_g1 y)) (oS rfl (Yk.lenRG wr28_ty46 (RG.of (hmg.keep hE) (vr y.2.tags rfl)) (oS rfl (Yk.eqI (a := (i2 : Nat)) (b := ((y.1.tags).length : Nat)) T5 rfl (k_lss _ _ _ _) (oZ (tN (hK76 _ _ ?_))))))))))))))
 refine wpF_cond ((i2) < ((y.1.tags).length)) (vr (.bool (decide ((i2) < ((y.1.tags).length)))) rfl) (fun hc1 => ?_) (fun hc1 => ?_)
 ·have hlt2 : i2 < y.1.tags.length := hc1
  refine wpF_skip (tN (hK75 _ _ (sk fun K77 hK77 => (wpF_block ?_))))
  refine wpF_draw_cut 16 [Is (PQ n23 1), Is (vb2), Is (PQ n2 1), Is (y.2.tags), Is (NI i2), fun x w' => PR (nmdC ((y.1.tags).getD (i2) dNmd)) x w', PCell (St (((y.1.tags).getD (i2) dNmd).name)), Is (St (((y.1.tags).getD (i2) dNmd).name)), Is (PQ n2 1), Is (y.2.tags), Is (NI i2), fun x w' => PR (nmdC ((y.1.tags).getD (i2) dNmd)) x w', fun x w' => PR (Lib.byteCells ((y.1.tags).getD (i2) dNmd).id.1) x w', Is (AB (((y.1.tags).getD (i2) dNmd).id.1)), Is (.agg (nmdC (⟨(((y.1.tags).getD (i2) dNmd).name), ((y.1.tags).getD (i2) dNmd).id⟩ : Nmd)).toArray), fun x w' => RG 33 (nmdC) w' x ([(⟨(((y.1.tags).getD (i2) dNmd).name), ((y.1.tags).getD (i2) dNmd).id⟩ : Nmd)])] (by kernel_rfl) [38, 39, 40, 41, 42, 43, 44, 45, 46, 47, 48, 49, 50, 51, 52, 53, 54, 55] (by kernel_rfl) (by kernel_rfl) (by kernel_rfl) (by kernel_rfl) rfl rfl (si5 ⟨(fun _ _ _ h k => PR.keep h k), Stab.pcell _, (si4 ⟨(fun _ _ _ h k => PR.keep h k), (fun _ _ _ h k => PR.keep h k), (si2 ⟨(fun _ _ _ h k => RG.keep h k), trivial⟩)⟩)⟩) ?hs3009 ?hQ3009
  case hs3009 =>
   refine ⟨?_, ?_, ?_, ?_, ?_, ?_, ?_, ?_, ?_, ?_, ?_, ?_, ?_, ?_, ?_, ?_, ?_, ?_, ?_, trivial⟩
   ·refine stepFC (stepN rfl fun σ w1 hC h => ?_)
    have e3 := (eqo (h 3 (by decide))).trans T3
    exact Yk.fieldAt wr28_fo53_1 e3 ⟨Ext.refl _, rfl⟩
   ·refine stepFC (stepN rfl fun σ w1 hC h => ?_)
    have e38 := eqo (h 38 (by decide))
    exact Yk.cell1 wr28_ty51 rfl e38 (cellAt (eb hC hm2) (show (refsC ((⟨(y.1.branches.take i1), (y.1.tags.take i2), (((⟨[], [], [], zid, []⟩, ⟨.slice none 0 0, .slice none 0 0, .slice none 0 0⟩) : RefsV)).1.head, (((⟨[], [], [], zid, []⟩, ⟨.slice none 0 0, .slice none 0 0, .slice none 0 0⟩) : RefsV)).1.at_, []⟩, ⟨vb1, vb2, (Value.slice none 0 0)⟩) : RefsV))[1]? = some (vb2 : Value) from refs_g1 ((⟨(y.1.branches.take i1), (y.1.tags.take i2), (((⟨[], [], [], zid, []⟩, ⟨.slice none 0 0, .slice none 0 0, .slice none 0 0⟩) : RefsV)).1.head, (((⟨[], [], [], zid, []⟩, ⟨.slice none 0 0, .slice none 0 0, .slice none 0 0⟩) : RefsV)).1.at_, []⟩, ⟨vb1, vb2, (Value.slice none 0 0)⟩) : RefsV))) ⟨Ext.refl _, rfl⟩
   ·refine stepFC (stepN rfl fun σ w1 hC h => ?_)
    have e1 := (eqo (h 1 (by decide))).trans T1
    exact Yk.fieldAt wr28_fo49_1 e1 ⟨Ext.refl _, rfl⟩
   ·refine stepFC (stepN rfl fun σ w1 hC h => ?_)
    have e40 := eqo (h 40 (by decide))
    exact Yk.cell1 wr28_ty46 rfl e40 (cellAt (eb hC hb8) (show (refsC y)[1]? = some (y.2.tags : Value) from refs_g1 y)) ⟨Ext.refl _, rfl⟩
   ·refine stepFC (stepN rfl fun σ w1 hC h => ?_)
    have e5 := (eqo (h 5 (by decide))).trans T5
    exact Yk.move e5 ⟨Ext.refl _, rfl⟩
   ·refine stepFC (stepN rfl fun σ w1 hC h => ?_)
    have e41 := eqo (h 41 (by decide))
    have e42 := eqo (h 42 (by decide))
    exact Yk.atRG wr28_ty46 wr28_szg69 (by decide) dNmd (RG.of (hmg.keep (hE.trans hC)) e41) e42 (by omega) fun v h => ⟨Ext.refl _, h⟩
   ·refine stepFC (stepN rfl fun σ w1 hC h => ?_)
    have e43 : (fun x w' => PR (nmdC ((y.1.tags).getD (i2) dNmd)) x w') (σ 43) w1 := h 43 (by decide)
    exact Yk.fieldPR (n := 1) wr28_fo69_0 e43 fun v h => ⟨Ext.refl _, PR.pcell (by rw [nmd_f0] at h; exact h)⟩
   ·refine stepFC (stepN rfl fun σ w1 hC h => ?_)
    have e44 : (PCell (St (((y.1.tags).getD (i2) dNmd).name))) (σ 44) w1 := h 44 (by decide)
    exact Yk.loadC wr28_ty9 rfl e44 ⟨Ext.refl _, rfl⟩
   ·refine stepFC (stepN rfl fun σ w1 hC h => ?_)
    have e1 := (eqo (h 1 (by decide))).trans T1
    exact Yk.fieldAt wr28_fo49_1 e1 ⟨Ext.refl _, rfl⟩
   ·refine stepFC (stepN rfl fun σ w1 hC h => ?_)
    have e46 := eqo (h 46 (by decide))
    exact Yk.cell1 wr28_ty46 rfl e46 (cellAt (eb hC hb8) (show (refsC y)[1]? = some (y.2.tags : Value) from refs_g1 y)) ⟨Ext.refl _, rfl⟩
   ·refine stepFC (stepN rfl fun σ w1 hC h => ?_)
    have e5 := (eqo (h 5 (by decide))).trans T5
    exact Yk.move e5 ⟨Ext.refl _, rfl⟩
   ·refine stepFC (stepN rfl fun σ w1 hC h => ?_)
    have e47 := eqo (h 47 (by decide))
    have e48 := eqo (h 48 (by decide))
    exact Yk.atRG wr28_ty46 wr28_szg69 (by decide) dNmd (RG.of (hmg.keep (hE.trans hC)) e47) e48 (by omega) fun v h => ⟨Ext.refl _, h⟩
   ·refine stepFC (stepN rfl fun σ w1 hC h => ?_)
    have e49 : (fun x w' => PR (nmdC ((y.1.tags).getD (i2) dNmd)) x w') (σ 49) w1 := h 49 (by decide)
    exact Yk.fieldPR (n := 32) wr28_fo69_1 e49 fun v h => ⟨Ext.refl _, by rw [nmd_f1] at h; exact h⟩
   ·refine stepFC (stepN rfl fun σ w1 hC h => ?_)
    have e50 : (fun x w' => PR (Lib.byteCells ((y.1.tags).getD (i2) dNmd).id.1) x w') (σ 50) w1 := h 50 (by decide)
    exact Yk.loadPR e50 wr28_ty25 rfl (by rw [Lib.byteCells_length, ((y.1.tags).getD (i2) dNmd).id.2]; exact wr28_isz25) ⟨Ext.refl _, rfl⟩
   ·refine stepFC (stepN rfl fun σ w1 hC h => ?_)
    have e45 := eqo (h 45 (by decide))
    have e51 := eqo (h 51 (by decide))
    exact Yk.build2 e45 e51 (fun w => wr28_bs70_0_1 (((y.1.tags).getD (i2) dNmd).name) (((y.1.tags).getD (i2) dNmd).id) w) ⟨Ext.refl _, rfl⟩
   ·refine stepFC (stepN rfl fun σ w1 hC h => ?_)
    have e52 := eqo (h 52 (by decide))
    exact Yk.lit1G (a := (⟨(((y.1.tags).getD (i2) dNmd).name), ((y.1.tags).getD (i2) dNmd).id⟩ : Nmd)) (enc := nmdC) e52 (nmd_len _) wr28_lg51 fun v w2 h hx => ⟨hx, h⟩
   ·exact trivial
   ·exact trivial
   ·exact trivial
  intro ρ78 w79 hx80 he hf
  obtain ⟨-, k39, -, -, -, -, -, -, -, -, -, -, -, -, -, k53, -⟩ := hf
  obtain ⟨T0, T1, T2, T3, T4, T5, -⟩ := he.hold [(0, _), (1, _), (2, _), (3, _), (4, _), (5, _)] ⟨T0, T1, T2, T3, T4, T5, trivial⟩ rfl
  clear he
  have hE := hE.trans hx80
  have hb8 := eb hx80 hb8
  have hb20 := eb hx80 hb20
  have ho1 := ho1.keep hx80
  have hm2 := eb hx80 hm2
  have ho2 := ho2.keep hx80
  have T39 : ρ78 39 = vb2 := k39
  have k53 : (fun x w' => RG 33 (nmdC) w' x ([(⟨(((y.1.tags).getD (i2) dNmd).name), ((y.1.tags).getD (i2) dNmd).id⟩ : Nmd)])) (ρ78 53) w79 := k53
  obtain ⟨v81, T53⟩ : ∃ v, ρ78 53 = v := ⟨_, rfl⟩
  rw [T53] at k53
  have hk82 := k53; clear k53
  clear k39
  refine oS rfl (Yk.appendRG _ _ w.heap.size _ 48 wr28_ty51 wr28_ig70.choose_spec.1 wr28_ig70.choose_spec.2 wr28_ty51 (y.1.tags.take i2) ([(⟨(((y.1.tags).getD (i2) dNmd).name), ((y.1.tags).getD (i2) dNmd).id⟩ : Nmd)]) (OG.of ho2 T39) (RG.of hk82 T53) (fun _ _ => nmd_one) (by simp only [List.length_take, List.length_append, List.length_cons, List.length_nil]; omega) (by simp only [List.length_take, List.length_append, List.length_cons, List.length_nil]; omega) hE.size fun v83 w84 ho85 hg86 => ?_)
  have hg86 : Grew w79 w84 vb2 v83 := .eqv T39 hg86
  have hap87 : OB v83 n2 := apart_grew hg86 hap_vb2_n2 (bl hb8)
  have hap88 : OB v83 n10 := apart_grew hg86 hap_vb2_n10 (bl hb20)
  have hap89 : OB v83 n23 := apart_grew hg86 hap_vb2_n23 (bl hm2)
  have hap90 : ApartV v83 vb1 := apartv_grew hg86 hap_vb2_vb1 ho1.2
  have hap91 : ApartV vb1 v83 := fun k h1 h2 => hap90 k h2 h1
  have hE := ext_grew hE hg86 ho2.2 (Nat.le_refl _)
  have hb8 := blk_grew hb8 hg86 hap_vb2_n2
  have hb20 := blk_grew hb20 hg86 hap_vb2_n10
  have ho1 := og_grew ho1 hg86 hap_vb2_vb1
  have hm2 := blk_grew hm2 hg86 hap_vb2_n23
  clear ho2
  clear hk82
  refine oS rfl (Yk.fieldAt wr28_fo53_1 T3 (oS rfl (Yk.storeC (i := 1) (v := v83) (vr (PQ n23 1) rfl) (vr v83 rfl) hm2 (by rw [refs_len]; decide) wr28_isz51 (RG.one (RG.ofOwn ho85)).1 (RG.one (RG.ofOwn ho85)).2 fun w92 hb93 hg94 hs95 => ?_)))
  have hE := row_fresh hE hg94 (Nat.le_trans hz32 (by omega))
  have hb8 := kb hg94 hb8 (by omega)
  have hb20 := kb hg94 hb20 (by omega)
  have ho1 := OG.kept ho1 hg94 hap_vb1_n23
  clear hm2
  have ho85 := OG.kept ho85 hg94 hap89
  have hm2 : w92.heap[n23]? = some (.cells (refsC ((⟨(y.1.branches.take i1), (y.1.tags.take i2) ++ [(⟨(((y.1.tags).getD (i2) dNmd).name), ((y.1.tags).getD (i2) dNmd).id⟩ : Nmd)], (((⟨[], [], [], zid, []⟩, ⟨.slice none 0 0, .slice none 0 0, .slice none 0 0⟩) : RefsV)).1.head, (((⟨[], [], [], zid, []⟩, ⟨.slice none 0 0, .slice none 0 0, .slice none 0 0⟩) : RefsV)).1.at_, []⟩, ⟨vb1, v83, (Value.slice none 0 0)⟩) : RefsV)).toArray 53 (0, 0)) := blk_eq hb93 (refs_s1 ((⟨(y.1.branches.take i1), (y.1.tags.take i2), (((⟨[], [], [], zid, []⟩, ⟨.slice none 0 0, .slice none 0 0, .slice none 0 0⟩) : RefsV)).1.head, (((⟨[], [], [], zid, []⟩, ⟨.slice none 0 0, .slice none 0 0, .slice none 0 0⟩) : RefsV)).1.at_, []⟩, ⟨vb1, vb2, (Value.slice none 0 0)⟩) : RefsV) v83 ((y.1.tags.take i2) ++ [(⟨(((y.1.tags).getD (i2) dNmd).name), ((y.1.tags).getD (i2) dNmd).id⟩ : Nmd)])); clear hb93
  have hl96 := bl hm2
  refine oZ (bN (tN (hK77 _ _ (wt (oM rfl (oS rfl (Yk.bin (xv := NI i2) (yv := NI 1) T5 rfl rfl (i64_add _ _ _ (by omega)) (oA rfl (oL_ [(0, .agg (refsC y).toArray), (1, PQ n2 0), (2, PQ n10 0), (3, PQ n23 0), (4, NI i1), (5, NI ((i2) + (1)))] ⟨T0, T1, T2, T3, T4, rfl, trivial⟩ fun ρ97 ⟨T0, T1, T2, T3, T4, T5, _⟩ => (tN (And.intro ⟨i2 + 1, v83, T0, T1, T2, T3, T4, T5, hE, hb8, hb20, ho1, hm2, og_eq ho85 (take_snoc hlt2), by omega, hap87, hap88, hap89, hap90, trivial⟩ ?_)))))))))))
  show y.1.tags.length - (intOf (ρ97 5)).toNat < y.1.tags.length - (intOf (ρ70 5)).toNat
  rw [T5, q5]
  simp only [intOf, Int.toNat_natCast]; omega
 refine wpF_exit (thenF_exit (thenF_exit (inBlockF_hit (tN (hK67 _ _ (sk fun K98 hK98 => ?_))))))
 have hx99 : Ext w71 (World.drew w71) := (Below.refl _ _).drew
 have hE := hE.trans hx99
 have hb8 := eb hx99 hb8
 have hb20 := eb hx99 hb20
 have ho1 := ho1.keep hx99
 have hm2 := eb hx99 hm2
 have ho2 := ho2.keep hx99
 refine wpF_float [(0, 56, PQ n2 2), (1, 57, St (y.1.head)), (2, 58, PQ n2 3), (3, 59, AB y.1.at_.1), (4, 60, PQ n23 2), (6, 61, PQ n23 3)] [5, 7] (fun wz => Ext w wz ∧ wz.heap[n2]? = some (.cells (refsC y).toArray 49 (0, 0)) ∧ wz.heap[n10]? = some (.cells (refsC ((⟨[], [], [], zid, []⟩, ⟨.slice none 0 0, .slice none 0 0, .slice none 0 0⟩) : RefsV)).toArray 53 (0, 0)) ∧ True) (by kernel_rfl) (by kernel_rfl) (by kernel_rfl) ⟨hE, hb8, hb20, trivial⟩ ⟨fun w100 ⟨hE, hb8, hb20, _⟩ => Yk.fieldAt wr28_fo49_2 T1 ⟨rfl, rfl⟩, fun w100 ⟨hE, hb8, hb20, _⟩ => Yk.cell1 wr28_ty9 rfl (vr (PQ n2 2) rfl) (cellAt hb8 (show (refsC y)[2]? = some (St (y.1.head) : Value) from refs_g2 y)) ⟨rfl, rfl⟩, fun w100 ⟨hE, hb8, hb20, _⟩ => Yk.fieldAt wr28_fo49_3 T1 ⟨rfl, rfl⟩, fun w100 ⟨hE, hb8, hb20, _⟩ => Yk.loadPR (PR.blk hb8 (refs_m3 y) (refs_n3 y) (vr (PQ n2 3) rfl)) wr28_ty25 rfl (sizeId_of y.1.at_.2) ⟨rfl, rfl⟩, fun w100 ⟨hE, hb8, hb20, _⟩ => Yk.fieldAt wr28_fo53_2 T3 ⟨rfl, rfl⟩, fun w100 ⟨hE, hb8, hb20, _⟩ => Yk.fieldAt wr28_fo53_3 T3 ⟨rfl, rfl⟩, trivial⟩ (chF_step rfl (Yk.storeC (i := 2) (v := St (y.1.head)) (vr (PQ n23 2) rfl) (vr (St (y.1.head)) rfl) hm2 (by rw [refs_len]; decide) wr28_isz9 rfl rfl fun w101 hb102 hg103 hs104 => ?_))
 have hE := row_fresh hE hg103 (Nat.le_trans hz32 (by omega))
 have hb8 := kb hg103 hb8 (by omega)
 have hb20 := kb hg103 hb20 (by omega)
 have ho1 := OG.kept ho1 hg103 hap_vb1_n23
 clear hm2
 have ho2 := OG.kept ho2 hg103 hap_vb2_n23
 have hm2 : w101.heap[n23]? = some (.cells (refsC ((⟨(y.1.branches.take i1), (y.1.tags.take i2), y.1.head, (((⟨[], [], [], zid, []⟩, ⟨.slice none 0 0, .slice none 0 0, .slice none 0 0⟩) : RefsV)).1.at_, []⟩, ⟨vb1, vb2, (Value.slice none 0 0)⟩) : RefsV)).toArray 53 (0, 0)) := blk_eq hb102 (refs_s2 ((⟨(y.1.branches.take i1), (y.1.tags.take i2), (((⟨[], [], [], zid, []⟩, ⟨.slice none 0 0, .slice none 0 0, .slice none 0 0⟩) : RefsV)).1.head, (((⟨[], [], [], zid, []⟩, ⟨.slice none 0 0, .slice none 0 0, .slice none 0 0⟩) : RefsV)).1.at_, []⟩, ⟨vb1, vb2, (Value.slice none 0 0)⟩) : RefsV) y.1.head); clear hb102
 have hl105 := bl hm2
 refine ⟨.inr ⟨hE, hb8, hb20, trivial⟩, ?_⟩
 refine chF_step rfl (Yk.storeMid (a := refs_a3 ((⟨(y.1.branches.take i1), (y.1.tags.take i2), y.1.head, (((⟨[], [], [], zid, []⟩, ⟨.slice none 0 0, .slice none 0 0, .slice none 0 0⟩) : RefsV)).1.at_, []⟩, ⟨vb1, vb2, (Value.slice none 0 0)⟩) : RefsV)) (m := Lib.byteCells ((((⟨[], [], [], zid, []⟩, ⟨.slice none 0 0, .slice none 0 0, .slice none 0 0⟩) : RefsV)).1.at_).1) (z := refs_z3 ((⟨(y.1.branches.take i1), (y.1.tags.take i2), y.1.head, (((⟨[], [], [], zid, []⟩, ⟨.slice none 0 0, .slice none 0 0, .slice none 0 0⟩) : RefsV)).1.at_, []⟩, ⟨vb1, vb2, (Value.slice none 0 0)⟩) : RefsV)) (cells := Lib.byteCells y.1.at_.1) (vr (PQ n23 3) rfl) (vr (AB y.1.at_.1) rfl) (refs_m3 ((⟨(y.1.branches.take i1), (y.1.tags.take i2), y.1.head, (((⟨[], [], [], zid, []⟩, ⟨.slice none 0 0, .slice none 0 0, .slice none 0 0⟩) : RefsV)).1.at_, []⟩, ⟨vb1, vb2, (Value.slice none 0 0)⟩) : RefsV) ▸ hm2) (refs_n3 ((⟨(y.1.branches.take i1), (y.1.tags.take i2), y.1.head, (((⟨[], [], [], zid, []⟩, ⟨.slice none 0 0, .slice none 0 0, .slice none 0 0⟩) : RefsV)).1.at_, []⟩, ⟨vb1, vb2, (Value.slice none 0 0)⟩) : RefsV)) (by rw [Lib.byteCells_length, Lib.byteCells_length, ((((⟨[], [], [], zid, []⟩, ⟨.slice none 0 0, .slice none 0 0, .slice none 0 0⟩) : RefsV)).1.at_).2, y.1.at_.2]) (by rw [Lib.byteCells_length, y.1.at_.2]; exact wr28_isz25) (byteCells_one _) fun w106 hb107 hg108 hs109 => ?_)
 have hE := row_fresh hE hg108 (Nat.le_trans hz32 (by omega))
 have hb8 := kb hg108 hb8 (by omega)
 have hb20 := kb hg108 hb20 (by omega)
 have ho1 := OG.kept ho1 hg108 hap_vb1_n23
 have ho2 := OG.kept ho2 hg108 hap_vb2_n23
 clear hm2
 have hm2 : w106.heap[n23]? = some (.cells (refsC ((⟨(y.1.branches.take i1), (y.1.tags.take i2), y.1.head, y.1.at_, []⟩, ⟨vb1, vb2, (Value.slice none 0 0)⟩) : RefsV)).toArray 53 (0, 0)) := blk_eq hb107 (refs_s3 ((⟨(y.1.branches.take i1), (y.1.tags.take i2), y.1.head, (((⟨[], [], [], zid, []⟩, ⟨.slice none 0 0, .slice none 0 0, .slice none 0 0⟩) : RefsV)).1.at_, []⟩, ⟨vb1, vb2, (Value.slice none 0 0)⟩) : RefsV) y.1.at_); clear hb107
 have hl110 := bl hm2
 refine ⟨.inl rfl, ?_⟩
 refine chF_nil (tN (hK98 _ _ (sk fun K111 hK111 => (wt (oS rfl (Yk.fieldAt wr28_fo53_4 T3 (oS rfl (Yk.cell1 wr28_ty47 rfl (vr (PQ n23 35) rfl) (cellAt hm2 (show (refsC ((⟨(y.1.branches.take i1), (y.1.tags.take i2), y.1.head, y.1.at_, []⟩, ⟨vb1, vb2, (Value.slice none 0 0)⟩) : RefsV))[35]? = some ((Value.slice none 0 0) : Value) from refs_g4 ((⟨(y.1.branches.take i1), (y.1.tags.take i2), y.1.head, y.1.at_, []⟩, ⟨vb1, vb2, (Value.slice none 0 0)⟩) : RefsV))) (oS rfl (Yk.fieldAt wr28_fo49_4 T1 (oS rfl (Yk.cell1 wr28_ty47 rfl (vr (PQ n2 35) rfl) (cellAt hb8 (show (refsC y)[35]? = some (y.2.log : Value) from refs_g4 y)) ?_))))))))))))
 have hA112 := Ext.refl w106
 have hea113 := hE
 have hz114 := hE.size
 refine oS rfl (Yk.appendRG _ _ w106.heap.size _ 104 wr28_ty47 wr28_ig122.choose_spec.1 wr28_ig122.choose_spec.2 wr28_ty47 ([]) (y.1.log) (OG.of (OG.nil _ _ _ _ _) (vr (Value.slice none 0 0) rfl)) (RG.of (hml.keep hE) (vr y.2.log rfl)) (fun _ _ => ent_one) (by simp only [List.length_nil]; omega) (by simp only [List.length_nil]; omega) hA112.size fun v115 w116 ho117 hg118 => ?_)
 have hg118 : Grew w106 w116 (.slice none 0 0) v115 := hg118
 have hlt119 := (bl hb8)
 have hlt120 := (bl hb20)
 have hlt121 := (bl hm2)
 have hx_ : Ext w106 w116 := Ext.of (by have := hg118.by_; exact this)
 have hE := hE.trans hx_
 have hb8 := eb hx_ hb8
 have hb20 := eb hx_ hb20
 have ho1 := ho1.keep hx_
 have ho2 := ho2.keep hx_
 have hm2 := eb hx_ hm2
 have hA112 := hA112.trans hx_
 have hap122 : OB v115 n2 := own_older ho117.2 hlt119
 have hap123 : OB v115 n10 := own_older ho117.2 hlt120
 have hap124 : OB v115 n23 := own_older ho117.2 hlt121
 refine oS rfl (Yk.fieldAt wr28_fo53_4 T3 (oS rfl (Yk.storeC (i := 35) (v := v115) (vr (PQ n23 35) rfl) (vr v115 rfl) hm2 (by rw [refs_len]; decide) wr28_isz47 (RG.one (RG.ofOwn ho117)).1 (RG.one (RG.ofOwn ho117)).2 fun w125 hb126 hg127 hs128 => ?_)))
 have hE := row_fresh hE hg127 (Nat.le_trans hz32 (by omega))
 have hb8 := kb hg127 hb8 (by omega)
 have hb20 := kb hg127 hb20 (by omega)
 have ho1 := OG.kept ho1 hg127 hap_vb1_n23
 have ho2 := OG.kept ho2 hg127 hap_vb2_n23
 clear hm2
 clear hA112
 have ho117 := OG.kept ho117 hg127 hap124
 have hm2 : w125.heap[n23]? = some (.cells (refsC ((⟨(y.1.branches.take i1), (y.1.tags.take i2), y.1.head, y.1.at_, ([]) ++ y.1.log⟩, ⟨vb1, vb2, v115⟩) : RefsV)).toArray 53 (0, 0)) := blk_eq hb126 (refs_s4 ((⟨(y.1.branches.take i1), (y.1.tags.take i2), y.1.head, y.1.at_, []⟩, ⟨vb1, vb2, (Value.slice none 0 0)⟩) : RefsV) v115 (([]) ++ y.1.log)); clear hb126
 have hl129 := bl hm2
 refine oZ (tN (hK111 _ _ (sk fun K130 hK130 => (wt (oS rfl (Yk.loadAll T3 hm2 (wr28_ty53).choose_spec rfl (st_isz (refs_len ((⟨(y.1.branches.take i1), (y.1.tags.take i2), y.1.head, y.1.at_, ([]) ++ y.1.log⟩, ⟨vb1, vb2, v115⟩) : RefsV)) wr28_isz53) (oS rfl (Yk.storeAll T2 (vr (.agg (refsC ((⟨(y.1.branches.take i1), (y.1.tags.take i2), y.1.head, y.1.at_, ([]) ++ y.1.log⟩, ⟨vb1, vb2, v115⟩) : RefsV)).toArray) rfl) hb20 (by simp only [List.size_toArray, refs_len]) (st_isz (refs_len _) wr28_isz53) (refs_one (x := ((⟨(y.1.branches.take i1), (y.1.tags.take i2), y.1.head, y.1.at_, ([]) ++ y.1.log⟩, ⟨vb1, vb2, v115⟩) : RefsV)) (RG.one (RG.ofOwn ho1)).2 (RG.one (RG.ofOwn ho2)).2 (RG.one (RG.ofOwn ho117)).2) fun w131 hb132 hg133 hs134 => ?_))))))))
 have hE := row_fresh hE hg133 (Nat.le_trans hz18 (by omega))
 have hb8 := kb hg133 hb8 (by omega)
 clear hb20
 have ho1 := OG.kept ho1 hg133 hap_vb1_n10
 have ho2 := OG.kept ho2 hg133 hap_vb2_n10
 have ho117 := OG.kept ho117 hg133 hap123
 have hm2 := kb hg133 hm2 (by omega)
 have hb20 : w131.heap[n10]? = some (.cells (refsC ((⟨(y.1.branches.take i1), (y.1.tags.take i2), y.1.head, y.1.at_, ([]) ++ y.1.log⟩, ⟨vb1, vb2, v115⟩) : RefsV)).toArray 53 (0, 0)) := hb132; clear hb132
 have hl135 := bl hb20
 refine oZ (tN (hK130 _ _ (wpF_ret (postF_ret (fn := Tryd.f27) _ rfl [.agg (refsC ((⟨(y.1.branches.take i1), (y.1.tags.take i2), y.1.head, y.1.at_, ([]) ++ y.1.log⟩, ⟨vb1, vb2, v115⟩) : RefsV)).toArray] (.agg (refsC ((⟨(y.1.branches.take i1), (y.1.tags.take i2), y.1.head, y.1.at_, ([]) ++ y.1.log⟩, ⟨vb1, vb2, v115⟩) : RefsV)).toArray) rfl ⟨ResF.row T2 hb20 (wr28_ty53).choose_spec rfl (st_isz (refs_len _) wr28_isz53), trivial⟩ ?_))))
 have e1 : y.1.branches.take i1 = y.1.branches := List.take_of_length_le (by omega)
 have e2 : y.1.tags.take i2 = y.1.tags := List.take_of_length_le (by omega)
 refine ⟨⟨_, _, _⟩, ?_, ⟨RG.ofOwn (og_eq ho1 e1), RG.ofOwn (og_eq ho2 e2), RG.ofOwn (og_eq ho117 (by simp))⟩, hE⟩
 rw [e1, e2]; rfl

theorem of20_any (w : World) (y : RefsV) (hm : RefsAt w y) (hc : y.1.branches.length ≤ 80 ∧ y.1.tags.length ≤ 80 ∧ y.1.log.length ≤ 80) :
  Calls Tryd.prog 30 #[.agg (refsC y).toArray] w fun e w' => ∃ z, e = .returned (.agg (refsC (y.1, z)).toArray) ∧ RefsAt w' (y.1, z) ∧ Ext w w' := by
 have hmt := hm.branches
 have hmg := hm.tags
 have hml := hm.log
 obtain ⟨hc1, hc2, hc3⟩ := hc
 refine calls_of_wpF (args := [.agg (refsC y).toArray]) Tryd.func30 rfl 69 rfl (Nat.le_of_ble_eq_true rfl) ?_
 intro ρ0 hb
 have T0 : ρ0 0 = (.agg (refsC y).toArray : Value) := hb.get 0
 clear hb
 have hE := Ext.refl w
 refine sk fun K1 hK1 => (wt (oS rfl (Yk.box (cs := (refsC y : List Value).toArray) T0 fun n2 w3 hn4 hb5 hx6 hs7 => ?_)))
 have hE := hE.trans hx6
 have hb8 := hb5; clear hb5
 have hl9 : n2 < w3.heap.size := by omega
 refine oS rfl (Yk.alloc (cs := (refsC ((⟨[], [], [], zid, []⟩, ⟨.slice none 0 0, .slice none 0 0, .slice none 0 0⟩) : RefsV)).toArray) wr28_al49 fun n10 w11 hn12 hb13 hx14 hs15 => ?_)
 have hA16 := Ext.refl w3
 have hea17 := hE
 have hz18 := hE.size
 have hlt19 := lte (bl hb8) hn12
 have hE := hE.trans hx14
 have hb8 := eb hx14 hb8
 have hA16 := hA16.trans hx14
 have hb20 := hb13; clear hb13
 have hl21 : n10 < w11.heap.size := by omega
 refine oZ (tN (hK1 _ _ (sk fun K22 hK22 => (wt (oS rfl (Yk.alloc (cs := (refsC ((⟨[], [], [], zid, []⟩, ⟨.slice none 0 0, .slice none 0 0, .slice none 0 0⟩) : RefsV)).toArray) wr28_al49 fun n23 w24 hn25 hb26 hx27 hs28 => ?_))))))
 have hA29 := Ext.refl w11
 have hea30 := hE
 have hea31 := hA16
 have hz32 := hE.size
 have hz33 := hA16.size
 have hlt34 := lte (bl hb8) hn25
 have hlt35 := lte (bl hb20) hn25
 have hE := hE.trans hx27
 have hb8 := eb hx27 hb8
 have hA16 := hA16.trans hx27
 have hb20 := eb hx27 hb20
 have hA29 := hA29.trans hx27
 have hb36 := hb26; clear hb26
 have hl37 : n23 < w24.heap.size := by omega
 refine oZ (tN (hK22 _ _ (sk fun K38 hK38 => (sk fun K39 hK39 => (wt (oA rfl (oL_ [(0, .agg (refsC y).toArray), (1, PQ n2 0), (2, PQ n10 0), (3, PQ n23 0), (4, NI 0)] ⟨T0, rfl, rfl, rfl, rfl, trivial⟩ fun ρ40 ⟨T0, T1, T2, T3, T4, _⟩ => (tN (hK39 _ _ (wpF_block (wpF_loop (fun (ρ : Slots) (wz : World) => ∃ i1 : Nat, ∃ vb1 : Value, ρ 0 = (.agg (refsC y).toArray : Value) ∧ ρ 1 = (PQ n2 0 : Value) ∧ ρ 2 = (PQ n10 0 : Value) ∧ ρ 3 = (PQ n23 0 : Value) ∧ ρ 4 = (NI i1 : Value) ∧ Ext w wz ∧ wz.heap[n2]? = some (.cells (refsC y).toArray 53 (0, 0)) ∧ wz.heap[n10]? = some (.cells (refsC ((⟨[], [], [], zid, []⟩, ⟨.slice none 0 0, .slice none 0 0, .slice none 0 0⟩) : RefsV)).toArray 49 (0, 0)) ∧ wz.heap[n23]? = some (.cells (refsC ((⟨(y.1.branches.take i1), [], (((⟨[], [], [], zid, []⟩, ⟨.slice none 0 0, .slice none 0 0, .slice none 0 0⟩) : RefsV)).1.head, (((⟨[], [], [], zid, []⟩, ⟨.slice none 0 0, .slice none 0 0, .slice none 0 0⟩) : RefsV)).1.at_, []⟩, ⟨vb1, (Value.slice none 0 0), (Value.slice none 0 0)⟩) : RefsV)).toArray 49 (0, 0)) ∧ OG w.heap.size 69 33 (nmdC) wz vb1 (y.1.branches.take i1) ∧ (i1 ≤ y.1.branches.length) ∧ (OB vb1 n2) ∧ (OB vb1 n10) ∧ (OB vb1 n23) ∧ True) (fun ρ _ => y.1.branches.length - (intOf (ρ 4)).toNat) ⟨0, (Value.slice none 0 0), T0, T1, T2, T3, T4, hE, hb8, hb20, hb36, OG.nil _ _ _ _ _, Nat.zero_le _, (fun h => by cases h), (fun h => by cases h), (fun h => by cases h), trivial⟩ ?_)))))))))))
 clear hA16
 clear hA29
 clear hb36
 clear hE hb8 hb20
 rintro ρ41 w42 ⟨i1, vb1, T0, T1, T2, T3, T4, hE, hb8, hb20, hm1, ho1, hi1, hap_vb1_n2, hap_vb1_n10, hap_vb1_n23, -⟩
 have q4 := T4
 have hl43 := (bl hb8)
 have hl44 := (bl hb20)
 have hl45 := (bl hm1)
 refine sk fun K46 hK46 => (sk fun K47 hK47 => (wt (oM rfl (oS rfl (Yk.fieldAt wr28_fo53_0 T1 (oS rfl (Yk.cell1 wr28_ty51 rfl (vr (PQ n2 0) rfl) (cellAt hb8 (show (refsC y)[0]? = some (y.2.branches : Value) from refs_g0 y)) (oS rfl (Yk.lenRG wr28_ty51 (RG.of (hmt.keep hE) (vr y.2.branches rfl)) (oS rfl (Yk.eqI (a := (i1 : Nat)) (b := ((y.1.branches).length : Nat)) T4 rfl (k_lss _ _ _ _) (oZ (tN (hK47 _ _ ?_))))))))))))))
 refine wpF_cond ((i1) < ((y.1.branches).length)) (vr (.bool (decide ((i1) < ((y.1.branches).length)))) rfl) (fun hc0 => ?_) (fun hc0 => ?_)
 ·have hlt1 : i1 < y.1.branches.length := hc0
  refine wpF_skip (tN (hK46 _ _ (sk fun K48 hK48 => (wpF_block ?_))))
  refine wpF_draw_cut 16 [Is (PQ n23 0), Is (vb1), Is (PQ n2 0), Is (y.2.branches), Is (NI i1), fun x w' => PR (nmdC ((y.1.branches).getD (i1) dNmd)) x w', PCell (St (((y.1.branches).getD (i1) dNmd).name)), Is (St (((y.1.branches).getD (i1) dNmd).name)), Is (PQ n2 0), Is (y.2.branches), Is (NI i1), fun x w' => PR (nmdC ((y.1.branches).getD (i1) dNmd)) x w', fun x w' => PR (Lib.byteCells ((y.1.branches).getD (i1) dNmd).id.1) x w', Is (AB (((y.1.branches).getD (i1) dNmd).id.1)), Is (.agg (nmdC (⟨(((y.1.branches).getD (i1) dNmd).name), ((y.1.branches).getD (i1) dNmd).id⟩ : Nmd)).toArray), fun x w' => RG 33 (nmdC) w' x ([(⟨(((y.1.branches).getD (i1) dNmd).name), ((y.1.branches).getD (i1) dNmd).id⟩ : Nmd)])] (by kernel_rfl) [13, 14, 15, 16, 17, 18, 19, 20, 21, 22, 23, 24, 25, 26, 27, 28, 29, 30] (by kernel_rfl) (by kernel_rfl) (by kernel_rfl) (by kernel_rfl) rfl rfl (si5 ⟨(fun _ _ _ h k => PR.keep h k), Stab.pcell _, (si4 ⟨(fun _ _ _ h k => PR.keep h k), (fun _ _ _ h k => PR.keep h k), (si2 ⟨(fun _ _ _ h k => RG.keep h k), trivial⟩)⟩)⟩) ?hs2005 ?hQ2005
  case hs2005 =>
   refine ⟨?_, ?_, ?_, ?_, ?_, ?_, ?_, ?_, ?_, ?_, ?_, ?_, ?_, ?_, ?_, ?_, ?_, ?_, ?_, trivial⟩
   ·refine stepFC (stepN rfl fun σ w1 hC h => ?_)
    have e3 := (eqo (h 3 (by decide))).trans T3
    exact Yk.fieldAt wr28_fo49_0 e3 ⟨Ext.refl _, rfl⟩
   ·refine stepFC (stepN rfl fun σ w1 hC h => ?_)
    have e13 := eqo (h 13 (by decide))
    exact Yk.cell1 wr28_ty46 rfl e13 (cellAt (eb hC hm1) (show (refsC ((⟨(y.1.branches.take i1), [], (((⟨[], [], [], zid, []⟩, ⟨.slice none 0 0, .slice none 0 0, .slice none 0 0⟩) : RefsV)).1.head, (((⟨[], [], [], zid, []⟩, ⟨.slice none 0 0, .slice none 0 0, .slice none 0 0⟩) : RefsV)).1.at_, []⟩, ⟨vb1, (Value.slice none 0 0), (Value.slice none 0 0)⟩) : RefsV))[0]? = some (vb1 : Value) from refs_g0 ((⟨(y.1.branches.take i1), [], (((⟨[], [], [], zid, []⟩, ⟨.slice none 0 0, .slice none 0 0, .slice none 0 0⟩) : RefsV)).1.head, (((⟨[], [], [], zid, []⟩, ⟨.slice none 0 0, .slice none 0 0, .slice none 0 0⟩) : RefsV)).1.at_, []⟩, ⟨vb1, (Value.slice none 0 0), (Value.slice none 0 0)⟩) : RefsV))) ⟨Ext.refl _, rfl⟩
   ·refine stepFC (stepN rfl fun σ w1 hC h => ?_)
    have e1 := (eqo (h 1 (by decide))).trans T1
    exact Yk.fieldAt wr28_fo53_0 e1 ⟨Ext.refl _, rfl⟩
   ·refine stepFC (stepN rfl fun σ w1 hC h => ?_)
    have e15 := eqo (h 15 (by decide))
    exact Yk.cell1 wr28_ty51 rfl e15 (cellAt (eb hC hb8) (show (refsC y)[0]? = some (y.2.branches : Value) from refs_g0 y)) ⟨Ext.refl _, rfl⟩
   ·refine stepFC (stepN rfl fun σ w1 hC h => ?_)
    have e4 := (eqo (h 4 (by decide))).trans T4
    exact Yk.move e4 ⟨Ext.refl _, rfl⟩
   ·refine stepFC (stepN rfl fun σ w1 hC h => ?_)
    have e16 := eqo (h 16 (by decide))
    have e17 := eqo (h 17 (by decide))
    exact Yk.atRG wr28_ty51 wr28_szg70 (by decide) dNmd (RG.of (hmt.keep (hE.trans hC)) e16) e17 (by omega) fun v h => ⟨Ext.refl _, h⟩
   ·refine stepFC (stepN rfl fun σ w1 hC h => ?_)
    have e18 : (fun x w' => PR (nmdC ((y.1.branches).getD (i1) dNmd)) x w') (σ 18) w1 := h 18 (by decide)
    exact Yk.fieldPR (n := 1) wr28_fo70_0 e18 fun v h => ⟨Ext.refl _, PR.pcell (by rw [nmd_f0] at h; exact h)⟩
   ·refine stepFC (stepN rfl fun σ w1 hC h => ?_)
    have e19 : (PCell (St (((y.1.branches).getD (i1) dNmd).name))) (σ 19) w1 := h 19 (by decide)
    exact Yk.loadC wr28_ty9 rfl e19 ⟨Ext.refl _, rfl⟩
   ·refine stepFC (stepN rfl fun σ w1 hC h => ?_)
    have e1 := (eqo (h 1 (by decide))).trans T1
    exact Yk.fieldAt wr28_fo53_0 e1 ⟨Ext.refl _, rfl⟩
   ·refine stepFC (stepN rfl fun σ w1 hC h => ?_)
    have e21 := eqo (h 21 (by decide))
    exact Yk.cell1 wr28_ty51 rfl e21 (cellAt (eb hC hb8) (show (refsC y)[0]? = some (y.2.branches : Value) from refs_g0 y)) ⟨Ext.refl _, rfl⟩
   ·refine stepFC (stepN rfl fun σ w1 hC h => ?_)
    have e4 := (eqo (h 4 (by decide))).trans T4
    exact Yk.move e4 ⟨Ext.refl _, rfl⟩
   ·refine stepFC (stepN rfl fun σ w1 hC h => ?_)
    have e22 := eqo (h 22 (by decide))
    have e23 := eqo (h 23 (by decide))
    exact Yk.atRG wr28_ty51 wr28_szg70 (by decide) dNmd (RG.of (hmt.keep (hE.trans hC)) e22) e23 (by omega) fun v h => ⟨Ext.refl _, h⟩
   ·refine stepFC (stepN rfl fun σ w1 hC h => ?_)
    have e24 : (fun x w' => PR (nmdC ((y.1.branches).getD (i1) dNmd)) x w') (σ 24) w1 := h 24 (by decide)
    exact Yk.fieldPR (n := 32) wr28_fo70_1 e24 fun v h => ⟨Ext.refl _, by rw [nmd_f1] at h; exact h⟩
   ·refine stepFC (stepN rfl fun σ w1 hC h => ?_)
    have e25 : (fun x w' => PR (Lib.byteCells ((y.1.branches).getD (i1) dNmd).id.1) x w') (σ 25) w1 := h 25 (by decide)
    exact Yk.loadPR e25 wr28_ty25 rfl (by rw [Lib.byteCells_length, ((y.1.branches).getD (i1) dNmd).id.2]; exact wr28_isz25) ⟨Ext.refl _, rfl⟩
   ·refine stepFC (stepN rfl fun σ w1 hC h => ?_)
    have e20 := eqo (h 20 (by decide))
    have e26 := eqo (h 26 (by decide))
    exact Yk.build2 e20 e26 (fun w => wr28_bs69_0_1 (((y.1.branches).getD (i1) dNmd).name) (((y.1.branches).getD (i1) dNmd).id) w) ⟨Ext.refl _, rfl⟩
   ·refine stepFC (stepN rfl fun σ w1 hC h => ?_)
    have e27 := eqo (h 27 (by decide))
    exact Yk.lit1G (a := (⟨(((y.1.branches).getD (i1) dNmd).name), ((y.1.branches).getD (i1) dNmd).id⟩ : Nmd)) (enc := nmdC) e27 (nmd_len _) wr28_lg46 fun v w2 h hx => ⟨hx, h⟩
   ·exact trivial
   ·exact trivial
   ·exact trivial
  intro ρ49 w50 hx51 he hf
  obtain ⟨-, k14, -, -, -, -, -, -, -, -, -, -, -, -, -, k28, -⟩ := hf
  obtain ⟨T0, T1, T2, T3, T4, -⟩ := he.hold [(0, _), (1, _), (2, _), (3, _), (4, _)] ⟨T0, T1, T2, T3, T4, trivial⟩ rfl
  clear he
  have hE := hE.trans hx51
  have hb8 := eb hx51 hb8
  have hb20 := eb hx51 hb20
  have hm1 := eb hx51 hm1
  have ho1 := ho1.keep hx51
  have T14 : ρ49 14 = vb1 := k14
  have k28 : (fun x w' => RG 33 (nmdC) w' x ([(⟨(((y.1.branches).getD (i1) dNmd).name), ((y.1.branches).getD (i1) dNmd).id⟩ : Nmd)])) (ρ49 28) w50 := k28
  obtain ⟨v52, T28⟩ : ∃ v, ρ49 28 = v := ⟨_, rfl⟩
  rw [T28] at k28
  have hk53 := k28; clear k28
  clear k14
  refine oS rfl (Yk.appendRG _ _ w.heap.size _ 48 wr28_ty46 wr28_ig69.choose_spec.1 wr28_ig69.choose_spec.2 wr28_ty46 (y.1.branches.take i1) ([(⟨(((y.1.branches).getD (i1) dNmd).name), ((y.1.branches).getD (i1) dNmd).id⟩ : Nmd)]) (OG.of ho1 T14) (RG.of hk53 T28) (fun _ _ => nmd_one) (by simp only [List.length_take, List.length_append, List.length_cons, List.length_nil]; omega) (by simp only [List.length_take, List.length_append, List.length_cons, List.length_nil]; omega) hE.size fun v54 w55 ho56 hg57 => ?_)
  have hg57 : Grew w50 w55 vb1 v54 := .eqv T14 hg57
  have hap58 : OB v54 n2 := apart_grew hg57 hap_vb1_n2 (bl hb8)
  have hap59 : OB v54 n10 := apart_grew hg57 hap_vb1_n10 (bl hb20)
  have hap60 : OB v54 n23 := apart_grew hg57 hap_vb1_n23 (bl hm1)
  have hE := ext_grew hE hg57 ho1.2 (Nat.le_refl _)
  have hb8 := blk_grew hb8 hg57 hap_vb1_n2
  have hb20 := blk_grew hb20 hg57 hap_vb1_n10
  have hm1 := blk_grew hm1 hg57 hap_vb1_n23
  clear ho1
  clear hk53
  refine oS rfl (Yk.fieldAt wr28_fo49_0 T3 (oS rfl (Yk.storeC (i := 0) (v := v54) (vr (PQ n23 0) rfl) (vr v54 rfl) hm1 (by rw [refs_len]; decide) wr28_isz46 (RG.one (RG.ofOwn ho56)).1 (RG.one (RG.ofOwn ho56)).2 fun w61 hb62 hg63 hs64 => ?_)))
  have hE := row_fresh hE hg63 (Nat.le_trans hz32 (by omega))
  have hb8 := kb hg63 hb8 (by omega)
  have hb20 := kb hg63 hb20 (by omega)
  clear hm1
  have ho56 := OG.kept ho56 hg63 hap60
  have hm1 : w61.heap[n23]? = some (.cells (refsC ((⟨(y.1.branches.take i1) ++ [(⟨(((y.1.branches).getD (i1) dNmd).name), ((y.1.branches).getD (i1) dNmd).id⟩ : Nmd)], [], (((⟨[], [], [], zid, []⟩, ⟨.slice none 0 0, .slice none 0 0, .slice none 0 0⟩) : RefsV)).1.head, (((⟨[], [], [], zid, []⟩, ⟨.slice none 0 0, .slice none 0 0, .slice none 0 0⟩) : RefsV)).1.at_, []⟩, ⟨v54, (Value.slice none 0 0), (Value.slice none 0 0)⟩) : RefsV)).toArray 49 (0, 0)) := blk_eq hb62 (refs_s0 ((⟨(y.1.branches.take i1), [], (((⟨[], [], [], zid, []⟩, ⟨.slice none 0 0, .slice none 0 0, .slice none 0 0⟩) : RefsV)).1.head, (((⟨[], [], [], zid, []⟩, ⟨.slice none 0 0, .slice none 0 0, .slice none 0 0⟩) : RefsV)).1.at_, []⟩, ⟨vb1, (Value.slice none 0 0), (Value.slice none 0 0)⟩) : RefsV) v54 ((y.1.branches.take i1) ++ [(⟨(((y.1.branches).getD (i1) dNmd).name), ((y.1.branches).getD (i1) dNmd).id⟩ : Nmd)])); clear hb62
  have hl65 := bl hm1
  refine oZ (bN (tN (hK48 _ _ (wt (oM rfl (oS rfl (Yk.bin (xv := NI i1) (yv := NI 1) T4 rfl rfl (i64_add _ _ _ (by omega)) (oA rfl (oL_ [(0, .agg (refsC y).toArray), (1, PQ n2 0), (2, PQ n10 0), (3, PQ n23 0), (4, NI ((i1) + (1)))] ⟨T0, T1, T2, T3, rfl, trivial⟩ fun ρ66 ⟨T0, T1, T2, T3, T4, _⟩ => (tN (And.intro ⟨i1 + 1, v54, T0, T1, T2, T3, T4, hE, hb8, hb20, hm1, og_eq ho56 (take_snoc hlt1), by omega, hap58, hap59, hap60, trivial⟩ ?_)))))))))))
  show y.1.branches.length - (intOf (ρ66 4)).toNat < y.1.branches.length - (intOf (ρ41 4)).toNat
  rw [T4, q4]
  simp only [intOf, Int.toNat_natCast]; omega
 refine wpF_exit (thenF_exit (thenF_exit (inBlockF_hit (tN (hK38 _ _ (sk fun K67 hK67 => (sk fun K68 hK68 => (wt (oA rfl (oL_ [(0, .agg (refsC y).toArray), (1, PQ n2 0), (2, PQ n10 0), (3, PQ n23 0), (4, NI i1), (5, NI 0)] ⟨T0, T1, T2, T3, T4, rfl, trivial⟩ fun ρ69 ⟨T0, T1, T2, T3, T4, T5, _⟩ => (tN (hK68 _ _ (wpF_block (wpF_loop (fun (ρ : Slots) (wz : World) => ∃ i2 : Nat, ∃ vb2 : Value, ρ 0 = (.agg (refsC y).toArray : Value) ∧ ρ 1 = (PQ n2 0 : Value) ∧ ρ 2 = (PQ n10 0 : Value) ∧ ρ 3 = (PQ n23 0 : Value) ∧ ρ 4 = (NI i1 : Value) ∧ ρ 5 = (NI i2 : Value) ∧ Ext w wz ∧ wz.heap[n2]? = some (.cells (refsC y).toArray 53 (0, 0)) ∧ wz.heap[n10]? = some (.cells (refsC ((⟨[], [], [], zid, []⟩, ⟨.slice none 0 0, .slice none 0 0, .slice none 0 0⟩) : RefsV)).toArray 49 (0, 0)) ∧ OG w.heap.size 69 33 (nmdC) wz vb1 (y.1.branches.take i1) ∧ wz.heap[n23]? = some (.cells (refsC ((⟨(y.1.branches.take i1), (y.1.tags.take i2), (((⟨[], [], [], zid, []⟩, ⟨.slice none 0 0, .slice none 0 0, .slice none 0 0⟩) : RefsV)).1.head, (((⟨[], [], [], zid, []⟩, ⟨.slice none 0 0, .slice none 0 0, .slice none 0 0⟩) : RefsV)).1.at_, []⟩, ⟨vb1, vb2, (Value.slice none 0 0)⟩) : RefsV)).toArray 49 (0, 0)) ∧ OG w.heap.size 69 33 (nmdC) wz vb2 (y.1.tags.take i2) ∧ (i2 ≤ y.1.tags.length) ∧ (OB vb2 n2) ∧ (OB vb2 n10) ∧ (OB vb2 n23) ∧ (ApartV vb2 vb1) ∧ True) (fun ρ _ => y.1.tags.length - (intOf (ρ 5)).toNat) ⟨0, (Value.slice none 0 0), T0, T1, T2, T3, T4, T5, hE, hb8, hb20, ho1, hm1, OG.nil _ _ _ _ _, Nat.zero_le _, (fun h => by cases h), (fun h => by cases h), (fun h => by cases h), (fun k h => by cases h), trivial⟩ ?_))))))))))))))
 clear hm1
 clear hE hb8 hb20 ho1
 rintro ρ70 w71 ⟨i2, vb2, T0, T1, T2, T3, T4, T5, hE, hb8, hb20, ho1, hm2, ho2, hi2, hap_vb2_n2, hap_vb2_n10, hap_vb2_n23, hap_vb2_vb1, -⟩
 have q5 := T5
 have hl72 := (bl hb8)
 have hl73 := (bl hb20)
 have hl74 := (bl hm2)
 refine sk fun K75 hK75 => (sk fun K76 hK76 => (wt (oM rfl (oS rfl (Yk.fieldAt wr28_fo53_1 T1 (oS rfl (Yk.cell1 wr28_ty51 rfl (vr (PQ n2 1) rfl) (cellAt hb8 (show (refsC y)[1]? = some (y.2.tags : Value) from refs_g1 y)) (oS rfl (Yk.lenRG wr28_ty51 (RG.of (hmg.keep hE) (vr y.2.tags rfl)) (oS rfl (Yk.eqI (a := (i2 : Nat)) (b := ((y.1.tags).length : Nat)) T5 rfl (k_lss _ _ _ _) (oZ (tN (hK76 _ _ ?_))))))))))))))
 refine wpF_cond ((i2) < ((y.1.tags).length)) (vr (.bool (decide ((i2) < ((y.1.tags).length)))) rfl) (fun hc1 => ?_) (fun hc1 => ?_)
 ·have hlt2 : i2 < y.1.tags.length := hc1
  refine wpF_skip (tN (hK75 _ _ (sk fun K77 hK77 => (wpF_block ?_))))
  refine wpF_draw_cut 16 [Is (PQ n23 1), Is (vb2), Is (PQ n2 1), Is (y.2.tags), Is (NI i2), fun x w' => PR (nmdC ((y.1.tags).getD (i2) dNmd)) x w', PCell (St (((y.1.tags).getD (i2) dNmd).name)), Is (St (((y.1.tags).getD (i2) dNmd).name)), Is (PQ n2 1), Is (y.2.tags), Is (NI i2), fun x w' => PR (nmdC ((y.1.tags).getD (i2) dNmd)) x w', fun x w' => PR (Lib.byteCells ((y.1.tags).getD (i2) dNmd).id.1) x w', Is (AB (((y.1.tags).getD (i2) dNmd).id.1)), Is (.agg (nmdC (⟨(((y.1.tags).getD (i2) dNmd).name), ((y.1.tags).getD (i2) dNmd).id⟩ : Nmd)).toArray), fun x w' => RG 33 (nmdC) w' x ([(⟨(((y.1.tags).getD (i2) dNmd).name), ((y.1.tags).getD (i2) dNmd).id⟩ : Nmd)])] (by kernel_rfl) [38, 39, 40, 41, 42, 43, 44, 45, 46, 47, 48, 49, 50, 51, 52, 53, 54, 55] (by kernel_rfl) (by kernel_rfl) (by kernel_rfl) (by kernel_rfl) rfl rfl (si5 ⟨(fun _ _ _ h k => PR.keep h k), Stab.pcell _, (si4 ⟨(fun _ _ _ h k => PR.keep h k), (fun _ _ _ h k => PR.keep h k), (si2 ⟨(fun _ _ _ h k => RG.keep h k), trivial⟩)⟩)⟩) ?hs3009 ?hQ3009
  case hs3009 =>
   refine ⟨?_, ?_, ?_, ?_, ?_, ?_, ?_, ?_, ?_, ?_, ?_, ?_, ?_, ?_, ?_, ?_, ?_, ?_, ?_, trivial⟩
   ·refine stepFC (stepN rfl fun σ w1 hC h => ?_)
    have e3 := (eqo (h 3 (by decide))).trans T3
    exact Yk.fieldAt wr28_fo49_1 e3 ⟨Ext.refl _, rfl⟩
   ·refine stepFC (stepN rfl fun σ w1 hC h => ?_)
    have e38 := eqo (h 38 (by decide))
    exact Yk.cell1 wr28_ty46 rfl e38 (cellAt (eb hC hm2) (show (refsC ((⟨(y.1.branches.take i1), (y.1.tags.take i2), (((⟨[], [], [], zid, []⟩, ⟨.slice none 0 0, .slice none 0 0, .slice none 0 0⟩) : RefsV)).1.head, (((⟨[], [], [], zid, []⟩, ⟨.slice none 0 0, .slice none 0 0, .slice none 0 0⟩) : RefsV)).1.at_, []⟩, ⟨vb1, vb2, (Value.slice none 0 0)⟩) : RefsV))[1]? = some (vb2 : Value) from refs_g1 ((⟨(y.1.branches.take i1), (y.1.tags.take i2), (((⟨[], [], [], zid, []⟩, ⟨.slice none 0 0, .slice none 0 0, .slice none 0 0⟩) : RefsV)).1.head, (((⟨[], [], [], zid, []⟩, ⟨.slice none 0 0, .slice none 0 0, .slice none 0 0⟩) : RefsV)).1.at_, []⟩, ⟨vb1, vb2, (Value.slice none 0 0)⟩) : RefsV))) ⟨Ext.refl _, rfl⟩
   ·refine stepFC (stepN rfl fun σ w1 hC h => ?_)
    have e1 := (eqo (h 1 (by decide))).trans T1
    exact Yk.fieldAt wr28_fo53_1 e1 ⟨Ext.refl _, rfl⟩
   ·refine stepFC (stepN rfl fun σ w1 hC h => ?_)
    have e40 := eqo (h 40 (by decide))
    exact Yk.cell1 wr28_ty51 rfl e40 (cellAt (eb hC hb8) (show (refsC y)[1]? = some (y.2.tags : Value) from refs_g1 y)) ⟨Ext.refl _, rfl⟩
   ·refine stepFC (stepN rfl fun σ w1 hC h => ?_)
    have e5 := (eqo (h 5 (by decide))).trans T5
    exact Yk.move e5 ⟨Ext.refl _, rfl⟩
   ·refine stepFC (stepN rfl fun σ w1 hC h => ?_)
    have e41 := eqo (h 41 (by decide))
    have e42 := eqo (h 42 (by decide))
    exact Yk.atRG wr28_ty51 wr28_szg70 (by decide) dNmd (RG.of (hmg.keep (hE.trans hC)) e41) e42 (by omega) fun v h => ⟨Ext.refl _, h⟩
   ·refine stepFC (stepN rfl fun σ w1 hC h => ?_)
    have e43 : (fun x w' => PR (nmdC ((y.1.tags).getD (i2) dNmd)) x w') (σ 43) w1 := h 43 (by decide)
    exact Yk.fieldPR (n := 1) wr28_fo70_0 e43 fun v h => ⟨Ext.refl _, PR.pcell (by rw [nmd_f0] at h; exact h)⟩
   ·refine stepFC (stepN rfl fun σ w1 hC h => ?_)
    have e44 : (PCell (St (((y.1.tags).getD (i2) dNmd).name))) (σ 44) w1 := h 44 (by decide)
    exact Yk.loadC wr28_ty9 rfl e44 ⟨Ext.refl _, rfl⟩
   ·refine stepFC (stepN rfl fun σ w1 hC h => ?_)
    have e1 := (eqo (h 1 (by decide))).trans T1
    exact Yk.fieldAt wr28_fo53_1 e1 ⟨Ext.refl _, rfl⟩
   ·refine stepFC (stepN rfl fun σ w1 hC h => ?_)
    have e46 := eqo (h 46 (by decide))
    exact Yk.cell1 wr28_ty51 rfl e46 (cellAt (eb hC hb8) (show (refsC y)[1]? = some (y.2.tags : Value) from refs_g1 y)) ⟨Ext.refl _, rfl⟩
   ·refine stepFC (stepN rfl fun σ w1 hC h => ?_)
    have e5 := (eqo (h 5 (by decide))).trans T5
    exact Yk.move e5 ⟨Ext.refl _, rfl⟩
   ·refine stepFC (stepN rfl fun σ w1 hC h => ?_)
    have e47 := eqo (h 47 (by decide))
    have e48 := eqo (h 48 (by decide))
    exact Yk.atRG wr28_ty51 wr28_szg70 (by decide) dNmd (RG.of (hmg.keep (hE.trans hC)) e47) e48 (by omega) fun v h => ⟨Ext.refl _, h⟩
   ·refine stepFC (stepN rfl fun σ w1 hC h => ?_)
    have e49 : (fun x w' => PR (nmdC ((y.1.tags).getD (i2) dNmd)) x w') (σ 49) w1 := h 49 (by decide)
    exact Yk.fieldPR (n := 32) wr28_fo70_1 e49 fun v h => ⟨Ext.refl _, by rw [nmd_f1] at h; exact h⟩
   ·refine stepFC (stepN rfl fun σ w1 hC h => ?_)
    have e50 : (fun x w' => PR (Lib.byteCells ((y.1.tags).getD (i2) dNmd).id.1) x w') (σ 50) w1 := h 50 (by decide)
    exact Yk.loadPR e50 wr28_ty25 rfl (by rw [Lib.byteCells_length, ((y.1.tags).getD (i2) dNmd).id.2]; exact wr28_isz25) ⟨Ext.refl _, rfl⟩
   ·refine stepFC (stepN rfl fun σ w1 hC h => ?_)
    have e45 := eqo (h 45 (by decide))
    have e51 := eqo (h 51 (by decide))
    exact Yk.build2 e45 e51 (fun w => wr28_bs69_0_1 (((y.1.tags).getD (i2) dNmd).name) (((y.1.tags).getD (i2) dNmd).id) w) ⟨Ext.refl _, rfl⟩
   ·refine stepFC (stepN rfl fun σ w1 hC h => ?_)
    have e52 := eqo (h 52 (by decide))
    exact Yk.lit1G (a := (⟨(((y.1.tags).getD (i2) dNmd).name), ((y.1.tags).getD (i2) dNmd).id⟩ : Nmd)) (enc := nmdC) e52 (nmd_len _) wr28_lg46 fun v w2 h hx => ⟨hx, h⟩
   ·exact trivial
   ·exact trivial
   ·exact trivial
  intro ρ78 w79 hx80 he hf
  obtain ⟨-, k39, -, -, -, -, -, -, -, -, -, -, -, -, -, k53, -⟩ := hf
  obtain ⟨T0, T1, T2, T3, T4, T5, -⟩ := he.hold [(0, _), (1, _), (2, _), (3, _), (4, _), (5, _)] ⟨T0, T1, T2, T3, T4, T5, trivial⟩ rfl
  clear he
  have hE := hE.trans hx80
  have hb8 := eb hx80 hb8
  have hb20 := eb hx80 hb20
  have ho1 := ho1.keep hx80
  have hm2 := eb hx80 hm2
  have ho2 := ho2.keep hx80
  have T39 : ρ78 39 = vb2 := k39
  have k53 : (fun x w' => RG 33 (nmdC) w' x ([(⟨(((y.1.tags).getD (i2) dNmd).name), ((y.1.tags).getD (i2) dNmd).id⟩ : Nmd)])) (ρ78 53) w79 := k53
  obtain ⟨v81, T53⟩ : ∃ v, ρ78 53 = v := ⟨_, rfl⟩
  rw [T53] at k53
  have hk82 := k53; clear k53
  clear k39
  refine oS rfl (Yk.appendRG _ _ w.heap.size _ 48 wr28_ty46 wr28_ig69.choose_spec.1 wr28_ig69.choose_spec.2 wr28_ty46 (y.1.tags.take i2) ([(⟨(((y.1.tags).getD (i2) dNmd).name), ((y.1.tags).getD (i2) dNmd).id⟩ : Nmd)]) (OG.of ho2 T39) (RG.of hk82 T53) (fun _ _ => nmd_one) (by simp only [List.length_take, List.length_append, List.length_cons, List.length_nil]; omega) (by simp only [List.length_take, List.length_append, List.length_cons, List.length_nil]; omega) hE.size fun v83 w84 ho85 hg86 => ?_)
  have hg86 : Grew w79 w84 vb2 v83 := .eqv T39 hg86
  have hap87 : OB v83 n2 := apart_grew hg86 hap_vb2_n2 (bl hb8)
  have hap88 : OB v83 n10 := apart_grew hg86 hap_vb2_n10 (bl hb20)
  have hap89 : OB v83 n23 := apart_grew hg86 hap_vb2_n23 (bl hm2)
  have hap90 : ApartV v83 vb1 := apartv_grew hg86 hap_vb2_vb1 ho1.2
  have hap91 : ApartV vb1 v83 := fun k h1 h2 => hap90 k h2 h1
  have hE := ext_grew hE hg86 ho2.2 (Nat.le_refl _)
  have hb8 := blk_grew hb8 hg86 hap_vb2_n2
  have hb20 := blk_grew hb20 hg86 hap_vb2_n10
  have ho1 := og_grew ho1 hg86 hap_vb2_vb1
  have hm2 := blk_grew hm2 hg86 hap_vb2_n23
  clear ho2
  clear hk82
  refine oS rfl (Yk.fieldAt wr28_fo49_1 T3 (oS rfl (Yk.storeC (i := 1) (v := v83) (vr (PQ n23 1) rfl) (vr v83 rfl) hm2 (by rw [refs_len]; decide) wr28_isz46 (RG.one (RG.ofOwn ho85)).1 (RG.one (RG.ofOwn ho85)).2 fun w92 hb93 hg94 hs95 => ?_)))
  have hE := row_fresh hE hg94 (Nat.le_trans hz32 (by omega))
  have hb8 := kb hg94 hb8 (by omega)
  have hb20 := kb hg94 hb20 (by omega)
  have ho1 := OG.kept ho1 hg94 hap_vb1_n23
  clear hm2
  have ho85 := OG.kept ho85 hg94 hap89
  have hm2 : w92.heap[n23]? = some (.cells (refsC ((⟨(y.1.branches.take i1), (y.1.tags.take i2) ++ [(⟨(((y.1.tags).getD (i2) dNmd).name), ((y.1.tags).getD (i2) dNmd).id⟩ : Nmd)], (((⟨[], [], [], zid, []⟩, ⟨.slice none 0 0, .slice none 0 0, .slice none 0 0⟩) : RefsV)).1.head, (((⟨[], [], [], zid, []⟩, ⟨.slice none 0 0, .slice none 0 0, .slice none 0 0⟩) : RefsV)).1.at_, []⟩, ⟨vb1, v83, (Value.slice none 0 0)⟩) : RefsV)).toArray 49 (0, 0)) := blk_eq hb93 (refs_s1 ((⟨(y.1.branches.take i1), (y.1.tags.take i2), (((⟨[], [], [], zid, []⟩, ⟨.slice none 0 0, .slice none 0 0, .slice none 0 0⟩) : RefsV)).1.head, (((⟨[], [], [], zid, []⟩, ⟨.slice none 0 0, .slice none 0 0, .slice none 0 0⟩) : RefsV)).1.at_, []⟩, ⟨vb1, vb2, (Value.slice none 0 0)⟩) : RefsV) v83 ((y.1.tags.take i2) ++ [(⟨(((y.1.tags).getD (i2) dNmd).name), ((y.1.tags).getD (i2) dNmd).id⟩ : Nmd)])); clear hb93
  have hl96 := bl hm2
  refine oZ (bN (tN (hK77 _ _ (wt (oM rfl (oS rfl (Yk.bin (xv := NI i2) (yv := NI 1) T5 rfl rfl (i64_add _ _ _ (by omega)) (oA rfl (oL_ [(0, .agg (refsC y).toArray), (1, PQ n2 0), (2, PQ n10 0), (3, PQ n23 0), (4, NI i1), (5, NI ((i2) + (1)))] ⟨T0, T1, T2, T3, T4, rfl, trivial⟩ fun ρ97 ⟨T0, T1, T2, T3, T4, T5, _⟩ => (tN (And.intro ⟨i2 + 1, v83, T0, T1, T2, T3, T4, T5, hE, hb8, hb20, ho1, hm2, og_eq ho85 (take_snoc hlt2), by omega, hap87, hap88, hap89, hap90, trivial⟩ ?_)))))))))))
  show y.1.tags.length - (intOf (ρ97 5)).toNat < y.1.tags.length - (intOf (ρ70 5)).toNat
  rw [T5, q5]
  simp only [intOf, Int.toNat_natCast]; omega
 refine wpF_exit (thenF_exit (thenF_exit (inBlockF_hit (tN (hK67 _ _ (sk fun K98 hK98 => ?_))))))
 have hx99 : Ext w71 (World.drew w71) := (Below.refl _ _).drew
 have hE := hE.trans hx99
 have hb8 := eb hx99 hb8
 have hb20 := eb hx99 hb20
 have ho1 := ho1.keep hx99
 have hm2 := eb hx99 hm2
 have ho2 := ho2.keep hx99
 refine wpF_float [(0, 56, PQ n2 2), (1, 57, St (y.1.head)), (2, 58, PQ n2 3), (3, 59, AB y.1.at_.1), (4, 60, PQ n23 2), (6, 61, PQ n23 3)] [5, 7] (fun wz => Ext w wz ∧ wz.heap[n2]? = some (.cells (refsC y).toArray 53 (0, 0)) ∧ wz.heap[n10]? = some (.cells (refsC ((⟨[], [], [], zid, []⟩, ⟨.slice none 0 0, .slice none 0 0, .slice none 0 0⟩) : RefsV)).toArray 49 (0, 0)) ∧ True) (by kernel_rfl) (by kernel_rfl) (by kernel_rfl) ⟨hE, hb8, hb20, trivial⟩ ⟨fun w100 ⟨hE, hb8, hb20, _⟩ => Yk.fieldAt wr28_fo53_2 T1 ⟨rfl, rfl⟩, fun w100 ⟨hE, hb8, hb20, _⟩ => Yk.cell1 wr28_ty9 rfl (vr (PQ n2 2) rfl) (cellAt hb8 (show (refsC y)[2]? = some (St (y.1.head) : Value) from refs_g2 y)) ⟨rfl, rfl⟩, fun w100 ⟨hE, hb8, hb20, _⟩ => Yk.fieldAt wr28_fo53_3 T1 ⟨rfl, rfl⟩, fun w100 ⟨hE, hb8, hb20, _⟩ => Yk.loadPR (PR.blk hb8 (refs_m3 y) (refs_n3 y) (vr (PQ n2 3) rfl)) wr28_ty25 rfl (sizeId_of y.1.at_.2) ⟨rfl, rfl⟩, fun w100 ⟨hE, hb8, hb20, _⟩ => Yk.fieldAt wr28_fo49_2 T3 ⟨rfl, rfl⟩, fun w100 ⟨hE, hb8, hb20, _⟩ => Yk.fieldAt wr28_fo49_3 T3 ⟨rfl, rfl⟩, trivial⟩ (chF_step rfl (Yk.storeC (i := 2) (v := St (y.1.head)) (vr (PQ n23 2) rfl) (vr (St (y.1.head)) rfl) hm2 (by rw [refs_len]; decide) wr28_isz9 rfl rfl fun w101 hb102 hg103 hs104 => ?_))
 have hE := row_fresh hE hg103 (Nat.le_trans hz32 (by omega))
 have hb8 := kb hg103 hb8 (by omega)
 have hb20 := kb hg103 hb20 (by omega)
 have ho1 := OG.kept ho1 hg103 hap_vb1_n23
 clear hm2
 have ho2 := OG.kept ho2 hg103 hap_vb2_n23
 have hm2 : w101.heap[n23]? = some (.cells (refsC ((⟨(y.1.branches.take i1), (y.1.tags.take i2), y.1.head, (((⟨[], [], [], zid, []⟩, ⟨.slice none 0 0, .slice none 0 0, .slice none 0 0⟩) : RefsV)).1.at_, []⟩, ⟨vb1, vb2, (Value.slice none 0 0)⟩) : RefsV)).toArray 49 (0, 0)) := blk_eq hb102 (refs_s2 ((⟨(y.1.branches.take i1), (y.1.tags.take i2), (((⟨[], [], [], zid, []⟩, ⟨.slice none 0 0, .slice none 0 0, .slice none 0 0⟩) : RefsV)).1.head, (((⟨[], [], [], zid, []⟩, ⟨.slice none 0 0, .slice none 0 0, .slice none 0 0⟩) : RefsV)).1.at_, []⟩, ⟨vb1, vb2, (Value.slice none 0 0)⟩) : RefsV) y.1.head); clear hb102
 have hl105 := bl hm2
 refine ⟨.inr ⟨hE, hb8, hb20, trivial⟩, ?_⟩
 refine chF_step rfl (Yk.storeMid (a := refs_a3 ((⟨(y.1.branches.take i1), (y.1.tags.take i2), y.1.head, (((⟨[], [], [], zid, []⟩, ⟨.slice none 0 0, .slice none 0 0, .slice none 0 0⟩) : RefsV)).1.at_, []⟩, ⟨vb1, vb2, (Value.slice none 0 0)⟩) : RefsV)) (m := Lib.byteCells ((((⟨[], [], [], zid, []⟩, ⟨.slice none 0 0, .slice none 0 0, .slice none 0 0⟩) : RefsV)).1.at_).1) (z := refs_z3 ((⟨(y.1.branches.take i1), (y.1.tags.take i2), y.1.head, (((⟨[], [], [], zid, []⟩, ⟨.slice none 0 0, .slice none 0 0, .slice none 0 0⟩) : RefsV)).1.at_, []⟩, ⟨vb1, vb2, (Value.slice none 0 0)⟩) : RefsV)) (cells := Lib.byteCells y.1.at_.1) (vr (PQ n23 3) rfl) (vr (AB y.1.at_.1) rfl) (refs_m3 ((⟨(y.1.branches.take i1), (y.1.tags.take i2), y.1.head, (((⟨[], [], [], zid, []⟩, ⟨.slice none 0 0, .slice none 0 0, .slice none 0 0⟩) : RefsV)).1.at_, []⟩, ⟨vb1, vb2, (Value.slice none 0 0)⟩) : RefsV) ▸ hm2) (refs_n3 ((⟨(y.1.branches.take i1), (y.1.tags.take i2), y.1.head, (((⟨[], [], [], zid, []⟩, ⟨.slice none 0 0, .slice none 0 0, .slice none 0 0⟩) : RefsV)).1.at_, []⟩, ⟨vb1, vb2, (Value.slice none 0 0)⟩) : RefsV)) (by rw [Lib.byteCells_length, Lib.byteCells_length, ((((⟨[], [], [], zid, []⟩, ⟨.slice none 0 0, .slice none 0 0, .slice none 0 0⟩) : RefsV)).1.at_).2, y.1.at_.2]) (by rw [Lib.byteCells_length, y.1.at_.2]; exact wr28_isz25) (byteCells_one _) fun w106 hb107 hg108 hs109 => ?_)
 have hE := row_fresh hE hg108 (Nat.le_trans hz32 (by omega))
 have hb8 := kb hg108 hb8 (by omega)
 have hb20 := kb hg108 hb20 (by omega)
 have ho1 := OG.kept ho1 hg108 hap_vb1_n23
 have ho2 := OG.kept ho2 hg108 hap_vb2_n23
 clear hm2
 have hm2 : w106.heap[n23]? = some (.cells (refsC ((⟨(y.1.branches.take i1), (y.1.tags.take i2), y.1.head, y.1.at_, []⟩, ⟨vb1, vb2, (Value.slice none 0 0)⟩) : RefsV)).toArray 49 (0, 0)) := blk_eq hb107 (refs_s3 ((⟨(y.1.branches.take i1), (y.1.tags.take i2), y.1.head, (((⟨[], [], [], zid, []⟩, ⟨.slice none 0 0, .slice none 0 0, .slice none 0 0⟩) : RefsV)).1.at_, []⟩, ⟨vb1, vb2, (Value.slice none 0 0)⟩) : RefsV) y.1.at_); clear hb107
 have hl110 := bl hm2
 refine ⟨.inl rfl, ?_⟩
 refine chF_nil (tN (hK98 _ _ (sk fun K111 hK111 => (wt (oS rfl (Yk.fieldAt wr28_fo49_4 T3 (oS rfl (Yk.cell1 wr28_ty47 rfl (vr (PQ n23 35) rfl) (cellAt hm2 (show (refsC ((⟨(y.1.branches.take i1), (y.1.tags.take i2), y.1.head, y.1.at_, []⟩, ⟨vb1, vb2, (Value.slice none 0 0)⟩) : RefsV))[35]? = some ((Value.slice none 0 0) : Value) from refs_g4 ((⟨(y.1.branches.take i1), (y.1.tags.take i2), y.1.head, y.1.at_, []⟩, ⟨vb1, vb2, (Value.slice none 0 0)⟩) : RefsV))) (oS rfl (Yk.fieldAt wr28_fo53_4 T1 (oS rfl (Yk.cell1 wr28_ty47 rfl (vr (PQ n2 35) rfl) (cellAt hb8 (show (refsC y)[35]? = some (y.2.log : Value) from refs_g4 y)) ?_))))))))))))
 have hA112 := Ext.refl w106
 have hea113 := hE
 have hz114 := hE.size
 refine oS rfl (Yk.appendRG _ _ w106.heap.size _ 104 wr28_ty47 wr28_ig122.choose_spec.1 wr28_ig122.choose_spec.2 wr28_ty47 ([]) (y.1.log) (OG.of (OG.nil _ _ _ _ _) (vr (Value.slice none 0 0) rfl)) (RG.of (hml.keep hE) (vr y.2.log rfl)) (fun _ _ => ent_one) (by simp only [List.length_nil]; omega) (by simp only [List.length_nil]; omega) hA112.size fun v115 w116 ho117 hg118 => ?_)
 have hg118 : Grew w106 w116 (.slice none 0 0) v115 := hg118
 have hlt119 := (bl hb8)
 have hlt120 := (bl hb20)
 have hlt121 := (bl hm2)
 have hx_ : Ext w106 w116 := Ext.of (by have := hg118.by_; exact this)
 have hE := hE.trans hx_
 have hb8 := eb hx_ hb8
 have hb20 := eb hx_ hb20
 have ho1 := ho1.keep hx_
 have ho2 := ho2.keep hx_
 have hm2 := eb hx_ hm2
 have hA112 := hA112.trans hx_
 have hap122 : OB v115 n2 := own_older ho117.2 hlt119
 have hap123 : OB v115 n10 := own_older ho117.2 hlt120
 have hap124 : OB v115 n23 := own_older ho117.2 hlt121
 refine oS rfl (Yk.fieldAt wr28_fo49_4 T3 (oS rfl (Yk.storeC (i := 35) (v := v115) (vr (PQ n23 35) rfl) (vr v115 rfl) hm2 (by rw [refs_len]; decide) wr28_isz47 (RG.one (RG.ofOwn ho117)).1 (RG.one (RG.ofOwn ho117)).2 fun w125 hb126 hg127 hs128 => ?_)))
 have hE := row_fresh hE hg127 (Nat.le_trans hz32 (by omega))
 have hb8 := kb hg127 hb8 (by omega)
 have hb20 := kb hg127 hb20 (by omega)
 have ho1 := OG.kept ho1 hg127 hap_vb1_n23
 have ho2 := OG.kept ho2 hg127 hap_vb2_n23
 clear hm2
 clear hA112
 have ho117 := OG.kept ho117 hg127 hap124
 have hm2 : w125.heap[n23]? = some (.cells (refsC ((⟨(y.1.branches.take i1), (y.1.tags.take i2), y.1.head, y.1.at_, ([]) ++ y.1.log⟩, ⟨vb1, vb2, v115⟩) : RefsV)).toArray 49 (0, 0)) := blk_eq hb126 (refs_s4 ((⟨(y.1.branches.take i1), (y.1.tags.take i2), y.1.head, y.1.at_, []⟩, ⟨vb1, vb2, (Value.slice none 0 0)⟩) : RefsV) v115 (([]) ++ y.1.log)); clear hb126
 have hl129 := bl hm2
 refine oZ (tN (hK111 _ _ (sk fun K130 hK130 => (wt (oS rfl (Yk.loadAll T3 hm2 (wr28_ty49).choose_spec rfl (st_isz (refs_len ((⟨(y.1.branches.take i1), (y.1.tags.take i2), y.1.head, y.1.at_, ([]) ++ y.1.log⟩, ⟨vb1, vb2, v115⟩) : RefsV)) wr28_isz49) (oS rfl (Yk.storeAll T2 (vr (.agg (refsC ((⟨(y.1.branches.take i1), (y.1.tags.take i2), y.1.head, y.1.at_, ([]) ++ y.1.log⟩, ⟨vb1, vb2, v115⟩) : RefsV)).toArray) rfl) hb20 (by simp only [List.size_toArray, refs_len]) (st_isz (refs_len _) wr28_isz49) (refs_one (x := ((⟨(y.1.branches.take i1), (y.1.tags.take i2), y.1.head, y.1.at_, ([]) ++ y.1.log⟩, ⟨vb1, vb2, v115⟩) : RefsV)) (RG.one (RG.ofOwn ho1)).2 (RG.one (RG.ofOwn ho2)).2 (RG.one (RG.ofOwn ho117)).2) fun w131 hb132 hg133 hs134 => ?_))))))))
 have hE := row_fresh hE hg133 (Nat.le_trans hz18 (by omega))
 have hb8 := kb hg133 hb8 (by omega)
 clear hb20
 have ho1 := OG.kept ho1 hg133 hap_vb1_n10
 have ho2 := OG.kept ho2 hg133 hap_vb2_n10
 have ho117 := OG.kept ho117 hg133 hap123
 have hm2 := kb hg133 hm2 (by omega)
 have hb20 : w131.heap[n10]? = some (.cells (refsC ((⟨(y.1.branches.take i1), (y.1.tags.take i2), y.1.head, y.1.at_, ([]) ++ y.1.log⟩, ⟨vb1, vb2, v115⟩) : RefsV)).toArray 49 (0, 0)) := hb132; clear hb132
 have hl135 := bl hb20
 refine oZ (tN (hK130 _ _ (wpF_ret (postF_ret (fn := Tryd.f30) _ rfl [.agg (refsC ((⟨(y.1.branches.take i1), (y.1.tags.take i2), y.1.head, y.1.at_, ([]) ++ y.1.log⟩, ⟨vb1, vb2, v115⟩) : RefsV)).toArray] (.agg (refsC ((⟨(y.1.branches.take i1), (y.1.tags.take i2), y.1.head, y.1.at_, ([]) ++ y.1.log⟩, ⟨vb1, vb2, v115⟩) : RefsV)).toArray) rfl ⟨ResF.row T2 hb20 (wr28_ty49).choose_spec rfl (st_isz (refs_len _) wr28_isz49), trivial⟩ ?_))))
 have e1 : y.1.branches.take i1 = y.1.branches := List.take_of_length_le (by omega)
 have e2 : y.1.tags.take i2 = y.1.tags := List.take_of_length_le (by omega)
 refine ⟨⟨_, _, _⟩, ?_, ⟨RG.ofOwn (og_eq ho1 e1), RG.ofOwn (og_eq ho2 e2), RG.ofOwn (og_eq ho117 (by simp))⟩, hE⟩
 rw [e1, e2]; rfl
open Go.RowKit
set_option maxRecDepth 100000
theorem lightR_few {r : Refs} (h : lightR r = true) : r.branches.length ≤ 80 ∧ r.tags.length ≤ 80 ∧ r.log.length ≤ 80 := by
 unfold lightR at h
 simp only [Bool.and_eq_true] at h
 have h1 := h.1
 exact few_of (by simpa using h1)
set_option maxHeartbeats 1600000
open Go.RowKit
theorem opsF_offU {P : Program} {n : Nat} {Q : PostF} {ρ : Slots} {w : World} {ops : Array Oper} {rest : List Oper} {o : Oper} {g : Nat} {want : Bool} {d : Tmp} (hgd : o.guard = some (g, want)) (hd : (match o.dst with | some d => Nat.blt d n | none => true) = true) (hg : (ops[g]?).bind (·.dst) = some d) (hv : ρ d = undef)
    (h : opsF P ops n Q rest (updO ρ o.dst undef) w) : opsF P ops n Q (o :: rest) ρ w := by
  intro a ha
  have hdn : ∀ t, o.dst = some t → t < n := fun t ht => by rw [ht] at hd; exact Nat.le_of_ble_eq_true hd
  have hw : Region.wanted o (yielded ops a.tmps) = false := by
    have h1 := (ha.get d).trans hv
    rw [Array.getD_eq_getD_getElem?] at h1
    simp only [Region.wanted, hgd, yielded, hg, Option.bind_some]
    cases hx : a.tmps[d]? with
    | none => simp
    | some x =>
      rw [hx] at h1
      obtain rfl : x = undef := by simpa using h1
      simp [undef]
  refine wpList_step fun K hK => ?_
  rw [if_neg (by rw [hw]; simp)]
  exact hK _ _ (h _ (ha.put o.dst hdn undef))
def fldB (f : Field) (x : Nat × Nat) : Bool := f.name != "_" && (f.type == x.1 && f.offset == x.2)
def fldsB : List Field → List (Nat × Nat) → Bool
  | [], [] => true
  | f :: fs, x :: r => fldB f x && fldsB fs r
  | _, _ => false
section
variable {P : Program} {w : World} {d : Nat} {xs ys : Array Value}
theorem eqS_nil {fs : List Field} (h : fldsB fs [] = true) : (Op.eqFields d xs ys fs).run P w = .ok true w := by
  cases fs with
  | nil => simp [Op.eqFields, Sem.run_pure]
  | cons f fs => cases h
theorem eqS_step {fs : List Field} {t o : Nat} {r : List (Nat × Nat)} {a b : Value} {q q2 : Bool} (h : fldsB fs ((t, o) :: r) = true) (ha : (part t xs o).run P w = .ok a w) (hb : (part t ys o).run P w = .ok b w) (he : (Op.equalIn d t a b).run P w = .ok q w)
    (hr : ∀ fs', fldsB fs' r = true → (Op.eqFields d xs ys fs').run P w = .ok q2 w) : (Op.eqFields d xs ys fs).run P w = .ok (q && q2) w := by
  cases fs with
  | nil => cases h
  | cons f fs =>
    simp only [fldsB, fldB, Bool.and_eq_true, bne_iff_ne, beq_iff_eq] at h
    obtain ⟨⟨hn, ht, ho⟩, h2⟩ := h
    have hr := hr fs h2
    simp only [Op.eqFields, if_pos hn, Sem.run_bind, ht, ho, ha, hb, he, Result.andThen_ok]
    cases q
    · simp [Sem.run_pure]
    · simpa using hr
theorem part_one {t o : Nat} {cs : List Value} {v : Value} (h : (isAgg t).run P w = .ok false w) (hv : cs[o]? = some v) : (part t cs.toArray o).run P w = .ok v w := by
  unfold part
  rw [Sem.run_bind, h]
  simp [hv, Sem.run_pure]
theorem part_id {t o : Nat} {cs a z : List Value} {l : List UInt8} (h : (isAgg t).run P w = .ok true w) (hs : (sizeOf t).run P w = .ok 32 w) (hc : cs = a ++ Lib.byteCells l ++ z) (ha : a.length = o) (hl : l.length = 32) : (part t cs.toArray o).run P w = .ok (.agg (Lib.byteCells l).toArray) w := by
  unfold part
  have e : (cs.drop o).take 32 = Lib.byteCells l := by
    rw [hc, List.append_assoc, ← ha, List.drop_left, List.take_left' (by rw [Lib.byteCells_length, hl])]
  rw [Sem.run_bind, h]
  simp [hs, e]
theorem eqF_u8 {t : Nat} {a b : UInt8} (h : P.underlying t = some (.int .u8)) : (Op.equalIn (d + 1) t (B8 a) (B8 b)).run P w = .ok (decide (a = b)) w := by
  rw [run_equalIn_int w d t .u8 .u8 _ _ h, byte_eq]
theorem eqF_str {t : Nat} {a b : Bs} (h : P.underlying t = some .string) : (Op.equalIn (d + 1) t (St a) (St b)).run P w = .ok (decide (a = b)) w := by
  have e := run_equalIn_string (P := P) w d t ⟨a.toArray⟩ ⟨b.toArray⟩ h
  rw [ba_list, ba_list] at e
  refine e.trans ?_
  congr 1
  rw [Bool.eq_iff_iff]
  simp
theorem eqF_id {t e : Nat} {a b : Id32} (ht : P.underlying t = some (.array 32 e)) (he : P.underlying e = some (.int .u8)) (hs : (sizeOf e).run P w = .ok 1 w) : (Op.equalIn (d + 1 + 1) t (.agg (Lib.byteCells a.1).toArray) (.agg (Lib.byteCells b.1).toArray)).run P w = .ok (decide (a = b)) w := by
  rw [run_eqArray w ht he hs a.1 b.1 a.2 b.2]
  congr 1
  exact decide_eq_decide.2 ⟨fun h => Subtype.ext h, fun h => by rw [h]⟩
end
section
variable {P : Program} {K : Value → World → Prop} {ρ : Slots} {w : World} {d : Option Tmp} {ty : TypeId} {pos : String} {af : Array Edge} {gd : Option (Nat × Bool)}
theorem Yk.neStr {t ty2 : TypeId} {x y : Operand} {cx cy : Array Value} {b : Bool} (hg : P.eqGuardType P.depth t = false) (hx : evalR ρ x = .agg cx) (hy : evalR ρ y = .agg cy) (h : (Op.equalIn 10000 t (.agg cx) (.agg cy)).run P w = .ok b w) (hk : K (.bool (!b)) w) : Yk P K ((execOp (evalR ρ) ⟨d, .binOp .neq t x y ty2, ty, pos, af, gd⟩).run P w) := by
  refine Yk.value (v := .bool (!b)) (w' := w) ?_ hk
  unfold execOp
  simp only [hx, hy, Sem.run_bind, run_eqGuard_agg w .neq t x y cx cy hg, Result.andThen_ok, run_neq_struct, h]
  rfl
end
end Go.Proofs.YtmonlobfofkbdaaDoor
