/- Part 3 of what stands behind these statements: laws and walks of the functions that are reached. Conditions: those that each theorem names. -/
import Derived.Test.YtmonlobfofkbdaaDoorL2
set_option linter.unusedVariables false
set_option linter.unusedSimpArgs false
namespace Go.Proofs.YtmonlobfofkbdaaDoor
open Go.RowKit
set_option maxRecDepth 100000
def NewOG (t : TypeId) (w0 wb w : World) (v : Value) (l : List Nmd) : Prop := OG w0.heap.size t 33 nmdC w v l ∧ ∀ k, v.ownBlock = some k → wb.heap.size ≤ k
theorem NewOG.keep {t : TypeId} {w0 wb w w' : World} {v : Value} {l : List Nmd} (h : NewOG t w0 wb w v l) (k : Ext w w') : NewOG t w0 wb w' v l := ⟨h.1.keep k, h.2⟩
theorem NewOG.of {t : TypeId} {w0 wb w1 w : World} {v : Value} {l : List Nmd} (h : OG w1.heap.size t 33 nmdC w v l) (h0 : w0.heap.size ≤ wb.heap.size) (h1 : wb.heap.size ≤ w1.heap.size) : NewOG t w0 wb w v l := ⟨h.low (Nat.le_trans h0 h1), fun k hk => Nat.le_trans h1 (h.2.lt k hk).1⟩
theorem NewOG.apart {t : TypeId} {w0 wb w : World} {v : Value} {l : List Nmd} {g : Nat} (h : NewOG t w0 wb w v l) (hg : g < wb.heap.size) : v.ownBlock ≠ some g := fun e => by have := h.2 g e; omega
theorem NewOG.apartv {α : Type} {t t' : TypeId} {w0 wb w wa : World} {v u : Value} {l : List Nmd} {b k : Nat} {enc : α → List Value} {m : List α} (h : NewOG t w0 wb w v l) (hu : OG b t' k enc wa u m) (hle : wa.heap.size ≤ wb.heap.size) : ApartV u v := fun i h1 h2 => by
 have := (hu.2.lt i h1).2
 have := h.2 i h2
 omega
abbrev fnV (f : Nat) : Value := .func (.func f) #[] #[]
def doG : UInt8 → Option Nat := updM (updM (updM (fun _ => none) 1 (some 122)) 2 (some 123)) 3 (some 124)
theorem zeroFn : ∀ u : World, (zeroValue 128).run Tryd.prog u = .ok Value.nilFunc u := fun _ => by kernel_rfl
theorem wr34_fo53_0 : FieldOff Tryd.prog 53 0 0 := fun b o w => by simp [go_sem]
theorem wr34_ty51 : Tryd.prog.underlying 51 = some (.slice 70) := by kernel_rfl
theorem wr34_ty67 : ∃ fs, Tryd.prog.underlying 67 = some (.struct fs) := struct_of (by kernel_rfl)
theorem wr34_isz67 : (Tryd.prog.info? 67).map (·.size) = some 66 := by kernel_rfl
theorem wr34_pl149 : Plain Tryd.prog 149 := fun _ _ => by kernel_rfl
theorem wr34_fo67_3 : FieldOff Tryd.prog 67 3 34 := fun b o w => by simp [go_sem]
theorem wr34_ty25 : Tryd.prog.underlying 25 = some (.array 32 5) := by kernel_rfl
theorem wr34_pl83 : Plain Tryd.prog 83 := fun _ _ => by kernel_rfl
theorem wr34_fo67_2 : FieldOff Tryd.prog 67 2 2 := fun b o w => by simp [go_sem]
theorem wr34_fo53_2 : FieldOff Tryd.prog 53 2 2 := fun b o w => by simp [go_sem]
theorem wr34_ty9 : Tryd.prog.underlying 9 = some (.string) := by kernel_rfl
theorem wr34_fo67_1 : FieldOff Tryd.prog 67 1 1 := fun b o w => by simp [go_sem]
theorem wr34_isz51 : (Tryd.prog.info? 51).map (·.size) = some 1 := by kernel_rfl
theorem wr34_fo53_1 : FieldOff Tryd.prog 53 1 1 := fun b o w => by simp [go_sem]
theorem wr34_isz9 : (Tryd.prog.info? 9).map (·.size) = some 1 := by kernel_rfl
theorem wr34_fo53_3 : FieldOff Tryd.prog 53 3 3 := fun b o w => by simp [go_sem]
theorem wr34_isz25 : (Tryd.prog.info? 25).map (·.size) = some 32 := by kernel_rfl
theorem wr34_ty125 : Tryd.prog.underlying 125 = some (.map 5 128) := by kernel_rfl
set_option maxHeartbeats 1600000
theorem branch_any (w0 w : World) (g : Nat) (z : RefsV) (hA : AppAt w0 w g z) (hS : Sorted z.1) (y : Upd) :
  Calls Tryd.prog 122 #[PQ g 0, .agg (updC y).toArray] w fun e w' => ∃ z', (e = .returned (NI (branchP z.1 y).1) ∧ z'.1 = (branchP z.1 y).2) ∧ AppAt w0 w' g z' ∧ z'.2.log = z.2.log ∧ w.grownBy w' (some g) := by
 have hgr := World.grownBy.refl w (some g)
 have hE0 := hA.ext
 have hg0 := hA.g0
 have hblk := hA.blk
 have hbr := hA.br
 have htg := hA.tg
 have hlg := hA.lg
 have hab := hA.ab
 have hat := hA.at_
 have hal := hA.al
 have hlb := hA.lb
 have hlt := hA.lt
 have hlg0 := hA.lg
 have hgl := (bl hblk)
 refine calls_of_wpF (args := [PQ g 0, .agg (updC y).toArray]) Tryd.func122 rfl 45 rfl (Nat.le_of_ble_eq_true rfl) ?_
 intro ρ0 hb
 have T0 : ρ0 0 = (PQ g 0 : Value) := hb.get 0
 have T1 : ρ0 1 = (.agg (updC y).toArray : Value) := hb.get 1
 clear hb
 have hE := Ext.refl w
 refine sk fun K1 hK1 => (wt (oS rfl (Yk.box (cs := (updC y : List Value).toArray) T1 fun n2 w3 hn4 hb5 hx6 hs7 => ?_)))
 have hA8 := Ext.refl w
 have hea9 := hE
 have hea10 := hE0
 have hz11 := hE.size
 have hz12 := hE0.size
 have hlt13 := lte (bl hblk) hn4
 have hap14 : OB z.2.branches n2 := own_newer hbr.2 (by omega)
 have hap15 : OB z.2.tags n2 := own_newer htg.2 (by omega)
 have hap16 : OB z.2.log n2 := own_newer hlg.2 (by omega)
 have hblk := eb hx6 hblk
 have hbr := hbr.keep hx6
 have htg := htg.keep hx6
 have hlg := hlg.keep hx6
 have hgr : w.grownBy w3 (some g) := grownBy_trans hgr hx6.grown (fun _ e => by cases e)
 have hE := hE.trans hx6
 have hE0 := hE0.trans hx6
 have hA8 := hA8.trans hx6
 have hb17 := hb5; clear hb5
 have hl18 : n2 < w3.heap.size := by omega
 refine oA rfl (oZ (tN (hK1 _ _ (sk fun K19 hK19 => ?_))))
 refine wpF_draw [Is (PQ g 0), Is (PQ g 0), Is (PQ g 0), Is (z.2.branches), Is (.agg (updC y).toArray), fun x w' => ∃ v, x = .tuple #[v, NI (turnQ z.1.branches y).1] ∧ NewOG 70 w0 w3 w' v ((turnQ z.1.branches y).2), fun x w' => ∃ v, x = .tuple #[v, NI (turnQ z.1.branches y).1] ∧ NewOG 70 w0 w3 w' v ((turnQ z.1.branches y).2), fun x w' => NewOG 70 w0 w3 w' x ((turnQ z.1.branches y).2), Is (NI ((turnQ z.1.branches y).1)), fun x w' => NewOG 70 w0 w3 w' x ((turnQ z.1.branches y).2), Is (NI ((turnQ z.1.branches y).1))] (by kernel_rfl) [8, 9, 10, 11, 12, 13, 7, 14, 15, 5, 6] (by kernel_rfl) (by kernel_rfl) (si5 ⟨(fun _ _ _ ⟨v, h1, h2⟩ k => ⟨v, h1, h2.keep k⟩), (fun _ _ _ ⟨v, h1, h2⟩ k => ⟨v, h1, h2.keep k⟩), (fun _ _ _ h k => NewOG.keep h k), Stab.is _, (fun _ _ _ h k => NewOG.keep h k), Stab.is _, trivial⟩) ?hs1001 ?hQ1001
 case hs1001 =>
  refine ⟨?_, ?_, ?_, ?_, ?_, ?_, ?_, ?_, ?_, ?_, ?_, trivial⟩
  ·refine stepN rfl fun σ w1 hC h => ?_
   have e0 := (eqo (h 0 (by decide))).trans T0
   exact Yk.move e0 ⟨Ext.refl _, rfl⟩
  ·refine stepN rfl fun σ w1 hC h => ?_
   have e8 := eqo (h 8 (by decide))
   exact Yk.nilCheck e8 ⟨Ext.refl _, rfl⟩
  ·refine stepN rfl fun σ w1 hC h => ?_
   have e9 := eqo (h 9 (by decide))
   exact Yk.fieldAt wr34_fo53_0 e9 ⟨Ext.refl _, rfl⟩
  ·refine stepN rfl fun σ w1 hC h => ?_
   have e10 := eqo (h 10 (by decide))
   exact Yk.cell1 wr34_ty51 rfl e10 (cellAt (eb hC hblk) (show (refsC z)[0]? = some (z.2.branches : Value) from refs_g0 z)) ⟨Ext.refl _, rfl⟩
  ·refine stepN rfl fun σ w1 hC h => ?_
   have e3 : σ 3 = PQ n2 0 := (eqo (h 3 (by decide))).trans rfl
   exact Yk.loadAll e3 (eb hC hb17) (wr34_ty67).choose_spec rfl (st_isz (upd_len y) wr34_isz67) ⟨Ext.refl _, rfl⟩
  ·refine stepN rfl fun σ w1 hC h => ?_
   have e11 := eqo (h 11 (by decide))
   have e12 := eqo (h 12 (by decide))
   refine Yk.callA2 wr34_pl149 e11 e12 ((turned_any _ z.2.branches z.1.branches (RG.ofOwn (hbr.keep hC)) (by have := hS.bl; omega) hS.br y).mono ?_)
   rintro e w2 ⟨v, rfl, ho, hx⟩
   exact ⟨_, rfl, hx, v, rfl, NewOG.of ho hE0.size hC.size⟩
  ·refine stepN rfl fun σ w1 hC h => ?_
   have e13 : (fun x w' => ∃ v, x = .tuple #[v, NI (turnQ z.1.branches y).1] ∧ NewOG 70 w0 w3 w' v ((turnQ z.1.branches y).2)) (σ 13) w1 := h 13 (by decide)
   exact Yk.move rfl ⟨Ext.refl _, e13⟩
  ·refine stepN rfl fun σ w1 hC h => ?_
   have e7 : (fun x w' => ∃ v, x = .tuple #[v, NI (turnQ z.1.branches y).1] ∧ NewOG 70 w0 w3 w' v ((turnQ z.1.branches y).2)) (σ 7) w1 := h 7 (by decide)
   obtain ⟨v0, h1_, h2_⟩ := e7
   exact Yk.extract (vs := [v0, _]) h1_ (show _ = some v0 from rfl) ⟨Ext.refl _, h2_⟩
  ·refine stepN rfl fun σ w1 hC h => ?_
   have e7 : (fun x w' => ∃ v, x = .tuple #[v, NI (turnQ z.1.branches y).1] ∧ NewOG 70 w0 w3 w' v ((turnQ z.1.branches y).2)) (σ 7) w1 := h 7 (by decide)
   obtain ⟨v0, h1_, h2_⟩ := e7
   exact Yk.extract (vs := [v0, NI (turnQ z.1.branches y).1]) h1_ (show _ = some (NI (turnQ z.1.branches y).1 : Value) from rfl) ⟨Ext.refl _, rfl⟩
  ·refine stepN rfl fun σ w1 hC h => ?_
   have e14 : (fun x w' => NewOG 70 w0 w3 w' x ((turnQ z.1.branches y).2)) (σ 14) w1 := h 14 (by decide)
   exact Yk.assign rfl ⟨Ext.refl _, e14⟩
  ·refine stepN rfl fun σ w1 hC h => ?_
   have e15 := eqo (h 15 (by decide))
   exact Yk.assign e15 ⟨Ext.refl _, rfl⟩
 intro ρ20 w21 hx22 he hf
 obtain ⟨-, -, -, -, -, -, -, -, -, k5, k6, -⟩ := hf
 obtain ⟨T0, T1, T3, T4, -⟩ := he.hold [(0, _), (1, _), (3, PQ n2 0), (4, NI 0)] ⟨T0, T1, rfl, rfl, trivial⟩ rfl
 clear he
 have hblk := eb hx22 hblk
 have hbr := hbr.keep hx22
 have htg := htg.keep hx22
 have hlg := hlg.keep hx22
 have hgr : w.grownBy w21 (some g) := grownBy_trans hgr hx22.grown (fun _ e => by cases e)
 have hE := hE.trans hx22
 have hE0 := hE0.trans hx22
 have hA8 := hA8.trans hx22
 have hb17 := eb hx22 hb17
 have k5 : (fun x w' => NewOG 70 w0 w3 w' x ((turnQ z.1.branches y).2)) (ρ20 5) w21 := k5
 obtain ⟨v23, T5⟩ : ∃ v, ρ20 5 = v := ⟨_, rfl⟩
 rw [T5] at k5
 have hk24 := k5; clear k5
 have hap25 : OB v23 g := NewOG.apart hk24 (by omega)
 have hap26 : OB v23 n2 := NewOG.apart hk24 (by omega)
 have hap27 : ApartV z.2.log v23 := NewOG.apartv hk24 hlg0 (by omega)
 have ho28 := hk24.1; clear hk24
 have T6 : ρ20 6 = NI ((turnQ z.1.branches y).1) := k6
 clear k6
 refine tN (hK19 _ _ (sk fun K29 hK29 => (sk fun K30 hK30 => ?_)))
 refine wpF_draw [Is (NI ((turnQ z.1.branches y).1)), Is (.bool (decide (((turnQ z.1.branches y).1 : Nat) = (0)))), Is (.bool (decide (((turnQ z.1.branches y).1 : Nat) = (0)))), Is (cond ((decide (((turnQ z.1.branches y).1 : Nat) = (0)))) (PQ n2 34) undef), Is (cond ((decide (((turnQ z.1.branches y).1 : Nat) = (0)))) (AB y.new.1) undef), Is (cond ((decide (((turnQ z.1.branches y).1 : Nat) = (0)))) (.bool (zeroB y.new)) undef), Is (.bool ((decide (((turnQ z.1.branches y).1 : Nat) = (0))) && (zeroB y.new))), Is (.bool ((decide (((turnQ z.1.branches y).1 : Nat) = (0))) && (zeroB y.new))), Is (cond ((decide (((turnQ z.1.branches y).1 : Nat) = (0))) && (zeroB y.new)) (PQ n2 2) undef), Is (cond ((decide (((turnQ z.1.branches y).1 : Nat) = (0))) && (zeroB y.new)) (AB y.old.1) undef), Is (cond ((decide (((turnQ z.1.branches y).1 : Nat) = (0))) && (zeroB y.new)) (.bool (zeroB y.old)) undef), Is (cond ((decide (((turnQ z.1.branches y).1 : Nat) = (0))) && (zeroB y.new)) (.bool (!(zeroB y.old))) undef), Is (.bool (((decide (((turnQ z.1.branches y).1 : Nat) = (0))) && (zeroB y.new)) && (!(zeroB y.old)))), Is (.bool (((decide (((turnQ z.1.branches y).1 : Nat) = (0))) && (zeroB y.new)) && (!(zeroB y.old)))), Is (cond (((decide (((turnQ z.1.branches y).1 : Nat) = (0))) && (zeroB y.new)) && (!(zeroB y.old))) (PQ g 0) undef), Is (cond (((decide (((turnQ z.1.branches y).1 : Nat) = (0))) && (zeroB y.new)) && (!(zeroB y.old))) (PQ g 0) undef), Is (cond (((decide (((turnQ z.1.branches y).1 : Nat) = (0))) && (zeroB y.new)) && (!(zeroB y.old))) (PQ g 2) undef), Is (cond (((decide (((turnQ z.1.branches y).1 : Nat) = (0))) && (zeroB y.new)) && (!(zeroB y.old))) (St (z.1.head)) undef), Is (cond (((decide (((turnQ z.1.branches y).1 : Nat) = (0))) && (zeroB y.new)) && (!(zeroB y.old))) (PQ n2 1) undef), Is (cond (((decide (((turnQ z.1.branches y).1 : Nat) = (0))) && (zeroB y.new)) && (!(zeroB y.old))) (St (y.name)) undef), Is (cond (((decide (((turnQ z.1.branches y).1 : Nat) = (0))) && (zeroB y.new)) && (!(zeroB y.old))) (.bool (decide ((z.1.head : List UInt8) = (y.name : List UInt8)))) undef), Is (.bool ((((decide (((turnQ z.1.branches y).1 : Nat) = (0))) && (zeroB y.new)) && (!(zeroB y.old))) && (decide ((z.1.head : List UInt8) = (y.name : List UInt8)))))] (by kernel_rfl) [16, 17, 18, 19, 20, 21, 22, 23, 24, 25, 26, 27, 28, 29, 30, 31, 32, 33, 34, 35, 36, 37] (by kernel_rfl) (by kernel_rfl) (si10 (si12 trivial)) ?hs2002 ?hQ2002
 case hs2002 =>
  refine ⟨?_, ?_, ?_, ?_, ?_, ?_, ?_, ?_, ?_, ?_, ?_, ?_, ?_, ?_, ?_, ?_, ?_, ?_, ?_, ?_, ?_, ?_, trivial⟩
  ·refine stepN rfl fun σ w1 hC h => ?_
   have e6 := (eqo (h 6 (by decide))).trans T6
   exact Yk.move e6 ⟨Ext.refl _, rfl⟩
  ·refine stepN rfl fun σ w1 hC h => ?_
   have e16 := eqo (h 16 (by decide))
   exact Yk.eqI (a := ((turnQ z.1.branches y).1 : Nat)) (b := (0 : Nat)) e16 rfl (k_eql _ _ _ _) ⟨Ext.refl _, rfl⟩
  ·refine stepN rfl fun σ w1 hC h => ?_
   have e17 := eqo (h 17 (by decide))
   exact Yk.move e17 ⟨Ext.refl _, rfl⟩
  ·refine stepM 2 true 18 (G := (decide (((turnQ z.1.branches y).1 : Nat) = (0)))) rfl rfl (fun x _ (h : x = .bool (decide (((turnQ z.1.branches y).1 : Nat) = (0)))) => gT h) (fun hu_ _ => mayU hu_) fun hG σ w1 hC h => ?_
   have e3 := (eqo (h 3 (by decide))).trans T3
   exact Yk.fieldAt wr34_fo67_3 e3 ⟨Ext.refl _, mayI hG⟩
  ·refine stepM 2 true 18 (G := (decide (((turnQ z.1.branches y).1 : Nat) = (0)))) rfl rfl (fun x _ (h : x = .bool (decide (((turnQ z.1.branches y).1 : Nat) = (0)))) => gT h) (fun hu_ _ => mayU hu_) fun hG σ w1 hC h => ?_
   have e19 := eqo (h 19 (by decide))
   exact Yk.loadPR (PR.blk (eb hC hb17) (upd_m3 y) (upd_n3 y) (mayT e19 hG)) wr34_ty25 rfl (sizeId_of y.new.2) ⟨Ext.refl _, mayI hG⟩
  ·refine stepM 2 true 18 (G := (decide (((turnQ z.1.branches y).1 : Nat) = (0)))) rfl rfl (fun x _ (h : x = .bool (decide (((turnQ z.1.branches y).1 : Nat) = (0)))) => gT h) (fun hu_ _ => mayU hu_) fun hG σ w1 hC h => ?_
   have e20 := eqo (h 20 (by decide))
   refine Yk.callA1 wr34_pl83 (mayT e20 hG) ((fzero_any _ y.new).mono ?_)
   rintro e w2 ⟨rfl, hx⟩
   exact ⟨_, rfl, hx, mayI hG⟩
  ·refine stepN rfl fun σ w1 hC h => ?_
   have e18 := eqo (h 18 (by decide))
   have e21 := eqo (h 21 (by decide))
   exact Yk.pickAnd e18 (fun hA => (mayT e21 hA)) (vr (.bool (false)) rfl) ⟨Ext.refl _, rfl⟩
  ·refine stepN rfl fun σ w1 hC h => ?_
   have e22 := eqo (h 22 (by decide))
   exact Yk.move e22 ⟨Ext.refl _, rfl⟩
  ·refine stepM 7 true 23 (G := (decide (((turnQ z.1.branches y).1 : Nat) = (0))) && (zeroB y.new)) rfl rfl (fun x _ (h : x = .bool ((decide (((turnQ z.1.branches y).1 : Nat) = (0))) && (zeroB y.new))) => gT h) (fun hu_ _ => mayU hu_) fun hG σ w1 hC h => ?_
   have e3 := (eqo (h 3 (by decide))).trans T3
   exact Yk.fieldAt wr34_fo67_2 e3 ⟨Ext.refl _, mayI hG⟩
  ·refine stepM 7 true 23 (G := (decide (((turnQ z.1.branches y).1 : Nat) = (0))) && (zeroB y.new)) rfl rfl (fun x _ (h : x = .bool ((decide (((turnQ z.1.branches y).1 : Nat) = (0))) && (zeroB y.new))) => gT h) (fun hu_ _ => mayU hu_) fun hG σ w1 hC h => ?_
   have e24 := eqo (h 24 (by decide))
   exact Yk.loadPR (PR.blk (eb hC hb17) (upd_m2 y) (upd_n2 y) (mayT e24 hG)) wr34_ty25 rfl (sizeId_of y.old.2) ⟨Ext.refl _, mayI hG⟩
  ·refine stepM 7 true 23 (G := (decide (((turnQ z.1.branches y).1 : Nat) = (0))) && (zeroB y.new)) rfl rfl (fun x _ (h : x = .bool ((decide (((turnQ z.1.branches y).1 : Nat) = (0))) && (zeroB y.new))) => gT h) (fun hu_ _ => mayU hu_) fun hG σ w1 hC h => ?_
   have e25 := eqo (h 25 (by decide))
   refine Yk.callA1 wr34_pl83 (mayT e25 hG) ((fzero_any _ y.old).mono ?_)
   rintro e w2 ⟨rfl, hx⟩
   exact ⟨_, rfl, hx, mayI hG⟩
  ·refine stepM 7 true 23 (G := (decide (((turnQ z.1.branches y).1 : Nat) = (0))) && (zeroB y.new)) rfl rfl (fun x _ (h : x = .bool ((decide (((turnQ z.1.branches y).1 : Nat) = (0))) && (zeroB y.new))) => gT h) (fun hu_ _ => mayU hu_) fun hG σ w1 hC h => ?_
   have e26 := eqo (h 26 (by decide))
   exact Yk.notB (mayT e26 hG) ⟨Ext.refl _, mayI hG⟩
  ·refine stepN rfl fun σ w1 hC h => ?_
   have e23 := eqo (h 23 (by decide))
   have e27 := eqo (h 27 (by decide))
   exact Yk.pickAnd e23 (fun hA => (mayT e27 hA)) (vr (.bool (false)) rfl) ⟨Ext.refl _, rfl⟩
  ·refine stepN rfl fun σ w1 hC h => ?_
   have e28 := eqo (h 28 (by decide))
   exact Yk.move e28 ⟨Ext.refl _, rfl⟩
  ·refine stepM 13 true 29 (G := ((decide (((turnQ z.1.branches y).1 : Nat) = (0))) && (zeroB y.new)) && (!(zeroB y.old))) rfl rfl (fun x _ (h : x = .bool (((decide (((turnQ z.1.branches y).1 : Nat) = (0))) && (zeroB y.new)) && (!(zeroB y.old)))) => gT h) (fun hu_ _ => mayU hu_) fun hG σ w1 hC h => ?_
   have e0 := (eqo (h 0 (by decide))).trans T0
   exact Yk.move e0 ⟨Ext.refl _, mayI hG⟩
  ·refine stepM 13 true 29 (G := ((decide (((turnQ z.1.branches y).1 : Nat) = (0))) && (zeroB y.new)) && (!(zeroB y.old))) rfl rfl (fun x _ (h : x = .bool (((decide (((turnQ z.1.branches y).1 : Nat) = (0))) && (zeroB y.new)) && (!(zeroB y.old)))) => gT h) (fun hu_ _ => mayU hu_) fun hG σ w1 hC h => ?_
   have e30 := eqo (h 30 (by decide))
   exact Yk.nilCheck (mayT e30 hG) ⟨Ext.refl _, mayI hG⟩
  ·refine stepM 13 true 29 (G := ((decide (((turnQ z.1.branches y).1 : Nat) = (0))) && (zeroB y.new)) && (!(zeroB y.old))) rfl rfl (fun x _ (h : x = .bool (((decide (((turnQ z.1.branches y).1 : Nat) = (0))) && (zeroB y.new)) && (!(zeroB y.old)))) => gT h) (fun hu_ _ => mayU hu_) fun hG σ w1 hC h => ?_
   have e31 := eqo (h 31 (by decide))
   exact Yk.fieldAt wr34_fo53_2 (mayT e31 hG) ⟨Ext.refl _, mayI hG⟩
  ·refine stepM 13 true 29 (G := ((decide (((turnQ z.1.branches y).1 : Nat) = (0))) && (zeroB y.new)) && (!(zeroB y.old))) rfl rfl (fun x _ (h : x = .bool (((decide (((turnQ z.1.branches y).1 : Nat) = (0))) && (zeroB y.new)) && (!(zeroB y.old)))) => gT h) (fun hu_ _ => mayU hu_) fun hG σ w1 hC h => ?_
   have e32 := eqo (h 32 (by decide))
   exact Yk.cell1 wr34_ty9 rfl (mayT e32 hG) (cellAt (eb hC hblk) (show (refsC z)[2]? = some (St (z.1.head) : Value) from refs_g2 z)) ⟨Ext.refl _, mayI hG⟩
  ·refine stepM 13 true 29 (G := ((decide (((turnQ z.1.branches y).1 : Nat) = (0))) && (zeroB y.new)) && (!(zeroB y.old))) rfl rfl (fun x _ (h : x = .bool (((decide (((turnQ z.1.branches y).1 : Nat) = (0))) && (zeroB y.new)) && (!(zeroB y.old)))) => gT h) (fun hu_ _ => mayU hu_) fun hG σ w1 hC h => ?_
   have e3 := (eqo (h 3 (by decide))).trans T3
   exact Yk.fieldAt wr34_fo67_1 e3 ⟨Ext.refl _, mayI hG⟩
  ·refine stepM 13 true 29 (G := ((decide (((turnQ z.1.branches y).1 : Nat) = (0))) && (zeroB y.new)) && (!(zeroB y.old))) rfl rfl (fun x _ (h : x = .bool (((decide (((turnQ z.1.branches y).1 : Nat) = (0))) && (zeroB y.new)) && (!(zeroB y.old)))) => gT h) (fun hu_ _ => mayU hu_) fun hG σ w1 hC h => ?_
   have e34 := eqo (h 34 (by decide))
   exact Yk.cell1 wr34_ty9 rfl (mayT e34 hG) (cellAt (eb hC hb17) (show (updC y)[1]? = some (St (y.name) : Value) from upd_g1 y)) ⟨Ext.refl _, mayI hG⟩
  ·refine stepM 13 true 29 (G := ((decide (((turnQ z.1.branches y).1 : Nat) = (0))) && (zeroB y.new)) && (!(zeroB y.old))) rfl rfl (fun x _ (h : x = .bool (((decide (((turnQ z.1.branches y).1 : Nat) = (0))) && (zeroB y.new)) && (!(zeroB y.old)))) => gT h) (fun hu_ _ => mayU hu_) fun hG σ w1 hC h => ?_
   have e33 := eqo (h 33 (by decide))
   have e35 := eqo (h 35 (by decide))
   exact Yk.eqSt (l := z.1.head) (m := y.name) (.inl rfl) (mayT e33 hG) (mayT e35 hG) (decide ((z.1.head : List UInt8) = (y.name : List UInt8))) rfl ⟨Ext.refl _, mayI hG⟩
  ·refine stepN rfl fun σ w1 hC h => ?_
   have e29 := eqo (h 29 (by decide))
   have e36 := eqo (h 36 (by decide))
   exact Yk.pickAnd e29 (fun hA => (mayT e36 hA)) (vr (.bool (false)) rfl) ⟨Ext.refl _, rfl⟩
 intro ρ31 w32 hx33 he hf
 obtain ⟨-, -, -, -, -, -, -, -, -, -, -, -, -, -, -, -, -, -, -, -, -, k37, -⟩ := hf
 obtain ⟨T0, T1, T3, T4, T5, T6, -⟩ := he.hold [(0, _), (1, _), (3, _), (4, _), (5, _), (6, _)] ⟨T0, T1, T3, T4, T5, T6, trivial⟩ rfl
 clear he
 have hblk := eb hx33 hblk
 have hbr := hbr.keep hx33
 have htg := htg.keep hx33
 have hlg := hlg.keep hx33
 have hgr : w.grownBy w32 (some g) := grownBy_trans hgr hx33.grown (fun _ e => by cases e)
 have hE := hE.trans hx33
 have hE0 := hE0.trans hx33
 have hA8 := hA8.trans hx33
 have hb17 := eb hx33 hb17
 have ho28 := ho28.keep hx33
 have T37 : ρ31 37 = .bool ((((decide (((turnQ z.1.branches y).1 : Nat) = (0))) && (zeroB y.new)) && (!(zeroB y.old))) && (decide ((z.1.head : List UInt8) = (y.name : List UInt8)))) := k37
 clear k37
 refine tN (hK30 _ _ ?_)
 refine wpF_condB ((((decide (((turnQ z.1.branches y).1 : Nat) = (0))) && (zeroB y.new)) && (!(zeroB y.old))) && (decide ((z.1.head : List UInt8) = (y.name : List UInt8)))) T37 (fun hc0 => ?_) (fun hc0 => ?_)
 ·have h0c : hdlost z.1 y = true := hc0
  refine sk fun K34 hK34 => (wt (oA rfl (oZ (tN (hK34 _ _ (wpF_ret (thenF_ret (postF_ret (fn := Tryd.f122) _ rfl [NI 16] (NI 16) rfl ⟨rfl, trivial⟩ ?_))))))))
  exact ⟨z, ⟨by unfold branchP; rw [if_pos h0c], by unfold branchP; rw [if_pos h0c]⟩, ⟨hE0, hg0, hblk, hbr, htg, hlg, hab, hat, hal, hlb, hlt⟩, rfl, hgr⟩
 have h0c : hdlost z.1 y = false := hc0
 refine wpF_skip (tN (hK29 _ _ (sk fun K35 hK35 => (sk fun K36 hK36 => (wt (oM rfl (oS rfl (Yk.eqI (a := ((turnQ z.1.branches y).1 : Nat)) (b := (0 : Nat)) T6 rfl (k_eql _ _ _ _) (oZ (tN (hK36 _ _ ?_)))))))))))
 refine wpF_cond (((turnQ z.1.branches y).1 : Nat) = (0)) (vr (.bool (decide (((turnQ z.1.branches y).1 : Nat) = (0)))) rfl) (fun hc1 => ?_) (fun hc1 => ?_)
 ·have h1c := hc1
  refine wt (oM rfl (oM rfl (oS rfl (Yk.nilCheck T0 (oS rfl (Yk.fieldAt wr34_fo53_0 (vr (PQ g 0) rfl) (oS rfl (Yk.storeC (i := 0) (v := v23) (vr (PQ g 0) rfl) T5 hblk (by rw [refs_len]; decide) wr34_isz51 (RG.one (RG.ofOwn ho28)).1 (RG.one (RG.ofOwn ho28)).2 fun w37 hb38 hg39 hs40 => ?_))))))))
  have hbr := OG.kept hbr hg39 hab
  have htg := OG.kept htg hg39 hat
  have hlg := OG.kept hlg hg39 hal
  have hgr : w.grownBy w37 (some g) := grownBy_trans hgr hg39 (fun _ e => .inl e)
  clear hE
  have hE0 := row_fresh hE0 hg39 (Nat.le_trans (Nat.le_refl _) (by omega))
  clear hA8
  have hb17 := kb hg39 hb17 (by omega)
  have ho28 := OG.kept ho28 hg39 hap25
  clear hblk
  have hblk : w37.heap[g]? = some (.cells (refsC ((⟨(turnQ z.1.branches y).2, z.1.tags, z.1.head, z.1.at_, z.1.log⟩, ⟨v23, z.2.tags, z.2.log⟩) : RefsV)).toArray 53 (0, 0)) := blk_eq hb38 (refs_s0 z v23 ((turnQ z.1.branches y).2)); clear hb38
  have hl41 := bl hblk
  refine oZ (tN (hK35 _ _ (sk fun K42 hK42 => (wt (oM rfl (oA rfl (oZ (tN (hK42 _ _ (wpF_ret (postF_ret (fn := Tryd.f122) _ rfl [NI ((turnQ z.1.branches y).1)] (NI ((turnQ z.1.branches y).1)) rfl ⟨T6, trivial⟩ ?_)))))))))))
  exact ⟨((⟨(turnQ z.1.branches y).2, z.1.tags, z.1.head, z.1.at_, z.1.log⟩, ⟨v23, z.2.tags, z.2.log⟩) : RefsV), ⟨by unfold branchP; rw [if_neg (by rw [h0c]; decide), if_pos h1c, h1c], by unfold branchP; rw [if_neg (by rw [h0c]; decide), if_pos h1c]⟩, ⟨hE0, hg0, hblk, ho28, htg, hlg, hap25, hat, hal, hap27, hlt⟩, rfl, hgr⟩
 have h1c := hc1
 refine wpF_skip (tN (hK35 _ _ (sk fun K43 hK43 => (wt (oM rfl (oA rfl (oZ (tN (hK43 _ _ (wpF_ret (postF_ret (fn := Tryd.f122) _ rfl [NI ((turnQ z.1.branches y).1)] (NI ((turnQ z.1.branches y).1)) rfl ⟨T6, trivial⟩ ?_)))))))))))
 exact ⟨z, ⟨by unfold branchP; rw [if_neg (by rw [h0c]; decide), if_neg h1c], by unfold branchP; rw [if_neg (by rw [h0c]; decide), if_neg h1c]⟩, ⟨hE0, hg0, hblk, hbr, htg, hlg, hab, hat, hal, hlb, hlt⟩, rfl, hgr⟩

theorem tag_any (w0 w : World) (g : Nat) (z : RefsV) (hA : AppAt w0 w g z) (hS : Sorted z.1) (y : Upd) :
  Calls Tryd.prog 123 #[PQ g 0, .agg (updC y).toArray] w fun e w' => ∃ z', (e = .returned (NI (tagP z.1 y).1) ∧ z'.1 = (tagP z.1 y).2) ∧ AppAt w0 w' g z' ∧ z'.2.log = z.2.log ∧ w.grownBy w' (some g) := by
 have hgr := World.grownBy.refl w (some g)
 have hE0 := hA.ext
 have hg0 := hA.g0
 have hblk := hA.blk
 have hbr := hA.br
 have htg := hA.tg
 have hlg := hA.lg
 have hab := hA.ab
 have hat := hA.at_
 have hal := hA.al
 have hlb := hA.lb
 have hlt := hA.lt
 have hlg0 := hA.lg
 have hgl := (bl hblk)
 refine calls_of_wpF (args := [PQ g 0, .agg (updC y).toArray]) Tryd.func123 rfl 23 rfl (Nat.le_of_ble_eq_true rfl) ?_
 intro ρ0 hb
 have T0 : ρ0 0 = (PQ g 0 : Value) := hb.get 0
 have T1 : ρ0 1 = (.agg (updC y).toArray : Value) := hb.get 1
 clear hb
 have hE := Ext.refl w
 refine sk fun K1 hK1 => (wt (oS rfl (Yk.box (cs := (updC y : List Value).toArray) T1 fun n2 w3 hn4 hb5 hx6 hs7 => ?_)))
 have hA8 := Ext.refl w
 have hea9 := hE
 have hea10 := hE0
 have hz11 := hE.size
 have hz12 := hE0.size
 have hlt13 := lte (bl hblk) hn4
 have hap14 : OB z.2.branches n2 := own_newer hbr.2 (by omega)
 have hap15 : OB z.2.tags n2 := own_newer htg.2 (by omega)
 have hap16 : OB z.2.log n2 := own_newer hlg.2 (by omega)
 have hblk := eb hx6 hblk
 have hbr := hbr.keep hx6
 have htg := htg.keep hx6
 have hlg := hlg.keep hx6
 have hgr : w.grownBy w3 (some g) := grownBy_trans hgr hx6.grown (fun _ e => by cases e)
 have hE := hE.trans hx6
 have hE0 := hE0.trans hx6
 have hA8 := hA8.trans hx6
 have hb17 := hb5; clear hb5
 have hl18 : n2 < w3.heap.size := by omega
 refine oA rfl (oZ (tN (hK1 _ _ (sk fun K19 hK19 => ?_))))
 refine wpF_draw [Is (PQ g 0), Is (PQ g 0), Is (PQ g 1), Is (z.2.tags), Is (.agg (updC y).toArray), fun x w' => ∃ v, x = .tuple #[v, NI (turnQ z.1.tags y).1] ∧ NewOG 70 w0 w3 w' v ((turnQ z.1.tags y).2), fun x w' => ∃ v, x = .tuple #[v, NI (turnQ z.1.tags y).1] ∧ NewOG 70 w0 w3 w' v ((turnQ z.1.tags y).2), fun x w' => NewOG 70 w0 w3 w' x ((turnQ z.1.tags y).2), Is (NI ((turnQ z.1.tags y).1)), fun x w' => NewOG 70 w0 w3 w' x ((turnQ z.1.tags y).2), Is (NI ((turnQ z.1.tags y).1))] (by kernel_rfl) [8, 9, 10, 11, 12, 13, 7, 14, 15, 5, 6] (by kernel_rfl) (by kernel_rfl) (si5 ⟨(fun _ _ _ ⟨v, h1, h2⟩ k => ⟨v, h1, h2.keep k⟩), (fun _ _ _ ⟨v, h1, h2⟩ k => ⟨v, h1, h2.keep k⟩), (fun _ _ _ h k => NewOG.keep h k), Stab.is _, (fun _ _ _ h k => NewOG.keep h k), Stab.is _, trivial⟩) ?hs1001 ?hQ1001
 case hs1001 =>
  refine ⟨?_, ?_, ?_, ?_, ?_, ?_, ?_, ?_, ?_, ?_, ?_, trivial⟩
  ·refine stepN rfl fun σ w1 hC h => ?_
   have e0 := (eqo (h 0 (by decide))).trans T0
   exact Yk.move e0 ⟨Ext.refl _, rfl⟩
  ·refine stepN rfl fun σ w1 hC h => ?_
   have e8 := eqo (h 8 (by decide))
   exact Yk.nilCheck e8 ⟨Ext.refl _, rfl⟩
  ·refine stepN rfl fun σ w1 hC h => ?_
   have e9 := eqo (h 9 (by decide))
   exact Yk.fieldAt wr34_fo53_1 e9 ⟨Ext.refl _, rfl⟩
  ·refine stepN rfl fun σ w1 hC h => ?_
   have e10 := eqo (h 10 (by decide))
   exact Yk.cell1 wr34_ty51 rfl e10 (cellAt (eb hC hblk) (show (refsC z)[1]? = some (z.2.tags : Value) from refs_g1 z)) ⟨Ext.refl _, rfl⟩
  ·refine stepN rfl fun σ w1 hC h => ?_
   have e3 : σ 3 = PQ n2 0 := (eqo (h 3 (by decide))).trans rfl
   exact Yk.loadAll e3 (eb hC hb17) (wr34_ty67).choose_spec rfl (st_isz (upd_len y) wr34_isz67) ⟨Ext.refl _, rfl⟩
  ·refine stepN rfl fun σ w1 hC h => ?_
   have e11 := eqo (h 11 (by decide))
   have e12 := eqo (h 12 (by decide))
   refine Yk.callA2 wr34_pl149 e11 e12 ((turned_any _ z.2.tags z.1.tags (RG.ofOwn (htg.keep hC)) (by have := hS.tl; omega) hS.tg y).mono ?_)
   rintro e w2 ⟨v, rfl, ho, hx⟩
   exact ⟨_, rfl, hx, v, rfl, NewOG.of ho hE0.size hC.size⟩
  ·refine stepN rfl fun σ w1 hC h => ?_
   have e13 : (fun x w' => ∃ v, x = .tuple #[v, NI (turnQ z.1.tags y).1] ∧ NewOG 70 w0 w3 w' v ((turnQ z.1.tags y).2)) (σ 13) w1 := h 13 (by decide)
   exact Yk.move rfl ⟨Ext.refl _, e13⟩
  ·refine stepN rfl fun σ w1 hC h => ?_
   have e7 : (fun x w' => ∃ v, x = .tuple #[v, NI (turnQ z.1.tags y).1] ∧ NewOG 70 w0 w3 w' v ((turnQ z.1.tags y).2)) (σ 7) w1 := h 7 (by decide)
   obtain ⟨v0, h1_, h2_⟩ := e7
   exact Yk.extract (vs := [v0, _]) h1_ (show _ = some v0 from rfl) ⟨Ext.refl _, h2_⟩
  ·refine stepN rfl fun σ w1 hC h => ?_
   have e7 : (fun x w' => ∃ v, x = .tuple #[v, NI (turnQ z.1.tags y).1] ∧ NewOG 70 w0 w3 w' v ((turnQ z.1.tags y).2)) (σ 7) w1 := h 7 (by decide)
   obtain ⟨v0, h1_, h2_⟩ := e7
   exact Yk.extract (vs := [v0, NI (turnQ z.1.tags y).1]) h1_ (show _ = some (NI (turnQ z.1.tags y).1 : Value) from rfl) ⟨Ext.refl _, rfl⟩
  ·refine stepN rfl fun σ w1 hC h => ?_
   have e14 : (fun x w' => NewOG 70 w0 w3 w' x ((turnQ z.1.tags y).2)) (σ 14) w1 := h 14 (by decide)
   exact Yk.assign rfl ⟨Ext.refl _, e14⟩
  ·refine stepN rfl fun σ w1 hC h => ?_
   have e15 := eqo (h 15 (by decide))
   exact Yk.assign e15 ⟨Ext.refl _, rfl⟩
 intro ρ20 w21 hx22 he hf
 obtain ⟨-, -, -, -, -, -, -, -, -, k5, k6, -⟩ := hf
 obtain ⟨T0, T1, T3, T4, -⟩ := he.hold [(0, _), (1, _), (3, PQ n2 0), (4, NI 0)] ⟨T0, T1, rfl, rfl, trivial⟩ rfl
 clear he
 have hblk := eb hx22 hblk
 have hbr := hbr.keep hx22
 have htg := htg.keep hx22
 have hlg := hlg.keep hx22
 have hgr : w.grownBy w21 (some g) := grownBy_trans hgr hx22.grown (fun _ e => by cases e)
 have hE := hE.trans hx22
 have hE0 := hE0.trans hx22
 have hA8 := hA8.trans hx22
 have hb17 := eb hx22 hb17
 have k5 : (fun x w' => NewOG 70 w0 w3 w' x ((turnQ z.1.tags y).2)) (ρ20 5) w21 := k5
 obtain ⟨v23, T5⟩ : ∃ v, ρ20 5 = v := ⟨_, rfl⟩
 rw [T5] at k5
 have hk24 := k5; clear k5
 have hap25 : OB v23 g := NewOG.apart hk24 (by omega)
 have hap26 : OB v23 n2 := NewOG.apart hk24 (by omega)
 have hap27 : ApartV z.2.log v23 := NewOG.apartv hk24 hlg0 (by omega)
 have ho28 := hk24.1; clear hk24
 have T6 : ρ20 6 = NI ((turnQ z.1.tags y).1) := k6
 clear k6
 refine tN (hK19 _ _ (sk fun K29 hK29 => (sk fun K30 hK30 => (wt (oM rfl (oS rfl (Yk.eqI (a := ((turnQ z.1.tags y).1 : Nat)) (b := (0 : Nat)) T6 rfl (k_eql _ _ _ _) (oZ (tN (hK30 _ _ ?_))))))))))
 refine wpF_cond (((turnQ z.1.tags y).1 : Nat) = (0)) (vr (.bool (decide (((turnQ z.1.tags y).1 : Nat) = (0)))) rfl) (fun hc0 => ?_) (fun hc0 => ?_)
 ·have h1c := hc0
  refine wt (oM rfl (oM rfl (oS rfl (Yk.nilCheck T0 (oS rfl (Yk.fieldAt wr34_fo53_1 (vr (PQ g 0) rfl) (oS rfl (Yk.storeC (i := 1) (v := v23) (vr (PQ g 1) rfl) T5 hblk (by rw [refs_len]; decide) wr34_isz51 (RG.one (RG.ofOwn ho28)).1 (RG.one (RG.ofOwn ho28)).2 fun w31 hb32 hg33 hs34 => ?_))))))))
  have hbr := OG.kept hbr hg33 hab
  have htg := OG.kept htg hg33 hat
  have hlg := OG.kept hlg hg33 hal
  have hgr : w.grownBy w31 (some g) := grownBy_trans hgr hg33 (fun _ e => .inl e)
  clear hE
  have hE0 := row_fresh hE0 hg33 (Nat.le_trans (Nat.le_refl _) (by omega))
  clear hA8
  have hb17 := kb hg33 hb17 (by omega)
  have ho28 := OG.kept ho28 hg33 hap25
  clear hblk
  have hblk : w31.heap[g]? = some (.cells (refsC ((⟨z.1.branches, (turnQ z.1.tags y).2, z.1.head, z.1.at_, z.1.log⟩, ⟨z.2.branches, v23, z.2.log⟩) : RefsV)).toArray 53 (0, 0)) := blk_eq hb32 (refs_s1 z v23 ((turnQ z.1.tags y).2)); clear hb32
  have hl35 := bl hblk
  refine oZ (tN (hK29 _ _ (sk fun K36 hK36 => (wt (oM rfl (oA rfl (oZ (tN (hK36 _ _ (wpF_ret (postF_ret (fn := Tryd.f123) _ rfl [NI ((turnQ z.1.tags y).1)] (NI ((turnQ z.1.tags y).1)) rfl ⟨T6, trivial⟩ ?_)))))))))))
  exact ⟨((⟨z.1.branches, (turnQ z.1.tags y).2, z.1.head, z.1.at_, z.1.log⟩, ⟨z.2.branches, v23, z.2.log⟩) : RefsV), ⟨by unfold tagP; rw [if_pos h1c, h1c], by unfold tagP; rw [if_pos h1c]⟩, ⟨hE0, hg0, hblk, hbr, ho28, hlg, hab, hap25, hal, hlb, hap27⟩, rfl, hgr⟩
 have h1c := hc0
 refine wpF_skip (tN (hK29 _ _ (sk fun K37 hK37 => (wt (oM rfl (oA rfl (oZ (tN (hK37 _ _ (wpF_ret (postF_ret (fn := Tryd.f123) _ rfl [NI ((turnQ z.1.tags y).1)] (NI ((turnQ z.1.tags y).1)) rfl ⟨T6, trivial⟩ ?_)))))))))))
 exact ⟨z, ⟨by unfold tagP; rw [if_neg h1c], by unfold tagP; rw [if_neg h1c]⟩, ⟨hE0, hg0, hblk, hbr, htg, hlg, hab, hat, hal, hlb, hlt⟩, rfl, hgr⟩

theorem head_any (w0 w : World) (g : Nat) (z : RefsV) (hA : AppAt w0 w g z) (hS : Sorted z.1) (y : Upd) :
  Calls Tryd.prog 124 #[PQ g 0, .agg (updC y).toArray] w fun e w' => ∃ z', (e = .returned (NI (headP z.1 y).1) ∧ z'.1 = (headP z.1 y).2) ∧ AppAt w0 w' g z' ∧ z'.2.log = z.2.log ∧ w.grownBy w' (some g) := by
 have hgr := World.grownBy.refl w (some g)
 have hE0 := hA.ext
 have hg0 := hA.g0
 have hblk := hA.blk
 have hbr := hA.br
 have htg := hA.tg
 have hlg := hA.lg
 have hab := hA.ab
 have hat := hA.at_
 have hal := hA.al
 have hlb := hA.lb
 have hlt := hA.lt
 have hlg0 := hA.lg
 have hgl := (bl hblk)
 refine calls_of_wpF (args := [PQ g 0, .agg (updC y).toArray]) Tryd.func124 rfl 15 rfl (Nat.le_of_ble_eq_true rfl) ?_
 intro ρ0 hb
 have T0 : ρ0 0 = (PQ g 0 : Value) := hb.get 0
 have T1 : ρ0 1 = (.agg (updC y).toArray : Value) := hb.get 1
 clear hb
 have hE := Ext.refl w
 refine sk fun K1 hK1 => (wt (oS rfl (Yk.box (cs := (updC y : List Value).toArray) T1 fun n2 w3 hn4 hb5 hx6 hs7 => ?_)))
 have hA8 := Ext.refl w
 have hea9 := hE
 have hea10 := hE0
 have hz11 := hE.size
 have hz12 := hE0.size
 have hlt13 := lte (bl hblk) hn4
 have hap14 : OB z.2.branches n2 := own_newer hbr.2 (by omega)
 have hap15 : OB z.2.tags n2 := own_newer htg.2 (by omega)
 have hap16 : OB z.2.log n2 := own_newer hlg.2 (by omega)
 have hblk := eb hx6 hblk
 have hbr := hbr.keep hx6
 have htg := htg.keep hx6
 have hlg := hlg.keep hx6
 have hgr : w.grownBy w3 (some g) := grownBy_trans hgr hx6.grown (fun _ e => by cases e)
 have hE := hE.trans hx6
 have hE0 := hE0.trans hx6
 have hA8 := hA8.trans hx6
 have hb17 := hb5; clear hb5
 have hl18 : n2 < w3.heap.size := by omega
 refine oA rfl (oZ (tN (hK1 _ _ (sk fun K19 hK19 => ?_))))
 have hx20 : Ext w3 (World.drew w3) := (Below.refl _ _).drew
 have hblk := eb hx20 hblk
 have hbr := hbr.keep hx20
 have htg := htg.keep hx20
 have hlg := hlg.keep hx20
 have hgr : w.grownBy (World.drew w3) (some g) := grownBy_trans hgr hx20.grown (fun _ e => by cases e)
 have hE := hE.trans hx20
 have hE0 := hE0.trans hx20
 have hA8 := hA8.trans hx20
 have hb17 := eb hx20 hb17
 refine wpF_float [(0, 5, PQ g 0), (1, 6, PQ g 0), (2, 7, PQ n2 1), (3, 8, St (y.name)), (4, 9, PQ n2 34), (5, 10, AB y.new.1)] [6, 7, 8, 9, 10, 11] (fun wz => Ext w0 wz ∧ wz.heap[n2]? = some (.cells (updC y).toArray 67 (0, 0)) ∧ True) (by kernel_rfl) (by kernel_rfl) (by kernel_rfl) ⟨hE0, hb17, trivial⟩ ⟨fun w21 ⟨hE0, hb17, _⟩ => Yk.move T0 ⟨rfl, rfl⟩, fun w21 ⟨hE0, hb17, _⟩ => Yk.move T0 ⟨rfl, rfl⟩, fun w21 ⟨hE0, hb17, _⟩ => Yk.fieldAt wr34_fo67_1 (vr (PQ n2 0) rfl) ⟨rfl, rfl⟩, fun w21 ⟨hE0, hb17, _⟩ => Yk.cell1 wr34_ty9 rfl (vr (PQ n2 1) rfl) (cellAt hb17 (show (updC y)[1]? = some (St (y.name) : Value) from upd_g1 y)) ⟨rfl, rfl⟩, fun w21 ⟨hE0, hb17, _⟩ => Yk.fieldAt wr34_fo67_3 (vr (PQ n2 0) rfl) ⟨rfl, rfl⟩, fun w21 ⟨hE0, hb17, _⟩ => Yk.loadPR (PR.blk hb17 (upd_m3 y) (upd_n3 y) (vr (PQ n2 34) rfl)) wr34_ty25 rfl (sizeId_of y.new.2) ⟨rfl, rfl⟩, trivial⟩ (chF_step rfl (Yk.nilCheck (vr (PQ g 0) rfl) ?_))
 refine ⟨.inr ⟨hE0, hb17, trivial⟩, ?_⟩
 refine chF_step rfl (Yk.fieldAt wr34_fo53_2 (vr (PQ g 0) rfl) ?_)
 refine ⟨.inr ⟨hE0, hb17, trivial⟩, ?_⟩
 refine chF_step rfl (Yk.storeC (i := 2) (v := St (y.name)) (vr (PQ g 2) rfl) (vr (St (y.name)) rfl) hblk (by rw [refs_len]; decide) wr34_isz9 rfl rfl fun w22 hb23 hg24 hs25 => ?_)
 have hbr := OG.kept hbr hg24 hab
 have htg := OG.kept htg hg24 hat
 have hlg := OG.kept hlg hg24 hal
 have hgr : w.grownBy w22 (some g) := grownBy_trans hgr hg24 (fun _ e => .inl e)
 clear hE
 have hE0 := row_fresh hE0 hg24 (Nat.le_trans (Nat.le_refl _) (by omega))
 clear hA8
 have hb17 := kb hg24 hb17 (by omega)
 clear hblk
 have hblk : w22.heap[g]? = some (.cells (refsC ((⟨z.1.branches, z.1.tags, y.name, z.1.at_, z.1.log⟩, ⟨z.2.branches, z.2.tags, z.2.log⟩) : RefsV)).toArray 53 (0, 0)) := blk_eq hb23 (refs_s2 z y.name); clear hb23
 have hl26 := bl hblk
 refine ⟨.inr ⟨hE0, hb17, trivial⟩, ?_⟩
 refine chF_step rfl (Yk.nilCheck (vr (PQ g 0) rfl) ?_)
 refine ⟨.inr ⟨hE0, hb17, trivial⟩, ?_⟩
 refine chF_step rfl (Yk.fieldAt wr34_fo53_3 (vr (PQ g 0) rfl) ?_)
 refine ⟨.inr ⟨hE0, hb17, trivial⟩, ?_⟩
 refine chF_step rfl (Yk.storeMid (a := refs_a3 ((⟨z.1.branches, z.1.tags, y.name, z.1.at_, z.1.log⟩, ⟨z.2.branches, z.2.tags, z.2.log⟩) : RefsV)) (m := Lib.byteCells z.1.at_.1) (z := refs_z3 ((⟨z.1.branches, z.1.tags, y.name, z.1.at_, z.1.log⟩, ⟨z.2.branches, z.2.tags, z.2.log⟩) : RefsV)) (cells := Lib.byteCells y.new.1) (vr (PQ g 3) rfl) (vr (AB y.new.1) rfl) (refs_m3 ((⟨z.1.branches, z.1.tags, y.name, z.1.at_, z.1.log⟩, ⟨z.2.branches, z.2.tags, z.2.log⟩) : RefsV) ▸ hblk) (refs_n3 ((⟨z.1.branches, z.1.tags, y.name, z.1.at_, z.1.log⟩, ⟨z.2.branches, z.2.tags, z.2.log⟩) : RefsV)) (by rw [Lib.byteCells_length, Lib.byteCells_length, z.1.at_.2, y.new.2]) (by rw [Lib.byteCells_length, y.new.2]; exact wr34_isz25) (byteCells_one _) fun w27 hb28 hg29 hs30 => ?_)
 have hbr := OG.kept hbr hg29 hab
 have htg := OG.kept htg hg29 hat
 have hlg := OG.kept hlg hg29 hal
 have hgr : w.grownBy w27 (some g) := grownBy_trans hgr hg29 (fun _ e => .inl e)
 have hE0 := row_fresh hE0 hg29 (Nat.le_trans (Nat.le_refl _) (by omega))
 have hb17 := kb hg29 hb17 (by omega)
 clear hblk
 have hblk : w27.heap[g]? = some (.cells (refsC ((⟨z.1.branches, z.1.tags, y.name, y.new, z.1.log⟩, ⟨z.2.branches, z.2.tags, z.2.log⟩) : RefsV)).toArray 53 (0, 0)) := blk_eq hb28 (refs_s3 ((⟨z.1.branches, z.1.tags, y.name, z.1.at_, z.1.log⟩, ⟨z.2.branches, z.2.tags, z.2.log⟩) : RefsV) y.new); clear hb28
 have hl31 := bl hblk
 refine ⟨.inl rfl, ?_⟩
 refine chF_nil (tN (hK19 _ _ (sk fun K32 hK32 => (wt (oA rfl (oZ (tN (hK32 _ _ (wpF_ret (postF_ret (fn := Tryd.f124) _ rfl [NI 0] (NI 0) rfl ⟨rfl, trivial⟩ ?_))))))))))
 exact ⟨((⟨z.1.branches, z.1.tags, y.name, y.new, z.1.log⟩, ⟨z.2.branches, z.2.tags, z.2.log⟩) : RefsV), ⟨rfl, rfl⟩, ⟨hE0, hg0, hblk, hbr, htg, hlg, hab, hat, hal, hlb, hlt⟩, rfl, hgr⟩

theorem fkinds_any (w : World) :
  Calls Tryd.prog 76 #[] w fun e w' => ∃ b, e = .returned (.map (some b)) ∧ MapF B8 fnV (fun _ : UInt8 => True) w' b doG ∧ w.heap.size ≤ b ∧ Ext w w' := by
 refine calls_of_wpF (args := []) Tryd.func76 rfl 3 rfl (Nat.le_of_ble_eq_true rfl) ?_
 intro ρ0 hb
 clear hb
 have hE := Ext.refl w
 refine sk fun K1 hK1 => (wt (oA rfl (oZ (tN (hK1 _ _ (sk fun K2 hK2 => (wt (oS rfl (Yk.mkMap B8 fnV (fun _ : UInt8 => True) fun n3 w4 hn5 hb6 hx7 hs8 => ?_)))))))))
 have hE := hE.trans hx7
 have hl9 : n3 < w4.heap.size := by omega
 refine oS rfl (Yk.insM (ek := B8) (ev := fnV) (D := (fun _ : UInt8 => True)) (c := 122) u8Law u8_ok wr34_ty125 (vr (.map (some n3)) rfl) (vr (B8 (1)) rfl) rfl hb6 trivial fun w10 hb11 hg12 hs13 => ?_)
 have hE := row_fresh hE hg12 (Nat.le_trans (Nat.le_refl _) (by omega))
 clear hb6
 have hl14 : n3 < w10.heap.size := hb11.lt
 refine oS rfl (Yk.insM (ek := B8) (ev := fnV) (D := (fun _ : UInt8 => True)) (c := 123) u8Law u8_ok wr34_ty125 (vr (.map (some n3)) rfl) (vr (B8 (2)) rfl) rfl hb11 trivial fun w15 hb16 hg17 hs18 => ?_)
 have hE := row_fresh hE hg17 (Nat.le_trans (Nat.le_refl _) (by omega))
 clear hb11
 have hl19 : n3 < w15.heap.size := hb16.lt
 refine oS rfl (Yk.insM (ek := B8) (ev := fnV) (D := (fun _ : UInt8 => True)) (c := 124) u8Law u8_ok wr34_ty125 (vr (.map (some n3)) rfl) (vr (B8 (3)) rfl) rfl hb16 trivial fun w20 hb21 hg22 hs23 => ?_)
 have hE := row_fresh hE hg22 (Nat.le_trans (Nat.le_refl _) (by omega))
 clear hb16
 have hl24 : n3 < w20.heap.size := hb21.lt
 refine oM rfl (oA rfl (oZ (tN (hK2 _ _ (wpF_ret (postF_ret (fn := Tryd.f76) _ rfl [.map (some n3)] (.map (some n3)) rfl ⟨rfl, trivial⟩ ?_))))))
 exact ⟨_, rfl, hb21, by omega, hE⟩
open Go.RowKit
theorem doG_cases {k : UInt8} {f : Nat} (h : doG k = some f) : (k.toNat = 1 ∧ f = 122) ∨ (k.toNat = 2 ∧ f = 123) ∨ (k.toNat = 3 ∧ f = 124) := by
  unfold doG updM at h
  split at h
  · rename_i e; subst e; exact .inr (.inr ⟨rfl, (Option.some.inj h).symm⟩)
  · split at h
    · rename_i e; subst e; exact .inr (.inl ⟨rfl, (Option.some.inj h).symm⟩)
    · split at h
      · rename_i e; subst e; exact .inl ⟨rfl, (Option.some.inj h).symm⟩
      · cases h
theorem doG_some {k : UInt8} (h : kindB k = true) : ∃ f, doG k = some f := by
  unfold kindB at h
  simp only [Bool.or_eq_true, decide_eq_true_eq] at h
  rcases h with (h | h) | h
  · obtain rfl : k = 1 := UInt8.toNat_inj.1 h
    exact ⟨_, rfl⟩
  · obtain rfl : k = 2 := UInt8.toNat_inj.1 h
    exact ⟨_, rfl⟩
  · obtain rfl : k = 3 := UInt8.toNat_inj.1 h
    exact ⟨_, rfl⟩
theorem plB : Plain Tryd.prog 122 := fun _ _ => by kernel_rfl
theorem plT : Plain Tryd.prog 123 := fun _ _ => by kernel_rfl
theorem plH : Plain Tryd.prog 124 := fun _ _ => by kernel_rfl
theorem plain_do {k : UInt8} {f : Nat} (h : doG k = some f) : Plain Tryd.prog f := by
  rcases doG_cases h with ⟨-, e⟩ | ⟨-, e⟩ | ⟨-, e⟩ <;> rw [e]
  · exact plB
  · exact plT
  · exact plH
theorem do_any (w0 w : World) (g : Nat) (z : RefsV) (hA : AppAt w0 w g z) (hS : Sorted z.1) (y : Upd) {f : Nat} (hf : doG y.kind = some f) :
    Calls Tryd.prog f #[PQ g 0, .agg (updC y).toArray] w fun e w' => ∃ z', (e = .returned (NI (doP z.1 y).1) ∧ z'.1 = (doP z.1 y).2) ∧ AppAt w0 w' g z' ∧ z'.2.log = z.2.log ∧ w.grownBy w' (some g) := by
  rcases doG_cases hf with ⟨hk, rfl⟩ | ⟨hk, rfl⟩ | ⟨hk, rfl⟩
  · rw [show doP z.1 y = branchP z.1 y by unfold doP; rw [if_pos hk]]; exact branch_any w0 w g z hA hS y
  · rw [show doP z.1 y = tagP z.1 y by unfold doP; rw [if_neg (by omega), if_pos hk]]; exact tag_any w0 w g z hA hS y
  · rw [show doP z.1 y = headP z.1 y by unfold doP; rw [if_neg (by omega), if_neg (by omega)]]; exact head_any w0 w g z hA hS y
section
variable {α β : Type} {b b' k k' g : Nat} {t t' : TypeId} {enc : α → List Value} {enc' : β → List Value} {w : World} {u v : Value} {l : List α} {m : List β}
theorem OG.off (h : OG b t k enc w v l) {cs : Array Value} {fr : Nat × Nat} (hb : w.heap[g]? = some (.cells cs t' fr)) (hne : t ≠ t') : v.ownBlock ≠ some g := by
  obtain ⟨-, -, ⟨rfl, -⟩ | ⟨g', c, cur, rfl, -, hg, -⟩⟩ := h
  · simp [Value.ownBlock]
  · intro e
    obtain rfl : g' = g := by simpa [Value.ownBlock] using e
    rw [hg] at hb
    simp only [Option.some.injEq, Obj.cells.injEq] at hb
    exact hne hb.2.1
theorem OG.offMap {γ δ : Type} {ek : γ → Value} {ev : δ → Value} {D : γ → Prop} {G : γ → Option δ} (h : OG b t k enc w v l) (hb : MapF ek ev D w g G) : v.ownBlock ≠ some g := by
  obtain ⟨es, c, hm, -⟩ := hb
  obtain ⟨-, -, ⟨rfl, -⟩ | ⟨g', c, cur, rfl, -, hg, -⟩⟩ := h
  · simp [Value.ownBlock]
  · intro e
    obtain rfl : g' = g := by simpa [Value.ownBlock] using e
    rw [hg] at hm
    cases hm
theorem OG.apart (hu : OG b t k enc w u l) (hv : OG b' t' k' enc' w v m) (hne : t ≠ t') : ApartV u v := fun g h1 h2 => by
  obtain ⟨-, -, ⟨rfl, -⟩ | ⟨g', c, cur, rfl, -, hg, -⟩⟩ := hv
  · simp [Value.ownBlock] at h2
  · obtain rfl : g' = g := by simpa [Value.ownBlock] using h2
    exact hu.off hg hne h1
end
structure RefsOw (b : Nat) (w : World) (z : RefsV) : Prop where
  br : OG b 70 33 nmdC w z.2.branches z.1.branches
  tg : OG b 70 33 nmdC w z.2.tags z.1.tags
  lg : OG b 122 67 entC w z.2.log z.1.log
theorem RefsOw.keep {b : Nat} {w w' : World} {z : RefsV} (h : RefsOw b w z) (k : Ext w w') : RefsOw b w' z := ⟨h.br.keep k, h.tg.keep k, h.lg.keep k⟩
theorem RefsOw.zero {b : Nat} {w : World} {z : RefsV} (h : RefsOw b w z) : RefsOw 0 w z := ⟨h.br.low (Nat.zero_le _), h.tg.low (Nat.zero_le _), h.lg.low (Nat.zero_le _)⟩
theorem Yk.maxNI {P : Program} {K : Value → World → Prop} {ρ : Slots} {w : World} {d : Option Tmp} {ty : TypeId} {pos : String} {af : Array Edge} {gd : Option (Nat × Bool)} {t1 t2 : TypeId} {x y : Operand} {n m : Nat} (hx : evalR ρ x = .int .i64 ((n : Int) - (m : Int))) (hy : evalR ρ y = NI 0) (hk : K (NI (n - m)) w) :
    Yk P K ((execOp (evalR ρ) ⟨d, .call ⟨.builtin .max, #[x, y], #[t1, t2]⟩, ty, pos, af, gd⟩).run P w) := by
  refine Yk.value (v := NI (n - m)) (w' := w) ?_ hk
  unfold execOp
  simp only [resolve, invoke, builtin, hx, hy, List.map_toArray, List.map_cons, List.map_nil, Sem.run_bind, Sem.run_pure, Result.andThen_ok]
  have hr : (Builtin.max_ #[t1, t2] ty #[.int .i64 ((n : Int) - (m : Int)), NI 0]).run P w = .ok (NI (n - m)) w := by
    simp only [Builtin.max_, List.foldlM_cons, List.foldlM_nil, Sem.run_bind, Builtin.max2, Sem.run_pure, Result.andThen_ok]
    congr 2
    simp only [Int.natCast_zero]
    split <;> omega
  rw [hr]
  rfl
abbrev zeroR : Refs := ⟨[], [], [], zid, []⟩
def entOf (y : Upd) (note : Bs) : Ent := ⟨y.kind, y.name, y.old, y.new, note⟩
def addlog (r : Refs) (e : Ent) : Refs := ⟨r.branches, r.tags, r.head, r.at_, r.log ++ [e]⟩
def stepP (note : Bs) (r : Refs) (y : Upd) : Nat × Refs := if updErr y ≠ 0 then (updErr y, r) else if (doP r y).1 ≠ 0 then ((doP r y).1, r) else (0, addlog (doP r y).2 (entOf y note))
def runP (note : Bs) : Refs → List Upd → Nat × Refs
  | r, [] => (0, r)
  | r, y :: l => if (stepP note r y).1 ≠ 0 then ((stepP note r y).1, zeroR) else runP note (stepP note r y).2 l
def cutlog (r : Refs) : Refs := ⟨r.branches, r.tags, r.head, r.at_, r.log.drop (r.log.length - 64)⟩
noncomputable def applyP (r : Refs) (l : List Upd) (note : Bs) : Nat × Refs :=
  if ((!rightF r) || (!noteB note)) = true then (1, zeroR) else if (runP note r l).1 ≠ 0 then ((runP note r l).1, zeroR) else (0, cutlog (runP note r l).2)
theorem runP_at {note : Bs} {r : Refs} {l : List Upd} {i : Nat} (hi : i < l.length) : runP note r (l.drop i) = if (stepP note r (l.getD i dUpd)).1 ≠ 0 then ((stepP note r (l.getD i dUpd)).1, zeroR) else runP note (stepP note r (l.getD i dUpd)).2 (l.drop (i + 1)) := by
  rw [List.drop_eq_getElem_cons hi, List.getD_eq_getElem?_getD, List.getElem?_eq_getElem hi]
  rfl
section
variable {note : Bs} {r r' : Refs} {l : List Upd} {i e : Nat}
theorem runP_err1 (hi : i < l.length) (h : updErr (l.getD i dUpd) ≠ 0) : runP note r (l.drop i) = (updErr (l.getD i dUpd), zeroR) := by
  rw [runP_at hi, show stepP note r (l.getD i dUpd) = (updErr (l.getD i dUpd), r) by unfold stepP; rw [if_pos h], if_pos h]
theorem runP_err2 (hi : i < l.length) (h : updErr (l.getD i dUpd) = 0) (h2 : (doP r (l.getD i dUpd)).1 ≠ 0) : runP note r (l.drop i) = ((doP r (l.getD i dUpd)).1, zeroR) := by
  rw [runP_at hi, show stepP note r (l.getD i dUpd) = ((doP r (l.getD i dUpd)).1, r) by unfold stepP; rw [if_neg (fun k => k h), if_pos h2], if_pos h2]
theorem runP_next (hi : i < l.length) (h : updErr (l.getD i dUpd) = 0) (h2 : (doP r (l.getD i dUpd)).1 = 0) : runP note r (l.drop i) = runP note (addlog (doP r (l.getD i dUpd)).2 (entOf (l.getD i dUpd) note)) (l.drop (i + 1)) := by
  rw [runP_at hi, show stepP note r (l.getD i dUpd) = (0, addlog (doP r (l.getD i dUpd)).2 (entOf (l.getD i dUpd) note)) by unfold stepP; rw [if_neg (fun k => k h), if_neg (fun k => k h2)], if_neg (fun k => k rfl)]
theorem runP_end (hi : l.length ≤ i) : runP note r (l.drop i) = (0, r) := by rw [List.drop_of_length_le hi]; rfl
theorem applyP_bad (h : ((!rightF r) || (!noteB note)) = true) : applyP r l note = (1, zeroR) := by unfold applyP; rw [if_pos h]
theorem applyP_err (h0 : ((!rightF r) || (!noteB note)) = false) (h : runP note r l = (e, zeroR)) (he : e ≠ 0) : applyP r l note = (e, zeroR) := by unfold applyP; rw [h0, if_neg (by decide), h, if_pos he]
theorem applyP_ok (h0 : ((!rightF r) || (!noteB note)) = false) (h : runP note r l = (0, r')) : applyP r l note = (0, cutlog r') := by unfold applyP; rw [h0, if_neg (by decide), h, if_neg (fun k => k rfl)]
theorem updErr_kind {y : Upd} (h : updErr y = 0) : kindB y.kind = true := by
  unfold updErr at h
  cases hk : kindB y.kind with
  | true => rfl
  | false => rw [hk] at h; simp at h
end
theorem sortN_map {l : List Nmd} : sortN l ↔ (l.map (·.name)).Pairwise (· < ·) := by
  rw [List.pairwise_map, List.pairwise_iff_getElem]
  unfold sortN
  constructor
  · intro h i j hi hj hij
    have := h i j hij hj
    rwa [List.getD_eq_getElem?_getD, List.getElem?_eq_getElem hi, List.getD_eq_getElem?_getD, List.getElem?_eq_getElem hj] at this
  · intro h i j hij hj
    have := h i j (by omega) hj hij
    rw [List.getD_eq_getElem?_getD, List.getElem?_eq_getElem (by omega), List.getD_eq_getElem?_getD, List.getElem?_eq_getElem hj]
    exact this
theorem placeN_cons {a : Nmd} {l : List Nmd} {s : Bs} : placeN (a :: l) s = if a.name < s then placeN l s + 1 else 0 := by
  unfold placeN
  rw [List.takeWhile_cons]
  by_cases h : a.name < s <;> simp [h]
theorem placeN_le : ∀ (l : List Nmd) (s : Bs), placeN l s ≤ l.length
  | [], s => Nat.le_refl _
  | a :: l, s => by rw [placeN_cons]; have := placeN_le l s; split <;> simp <;> omega
theorem placeN_lt : ∀ {l : List Nmd} {s : Bs} {j : Nat}, j < placeN l s → (l.getD j dNmd).name < s
  | [], s, j, h => by simp [placeN] at h
  | a :: l, s, j, h => by
    rw [placeN_cons] at h
    split at h
    · cases j with
      | zero => assumption
      | succ j => exact placeN_lt (l := l) (by omega)
    · omega
theorem placeN_ge : ∀ {l : List Nmd} {s : Bs}, placeN l s < l.length → ¬ (l.getD (placeN l s) dNmd).name < s
  | [], s, h => by simp at h
  | a :: l, s, h => by
    rw [placeN_cons] at h ⊢
    split at h
    · rename_i e
      rw [if_pos e]
      exact placeN_ge (l := l) (by simpa using h)
    · rename_i e
      rw [if_neg e]
      exact e
theorem placeN_at {l : List Nmd} {s : Bs} (hs : sortN l) : placeAt l s (placeN l s) := by
  refine ⟨placeN_le l s, fun j hj => placeN_lt hj, fun j h1 h2 => ?_⟩
  exact place_high hs (placeN_ge (by omega)) j h1 h2
theorem names_tri {a b : Bs} (h : ¬ a < b) (h2 : a ≠ b) : b < a := by
  by_cases h3 : b < a
  · exact h3
  · exact absurd (List.le_antisymm h3 h) h2
theorem getD_map_name {l : List Nmd} {i : Nat} : (l.getD i dNmd).name = (l.map (·.name)).getD i [] := by
  rw [List.getD_eq_getElem?_getD, List.getD_eq_getElem?_getD, List.getElem?_map]
  cases l[i]? <;> rfl
theorem turnQ_sorted {l : List Nmd} {y : Upd} (hs : sortN l) (hl : l.length ≤ 64) : sortN (turnQ l y).2 ∧ (turnQ l y).2.length ≤ 64 := by
  have hp := placeN_at (s := y.name) hs
  have hnil : sortN [] := fun i j _ h => by simp at h
  unfold turnQ
  rcases hf : foundN l y.name (placeN l y.name) with _ | _
  · rw [turnF hf]
    split
    · exact ⟨hnil, by simp⟩
    · split
      · exact ⟨hs, hl⟩
      · split
        · exact ⟨hnil, by simp⟩
        · refine ⟨?_, by rw [List.length_append, List.length_cons, List.length_take, List.length_drop]; have := hp.1; omega⟩
          have hs0 := hs
          rw [sortN_map] at hs ⊢
          rw [List.map_append, List.map_cons, List.pairwise_append, List.pairwise_cons]
          refine ⟨?_, ⟨?_, ?_⟩, ?_⟩
          · rw [List.map_take]; exact hs.sublist (List.take_sublist _ _)
          · intro a ha
            obtain ⟨n, hn, rfl⟩ := List.mem_map.1 ha
            obtain ⟨i, hi, rfl⟩ := List.mem_iff_getElem.1 hn
            rw [List.length_drop] at hi
            have h1 := hp.2.2 (placeN l y.name + i) (by omega) (by omega)
            rw [List.getD_eq_getElem?_getD, List.getElem?_eq_getElem (by omega)] at h1
            rw [List.getElem_drop]
            refine names_tri h1 fun e => ?_
            have hi0 : i = 0 := by
              refine Nat.eq_zero_of_not_pos fun h0 => ?_
              have h2 := hs0 (placeN l y.name) (placeN l y.name + i) (by omega) (by omega)
              rw [show l.getD (placeN l y.name + i) dNmd = l[placeN l y.name + i]'(by omega) from by rw [List.getD_eq_getElem?_getD, List.getElem?_eq_getElem (by omega)]; rfl] at h2
              refine hp.2.2 (placeN l y.name) (Nat.le_refl _) (by omega) ?_
              rw [e] at h2; exact h2
            subst hi0
            unfold foundN at hf
            rw [List.getD_eq_getElem?_getD, List.getElem?_eq_getElem (by omega)] at hf
            simp only [Bool.and_eq_false_iff, decide_eq_false_iff_not] at hf
            rcases hf with hf | hf
            · omega
            · exact hf e
          · rw [List.map_drop]; exact hs.sublist (List.drop_sublist _ _)
          · intro a ha c hc
            obtain ⟨n, hn, rfl⟩ := List.mem_map.1 ha
            obtain ⟨i, hi, rfl⟩ := List.mem_iff_getElem.1 hn
            rw [List.length_take] at hi
            rw [List.getElem_take]
            have h1 := hp.2.1 i (by omega)
            rw [List.getD_eq_getElem?_getD, List.getElem?_eq_getElem (by omega)] at h1
            rcases List.mem_cons.1 hc with rfl | hc
            · exact h1
            · obtain ⟨m, hm, rfl⟩ := List.mem_map.1 hc
              obtain ⟨j, hj, rfl⟩ := List.mem_iff_getElem.1 hm
              rw [List.length_drop] at hj
              rw [List.getElem_drop]
              have h2 := hs0 i (placeN l y.name + j) (by omega) (by omega)
              rw [List.getD_eq_getElem?_getD, List.getElem?_eq_getElem (by omega), List.getD_eq_getElem?_getD, List.getElem?_eq_getElem (by omega)] at h2
              exact h2
  · rw [turnT hf]
    have hlt := found_lt hf
    split
    · exact ⟨hnil, by simp⟩
    · split
      · refine ⟨?_, Nat.le_trans (List.length_eraseIdx_le _ _) hl⟩
        rw [sortN_map] at hs ⊢
        exact hs.sublist ((List.eraseIdx_sublist _ _).map _)
      · refine ⟨?_, by rw [List.length_set]; exact hl⟩
        rw [sortN_map] at hs ⊢
        rw [List.map_set, getD_map_name]
        rw [show (l.map (·.name)).set (placeN l y.name) ((l.map (·.name)).getD (placeN l y.name) []) = l.map (·.name) from by
          rw [List.getD_eq_getElem?_getD, List.getElem?_eq_getElem (by rw [List.length_map]; exact hlt)]; exact List.set_getElem_self _]
        exact hs
theorem doP_sorted {r : Refs} {y : Upd} (h : Sorted r) : Sorted (doP r y).2 := by
  unfold doP
  split
  · unfold branchP
    split
    · exact h
    · split
      · have := turnQ_sorted (y := y) h.br h.bl
        exact ⟨this.1, h.tg, this.2, h.tl⟩
      · exact h
  · split
    · unfold tagP
      split
      · have := turnQ_sorted (y := y) h.tg h.tl
        exact ⟨h.br, this.1, h.bl, this.2⟩
      · exact h
    · exact ⟨h.br, h.tg, h.bl, h.tl⟩
theorem doP_log {r : Refs} {y : Upd} : (doP r y).2.log = r.log := by
  unfold doP
  split
  · unfold branchP; split
    · rfl
    · split <;> rfl
  · split
    · unfold tagP; split <;> rfl
    · rfl
theorem nlistB_sorted {l : List Nmd} (h : nlistB l = true) : sortN l ∧ l.length ≤ 64 := by
  classical
  unfold nlistB at h
  have h := of_decide_eq_true h
  refine ⟨?_, h.2⟩
  have step : ∀ j, j + 1 < l.length → (l.getD j dNmd).name < (l.getD (j + 1) dNmd).name := fun j hj => by
    have := h.1 (j + 1) hj
    unfold nE at this
    simp only [Bool.or_eq_false_iff, Bool.and_eq_false_iff, decide_eq_false_iff_not, Bool.not_eq_false', Nat.add_sub_cancel] at this
    rcases this.2 with h1 | h1
    · omega
    · rw [bytesLess_eq] at h1
      exact of_decide_eq_true h1
  intro i j hij hj
  induction j with
  | zero => omega
  | succ j ih =>
    by_cases e : i = j
    · subst e; exact step i hj
    · exact List.lt_trans (ih (by omega) (by omega)) (step j hj)
theorem rightF_lists {r : Refs} (h : rightF r = true) : nlistB r.branches = true ∧ nlistB r.tags = true ∧ r.log.length ≤ 64 := by
  unfold rightF at h
  simp only [Bool.and_eq_true] at h
  have h1 := h.1
  unfold rE1 at h1
  simp only [Bool.not_eq_true', Bool.or_eq_false_iff, Bool.not_eq_false', decide_eq_false_iff_not] at h1
  exact ⟨h1.1.1, h1.1.2, by omega⟩
theorem rightF_sorted {r : Refs} (h : rightF r = true) : Sorted r := by
  obtain ⟨h1, h2, -⟩ := rightF_lists h
  exact ⟨(nlistB_sorted h1).1, (nlistB_sorted h2).1, (nlistB_sorted h1).2, (nlistB_sorted h2).2⟩
open Go.RowKit
theorem applyP_right {r : Refs} {l : List Upd} {note : Bs} (h : (applyP r l note).1 = 0) : ((!rightF r) || (!noteB note)) = false ∧ (runP note r l).1 = 0 ∧ (applyP r l note).2 = cutlog (runP note r l).2 := by
  unfold applyP at h ⊢
  split
  · rename_i h1; rw [if_pos h1] at h; simp at h
  · rename_i h1
    rw [if_neg h1] at h
    split
    · rename_i h2; rw [if_pos h2] at h; exact absurd h h2
    · rename_i h2; exact ⟨by simpa using h1, Classical.not_not.1 h2, rfl⟩
open Go.RowKit
section
variable {P : Program} {n : Nat} {ρ : Slots} {w : World} {Q : PostF}
def rowR (B : Nat) (cs : List Nat) (m : Nat) : World → World → Prop := bif cs.contains m then Below B else Ext
def lsOk (l : List Oper) (cs : List Nat) (ks ls : Nat → List Nat) : Bool := cs.all fun m => (ls m).all fun i => (ks m).contains i || Nat.beq i m || ((masks l []).getD i 0).testBit m
def AllCh (S : World → World → Prop) (ls : Nat → List Nat) (Φs : List Fact) : List Nat → Prop
  | [] => True
  | m :: r => AllStabX S (ls m) 0 Φs ∧ AllCh S ls Φs r
theorem AllCh.get {S : World → World → Prop} {ls : Nat → List Nat} {Φs : List Fact} : ∀ (cs : List Nat), AllCh S ls Φs cs → ∀ m, cs.contains m = true → AllStabX S (ls m) 0 Φs
  | [], _, m, h => by simp at h
  | c :: r, h, m, hm => by
    by_cases e : m = c
    · subst e; exact h.1
    · exact AllCh.get r h.2 m (by simpa [e] using hm)
theorem wpF_draw_rowsB {l : List Oper} (B : Nat) (hB : B ≤ w.heap.size) (cs : List Nat) (ks ls : Nat → List Nat) (Φs : List Fact) {id : Nat} (hm : P.follows .mixedOrders = true) (ds : List Tmp) (hg : goodB l n = true) (hkl : killB l ks = true) (hds : slotsW l = ds)
    (hls : lsOk l cs ks ls = true) (hgc : (cs.all fun m => ((l[m]?).bind (·.guard)).isNone) = true) (hst : AllStab Ext Φs) (hsB : AllCh (Below B) ls Φs cs)
    (hs : StepsF P l (fun _ => Below B w) (rowR B cs) (facts Φs) ρ 0 l)
    (hQ : ∀ (ρ' : Slots) w', Below B w w' → EndF ds ρ ρ' → EndFacts l ks (facts Φs) ρ' w' ds → Q .normal ρ' w') : wpF P n (.region id l.toArray true) Q ρ w := by
  have step : ∀ m a b, Below B w a → rowR B cs m a b → Below B w b := fun m a b h k => by
    unfold rowR at k
    cases hc : cs.contains m <;> rw [hc] at k
    · exact Below.trans h (Below.mono k (Nat.le_trans hB h.size))
    · exact Below.trans h k
  intro a ha
  obtain ⟨T, df⟩ := a
  have hz : T.size = n := ha.size
  subst hz
  refine wp_region_core ks (fun _ => Below B w) (fun _ w' => Below B w w') _ (facts Φs) hm T df hg hkl ds hds (fun m i _ _ _ _ w1 w' hc hr => step m _ _ hc hr) (fun m listed w1 w' _ _ _ _ hE hR => step m _ _ hE hR) (fun m i hm' hi hni hne hbit v w1 w' h hr => ?_) (fun m o w1 ho hgo => ?_) (fun _ _ => (Below.refl _ _).drew) (Below.refl _ _).drew (StepsF.ok ha.get l 0 hs) (fun u listed w' hall hE hf => ?_)
  · unfold rowR at hr
    cases hc : cs.contains m <;> rw [hc] at hr
    · exact hst.get Φs i v w1 w' h hr
    · refine (AllCh.get cs hsB m hc).get Φs 0 i ?_ v w1 w' h hr
      rw [Nat.zero_add]
      intro hmem
      unfold lsOk at hls
      have h1 := List.all_eq_true.1 (List.all_eq_true.1 hls m (by simpa using hc)) i hmem
      simp only [Bool.or_eq_true] at h1
      rcases h1 with (h1 | h1) | h1
      · exact hni (by simpa using h1)
      · exact hne (Nat.eq_of_beq_eq_true h1)
      · rw [h1] at hbit
        cases hbit
  · unfold rowR
    cases hc : cs.contains m
    · exact Ext.refl w1
    · have := List.all_eq_true.1 hgc m (by simpa using hc)
      rw [ho] at this
      simp only [Option.bind_some, Option.isNone_iff_eq_none] at this
      rw [this] at hgo
      cases hgo
  · have hw := wrote_slots ha.get ds (good_room hg ds hds) u
    refine ⟨fun t => if t ∈ ds then u t else ρ t, ⟨by rw [wrote_size], ha.defers, hw⟩, hQ _ w' hE ⟨fun t ht => if_neg (by simpa using ht)⟩ ?_⟩
    have key : ∀ es : List Tmp, (∀ d ∈ es, d ∈ ds) → EndFacts l ks (facts Φs) u w' es → EndFacts l ks (facts Φs) (fun t => if t ∈ ds then u t else ρ t) w' es := by
      intro es
      induction es with
      | nil => exact fun _ _ => trivial
      | cons d es ih =>
        intro hm h
        refine ⟨?_, ih (fun x hx => hm x (by simp [hx])) h.2⟩
        have := h.1
        simp only [if_pos (hm d (by simp))]
        exact this
    exact key ds (fun _ h => h) hf
end
open Go.RowKit
structure BX (N : Nat) (r : Option Nat) (w w' : World) : Prop where
  os : w'.os = w.os
  tape : w'.tape = w.tape
  output : w'.output = w.output
  size : w.heap.size ≤ w'.heap.size
  block : ∀ k, k < N → some k ≠ r → w'.heap[k]? = w.heap[k]?
section
variable {N B : Nat} {r : Option Nat} {w w' w1 w0 : World} {e t : TypeId}
theorem BX.trans {a b c : World} (h : BX N r a b) (k : BX N r b c) : BX N r a c := ⟨k.os.trans h.os, k.tape.trans h.tape, k.output.trans h.output, Nat.le_trans h.size k.size, fun i hi hr => (k.block i hi hr).trans (h.block i hi hr)⟩
theorem BX.ofExt (h : Ext w w') (hN : N ≤ w.heap.size) : BX N r w w' := ⟨h.os, h.tape, h.output, h.size, fun k hk _ => h.block k (Nat.lt_of_lt_of_le hk hN)⟩
theorem BX.ofGrown {q : Option Nat} (h : w.grownBy w' q) (hN : N ≤ w.heap.size) (hq : ∀ k, q = some k → r = some k ∨ N ≤ k) : BX N r w w' :=
  ⟨h.os, h.tape, h.output, h.size, fun k hk hr => h.block k (Nat.lt_of_lt_of_le hk hN) (fun e => (hq k e.symm).elim (fun x => hr x.symm) (fun x => by omega))⟩
theorem BX.grown (h : BX w.heap.size r w w') : w.grownBy w' r := ⟨h.os, h.tape, h.output, h.size, h.block⟩
theorem ext_bx (h : Ext w0 w) (k : BX N r w w1) (hle : w0.heap.size ≤ N) (hr : ∀ k, r = some k → w0.heap.size ≤ k) : Ext w0 w1 :=
  Below.trans h ⟨k.os, k.tape, k.output, k.size, fun i hi => k.block i (Nat.lt_of_lt_of_le hi hle) (fun e => by have := hr i e.symm; omega)⟩
end
section
variable {P : Program} {n : Nat} {ρ : Slots} {w : World} {Q : PostF}
def rowXC (w : World) (r : Option Nat) (es : List Nat) (m : Nat) : World → Prop := bif es.contains m then Ext w else BX w.heap.size r w
def rowXR (N : Nat) (r : Option Nat) (cs : List Nat) (m : Nat) : World → World → Prop := bif cs.contains m then BX N r else Ext
def esOk (l : List Oper) (cs es : List Nat) : Bool := cs.all fun m => es.all fun i => ((masks l []).getD m 0).testBit i
theorem wpF_draw_rowsX {l : List Oper} (r : Option Nat) (cs es : List Nat) (ks ls : Nat → List Nat) (Φs : List Fact) {id : Nat} (hm : P.follows .mixedOrders = true) (ds : List Tmp) (hg : goodB l n = true) (hkl : killB l ks = true) (hds : slotsW l = ds)
    (hls : lsOk l cs ks ls = true) (hes : esOk l cs es = true) (hgc : (cs.all fun m => ((l[m]?).bind (·.guard)).isNone) = true) (hst : AllStab Ext Φs) (hsB : AllCh (BX w.heap.size r) ls Φs cs)
    (hs : StepsF P l (rowXC w r es) (rowXR w.heap.size r cs) (facts Φs) ρ 0 l)
    (hQ : ∀ (ρ' : Slots) w', BX w.heap.size r w w' → EndF ds ρ ρ' → EndFacts l ks (facts Φs) ρ' w' ds → Q .normal ρ' w') : wpF P n (.region id l.toArray true) Q ρ w := by
  have stepR : ∀ m a b, BX w.heap.size r w a → rowXR w.heap.size r cs m a b → BX w.heap.size r w b := fun m a b h k => by
    unfold rowXR at k
    cases hc : cs.contains m <;> rw [hc] at k
    · exact h.trans (BX.ofExt k h.size)
    · exact h.trans k
  have drew : Ext w w.drew := (Below.refl _ _).drew
  intro a ha
  obtain ⟨T, df⟩ := a
  have hz : T.size = n := ha.size
  subst hz
  refine wp_region_core ks (rowXC w r es) (fun _ w' => BX w.heap.size r w w') _ (facts Φs) hm T df hg hkl ds hds (fun m i _ _ hne hbit w1 w' hc hr => ?_) (fun m listed w1 w' _ _ _ _ hE hR => stepR m _ _ hE hR) (fun m i hm' hi hni hne hbit v w1 w' h hr => ?_) (fun m o w1 ho hgo => ?_) (fun m _ => ?_) (BX.ofExt drew (Nat.le_refl _)) (StepsF.ok ha.get l 0 hs) (fun u listed w' hall hE hf => ?_)
  · unfold rowXC at hc ⊢
    cases he : es.contains i <;> rw [he] at hc
    · exact stepR m _ _ hc hr
    · unfold rowXR at hr
      cases hcm : cs.contains m <;> rw [hcm] at hr
      · exact Ext.trans hc hr
      · unfold esOk at hes
        have := List.all_eq_true.1 (List.all_eq_true.1 hes m (by simpa using hcm)) i (by simpa using he)
        rw [this] at hbit
        cases hbit
  · unfold rowXR at hr
    cases hc : cs.contains m <;> rw [hc] at hr
    · exact hst.get Φs i v w1 w' h hr
    · refine (AllCh.get cs hsB m hc).get Φs 0 i ?_ v w1 w' h hr
      rw [Nat.zero_add]
      intro hmem
      unfold lsOk at hls
      have h1 := List.all_eq_true.1 (List.all_eq_true.1 hls m (by simpa using hc)) i hmem
      simp only [Bool.or_eq_true] at h1
      rcases h1 with (h1 | h1) | h1
      · exact hni (by simpa using h1)
      · exact hne (Nat.eq_of_beq_eq_true h1)
      · rw [h1] at hbit
        cases hbit
  · unfold rowXR
    cases hc : cs.contains m
    · exact Ext.refl w1
    · have := List.all_eq_true.1 hgc m (by simpa using hc)
      rw [ho] at this
      simp only [Option.bind_some, Option.isNone_iff_eq_none] at this
      rw [this] at hgo
      cases hgo
  · unfold rowXC
    cases es.contains m
    · exact BX.ofExt drew (Nat.le_refl _)
    · exact drew
  · have hw := wrote_slots ha.get ds (good_room hg ds hds) u
    refine ⟨fun t => if t ∈ ds then u t else ρ t, ⟨by rw [wrote_size], ha.defers, hw⟩, hQ _ w' hE ⟨fun t ht => if_neg (by simpa using ht)⟩ ?_⟩
    have key : ∀ es : List Tmp, (∀ d ∈ es, d ∈ ds) → EndFacts l ks (facts Φs) u w' es → EndFacts l ks (facts Φs) (fun t => if t ∈ ds then u t else ρ t) w' es := by
      intro es
      induction es with
      | nil => exact fun _ _ => trivial
      | cons d es ih =>
        intro hm h
        refine ⟨?_, ih (fun x hx => hm x (by simp [hx])) h.2⟩
        have := h.1
        simp only [if_pos (hm d (by simp))]
        exact this
    exact key ds (fun _ h => h) hf
end
open Go.RowKit
theorem cmp_self : ∀ a : List UInt8, Lib.compareBytes a a = 0
  | [] => rfl
  | x :: a => by simp [Lib.compareBytes, UInt8.lt_irrefl, cmp_self a]
theorem cmp_range : ∀ a b : List UInt8, Lib.compareBytes a b = -1 ∨ Lib.compareBytes a b = 0 ∨ Lib.compareBytes a b = 1
  | [], [] => .inr (.inl rfl)
  | [], _ :: _ => .inl rfl
  | _ :: _, [] => .inr (.inr rfl)
  | x :: a, y :: b => by
    unfold Lib.compareBytes
    split
    · exact .inl rfl
    · split
      · exact .inr (.inr rfl)
      · exact cmp_range a b
theorem cmp_zero : ∀ {a b : List UInt8}, Lib.compareBytes a b = 0 → a = b
  | [], [], _ => rfl
  | [], _ :: _, h => by simp [Lib.compareBytes] at h
  | _ :: _, [], h => by simp [Lib.compareBytes] at h
  | x :: a, y :: b, h => by
    unfold Lib.compareBytes at h
    split at h
    · cases h
    · split at h
      · cases h
      · rename_i h1 h2
        have hxy : x = y := UInt8.le_antisymm (UInt8.not_lt.1 h2) (UInt8.not_lt.1 h1)
        rw [hxy, cmp_zero h]
theorem cmp_neg : ∀ a b : List UInt8, Lib.compareBytes a b = - Lib.compareBytes b a
  | [], [] => rfl
  | [], _ :: _ => rfl
  | _ :: _, [] => rfl
  | x :: a, y :: b => by
    unfold Lib.compareBytes
    by_cases h1 : x < y
    · rw [if_pos h1, if_neg (UInt8.lt_asymm h1), if_pos h1]
    · by_cases h2 : y < x
      · rw [if_neg h1, if_pos h2, if_pos h2]; rfl
      · rw [if_neg h1, if_neg h2, if_neg h2, if_neg h1]
        exact cmp_neg a b
theorem cmp_trans : ∀ {a b c : List UInt8}, Lib.compareBytes a b ≤ 0 → Lib.compareBytes b c ≤ 0 → Lib.compareBytes a c ≤ 0
  | [], _, [], _, _ => by simp [Lib.compareBytes]
  | [], _, _ :: _, _, _ => by simp [Lib.compareBytes]
  | _ :: _, [], _, h, _ => by simp [Lib.compareBytes] at h
  | _ :: _, _ :: _, [], _, h => by simp [Lib.compareBytes] at h
  | x :: a, y :: b, z :: c, h1, h2 => by
    unfold Lib.compareBytes at h1 h2 ⊢
    by_cases xy : x < y
    · by_cases yz : y < z
      · rw [if_pos (UInt8.lt_trans xy yz)]; decide
      · by_cases zy : z < y
        · rw [if_neg yz, if_pos zy] at h2; exact absurd h2 (by decide)
        · have : y = z := UInt8.le_antisymm (UInt8.not_lt.1 zy) (UInt8.not_lt.1 yz)
          rw [← this, if_pos xy]; decide
    · by_cases yx : y < x
      · rw [if_neg xy, if_pos yx] at h1; exact absurd h1 (by decide)
      · have e : x = y := UInt8.le_antisymm (UInt8.not_lt.1 yx) (UInt8.not_lt.1 xy)
        subst e
        rw [if_neg xy, if_neg xy] at h1
        by_cases xz : x < z
        · rw [if_pos xz]; decide
        · by_cases zx : z < x
          · rw [if_neg xz, if_pos zx] at h2; exact absurd h2 (by decide)
          · rw [if_neg xz, if_neg zx] at h2 ⊢
            exact cmp_trans h1 h2
def Asc (l : List (List UInt8)) : Prop := l.Pairwise fun a b => Lib.compareBytes a b ≤ 0
theorem asc_perm : ∀ {l m : List (List UInt8)}, Asc l → Asc m → l.Perm m → l = m
  | [], m, _, _, h => (List.nil_perm.1 h).symm
  | l, [], _, _, h => List.perm_nil.1 h
  | a :: l, b :: m, h1, h2, h => by
    have ha := List.pairwise_cons.1 h1
    have hb := List.pairwise_cons.1 h2
    have e : a = b := by
      have m1 : a ∈ b :: m := h.subset (by simp)
      have m2 : b ∈ a :: l := h.symm.subset (by simp)
      rcases List.mem_cons.1 m1 with e | m1
      · exact e
      · rcases List.mem_cons.1 m2 with e | m2
        · exact e.symm
        · have k1 := hb.1 a m1
          have k2 := ha.1 b m2
          have k3 := cmp_neg a b
          exact cmp_zero (by omega)
    subst e
    rw [asc_perm ha.2 hb.2 (List.Perm.cons_inv h)]
def insB (x : List UInt8) : List (List UInt8) → List (List UInt8)
  | [] => [x]
  | a :: r => if Lib.compareBytes x a ≤ 0 then x :: a :: r else a :: insB x r
def sortB : List (List UInt8) → List (List UInt8)
  | [] => []
  | a :: r => insB a (sortB r)
theorem insB_perm (x : List UInt8) : ∀ l, (insB x l).Perm (x :: l)
  | [] => List.Perm.refl _
  | a :: r => by
    unfold insB
    split
    · exact List.Perm.refl _
    · exact ((insB_perm x r).cons a).trans (List.Perm.swap x a r)
theorem sortB_perm : ∀ l, (sortB l).Perm l
  | [] => List.Perm.refl _
  | a :: r => (insB_perm a _).trans ((sortB_perm r).cons a)
theorem insB_asc (x : List UInt8) : ∀ l, Asc l → Asc (insB x l)
  | [], _ => by simp [insB, Asc]
  | a :: r, h => by
    have hr := List.pairwise_cons.1 h
    unfold insB
    split
    · rename_i hx
      refine List.pairwise_cons.2 ⟨fun c hc => ?_, h⟩
      rcases List.mem_cons.1 hc with rfl | hc
      · exact hx
      · exact cmp_trans hx (hr.1 c hc)
    · rename_i hx
      refine List.pairwise_cons.2 ⟨fun c hc => ?_, insB_asc x r hr.2⟩
      rcases List.mem_cons.1 ((insB_perm x r).subset hc) with rfl | hc
      · have := cmp_neg c a
        omega
      · exact hr.1 c hc
theorem sortB_asc : ∀ l, Asc (sortB l)
  | [] => List.Pairwise.nil
  | a :: r => insB_asc a _ (sortB_asc r)
theorem sortB_len (l : List (List UInt8)) : (sortB l).length = l.length := (sortB_perm l).length_eq
theorem asc_sortB {l m : List (List UInt8)} (h : Asc m) (hp : m.Perm l) : m = sortB l := asc_perm h (sortB_asc l) (hp.trans (sortB_perm l).symm)
open Go.RowKit
section
variable {P : Program} {K : Value → World → Prop} {ρ : Slots} {w w0 : World} {d : Option Tmp} {ty : TypeId} {pos : String} {af : Array Edge} {gd : Option (Nat × Bool)}
variable {α : Type} {k : Nat} {enc : α → List Value} {t e : TypeId}
theorem Yk.makeG (base : Nat) (z : Value) (bytes : Nat) (ht : P.underlying t = some (.slice e)) (hi : (P.info? e).map (fun i => (i.zero, i.size, i.bytes)) = some (some z, k, bytes)) {x y : Operand} {kl kc : IntKind} {n : Nat} (hx : evalR ρ x = .int kl 0) (hy : evalR ρ y = .int kc (n : Int)) (hb : bytes * n ≤ 281474976710656) (hn : n ≤ 9223372036854775807) (hbase : base ≤ w.heap.size)
    (hk : ∀ v w', OG base e k enc w' v ([] : List α) → Ext w w' → K v w') : Yk P K ((execOp (evalR ρ) ⟨d, .makeSlice t x y, ty, pos, af, gd⟩).run P w) := by
  obtain ⟨i, hi, hz, hsize, hby⟩ := info_parts hi
  obtain ⟨w', hr, h2, h3⟩ := run_make_own (P := P) (w := w) base t e i z k ht hi hz hsize kl kc n (by rw [hby]; exact hb) (by unfold maxLen; omega) hbase
  refine Yk.value (v := .slice (some ⟨w.heap.size, 0, none⟩) 0 n) (w' := w') ?_ (hk _ w' ⟨by simp, h2⟩ (Ext.of h3))
  unfold execOp
  simp only [hx, hy, hr, Sem.run_bind, Sem.run_pure, Result.andThen_ok]
theorem OG.base {α : Type} {b b' k : Nat} {e : TypeId} {enc : α → List Value} {v : Value} {l : List α} (h : OG b e k enc w v l) (hb : b' ≤ b) : OG b' e k enc w v l := ⟨h.1, ownsRow_base h.2 hb⟩
def RowG {α : Type} (B N : Nat) (e : TypeId) (k : Nat) (enc : α → List Value) (r : Option Nat) (l : List α) (x : Value) (w' : World) : Prop := OG B e k enc w' x l ∧ ∀ k, x.ownBlock = some k → r = some k ∨ N ≤ k
theorem RG.nilOwn (w : World) (b : Nat) (e : TypeId) : OG b e k enc w (.slice none 0 0) ([] : List α) := OG.nil b e k enc w
structure MI (l O A B : List (List UInt8)) : Prop where
  perm : (O ++ (A ++ B)).Perm l
  ascO : Asc O
  ascA : Asc A
  ascB : Asc B
  le : ∀ x ∈ O, ∀ y ∈ A ++ B, Lib.compareBytes x y ≤ 0
theorem MI.start {l A B : List (List UInt8)} {h : Nat} (hA : A.Perm (l.take h)) (hB : B.Perm (l.drop h)) (a1 : Asc A) (b1 : Asc B) : MI l [] A B :=
  ⟨by rw [List.nil_append]; exact (hA.append hB).trans (by rw [List.take_append_drop]), List.Pairwise.nil, a1, b1, by simp⟩
theorem MI.left {l O A B : List (List UInt8)} (h : MI l O A B) (hA : 0 < A.length) (hB : 0 < B.length) (hc : Lib.compareBytes (A.getD 0 []) (B.getD 0 []) ≤ 0) : MI l (O ++ [A.getD 0 []]) (A.drop 1) B := by
  match A, B, hA, hB, h, hc with
  | a :: A, b :: B, _, _, h, hc =>
    simp only [List.getD_cons_zero, List.drop_succ_cons, List.drop_zero] at hc ⊢
    have hp := List.pairwise_cons.1 h.ascA
    have hq := List.pairwise_cons.1 h.ascB
    have hall : ∀ y ∈ A ++ b :: B, Lib.compareBytes a y ≤ 0 := fun y hy => by
      rcases List.mem_append.1 hy with h1 | h1
      · exact hp.1 y h1
      · rcases List.mem_cons.1 h1 with rfl | h1
        · exact hc
        · exact cmp_trans hc (hq.1 y h1)
    refine ⟨by rw [List.append_assoc]; exact h.perm, ?_, hp.2, h.ascB, ?_⟩
    · unfold Asc
      rw [List.pairwise_append]
      exact ⟨h.ascO, by simp, fun x hx y hy => by rw [List.mem_singleton.1 hy]; exact h.le x hx a (by simp)⟩
    · intro x hx y hy
      rcases List.mem_append.1 hx with h1 | h1
      · exact h.le x h1 y (by simp only [List.cons_append, List.mem_cons]; exact .inr hy)
      · rw [List.mem_singleton.1 h1]; exact hall y hy
theorem MI.right {l O A B : List (List UInt8)} (h : MI l O A B) (hA : 0 < A.length) (hB : 0 < B.length) (hc : ¬ Lib.compareBytes (A.getD 0 []) (B.getD 0 []) ≤ 0) : MI l (O ++ [B.getD 0 []]) A (B.drop 1) := by
  match A, B, hA, hB, h, hc with
  | a :: A, b :: B, _, _, h, hc =>
    simp only [List.getD_cons_zero, List.drop_succ_cons, List.drop_zero] at hc ⊢
    have hp := List.pairwise_cons.1 h.ascA
    have hq := List.pairwise_cons.1 h.ascB
    have hba : Lib.compareBytes b a ≤ 0 := by have := cmp_neg a b; omega
    have hall : ∀ y ∈ a :: A ++ B, Lib.compareBytes b y ≤ 0 := fun y hy => by
      rcases List.mem_append.1 hy with h1 | h1
      · rcases List.mem_cons.1 h1 with rfl | h1
        · exact hba
        · exact cmp_trans hba (hp.1 y h1)
      · exact hq.1 y h1
    refine ⟨?_, ?_, h.ascA, hq.2, ?_⟩
    · refine List.Perm.trans ?_ h.perm
      rw [List.append_assoc]
      refine List.Perm.append_left O ?_
      simp only [List.singleton_append]
      exact (List.perm_middle (l₁ := a :: A) (l₂ := B) (a := b)).symm
    · unfold Asc
      rw [List.pairwise_append]
      exact ⟨h.ascO, by simp, fun x hx y hy => by rw [List.mem_singleton.1 hy]; exact h.le x hx b (by simp)⟩
    · intro x hx y hy
      rcases List.mem_append.1 hx with h1 | h1
      · exact h.le x h1 y (by
          rcases List.mem_append.1 hy with h2 | h2
          · exact List.mem_append_left _ h2
          · exact List.mem_append_right _ (by simp [h2]))
      · rw [List.mem_singleton.1 h1]; exact hall y hy
theorem MI.done {l O A B : List (List UInt8)} (h : MI l O A B) (he : A.length = 0 ∨ B.length = 0) : ((O ++ A) ++ B).Perm l ∧ Asc ((O ++ A) ++ B) := by
  refine ⟨by rw [List.append_assoc]; exact h.perm, ?_⟩
  rw [List.append_assoc]
  unfold Asc
  rw [List.pairwise_append]
  refine ⟨h.ascO, ?_, h.le⟩
  rcases he with he | he
  · rw [List.eq_nil_of_length_eq_zero he, List.nil_append]; exact h.ascB
  · rw [List.eq_nil_of_length_eq_zero he, List.append_nil]; exact h.ascA
theorem asc_short {l : List (List UInt8)} (h : l.length < 2) : Asc l := by
  match l, h with
  | [], _ => exact List.Pairwise.nil
  | [a], _ => simp [Asc]
end
open Go.RowKit
set_option maxRecDepth 100000
theorem wr45_ty23 : Tryd.prog.underlying 23 = some (.slice 25) := by kernel_rfl
theorem wr45_ig25 : ∃ z, (Tryd.prog.info? 25).map (fun i => (i.zero, i.size, i.bytes)) = some (some z, 32, 32) ∧ z.cells.size = 32 := info_ex (by kernel_rfl)
theorem wr45_szg25 : ∀ w' : World, (sizeOf 25).run Tryd.prog w' = .ok 32 w' := fun _ => by kernel_rfl
theorem wr45_pl167 : Plain Tryd.prog 167 := fun _ _ => by kernel_rfl
theorem wr45_ty25 : Tryd.prog.underlying 25 = some (.array 32 5) := by kernel_rfl
theorem wr45_isz25 : (Tryd.prog.info? 25).map (·.size) = some 32 := by kernel_rfl
theorem wr45_pl142 : Plain Tryd.prog 142 := fun _ _ => by kernel_rfl
theorem wr45_lh23 (c0 c1 c2 c3 c4 c5 c6 c7 c8 c9 c10 c11 c12 c13 c14 c15 c16 c17 c18 c19 c20 c21 c22 c23 c24 c25 c26 c27 c28 c29 c30 c31 : Value) (w : World) : (Instr.buildSlice 23 1 #[(0, .agg #[c0, c1, c2, c3, c4, c5, c6, c7, c8, c9, c10, c11, c12, c13, c14, c15, c16, c17, c18, c19, c20, c21, c22, c23, c24, c25, c26, c27, c28, c29, c30, c31])]).run Tryd.prog w = .ok (.slice (some ⟨w.heap.size, 0, none⟩) 1 1) (w.alloc (.cells #[c0, c1, c2, c3, c4, c5, c6, c7, c8, c9, c10, c11, c12, c13, c14, c15, c16, c17, c18, c19, c20, c21, c22, c23, c24, c25, c26, c27, c28, c29, c30, c31] 25)) := by kernel_rfl
theorem wr45_lg23 : ∀ (cs : Array Value), cs.size = 32 → ∀ w : World, (Instr.buildSlice 23 1 #[(0, .agg cs)]).run Tryd.prog w = .ok (.slice (some ⟨w.heap.size, 0, none⟩) 1 1) (w.alloc (.cells cs 25))
 | ⟨[c0, c1, c2, c3, c4, c5, c6, c7, c8, c9, c10, c11, c12, c13, c14, c15, c16, c17, c18, c19, c20, c21, c22, c23, c24, c25, c26, c27, c28, c29, c30, c31]⟩, _, w => wr45_lh23 c0 c1 c2 c3 c4 c5 c6 c7 c8 c9 c10 c11 c12 c13 c14 c15 c16 c17 c18 c19 c20 c21 c22 c23 c24 c25 c26 c27 c28 c29 c30 c31 w
theorem merge_step (n : Nat) (ih : ∀ l : List Bs, l.length < n → ∀ (w : World) (v : Value), RG 32 Lib.byteCells w v l → Calls Tryd.prog 167 #[v, .func (.func 142) #[] #[]] w fun e w' => ∃ v' m, e = .returned v' ∧ OG w.heap.size 25 32 Lib.byteCells w' v' m ∧ m.Perm l ∧ Asc m ∧ Ext w w') (l : List Bs) (hn : l.length = n) (hlim : l.length ≤ 1048576) (w : World) (v : Value) (hr : RG 32 Lib.byteCells w v l) :
  Calls Tryd.prog 167 #[v, .func (.func 142) #[] #[]] w fun e w' => ∃ v' m, e = .returned v' ∧ OG w.heap.size 25 32 Lib.byteCells w' v' m ∧ m.Perm l ∧ Asc m ∧ Ext w w' := by
 refine calls_of_wpF (args := [v, .func (.func 142) #[] #[]]) Tryd.func167 rfl 68 rfl (Nat.le_of_ble_eq_true rfl) ?_
 intro ρ0 hb
 have T0 : ρ0 0 = (v : Value) := hb.get 0
 have T1 : ρ0 1 = (.func (.func 142) #[] #[] : Value) := hb.get 1
 clear hb
 have hE := Ext.refl w
 refine sk fun K1 hK1 => (wt (oA rfl (oZ (tN (hK1 _ _ (sk fun K2 hK2 => (sk fun K3 hK3 => (wt (oM rfl (oS rfl (Yk.lenRG wr45_ty23 (RG.of hr T0) (oS rfl (Yk.eqI (a := (l.length : Nat)) (b := (2 : Nat)) rfl rfl (k_lss _ _ _ _) (oZ (tN (hK3 _ _ ?_))))))))))))))))
 refine wpF_cond ((l.length) < (2)) (vr (.bool (decide ((l.length) < (2)))) rfl) (fun hc0 => ?_) (fun hc0 => ?_)
 ·refine sk fun K4 hK4 => (wt (oM rfl (oS rfl (Yk.appendRG _ _ w.heap.size _ 32 wr45_ty23 wr45_ig25.choose_spec.1 wr45_ig25.choose_spec.2 wr45_ty23 ([]) (l) (RG.nilOwn _ _ _) (RG.of hr T0) (fun _ _ => byteCells_one _) (by simp only [List.length_nil]; omega) (by simp only [List.length_nil]; omega) hE.size fun v5 w6 ho7 hg8 => ?_))))
  have hg8 : Grew w w6 (.slice none 0 0) v5 := hg8
  have hx_ : Ext w w6 := Ext.of (by have := hg8.by_; exact this)
  have hE := hE.trans hx_
  refine oA rfl (oZ (tN (hK4 _ _ (wpF_ret (thenF_ret (postF_ret (fn := Tryd.f167) _ rfl [v5] (v5) rfl ⟨rfl, trivial⟩ ?_))))))
  exact ⟨_, l, rfl, OG.base (og_eq ho7 (List.nil_append l)) (by omega), List.Perm.refl _, asc_short hc0, hE⟩
 refine wpF_skip (tN (hK2 _ _ (sk fun K9 hK9 => ?_)))
 refine wpF_draw [Is (v), Is (v), Is (NI l.length), Is (NI ((l.length) / (2))), fun x _ => RG 32 (Lib.byteCells) w x (l.take ((l.length) / (2))), Is (.func (.func 142) #[] #[]), fun x w' => ∃ m, RG 32 Lib.byteCells w' x m ∧ m.Perm (l.take ((l.length) / (2))) ∧ Asc m, Is (v), Is (v), Is (NI l.length), Is (NI ((l.length) / (2))), fun x _ => RG 32 (Lib.byteCells) w x (l.drop ((l.length) / (2))), Is (.func (.func 142) #[] #[]), fun x w' => ∃ m, RG 32 Lib.byteCells w' x m ∧ m.Perm (l.drop ((l.length) / (2))) ∧ Asc m, fun x w' => ∃ m, RG 32 Lib.byteCells w' x m ∧ m.Perm (l.take ((l.length) / (2))) ∧ Asc m, fun x w' => ∃ m, RG 32 Lib.byteCells w' x m ∧ m.Perm (l.drop ((l.length) / (2))) ∧ Asc m] (by kernel_rfl) [13, 14, 15, 16, 17, 18, 19, 20, 21, 22, 23, 24, 25, 26, 5, 6] (by kernel_rfl) (by kernel_rfl) (si4 ⟨(fun _ _ _ h _ => h), Stab.is _, (fun _ _ _ ⟨m, h1, h2⟩ k => ⟨m, h1.keep k, h2⟩), (si4 ⟨(fun _ _ _ h _ => h), Stab.is _, (fun _ _ _ ⟨m, h1, h2⟩ k => ⟨m, h1.keep k, h2⟩), (fun _ _ _ ⟨m, h1, h2⟩ k => ⟨m, h1.keep k, h2⟩), (fun _ _ _ ⟨m, h1, h2⟩ k => ⟨m, h1.keep k, h2⟩), trivial⟩)⟩) ?hs1003 ?hQ1003
 case hs1003 =>
  refine ⟨?_, ?_, ?_, ?_, ?_, ?_, ?_, ?_, ?_, ?_, ?_, ?_, ?_, ?_, ?_, ?_, trivial⟩
  ·refine stepN rfl fun σ w1 hC h => ?_
   have e0 := (eqo (h 0 (by decide))).trans T0
   exact Yk.move e0 ⟨Ext.refl _, rfl⟩
  ·refine stepN rfl fun σ w1 hC h => ?_
   have e0 := (eqo (h 0 (by decide))).trans T0
   exact Yk.move e0 ⟨Ext.refl _, rfl⟩
  ·refine stepN rfl fun σ w1 hC h => ?_
   have e14 := eqo (h 14 (by decide))
   exact Yk.lenRG wr45_ty23 (RG.of (hr.keep hC) e14) ⟨Ext.refl _, rfl⟩
  ·refine stepN rfl fun σ w1 hC h => ?_
   have e15 := eqo (h 15 (by decide))
   exact Yk.bin (xv := NI l.length) (yv := NI 2) e15 rfl rfl (i64_quo _ _ _ (by omega) (by omega)) ⟨Ext.refl _, rfl⟩
  ·refine stepN rfl fun σ w1 hC h => ?_
   have e13 := eqo (h 13 (by decide))
   have e16 := eqo (h 16 (by decide))
   exact Yk.sliceHiW wr45_ty23 wr45_szg25 e13 hr e16 (by omega) fun v h _ => ⟨Ext.refl _, h⟩
  ·refine stepN rfl fun σ w1 hC h => ?_
   have e1 := (eqo (h 1 (by decide))).trans T1
   exact Yk.move e1 ⟨Ext.refl _, rfl⟩
  ·refine stepN rfl fun σ w1 hC h => ?_
   have e17 : (fun x _ => RG 32 (Lib.byteCells) w x (l.take ((l.length) / (2)))) (σ 17) w1 := h 17 (by decide)
   have e18 := eqo (h 18 (by decide))
   refine Yk.callA2 wr45_pl167 rfl e18 ((ih (l.take ((l.length) / (2))) (by have hlen_ := List.length_take_le (l.length / 2) l; first | (simp only [List.length_take]; omega) | (simp only [List.length_drop]; omega)) _ _ (RG.keep e17 hC)).mono ?_)
   rintro e w2 ⟨_, m, rfl, h1, h2, h3, h4⟩
   exact ⟨_, rfl, h4, m, RG.ofOwn h1, h2, h3⟩
  ·refine stepN rfl fun σ w1 hC h => ?_
   have e0 := (eqo (h 0 (by decide))).trans T0
   exact Yk.move e0 ⟨Ext.refl _, rfl⟩
  ·refine stepN rfl fun σ w1 hC h => ?_
   have e0 := (eqo (h 0 (by decide))).trans T0
   exact Yk.move e0 ⟨Ext.refl _, rfl⟩
  ·refine stepN rfl fun σ w1 hC h => ?_
   have e21 := eqo (h 21 (by decide))
   exact Yk.lenRG wr45_ty23 (RG.of (hr.keep hC) e21) ⟨Ext.refl _, rfl⟩
  ·refine stepN rfl fun σ w1 hC h => ?_
   have e22 := eqo (h 22 (by decide))
   exact Yk.bin (xv := NI l.length) (yv := NI 2) e22 rfl rfl (i64_quo _ _ _ (by omega) (by omega)) ⟨Ext.refl _, rfl⟩
  ·refine stepN rfl fun σ w1 hC h => ?_
   have e20 := eqo (h 20 (by decide))
   have e23 := eqo (h 23 (by decide))
   exact Yk.sliceLoW wr45_ty23 wr45_szg25 e20 hr e23 (by omega) fun v h _ => ⟨Ext.refl _, h⟩
  ·refine stepN rfl fun σ w1 hC h => ?_
   have e1 := (eqo (h 1 (by decide))).trans T1
   exact Yk.move e1 ⟨Ext.refl _, rfl⟩
  ·refine stepN rfl fun σ w1 hC h => ?_
   have e24 : (fun x _ => RG 32 (Lib.byteCells) w x (l.drop ((l.length) / (2)))) (σ 24) w1 := h 24 (by decide)
   have e25 := eqo (h 25 (by decide))
   refine Yk.callA2 wr45_pl167 rfl e25 ((ih (l.drop ((l.length) / (2))) (by have hlen_ := List.length_take_le (l.length / 2) l; first | (simp only [List.length_take]; omega) | (simp only [List.length_drop]; omega)) _ _ (RG.keep e24 hC)).mono ?_)
   rintro e w2 ⟨_, m, rfl, h1, h2, h3, h4⟩
   exact ⟨_, rfl, h4, m, RG.ofOwn h1, h2, h3⟩
  ·refine stepN rfl fun σ w1 hC h => ?_
   have e19 : (fun x w' => ∃ m, RG 32 Lib.byteCells w' x m ∧ m.Perm (l.take ((l.length) / (2))) ∧ Asc m) (σ 19) w1 := h 19 (by decide)
   exact Yk.assign rfl ⟨Ext.refl _, e19⟩
  ·refine stepN rfl fun σ w1 hC h => ?_
   have e26 : (fun x w' => ∃ m, RG 32 Lib.byteCells w' x m ∧ m.Perm (l.drop ((l.length) / (2))) ∧ Asc m) (σ 26) w1 := h 26 (by decide)
   exact Yk.assign rfl ⟨Ext.refl _, e26⟩
 intro ρ10 w11 hx12 he hf
 obtain ⟨-, -, -, -, -, -, -, -, -, -, -, -, -, -, k5, k6, -⟩ := hf
 obtain ⟨T0, T1, T4, -⟩ := he.hold [(0, _), (1, _), (4, (Value.slice none 0 0))] ⟨T0, T1, rfl, trivial⟩ rfl
 clear he
 have hr := hr.keep hx12
 have hE := hE.trans hx12
 have k5 : (fun x w' => ∃ m, RG 32 Lib.byteCells w' x m ∧ m.Perm (l.take ((l.length) / (2))) ∧ Asc m) (ρ10 5) w11 := k5
 obtain ⟨v13, T5⟩ : ∃ v, ρ10 5 = v := ⟨_, rfl⟩
 rw [T5] at k5
 have hk14 := k5; clear k5
 obtain ⟨A, hr15, hp16, ha17⟩ := hk14
 have k6 : (fun x w' => ∃ m, RG 32 Lib.byteCells w' x m ∧ m.Perm (l.drop ((l.length) / (2))) ∧ Asc m) (ρ10 6) w11 := k6
 obtain ⟨v18, T6⟩ : ∃ v, ρ10 6 = v := ⟨_, rfl⟩
 rw [T6] at k6
 have hk19 := k6; clear k6
 obtain ⟨B, hr20, hp21, ha22⟩ := hk19
 refine tN (hK9 _ _ (sk fun K23 hK23 => (wt (oM rfl (oS rfl (Yk.lenRG wr45_ty23 (RG.of hr T0) ?_))))))
 have hA28 := Ext.refl w11
 have hea29 := hE
 have hz30 := hE.size
 refine oS rfl (Yk.makeG (enc := Lib.byteCells) w11.heap.size _ 32 wr45_ty23 wr45_ig25.choose_spec.1 (vr (NI 0) rfl) (vr (NI l.length) rfl) (by omega) (by omega) (Nat.le_refl _) fun v24 w25 ho26 hx27 => ?_)
 have hE := hE.trans hx27
 have hA28 := hA28.trans hx27
 refine oA rfl (oL_ [(0, v), (1, .func (.func 142) #[] #[]), (4, (Value.slice none 0 0)), (5, v13), (6, v18), (7, v24)] ⟨T0, T1, T4, T5, T6, rfl, trivial⟩ fun ρ31 ⟨T0, T1, T4, T5, T6, T7, _⟩ => (tN (hK23 _ _ (sk fun K32 hK32 => (wpF_block (wpF_loop (fun (ρ : Slots) (wz : World) => ∃ va : Value, ∃ vb : Value, ∃ Al : List Bs, ∃ Bl : List Bs, ∃ Ol : List Bs, ∃ vo : Value, ρ 0 = (v : Value) ∧ ρ 1 = (.func (.func 142) #[] #[] : Value) ∧ ρ 4 = ((Value.slice none 0 0) : Value) ∧ ρ 5 = (va : Value) ∧ ρ 6 = (vb : Value) ∧ ρ 7 = (vo : Value) ∧ Ext w wz ∧ Ext w11 wz ∧ RG 32 Lib.byteCells w11 va Al ∧ RG 32 Lib.byteCells w11 vb Bl ∧ OG w11.heap.size 25 32 (Lib.byteCells) wz vo Ol ∧ (MI l Ol Al Bl) ∧ True) (fun ρ _ => sliceLen (ρ 5) + sliceLen (ρ 6)) ⟨v13, v18, A, B, [], v24, T0, T1, T4, T5, T6, T7, hE, hA28, hr15, hr20, ho26, MI.start hp16 hp21 ha17 ha22, trivial⟩ ?_))))))
 clear ho26
 clear hE hA28
 rintro ρ33 w34 ⟨va, vb, Al, Bl, Ol, vo, T0, T1, T4, T5, T6, T7, hE, hA28, hfa, hfb, hfo, hMI, -⟩
 have q5 := T5
 have q6 := T6
 have qa := hfa.sliceLen
 have qb := hfb.sliceLen
 have hla := hMI.perm.length_eq
 simp only [List.length_append] at hla
 by_cases hga : 0 < Al.length
 ·by_cases hgb : 0 < Bl.length
  ·refine sk fun K35 hK35 => (sk fun K36 hK36 => (wt (oM rfl (oS rfl (Yk.lenRG wr45_ty23 (RG.of (hfa.keep hA28) T5) (oS rfl (Yk.eqI (a := (Al.length : Nat)) (b := (0 : Nat)) rfl rfl (k_gtr _ _ _ _) (oM rfl (oY (d := 33) rfl rfl (vr (.bool (true)) (congrArg Value.bool (decide_eq_true (hga)))) (Yk.move T6 (oY (d := 33) rfl rfl (vr (.bool (true)) (congrArg Value.bool (decide_eq_true (hga)))) (Yk.lenRG wr45_ty23 (RG.of (hfb.keep hA28) (vr vb rfl)) (oY (d := 33) rfl rfl (vr (.bool (true)) (congrArg Value.bool (decide_eq_true (hga)))) (Yk.eqI (a := (Bl.length : Nat)) (b := (0 : Nat)) rfl rfl (k_gtr _ _ _ _) (oS rfl (Yk.pickT (vr (.bool (true)) (congrArg Value.bool (decide_eq_true (hga)))) (vr (.bool (true)) (congrArg Value.bool (decide_eq_true (hgb)))) (oZ (tN (hK36 _ _ (wpF_true (vr (.bool (true)) rfl) (wpF_skip (tN (hK35 _ _ ?_)))))))))))))))))))))))
   refine wpF_block (sk fun K37 hK37 => ?_)
   refine wpF_draw [Is (.func (.func 142) #[] #[]), Is (va), fun x w' => PR (Lib.byteCells (Al.getD (0) ([] : List UInt8))) x w', Is (AB (Al.getD (0) ([] : List UInt8))), Is (vb), fun x w' => PR (Lib.byteCells (Bl.getD (0) ([] : List UInt8))) x w', Is (AB (Bl.getD (0) ([] : List UInt8))), Is (.int .i64 (Lib.compareBytes (Al.getD (0) ([] : List UInt8)) (Bl.getD (0) ([] : List UInt8)) : Int)), Is (.bool (decide ((Lib.compareBytes (Al.getD (0) ([] : List UInt8)) (Bl.getD (0) ([] : List UInt8)) : Int) ≤ ((0 : Nat) : Int))))] (by kernel_rfl) [38, 39, 40, 41, 42, 43, 44, 45, 46] (by kernel_rfl) (by kernel_rfl) (si2 ⟨(fun _ _ _ h k => PR.keep h k), (si2 ⟨(fun _ _ _ h k => PR.keep h k), (si3 trivial)⟩)⟩) ?hs2006 ?hQ2006
   case hs2006 =>
    refine ⟨?_, ?_, ?_, ?_, ?_, ?_, ?_, ?_, ?_, trivial⟩
    ·refine stepN rfl fun σ w1 hC h => ?_
     have e1 := (eqo (h 1 (by decide))).trans T1
     exact Yk.move e1 ⟨Ext.refl _, rfl⟩
    ·refine stepN rfl fun σ w1 hC h => ?_
     have e5 := (eqo (h 5 (by decide))).trans T5
     exact Yk.move e5 ⟨Ext.refl _, rfl⟩
    ·refine stepN rfl fun σ w1 hC h => ?_
     have e39 := eqo (h 39 (by decide))
     exact Yk.atRG wr45_ty23 wr45_szg25 (by decide) ([] : List UInt8) (RG.of (hfa.keep (hA28.trans hC)) e39) (vr (NI 0) rfl) (by omega) fun v h => ⟨Ext.refl _, h⟩
    ·refine stepN rfl fun σ w1 hC h => ?_
     have e40 : (fun x w' => PR (Lib.byteCells (Al.getD (0) ([] : List UInt8))) x w') (σ 40) w1 := h 40 (by decide)
     exact Yk.loadPR e40 wr45_ty25 rfl (by rw [RG.elem hfa ([] : List UInt8) (by omega)]; exact wr45_isz25) ⟨Ext.refl _, rfl⟩
    ·refine stepN rfl fun σ w1 hC h => ?_
     have e6 := (eqo (h 6 (by decide))).trans T6
     exact Yk.move e6 ⟨Ext.refl _, rfl⟩
    ·refine stepN rfl fun σ w1 hC h => ?_
     have e42 := eqo (h 42 (by decide))
     exact Yk.atRG wr45_ty23 wr45_szg25 (by decide) ([] : List UInt8) (RG.of (hfb.keep (hA28.trans hC)) e42) (vr (NI 0) rfl) (by omega) fun v h => ⟨Ext.refl _, h⟩
    ·refine stepN rfl fun σ w1 hC h => ?_
     have e43 : (fun x w' => PR (Lib.byteCells (Bl.getD (0) ([] : List UInt8))) x w') (σ 43) w1 := h 43 (by decide)
     exact Yk.loadPR e43 wr45_ty25 rfl (by rw [RG.elem hfb ([] : List UInt8) (by omega)]; exact wr45_isz25) ⟨Ext.refl _, rfl⟩
    ·refine stepN rfl fun σ w1 hC h => ?_
     have e38 := eqo (h 38 (by decide))
     have e41 := eqo (h 41 (by decide))
     have e44 := eqo (h 44 (by decide))
     refine Yk.clo wr45_pl142 (caps := #[]) e38 #[AB (Al.getD (0) ([] : List UInt8)), AB (Bl.getD (0) ([] : List UInt8))] (by simp only [List.map_toArray, List.map_cons, List.map_nil, List.append_toArray, List.cons_append, List.nil_append]; exact congrArg List.toArray (list2 e41 e44)) ((compare_any _ (Al.getD (0) ([] : List UInt8)) (Bl.getD (0) ([] : List UInt8)) ((bytes_len32 (RG.elem hfa ([] : List UInt8) (by omega)))) ((bytes_len32 (RG.elem hfb ([] : List UInt8) (by omega))))).mono ?_)
     rintro e w2 ⟨rfl, hx⟩
     exact ⟨_, rfl, hx, rfl⟩
    ·refine stepN rfl fun σ w1 hC h => ?_
     have e45 := eqo (h 45 (by decide))
     exact Yk.eqI e45 (vr (NI 0) rfl) (z_leq _ .i64 (Lib.compareBytes (Al.getD (0) ([] : List UInt8)) (Bl.getD (0) ([] : List UInt8)) : Int) ((0 : Nat) : Int)) ⟨Ext.refl _, rfl⟩
   intro ρ38 w39 hx40 he hf
   obtain ⟨-, -, -, -, -, -, -, -, k46, -⟩ := hf
   obtain ⟨T0, T1, T4, T5, T6, T7, T37, -⟩ := he.hold [(0, _), (1, _), (4, _), (5, _), (6, _), (7, _), (37, .bool (true))] ⟨T0, T1, T4, T5, T6, T7, rfl, trivial⟩ rfl
   clear he
   have hE := hE.trans hx40
   have hA28 := hA28.trans hx40
   have hfo := hfo.keep hx40
   have T46 : ρ38 46 = .bool (decide ((Lib.compareBytes (Al.getD (0) ([] : List UInt8)) (Bl.getD (0) ([] : List UInt8)) : Int) ≤ ((0 : Nat) : Int))) := k46
   clear k46
   refine tN (hK37 _ _ ?_)
   refine wpF_cond ((Lib.compareBytes (Al.getD (0) ([] : List UInt8)) (Bl.getD (0) ([] : List UInt8)) : Int) ≤ ((0 : Nat) : Int)) T46 (fun hc2 => ?_) (fun hc2 => ?_)
   ·have hlow41 : ∀ k, Value.ownBlock vo = some k → w11.heap.size ≤ k := fun k hk => (hfo.2.lt k hk).1
    have hsz_ : w11.heap.size ≤ w39.heap.size := hA28.size
    refine wpF_draw_rowsX (Value.ownBlock vo) [5] [0] (fun m => if m = 5 then [0, 2, 4] else []) (fun m => if m = 5 then [0, 2, 4, 5, 8] else []) [fun x w' => RowG w11.heap.size w39.heap.size 25 32 (Lib.byteCells) (Value.ownBlock vo) (Ol) x w', Is (va), fun x w' => PR (Lib.byteCells (Al.getD (0) ([] : List UInt8))) x w', Is (AB (Al.getD (0) ([] : List UInt8))), fun x w' => RG 32 (Lib.byteCells) w' x ([(Al.getD (0) ([] : List UInt8))]), fun x w' => RowG w11.heap.size w39.heap.size 25 32 (Lib.byteCells) (Value.ownBlock vo) ((Ol) ++ [(Al.getD (0) ([] : List UInt8))]) x w', Is (va), fun x _ => RG 32 (Lib.byteCells) w11 x (Al.drop (1)), fun x w' => RowG w11.heap.size w39.heap.size 25 32 (Lib.byteCells) (Value.ownBlock vo) ((Ol) ++ [(Al.getD (0) ([] : List UInt8))]) x w', fun x _ => RG 32 (Lib.byteCells) w11 x (Al.drop (1))] (by kernel_rfl) [47, 48, 49, 50, 51, 52, 53, 54, 7, 5] (by kernel_rfl) (by kernel_rfl) (by kernel_rfl) (by kernel_rfl) (by kernel_rfl) rfl ⟨(fun _ _ _ h k => ⟨OG.keep h.1 k, h.2⟩), Stab.is _, (fun _ _ _ h k => PR.keep h k), Stab.is _, (fun _ _ _ h k => RG.keep h k), (fun _ _ _ h k => ⟨OG.keep h.1 k, h.2⟩), Stab.is _, (fun _ _ _ h _ => h), (fun _ _ _ h k => ⟨OG.keep h.1 k, h.2⟩), (fun _ _ _ h _ => h), trivial⟩ ⟨⟨.inl rfl, .inr (Stab.is _), .inl rfl, .inr (Stab.is _), .inl rfl, .inl rfl, .inr (Stab.is _), .inr ((fun _ _ _ h _ => h)), .inl rfl, .inr ((fun _ _ _ h _ => h)), trivial⟩, trivial⟩ ?hs3007 ?hQ3007
    case hs3007 =>
     refine ⟨?_, ?_, ?_, ?_, ?_, ?_, ?_, ?_, ?_, ?_, trivial⟩
     ·refine stepN rfl fun σ w1 hC h => ?_
      have hX : Ext w39 w1 := hC
      have hC : BX w39.heap.size (Value.ownBlock vo) w39 w1 := BX.ofExt hX (Nat.le_refl _)
      have e7 := (eqo (h 7 (by decide))).trans T7
      exact Yk.move e7 ⟨Ext.refl _, OG.keep hfo hX, fun k hk => .inl hk⟩
     ·refine stepN rfl fun σ w1 hC h => ?_
      have hC : BX w39.heap.size (Value.ownBlock vo) w39 w1 := hC
      have e5 := (eqo (h 5 (by decide))).trans T5
      exact Yk.move e5 ⟨Ext.refl _, rfl⟩
     ·refine stepN rfl fun σ w1 hC h => ?_
      have hC : BX w39.heap.size (Value.ownBlock vo) w39 w1 := hC
      have e48 := eqo (h 48 (by decide))
      exact Yk.atRG wr45_ty23 wr45_szg25 (by decide) ([] : List UInt8) (RG.of (hfa.keep (ext_bx hA28 hC (by omega) (fun k hk => by have := hlow41 k hk; omega))) e48) (vr (NI 0) rfl) (by omega) fun v h => ⟨Ext.refl _, h⟩
     ·refine stepN rfl fun σ w1 hC h => ?_
      have hC : BX w39.heap.size (Value.ownBlock vo) w39 w1 := hC
      have e49 : (fun x w' => PR (Lib.byteCells (Al.getD (0) ([] : List UInt8))) x w') (σ 49) w1 := h 49 (by decide)
      exact Yk.loadPR e49 wr45_ty25 rfl (by rw [RG.elem hfa ([] : List UInt8) (by omega)]; exact wr45_isz25) ⟨Ext.refl _, rfl⟩
     ·refine stepN rfl fun σ w1 hC h => ?_
      have hC : BX w39.heap.size (Value.ownBlock vo) w39 w1 := hC
      have e50 := eqo (h 50 (by decide))
      exact Yk.lit1G (a := (Al.getD (0) ([] : List UInt8))) (enc := Lib.byteCells) e50 (by rw [Lib.byteCells_length]; exact (bytes_len32 (RG.elem hfa ([] : List UInt8) (by omega)))) wr45_lg23 fun v w2 h hx => ⟨hx, h⟩
     ·refine stepN rfl fun σ w1 hC h => ?_
      have hC : BX w39.heap.size (Value.ownBlock vo) w39 w1 := hC
      have e47 : (fun x w' => RowG w11.heap.size w39.heap.size 25 32 (Lib.byteCells) (Value.ownBlock vo) (Ol) x w') (σ 47) w1 := h 47 (by decide)
      have e51 : (fun x w' => RG 32 (Lib.byteCells) w' x ([(Al.getD (0) ([] : List UInt8))])) (σ 51) w1 := h 51 (by decide)
      exact Yk.appendRG _ _ w11.heap.size _ 32 wr45_ty23 wr45_ig25.choose_spec.1 wr45_ig25.choose_spec.2 wr45_ty23 (Ol) ([(Al.getD (0) ([] : List UInt8))]) e47.1 e51 (fun _ _ => byteCells_one _) (by simp only [List.length_cons, List.length_nil]; omega) (by simp only [List.length_cons, List.length_nil]; omega) (Nat.le_trans hsz_ hC.size) fun v w2 ho hg => ⟨BX.ofGrown hg.by_ hC.size e47.2, ho, fun k hk => (hg.fresh k hk).elim (e47.2 k) (fun x => .inr (Nat.le_trans hC.size x))⟩
     ·refine stepN rfl fun σ w1 hC h => ?_
      have hC : BX w39.heap.size (Value.ownBlock vo) w39 w1 := hC
      have e5 := (eqo (h 5 (by decide))).trans T5
      exact Yk.move e5 ⟨Ext.refl _, rfl⟩
     ·refine stepN rfl fun σ w1 hC h => ?_
      have hC : BX w39.heap.size (Value.ownBlock vo) w39 w1 := hC
      have e53 := eqo (h 53 (by decide))
      exact Yk.sliceLoW wr45_ty23 wr45_szg25 e53 hfa (vr (NI 1) rfl) (by omega) fun v h _ => ⟨Ext.refl _, h⟩
     ·refine stepN rfl fun σ w1 hC h => ?_
      have hC : BX w39.heap.size (Value.ownBlock vo) w39 w1 := hC
      have e52 : (fun x w' => RowG w11.heap.size w39.heap.size 25 32 (Lib.byteCells) (Value.ownBlock vo) ((Ol) ++ [(Al.getD (0) ([] : List UInt8))]) x w') (σ 52) w1 := h 52 (by decide)
      exact Yk.assign rfl ⟨Ext.refl _, e52⟩
     ·refine stepN rfl fun σ w1 hC h => ?_
      have hC : BX w39.heap.size (Value.ownBlock vo) w39 w1 := hC
      have e54 : (fun x _ => RG 32 (Lib.byteCells) w11 x (Al.drop (1))) (σ 54) w1 := h 54 (by decide)
      exact Yk.assign rfl ⟨Ext.refl _, e54⟩
    intro ρ42 w43 hx44 he hf
    obtain ⟨-, -, -, -, -, -, -, -, k7, k5, -⟩ := hf
    obtain ⟨T0, T1, T4, T6, T37, -⟩ := he.hold [(0, _), (1, _), (4, _), (6, _), (37, _)] ⟨T0, T1, T4, T6, T37, trivial⟩ rfl
    clear he
    have k7 : (fun x w' => RowG w11.heap.size w39.heap.size 25 32 (Lib.byteCells) (Value.ownBlock vo) ((Ol) ++ [(Al.getD (0) ([] : List UInt8))]) x w') (ρ42 7) w43 := k7
    obtain ⟨v45, T7⟩ : ∃ v, ρ42 7 = v := ⟨_, rfl⟩
    rw [T7] at k7
    have hg46 : Grew w39 w43 vo v45 := ⟨hx44.grown, k7.2⟩
    have ho47 := k7.1; clear k7
    have hE := ext_grew hE hg46 hfo.2 hz30
    have hA28 := ext_grew hA28 hg46 hfo.2 (Nat.le_refl _)
    clear hfo
    have k5 : (fun x _ => RG 32 (Lib.byteCells) w11 x (Al.drop (1))) (ρ42 5) w43 := k5
    obtain ⟨v48, T5⟩ : ∃ v, ρ42 5 = v := ⟨_, rfl⟩
    rw [T5] at k5
    have hk49 := k5; clear k5
    refine bN (tN (And.intro ⟨v48, vb, Al.drop (1), Bl, (Ol) ++ [(Al.getD (0) ([] : List UInt8))], v45, T0, T1, T4, T5, T6, T7, hE, hA28, hk49, hfb, ho47, hMI.left (by omega) (by omega) hc2, trivial⟩ ?_))
    show sliceLen (ρ42 5) + sliceLen (ρ42 6) < sliceLen (ρ33 5) + sliceLen (ρ33 6)
    rw [T5, T6, q5, q6]
    have n5 := hk49.sliceLen
    have n6 := hfb.sliceLen
    try rw [n5]
    try rw [n6]
    try rw [qa]
    try rw [qb]
    simp only [List.length_drop]
    omega
   have hlow50 : ∀ k, Value.ownBlock vo = some k → w11.heap.size ≤ k := fun k hk => (hfo.2.lt k hk).1
   have hsz_ : w11.heap.size ≤ w39.heap.size := hA28.size
   refine wpF_draw_rowsX (Value.ownBlock vo) [5] [0] (fun m => if m = 5 then [0, 2, 4] else []) (fun m => if m = 5 then [0, 2, 4, 5, 8] else []) [fun x w' => RowG w11.heap.size w39.heap.size 25 32 (Lib.byteCells) (Value.ownBlock vo) (Ol) x w', Is (vb), fun x w' => PR (Lib.byteCells (Bl.getD (0) ([] : List UInt8))) x w', Is (AB (Bl.getD (0) ([] : List UInt8))), fun x w' => RG 32 (Lib.byteCells) w' x ([(Bl.getD (0) ([] : List UInt8))]), fun x w' => RowG w11.heap.size w39.heap.size 25 32 (Lib.byteCells) (Value.ownBlock vo) ((Ol) ++ [(Bl.getD (0) ([] : List UInt8))]) x w', Is (vb), fun x _ => RG 32 (Lib.byteCells) w11 x (Bl.drop (1)), fun x w' => RowG w11.heap.size w39.heap.size 25 32 (Lib.byteCells) (Value.ownBlock vo) ((Ol) ++ [(Bl.getD (0) ([] : List UInt8))]) x w', fun x _ => RG 32 (Lib.byteCells) w11 x (Bl.drop (1))] (by kernel_rfl) [55, 56, 57, 58, 59, 60, 61, 62, 7, 6] (by kernel_rfl) (by kernel_rfl) (by kernel_rfl) (by kernel_rfl) (by kernel_rfl) rfl ⟨(fun _ _ _ h k => ⟨OG.keep h.1 k, h.2⟩), Stab.is _, (fun _ _ _ h k => PR.keep h k), Stab.is _, (fun _ _ _ h k => RG.keep h k), (fun _ _ _ h k => ⟨OG.keep h.1 k, h.2⟩), Stab.is _, (fun _ _ _ h _ => h), (fun _ _ _ h k => ⟨OG.keep h.1 k, h.2⟩), (fun _ _ _ h _ => h), trivial⟩ ⟨⟨.inl rfl, .inr (Stab.is _), .inl rfl, .inr (Stab.is _), .inl rfl, .inl rfl, .inr (Stab.is _), .inr ((fun _ _ _ h _ => h)), .inl rfl, .inr ((fun _ _ _ h _ => h)), trivial⟩, trivial⟩ ?hs4008 ?hQ4008
   case hs4008 =>
    refine ⟨?_, ?_, ?_, ?_, ?_, ?_, ?_, ?_, ?_, ?_, trivial⟩
    ·refine stepN rfl fun σ w1 hC h => ?_
     have hX : Ext w39 w1 := hC
     have hC : BX w39.heap.size (Value.ownBlock vo) w39 w1 := BX.ofExt hX (Nat.le_refl _)
     have e7 := (eqo (h 7 (by decide))).trans T7
     exact Yk.move e7 ⟨Ext.refl _, OG.keep hfo hX, fun k hk => .inl hk⟩
    ·refine stepN rfl fun σ w1 hC h => ?_
     have hC : BX w39.heap.size (Value.ownBlock vo) w39 w1 := hC
     have e6 := (eqo (h 6 (by decide))).trans T6
     exact Yk.move e6 ⟨Ext.refl _, rfl⟩
    ·refine stepN rfl fun σ w1 hC h => ?_
     have hC : BX w39.heap.size (Value.ownBlock vo) w39 w1 := hC
     have e56 := eqo (h 56 (by decide))
     exact Yk.atRG wr45_ty23 wr45_szg25 (by decide) ([] : List UInt8) (RG.of (hfb.keep (ext_bx hA28 hC (by omega) (fun k hk => by have := hlow50 k hk; omega))) e56) (vr (NI 0) rfl) (by omega) fun v h => ⟨Ext.refl _, h⟩
    ·refine stepN rfl fun σ w1 hC h => ?_
     have hC : BX w39.heap.size (Value.ownBlock vo) w39 w1 := hC
     have e57 : (fun x w' => PR (Lib.byteCells (Bl.getD (0) ([] : List UInt8))) x w') (σ 57) w1 := h 57 (by decide)
     exact Yk.loadPR e57 wr45_ty25 rfl (by rw [RG.elem hfb ([] : List UInt8) (by omega)]; exact wr45_isz25) ⟨Ext.refl _, rfl⟩
    ·refine stepN rfl fun σ w1 hC h => ?_
     have hC : BX w39.heap.size (Value.ownBlock vo) w39 w1 := hC
     have e58 := eqo (h 58 (by decide))
     exact Yk.lit1G (a := (Bl.getD (0) ([] : List UInt8))) (enc := Lib.byteCells) e58 (by rw [Lib.byteCells_length]; exact (bytes_len32 (RG.elem hfb ([] : List UInt8) (by omega)))) wr45_lg23 fun v w2 h hx => ⟨hx, h⟩
    ·refine stepN rfl fun σ w1 hC h => ?_
     have hC : BX w39.heap.size (Value.ownBlock vo) w39 w1 := hC
     have e55 : (fun x w' => RowG w11.heap.size w39.heap.size 25 32 (Lib.byteCells) (Value.ownBlock vo) (Ol) x w') (σ 55) w1 := h 55 (by decide)
     have e59 : (fun x w' => RG 32 (Lib.byteCells) w' x ([(Bl.getD (0) ([] : List UInt8))])) (σ 59) w1 := h 59 (by decide)
     exact Yk.appendRG _ _ w11.heap.size _ 32 wr45_ty23 wr45_ig25.choose_spec.1 wr45_ig25.choose_spec.2 wr45_ty23 (Ol) ([(Bl.getD (0) ([] : List UInt8))]) e55.1 e59 (fun _ _ => byteCells_one _) (by simp only [List.length_cons, List.length_nil]; omega) (by simp only [List.length_cons, List.length_nil]; omega) (Nat.le_trans hsz_ hC.size) fun v w2 ho hg => ⟨BX.ofGrown hg.by_ hC.size e55.2, ho, fun k hk => (hg.fresh k hk).elim (e55.2 k) (fun x => .inr (Nat.le_trans hC.size x))⟩
    ·refine stepN rfl fun σ w1 hC h => ?_
     have hC : BX w39.heap.size (Value.ownBlock vo) w39 w1 := hC
     have e6 := (eqo (h 6 (by decide))).trans T6
     exact Yk.move e6 ⟨Ext.refl _, rfl⟩
    ·refine stepN rfl fun σ w1 hC h => ?_
     have hC : BX w39.heap.size (Value.ownBlock vo) w39 w1 := hC
     have e61 := eqo (h 61 (by decide))
     exact Yk.sliceLoW wr45_ty23 wr45_szg25 e61 hfb (vr (NI 1) rfl) (by omega) fun v h _ => ⟨Ext.refl _, h⟩
    ·refine stepN rfl fun σ w1 hC h => ?_
     have hC : BX w39.heap.size (Value.ownBlock vo) w39 w1 := hC
     have e60 : (fun x w' => RowG w11.heap.size w39.heap.size 25 32 (Lib.byteCells) (Value.ownBlock vo) ((Ol) ++ [(Bl.getD (0) ([] : List UInt8))]) x w') (σ 60) w1 := h 60 (by decide)
     exact Yk.assign rfl ⟨Ext.refl _, e60⟩
    ·refine stepN rfl fun σ w1 hC h => ?_
     have hC : BX w39.heap.size (Value.ownBlock vo) w39 w1 := hC
     have e62 : (fun x _ => RG 32 (Lib.byteCells) w11 x (Bl.drop (1))) (σ 62) w1 := h 62 (by decide)
     exact Yk.assign rfl ⟨Ext.refl _, e62⟩
   intro ρ51 w52 hx53 he hf
   obtain ⟨-, -, -, -, -, -, -, -, k7, k6, -⟩ := hf
   obtain ⟨T0, T1, T4, T5, T37, -⟩ := he.hold [(0, _), (1, _), (4, _), (5, _), (37, _)] ⟨T0, T1, T4, T5, T37, trivial⟩ rfl
   clear he
   have k7 : (fun x w' => RowG w11.heap.size w39.heap.size 25 32 (Lib.byteCells) (Value.ownBlock vo) ((Ol) ++ [(Bl.getD (0) ([] : List UInt8))]) x w') (ρ51 7) w52 := k7
   obtain ⟨v54, T7⟩ : ∃ v, ρ51 7 = v := ⟨_, rfl⟩
   rw [T7] at k7
   have hg55 : Grew w39 w52 vo v54 := ⟨hx53.grown, k7.2⟩
   have ho56 := k7.1; clear k7
   have hE := ext_grew hE hg55 hfo.2 hz30
   have hA28 := ext_grew hA28 hg55 hfo.2 (Nat.le_refl _)
   clear hfo
   have k6 : (fun x _ => RG 32 (Lib.byteCells) w11 x (Bl.drop (1))) (ρ51 6) w52 := k6
   obtain ⟨v57, T6⟩ : ∃ v, ρ51 6 = v := ⟨_, rfl⟩
   rw [T6] at k6
   have hk58 := k6; clear k6
   refine bN (tN (And.intro ⟨va, v57, Al, Bl.drop (1), (Ol) ++ [(Bl.getD (0) ([] : List UInt8))], v54, T0, T1, T4, T5, T6, T7, hE, hA28, hfa, hk58, ho56, hMI.right (by omega) (by omega) hc2, trivial⟩ ?_))
   show sliceLen (ρ51 5) + sliceLen (ρ51 6) < sliceLen (ρ33 5) + sliceLen (ρ33 6)
   rw [T5, T6, q5, q6]
   have n5 := hfa.sliceLen
   have n6 := hk58.sliceLen
   try rw [n5]
   try rw [n6]
   try rw [qa]
   try rw [qb]
   simp only [List.length_drop]
   omega
  refine sk fun K59 hK59 => (sk fun K60 hK60 => (wt (oM rfl (oS rfl (Yk.lenRG wr45_ty23 (RG.of (hfa.keep hA28) T5) (oS rfl (Yk.eqI (a := (Al.length : Nat)) (b := (0 : Nat)) rfl rfl (k_gtr _ _ _ _) (oM rfl (oY (d := 33) rfl rfl (vr (.bool (true)) (congrArg Value.bool (decide_eq_true (hga)))) (Yk.move T6 (oY (d := 33) rfl rfl (vr (.bool (true)) (congrArg Value.bool (decide_eq_true (hga)))) (Yk.lenRG wr45_ty23 (RG.of (hfb.keep hA28) (vr vb rfl)) (oY (d := 33) rfl rfl (vr (.bool (true)) (congrArg Value.bool (decide_eq_true (hga)))) (Yk.eqI (a := (Bl.length : Nat)) (b := (0 : Nat)) rfl rfl (k_gtr _ _ _ _) (oS rfl (Yk.pickT (vr (.bool (true)) (congrArg Value.bool (decide_eq_true (hga)))) (vr (.bool (false)) (congrArg Value.bool (decide_eq_false (hgb)))) (oZ (tN (hK60 _ _ (wpF_false (vr (.bool (false)) rfl) (wpF_exit (thenF_exit (thenF_exit (inBlockF_hit (tN (hK32 _ _ ?_))))))))))))))))))))))))))
  refine sk fun K61 hK61 => (wt (oM rfl (oM rfl (oS rfl (Yk.appendRG _ _ w11.heap.size _ 32 wr45_ty23 wr45_ig25.choose_spec.1 wr45_ig25.choose_spec.2 wr45_ty23 (Ol) (Al) (OG.of hfo T7) (RG.of (hfa.keep hA28) T5) (fun _ _ => byteCells_one _) (by omega) (by omega) hA28.size fun v62 w63 ho64 hg65 => ?_)))))
  have hg65 : Grew w34 w63 vo v62 := .eqv T7 hg65
  have hE := ext_grew hE hg65 hfo.2 hz30
  have hA28 := ext_grew hA28 hg65 hfo.2 (Nat.le_refl _)
  clear hfo
  refine oM rfl (oS rfl (Yk.appendRG _ _ w11.heap.size _ 32 wr45_ty23 wr45_ig25.choose_spec.1 wr45_ig25.choose_spec.2 wr45_ty23 ((Ol) ++ Al) (Bl) (OG.of ho64 (vr v62 rfl)) (RG.of (hfb.keep hA28) T6) (fun _ _ => byteCells_one _) (by simp only [List.length_append]; omega) (by simp only [List.length_append]; omega) hA28.size fun v66 w67 ho68 hg69 => ?_))
  have hg69 : Grew w63 w67 v62 v66 := hg69
  have hE := ext_grew hE hg69 ho64.2 hz30
  have hA28 := ext_grew hA28 hg69 ho64.2 (Nat.le_refl _)
  clear ho64
  refine oA rfl (oZ (tN (hK61 _ _ (wpF_ret (postF_ret (fn := Tryd.f167) _ rfl [v66] (v66) rfl ⟨rfl, trivial⟩ ?_)))))
  obtain ⟨hpm, hasc⟩ := hMI.done (by omega)
  exact ⟨_, _, rfl, OG.base ho68 (by omega), hpm, hasc, hE⟩
 refine sk fun K70 hK70 => (sk fun K71 hK71 => (wt (oM rfl (oS rfl (Yk.lenRG wr45_ty23 (RG.of (hfa.keep hA28) T5) (oS rfl (Yk.eqI (a := (Al.length : Nat)) (b := (0 : Nat)) rfl rfl (k_gtr _ _ _ _) (oM rfl (oN (d := 33) rfl rfl rfl (vr (.bool (false)) (congrArg Value.bool (decide_eq_false (hga)))) rfl (oN (d := 33) rfl rfl rfl (vr (.bool (false)) (congrArg Value.bool (decide_eq_false (hga)))) rfl (oN (d := 33) rfl rfl rfl (vr (.bool (false)) (congrArg Value.bool (decide_eq_false (hga)))) rfl (oS rfl (Yk.pickF (vr (.bool (false)) (congrArg Value.bool (decide_eq_false (hga)))) (vr (.bool (false)) rfl) (oZ (tN (hK71 _ _ (wpF_false (vr (.bool (false)) rfl) (wpF_exit (thenF_exit (thenF_exit (inBlockF_hit (tN (hK32 _ _ ?_)))))))))))))))))))))))
 refine sk fun K72 hK72 => (wt (oM rfl (oM rfl (oS rfl (Yk.appendRG _ _ w11.heap.size _ 32 wr45_ty23 wr45_ig25.choose_spec.1 wr45_ig25.choose_spec.2 wr45_ty23 (Ol) (Al) (OG.of hfo T7) (RG.of (hfa.keep hA28) T5) (fun _ _ => byteCells_one _) (by omega) (by omega) hA28.size fun v73 w74 ho75 hg76 => ?_)))))
 have hg76 : Grew w34 w74 vo v73 := .eqv T7 hg76
 have hE := ext_grew hE hg76 hfo.2 hz30
 have hA28 := ext_grew hA28 hg76 hfo.2 (Nat.le_refl _)
 clear hfo
 refine oM rfl (oS rfl (Yk.appendRG _ _ w11.heap.size _ 32 wr45_ty23 wr45_ig25.choose_spec.1 wr45_ig25.choose_spec.2 wr45_ty23 ((Ol) ++ Al) (Bl) (OG.of ho75 (vr v73 rfl)) (RG.of (hfb.keep hA28) T6) (fun _ _ => byteCells_one _) (by simp only [List.length_append]; omega) (by simp only [List.length_append]; omega) hA28.size fun v77 w78 ho79 hg80 => ?_))
 have hg80 : Grew w74 w78 v73 v77 := hg80
 have hE := ext_grew hE hg80 ho75.2 hz30
 have hA28 := ext_grew hA28 hg80 ho75.2 (Nat.le_refl _)
 clear ho75
 refine oA rfl (oZ (tN (hK72 _ _ (wpF_ret (postF_ret (fn := Tryd.f167) _ rfl [v77] (v77) rfl ⟨rfl, trivial⟩ ?_)))))
 obtain ⟨hpm, hasc⟩ := hMI.done (by omega)
 exact ⟨_, _, rfl, OG.base ho79 (by omega), hpm, hasc, hE⟩

theorem merge_any : ∀ (n : Nat) (l : List Bs), l.length = n → l.length ≤ 1048576 → ∀ (w : World) (v : Value), RG 32 Lib.byteCells w v l → Calls Tryd.prog 167 #[v, .func (.func 142) #[] #[]] w fun e w' => ∃ v' m, e = .returned v' ∧ OG w.heap.size 25 32 Lib.byteCells w' v' m ∧ m.Perm l ∧ Asc m ∧ Ext w w' := by
 intro n
 induction n using Nat.strongRecOn with
 | _ n ih => exact fun l hn hlim w v hr => merge_step n (fun l' hl w v hr => ih l'.length hl l' rfl (by omega) w v hr) l hn hlim w v hr

theorem sort_any (w : World) (v : Value) (l : List Bs) (hlim : l.length ≤ 1048576) (hr : RG 32 Lib.byteCells w v l) :
  Calls Tryd.prog 153 #[v] w fun e w' => ∃ v', e = .returned v' ∧ OG w.heap.size 25 32 Lib.byteCells w' v' (sortB l) ∧ Ext w w' := by
 refine calls_of_wpF (args := [v]) Tryd.func153 rfl 5 rfl (Nat.le_of_ble_eq_true rfl) ?_
 intro ρ0 hb
 have T0 : ρ0 0 = (v : Value) := hb.get 0
 clear hb
 have hE := Ext.refl w
 refine sk fun K1 hK1 => (wt (oA rfl (oZ (tN (hK1 _ _ (sk fun K2 hK2 => (wt (oM rfl (oS rfl (Yk.callA2 wr45_pl167 T0 rfl ((merge_any _ l rfl hlim _ v hr).mono ?_)))))))))))
 rintro e w9 ⟨v3, m4, rfl, hr5, hp6, ha7, hx8⟩
 refine ⟨_, rfl, ?_⟩
 have hms := asc_sortB ha7 hp6
 subst hms
 have hr := hr.keep hx8
 have hE := hE.trans hx8
 refine oA rfl (oZ (tN (hK2 _ _ (wpF_ret (postF_ret (fn := Tryd.f153) _ rfl [v3] (v3) rfl ⟨rfl, trivial⟩ ?_)))))
 exact ⟨_, rfl, hr5, hE⟩
open Go.RowKit
def SAsc (l : List Bs) : Prop := l.Pairwise fun a b => Lib.compareBytes a b < 0
theorem int_lt {a : Int} (h : a ≤ 0) (h2 : a ≠ 0) : a < 0 := by omega
theorem cmp_lt {a b c : Bs} (h1 : Lib.compareBytes a b < 0) (h2 : Lib.compareBytes b c < 0) : Lib.compareBytes a c < 0 := by
  have h := cmp_trans (a := a) (b := b) (c := c) (by omega) (by omega)
  refine int_lt h fun e => ?_
  have e := cmp_zero e
  subst e
  have := cmp_neg a b
  omega
theorem getD_mem' {l : List Bs} {i : Nat} (hi : i < l.length) : l.getD i [] ∈ l := getD_mem [] hi
theorem getD_get {l : List Bs} {i : Nat} (hi : i < l.length) : l.getD i [] = l[i] := by rw [List.getD_eq_getElem?_getD, List.getElem?_eq_getElem hi]; rfl
theorem asc_at {l : List Bs} (h : Asc l) {i j : Nat} (hij : i < j) (hj : j < l.length) : Lib.compareBytes (l.getD i []) (l.getD j []) ≤ 0 := by
  rw [getD_get (by omega), getD_get hj]
  exact List.pairwise_iff_getElem.1 h i j (by omega) hj hij
theorem sasc_at {l : List Bs} (h : SAsc l) {i j : Nat} (hij : i < j) (hj : j < l.length) : Lib.compareBytes (l.getD i []) (l.getD j []) < 0 := by
  rw [getD_get (by omega), getD_get hj]
  exact List.pairwise_iff_getElem.1 h i j (by omega) hj hij
theorem mem_takeD {l : List Bs} {i : Nat} {x : Bs} (h : x ∈ l.take i) : ∃ j, j < i ∧ j < l.length ∧ x = l.getD j [] := by
  obtain ⟨j, hj, rfl⟩ := List.mem_iff_getElem.1 h
  rw [List.length_take] at hj
  exact ⟨j, by omega, by omega, by rw [List.getElem_take, getD_get]⟩
theorem take_memS {l : List Bs} {i : Nat} {x : Bs} (hi : i < l.length) : x ∈ l.take (i + 1) ↔ x ∈ l.take i ∨ x = l.getD i [] := by
  rw [List.take_succ_eq_append_getElem hi, List.mem_append, List.mem_singleton, getD_get hi]
section
variable {m o : List Bs} {i : Nat}
theorem uniq_new (hm : Asc m) (hi : i < m.length) (hS : SAsc o) (hmem : ∀ x, x ∈ o ↔ x ∈ m.take i) (h : o.length = 0 ∨ o.getD (o.length - 1) [] ≠ m.getD i []) : SAsc (o ++ [m.getD i []]) := by
  refine List.pairwise_append.2 ⟨hS, by simp, fun a ha b hb => ?_⟩
  rw [List.mem_singleton.1 hb]
  have hle : ∀ c ∈ o, Lib.compareBytes c (m.getD i []) ≤ 0 := fun c hc => by
    obtain ⟨j, h1, h2, rfl⟩ := mem_takeD ((hmem c).1 hc)
    exact asc_at hm h1 hi
  refine int_lt (hle a ha) fun e => ?_
  have e := cmp_zero e
  obtain ⟨k, hk, hka⟩ := List.mem_iff_getElem.1 ha
  rcases h with h | h
  · omega
  · by_cases hkl : k = o.length - 1
    · refine h ?_
      rw [getD_get (by omega), ← e, ← hka]
      congr 1
      omega
    · have h1 := sasc_at hS (i := k) (j := o.length - 1) (by omega) (by omega)
      rw [getD_get hk, hka, e] at h1
      have h2 := hle _ (getD_mem' (l := o) (i := o.length - 1) (by omega))
      have h3 := cmp_neg (m.getD i []) (o.getD (o.length - 1) [])
      omega
theorem uniq_memT (hi : i < m.length) (hmem : ∀ x, x ∈ o ↔ x ∈ m.take i) : ∀ x, x ∈ o ++ [m.getD i []] ↔ x ∈ m.take (i + 1) := fun x => by
  rw [take_memS hi, List.mem_append, List.mem_singleton, hmem]
theorem uniq_memF (hi : i < m.length) (hmem : ∀ x, x ∈ o ↔ x ∈ m.take i) (h0 : ¬ o.length = 0) (h : ¬ o.getD (o.length - 1) [] ≠ m.getD i []) : ∀ x, x ∈ o ↔ x ∈ m.take (i + 1) := fun x => by
  rw [take_memS hi, ← hmem]
  constructor
  · exact .inl
  · rintro (h1 | rfl)
    · exact h1
    · rw [← Classical.not_not.1 h]; exact getD_mem' (by omega)
end
section
variable {l : List Bs} {x : Bs} {i : Nat}
theorem place_lo (hS : SAsc l) (hi : i < l.length) (h : Lib.compareBytes (l.getD i []) x < 0) : ∀ j, j < i + 1 → Lib.compareBytes (l.getD j []) x < 0 := fun j hj => by
  by_cases e : j = i
  · rw [e]; exact h
  · exact cmp_lt (sasc_at hS (by omega) hi) h
theorem place_hi (hS : SAsc l) (h : 0 < Lib.compareBytes (l.getD i []) x) : ∀ j, i ≤ j → j < l.length → 0 < Lib.compareBytes (l.getD j []) x := fun j hj hl => by
  by_cases e : i = j
  · rw [← e]; exact h
  · have h1 := sasc_at hS (i := i) (j := j) (by omega) hl
    have h2 := cmp_neg x (l.getD i [])
    have h4 := cmp_neg x (l.getD j [])
    have h3 := cmp_lt (a := x) (b := l.getD i []) (c := l.getD j []) (by omega) h1
    omega
theorem place_no {p : Nat} (h1 : ∀ j, j < p → Lib.compareBytes (l.getD j []) x < 0) (h2 : ∀ j, p ≤ j → j < l.length → 0 < Lib.compareBytes (l.getD j []) x) : x ∉ l := fun hx => by
  obtain ⟨j, hj, e⟩ := List.mem_iff_getElem.1 hx
  have e : l.getD j [] = x := by rw [getD_get hj, e]
  by_cases h : j < p
  · have := h1 j h; rw [e, cmp_self] at this; omega
  · have := h2 j (by omega) hj; rw [e, cmp_self] at this; omega
end
def pickB (a b : List Bs) (q : Bool) : List Bs := a.filter fun x => decide (x ∈ b) == q
theorem pick_memS {a b : List Bs} {q : Bool} : ∀ {i : Nat}, i < a.length → pickB (a.take (i + 1)) b q = pickB (a.take i) b q ++ (if (decide (a.getD i [] ∈ b) == q) = true then [a.getD i []] else []) := fun {i} hi => by
  unfold pickB
  rw [List.take_succ_eq_append_getElem hi, List.filter_append, getD_get hi]
  congr 1
  rw [List.filter_cons, List.filter_nil]
theorem pick_sasc {a b : List Bs} {q : Bool} (h : SAsc a) : SAsc (pickB a b q) := h.filter _
open Go.RowKit
set_option maxRecDepth 100000
theorem wr46_pl153 : Plain Tryd.prog 153 := fun _ _ => by kernel_rfl
theorem wr46_ty23 : Tryd.prog.underlying 23 = some (.slice 25) := by kernel_rfl
theorem wr46_szg25 : ∀ w' : World, (sizeOf 25).run Tryd.prog w' = .ok 32 w' := fun _ => by kernel_rfl
theorem wr46_ty25 : Tryd.prog.underlying 25 = some (.array 32 5) := by kernel_rfl
theorem wr46_isz25 : (Tryd.prog.info? 25).map (·.size) = some 32 := by kernel_rfl
theorem wr46_al25 {d : Option Tmp} {ty : TypeId} {pos : String} {af : Array Edge} {gd : Option (Nat × Bool)} (σ : Operand → Value) (w : World) : (execOp σ ⟨d, .alloc 25, ty, pos, af, gd⟩).run Tryd.prog w = .ok (.value (PQ w.heap.size 0)) (w.alloc (.cells (Lib.byteCells (List.replicate 32 0)).toArray 25)) := by kernel_rfl
theorem wr46_lh23 (c0 c1 c2 c3 c4 c5 c6 c7 c8 c9 c10 c11 c12 c13 c14 c15 c16 c17 c18 c19 c20 c21 c22 c23 c24 c25 c26 c27 c28 c29 c30 c31 : Value) (w : World) : (Instr.buildSlice 23 1 #[(0, .agg #[c0, c1, c2, c3, c4, c5, c6, c7, c8, c9, c10, c11, c12, c13, c14, c15, c16, c17, c18, c19, c20, c21, c22, c23, c24, c25, c26, c27, c28, c29, c30, c31])]).run Tryd.prog w = .ok (.slice (some ⟨w.heap.size, 0, none⟩) 1 1) (w.alloc (.cells #[c0, c1, c2, c3, c4, c5, c6, c7, c8, c9, c10, c11, c12, c13, c14, c15, c16, c17, c18, c19, c20, c21, c22, c23, c24, c25, c26, c27, c28, c29, c30, c31] 25)) := by kernel_rfl
theorem wr46_lg23 : ∀ (cs : Array Value), cs.size = 32 → ∀ w : World, (Instr.buildSlice 23 1 #[(0, .agg cs)]).run Tryd.prog w = .ok (.slice (some ⟨w.heap.size, 0, none⟩) 1 1) (w.alloc (.cells cs 25))
 | ⟨[c0, c1, c2, c3, c4, c5, c6, c7, c8, c9, c10, c11, c12, c13, c14, c15, c16, c17, c18, c19, c20, c21, c22, c23, c24, c25, c26, c27, c28, c29, c30, c31]⟩, _, w => wr46_lh23 c0 c1 c2 c3 c4 c5 c6 c7 c8 c9 c10 c11 c12 c13 c14 c15 c16 c17 c18 c19 c20 c21 c22 c23 c24 c25 c26 c27 c28 c29 c30 c31 w
theorem wr46_ig25 : ∃ z, (Tryd.prog.info? 25).map (fun i => (i.zero, i.size, i.bytes)) = some (some z, 32, 32) ∧ z.cells.size = 32 := info_ex (by kernel_rfl)
theorem wr46_eg25 : Tryd.prog.eqGuardType Tryd.prog.depth 25 = false := by kernel_rfl
theorem wr46_ty5 : Tryd.prog.underlying 5 = some (.int .u8) := by kernel_rfl
theorem wr46_sz5 : ∀ w' : World, (sizeOf 5).run Tryd.prog w' = .ok 1 w' := fun _ => by kernel_rfl
theorem wr46_pl142 : Plain Tryd.prog 142 := fun _ _ => by kernel_rfl
theorem wr46_pl134 : Plain Tryd.prog 134 := fun _ _ => by kernel_rfl
theorem wr46_pl135 : Plain Tryd.prog 135 := fun _ _ => by kernel_rfl
theorem wr46_ty4 : Tryd.prog.underlying 4 = some (.bool) := by kernel_rfl
theorem wr46_pl93 : Plain Tryd.prog 93 := fun _ _ => by kernel_rfl
set_option maxHeartbeats 1600000
theorem set_any (w : World) (v : Value) (l : List Bs) (hr : RG 32 Lib.byteCells w v l) (hl : l.length ≤ 100000) :
  Calls Tryd.prog 134 #[v] w fun e w' => ∃ v' o, e = .returned v' ∧ OG w.heap.size 25 32 Lib.byteCells w' v' o ∧ SAsc o ∧ (∀ x, x ∈ o ↔ x ∈ l) ∧ o.length ≤ l.length ∧ Ext w w' := by
 refine calls_of_wpF (args := [v]) Tryd.func134 rfl 32 rfl (Nat.le_of_ble_eq_true rfl) ?_
 intro ρ0 hb
 have T0 : ρ0 0 = (v : Value) := hb.get 0
 clear hb
 have hE := Ext.refl w
 refine sk fun K1 hK1 => (wt (oA rfl (oZ (tN (hK1 _ _ (sk fun K2 hK2 => (wt (oA rfl (oZ (tN (hK2 _ _ (sk fun K3 hK3 => (sk fun K4 hK4 => (wt (oM rfl (oS rfl (Yk.callA1 wr46_pl153 T0 ((sort_any _ v l (by omega) hr).mono ?_))))))))))))))))))
 rintro e w8 ⟨v5, rfl, ho6, hx7⟩
 refine ⟨_, rfl, ?_⟩
 have hr := hr.keep hx7
 have hE := hE.trans hx7
 have ho6 := RG.ofOwn ho6
 obtain ⟨m, hm⟩ : ∃ m, m = sortB l := ⟨_, rfl⟩
 rw [← hm] at ho6
 have hml : m.length = l.length := by rw [hm, sortB_len]
 have hma : Asc m := by rw [hm]; exact sortB_asc l
 have hmm : ∀ x, x ∈ m ↔ x ∈ l := fun x => by rw [hm]; exact (sortB_perm l).mem_iff
 refine oS rfl (Yk.lenRG wr46_ty23 (RG.of ho6 (vr v5 rfl)) (oM rfl (oL_ [(0, v), (2, (Value.slice none 0 0)), (3, (Value.slice none 0 0)), (7, v5), (8, NI m.length), (9, NI 0)] ⟨T0, rfl, rfl, rfl, rfl, rfl, trivial⟩ fun ρ9 ⟨T0, T2, T3, T7, T8, T9, _⟩ => ?_)))
 have hA10 := Ext.refl w8
 have hea11 := hE
 have hz12 := hE.size
 have hrow0 : OG w8.heap.size 25 32 Lib.byteCells w8 (Value.slice none 0 0) ([] : List Bs) := OG.nil _ _ _ _ _
 refine tN (hK4 _ _ (wpF_block (wpF_loop (fun (ρ : Slots) (wz : World) => ∃ i : Nat, ∃ o : List Bs, ∃ vo : Value, ρ 0 = (v : Value) ∧ ρ 2 = ((Value.slice none 0 0) : Value) ∧ ρ 7 = (v5 : Value) ∧ ρ 8 = (NI m.length : Value) ∧ ρ 9 = (NI i : Value) ∧ ρ 3 = (vo : Value) ∧ Ext w wz ∧ Ext w8 wz ∧ OG w8.heap.size 25 32 (Lib.byteCells) wz vo (o) ∧ (i ≤ m.length) ∧ (SAsc o) ∧ (∀ x, x ∈ o ↔ x ∈ m.take i) ∧ (o.length ≤ i) ∧ True) (fun ρ _ => m.length - (intOf (ρ 9)).toNat) ⟨0, [], (Value.slice none 0 0), T0, T2, T7, T8, T9, T3, hE, hA10, og_eq hrow0 (rfl), Nat.zero_le _, List.Pairwise.nil, (fun x => by simp), Nat.le_refl _, trivial⟩ ?_)))
 clear hrow0
 clear hE hA10
 rintro ρ13 w14 ⟨i, o, vo, T0, T2, T7, T8, T9, T3, hE, hA10, hr_vo, hi, hS, hmem, hol, -⟩
 have q9 := T9
 refine sk fun K15 hK15 => (wt (oS rfl (Yk.eqI (a := (i : Nat)) (b := (m.length : Nat)) T9 T8 (k_lss _ _ _ _) (oZ (tN (hK15 _ _ (sk fun K16 hK16 => ?_)))))))
 refine wpF_cond ((i) < (m.length)) (vr (.bool (decide ((i) < (m.length)))) rfl) (fun hc0 => ?_) (fun hc0 => ?_)
 ·have hlt : i < m.length := hc0
  refine wpF_skip (tN (hK16 _ _ (sk fun K17 hK17 => (wpF_block (sk fun K18 hK18 => (wt ?_))))))
  have hl21 : (Lib.byteCells (m.getD (i) ([] : List UInt8))).length = 32 := (RG.elem (ho6.keep hA10) ([] : List UInt8) (by omega))
  refine oS rfl (Yk.atRG wr46_ty23 wr46_szg25 (by decide) ([] : List UInt8) (RG.of (ho6.keep hA10) T7) T9 (by omega) fun v19 hp20 => (oS rfl (Yk.loadPR (PR.of hp20 (vr v19 rfl)) wr46_ty25 rfl (by rw [hl21]; exact wr46_isz25) (oS rfl (Yk.alloc (cs := (Lib.byteCells (List.replicate 32 0)).toArray) wr46_al25 fun n22 w23 hn24 hb25 hx26 hs27 => ?_)))))
  have hA28 := Ext.refl w14
  have hea29 := hE
  have hea30 := hA10
  have hz31 := hE.size
  have hz32 := hA10.size
  have hap33 : OB vo n22 := own_newer hr_vo.2 (by omega)
  have hE := hE.trans hx26
  have hA10 := hA10.trans hx26
  have hr_vo := hr_vo.keep hx26
  have hA28 := hA28.trans hx26
  have hb34 := hb25; clear hb25
  have hl35 : n22 < w23.heap.size := by omega
  refine oS rfl (Yk.storeAll (vr (PQ n22 0) rfl) (vr (AB (m.getD (i) ([] : List UInt8))) rfl) hb34 (by exact idsize (bytes_len32 (hl21)) List.length_replicate) (by exact sizeId_of (bytes_len32 (hl21))) (byteCells_one _) fun w36 hb37 hg38 hs39 => ?_)
  have hE := row_fresh hE hg38 (Nat.le_trans hz31 (by omega))
  have hA10 := row_fresh hA10 hg38 (Nat.le_trans hz32 (by omega))
  have hr_vo := OG.kept hr_vo hg38 hap33
  have hA28 := row_fresh hA28 hg38 (Nat.le_trans (Nat.le_refl _) (by omega))
  clear hb34
  have hb34 := hb37; clear hb37
  have hl40 := bl hb34
  refine oZ ?_
  clear hp20
  have hxl : (m.getD i []).length = 32 := bytes_len32 ((ho6.keep hA10).1 _ (getD_mem [] hlt))
  by_cases h0 : o.length = 0
  ·refine tN (hK18 _ _ (sk fun K41 hK41 => ?_))
   refine wpF_draw [Is (vo), Is (NI o.length), Is (.bool (true)), Is (.bool (true)), Is undef, Is undef, Is undef, Is undef, Is undef, Is undef, Is undef, Is undef, Is (.bool (true))] (by kernel_rfl) [13, 14, 15, 16, 17, 18, 19, 20, 21, 22, 23, 24, 25] (by kernel_rfl) (by kernel_rfl) ⟨Stab.is _, (si12 trivial)⟩ ?hs1005 ?hQ1005
   case hs1005 =>
    refine ⟨?_, ?_, ?_, ?_, ?_, ?_, ?_, ?_, ?_, ?_, ?_, ?_, ?_, trivial⟩
    ·refine stepN rfl fun σ w1 hC h => ?_
     have e3 := (eqo (h 3 (by decide))).trans T3
     exact Yk.move e3 ⟨Ext.refl _, rfl⟩
    ·refine stepN rfl fun σ w1 hC h => ?_
     have e13 := eqo (h 13 (by decide))
     exact Yk.lenRG wr46_ty23 (RG.of (RG.ofOwn (hr_vo.keep hC)) e13) ⟨Ext.refl _, rfl⟩
    ·refine stepN rfl fun σ w1 hC h => ?_
     have e14 := eqo (h 14 (by decide))
     exact Yk.eqI (a := (o.length : Nat)) (b := (0 : Nat)) e14 rfl (k_eql _ _ _ _) ⟨Ext.refl _, (congrArg Value.bool (decide_eq_true (h0)))⟩
    ·refine stepN rfl fun σ w1 hC h => ?_
     have e15 := eqo (h 15 (by decide))
     exact Yk.move e15 ⟨Ext.refl _, rfl⟩
    ·refine stepX 3 false 16 rfl rfl (fun x _ (h : x = .bool true) => by rw [h]; intro h; cases h) fun _ => rfl
    ·refine stepX 3 false 16 rfl rfl (fun x _ (h : x = .bool true) => by rw [h]; intro h; cases h) fun _ => rfl
    ·refine stepX 3 false 16 rfl rfl (fun x _ (h : x = .bool true) => by rw [h]; intro h; cases h) fun _ => rfl
    ·refine stepX 3 false 16 rfl rfl (fun x _ (h : x = .bool true) => by rw [h]; intro h; cases h) fun _ => rfl
    ·refine stepX 3 false 16 rfl rfl (fun x _ (h : x = .bool true) => by rw [h]; intro h; cases h) fun _ => rfl
    ·refine stepX 3 false 16 rfl rfl (fun x _ (h : x = .bool true) => by rw [h]; intro h; cases h) fun _ => rfl
    ·refine stepX 3 false 16 rfl rfl (fun x _ (h : x = .bool true) => by rw [h]; intro h; cases h) fun _ => rfl
    ·refine stepX 3 false 16 rfl rfl (fun x _ (h : x = .bool true) => by rw [h]; intro h; cases h) fun _ => rfl
    ·refine stepN rfl fun σ w1 hC h => ?_
     have e16 := eqo (h 16 (by decide))
     exact Yk.pickT e16 (vr (.bool (true)) rfl) ⟨Ext.refl _, rfl⟩
   intro ρ42 w43 hx44 he hf
   obtain ⟨-, -, -, -, -, -, -, -, -, -, -, -, k25, -⟩ := hf
   obtain ⟨T0, T2, T3, T5, T7, T8, T9, -⟩ := he.hold [(0, _), (2, _), (3, _), (5, PQ n22 0), (7, _), (8, _), (9, _)] ⟨T0, T2, T3, rfl, T7, T8, T9, trivial⟩ rfl
   clear he
   have hE := hE.trans hx44
   have hA10 := hA10.trans hx44
   have hr_vo := hr_vo.keep hx44
   have hA28 := hA28.trans hx44
   have hb34 := eb hx44 hb34
   have T25 : ρ42 25 = .bool (true) := k25
   clear k25
   refine tN (hK41 _ _ (wpF_true T25 (wt (oM rfl (oS rfl (Yk.loadAll T5 hb34 wr46_ty25 rfl (by exact sizeId_of (bytes_len32 (hl21))) (oS rfl (Yk.lit1G (a := (m.getD (i) ([] : List UInt8))) (enc := Lib.byteCells) (vr (AB (m.getD (i) ([] : List UInt8))) rfl) (by rw [Lib.byteCells_length]; exact (bytes_len32 (hl21))) wr46_lg23 fun v45 w46 hr47 hx48 => ?_))))))))
   have hE := hE.trans hx48
   have hA10 := hA10.trans hx48
   have hr_vo := hr_vo.keep hx48
   have hA28 := hA28.trans hx48
   have hb34 := eb hx48 hb34
   refine oS rfl (Yk.appendRG _ _ w8.heap.size _ 32 wr46_ty23 wr46_ig25.choose_spec.1 wr46_ig25.choose_spec.2 wr46_ty23 (o) ([(m.getD (i) ([] : List UInt8))]) (OG.of hr_vo T3) (RG.of hr47 (vr v45 rfl)) (fun _ _ => byteCells_one _) (by simp only [List.length_cons, List.length_nil]; omega) (by simp only [List.length_cons, List.length_nil]; omega) hA10.size fun v49 w50 ho51 hg52 => ?_)
   have hg52 : Grew w46 w50 vo v49 := .eqv T3 hg52
   have hap53 : OB v49 n22 := apart_grew hg52 hap33 (bl hb34)
   have hE := ext_grew hE hg52 hr_vo.2 hz12
   have hA10 := ext_grew hA10 hg52 hr_vo.2 (Nat.le_refl _)
   clear hA28
   have hb34 := blk_grew hb34 hg52 hap33
   clear hr47
   clear hr_vo
   refine oA rfl (oZ ?_)
   have hq : o.length = 0 ∨ o.getD (o.length - 1) [] ≠ m.getD i [] := .inl h0
   refine bN (tN (hK17 _ _ (wt (oS rfl (Yk.bin (xv := NI i) (yv := NI 1) T9 rfl rfl (i64_add _ _ _ (by omega)) (oM rfl (oL_ [(0, v), (2, (Value.slice none 0 0)), (3, v49), (5, PQ n22 0), (7, v5), (8, NI m.length), (9, NI ((i) + (1))), (25, .bool (true))] ⟨T0, T2, rfl, T5, T7, T8, rfl, T25, trivial⟩ fun ρ54 ⟨T0, T2, T3, T5, T7, T8, T9, T25, _⟩ => (tN (And.intro ⟨i + 1, o ++ [m.getD i []], v49, T0, T2, T7, T8, T9, T3, hE, hA10, og_eq ho51 (rfl), by omega, uniq_new hma hlt hS hmem hq, uniq_memT hlt hmem, (by simp only [List.length_append, List.length_cons, List.length_nil]; omega), trivial⟩ ?_)))))))))
   show m.length - (intOf (ρ54 9)).toNat < m.length - (intOf (ρ13 9)).toNat
   rw [T9, q9]
   simp only [intOf, Int.toNat_natCast]; omega
  have hyl : (o.getD (o.length - 1) []).length = 32 := bytes_len32 (hr_vo.1 _ (getD_mem [] (by omega)))
  refine tN (hK18 _ _ (sk fun K55 hK55 => ?_))
  refine wpF_draw [Is (vo), Is (NI o.length), Is (.bool (false)), Is (.bool (false)), Is (vo), Is (vo), Is (NI o.length), Is (NI ((o.length) - (1))), fun x w' => PR (Lib.byteCells (o.getD ((o.length) - (1)) ([] : List UInt8))) x w', Is (AB (o.getD ((o.length) - (1)) ([] : List UInt8))), Is (AB (m.getD (i) ([] : List UInt8))), Is (.bool (decide ((o.getD ((o.length) - (1)) ([] : List UInt8)) ≠ (m.getD (i) ([] : List UInt8))))), Is (.bool (decide ((o.getD ((o.length) - (1)) ([] : List UInt8)) ≠ (m.getD (i) ([] : List UInt8)))))] (by kernel_rfl) [13, 14, 15, 16, 17, 18, 19, 20, 21, 22, 23, 24, 25] (by kernel_rfl) (by kernel_rfl) (si8 ⟨(fun _ _ _ h k => PR.keep h k), (si4 trivial)⟩) ?hs2005 ?hQ2005
  case hs2005 =>
   refine ⟨?_, ?_, ?_, ?_, ?_, ?_, ?_, ?_, ?_, ?_, ?_, ?_, ?_, trivial⟩
   ·refine stepN rfl fun σ w1 hC h => ?_
    have e3 := (eqo (h 3 (by decide))).trans T3
    exact Yk.move e3 ⟨Ext.refl _, rfl⟩
   ·refine stepN rfl fun σ w1 hC h => ?_
    have e13 := eqo (h 13 (by decide))
    exact Yk.lenRG wr46_ty23 (RG.of (RG.ofOwn (hr_vo.keep hC)) e13) ⟨Ext.refl _, rfl⟩
   ·refine stepN rfl fun σ w1 hC h => ?_
    have e14 := eqo (h 14 (by decide))
    exact Yk.eqI (a := (o.length : Nat)) (b := (0 : Nat)) e14 rfl (k_eql _ _ _ _) ⟨Ext.refl _, (congrArg Value.bool (decide_eq_false (h0)))⟩
   ·refine stepN rfl fun σ w1 hC h => ?_
    have e15 := eqo (h 15 (by decide))
    exact Yk.move e15 ⟨Ext.refl _, rfl⟩
   ·refine stepY 3 false 16 rfl rfl (fun _ _ h => h) fun σ w1 hC h => ?_
    have e3 := (eqo (h 3 (by decide))).trans T3
    exact Yk.move e3 ⟨Ext.refl _, rfl⟩
   ·refine stepY 3 false 16 rfl rfl (fun _ _ h => h) fun σ w1 hC h => ?_
    have e3 := (eqo (h 3 (by decide))).trans T3
    exact Yk.move e3 ⟨Ext.refl _, rfl⟩
   ·refine stepY 3 false 16 rfl rfl (fun _ _ h => h) fun σ w1 hC h => ?_
    have e18 := eqo (h 18 (by decide))
    exact Yk.lenRG wr46_ty23 (RG.of (RG.ofOwn (hr_vo.keep hC)) e18) ⟨Ext.refl _, rfl⟩
   ·refine stepY 3 false 16 rfl rfl (fun _ _ h => h) fun σ w1 hC h => ?_
    have e19 := eqo (h 19 (by decide))
    exact Yk.bin (xv := NI o.length) (yv := NI 1) e19 rfl rfl (i64_sub _ _ _ (by omega) (by omega)) ⟨Ext.refl _, rfl⟩
   ·refine stepY 3 false 16 rfl rfl (fun _ _ h => h) fun σ w1 hC h => ?_
    have e17 := eqo (h 17 (by decide))
    have e20 := eqo (h 20 (by decide))
    exact Yk.atRG wr46_ty23 wr46_szg25 (by decide) ([] : List UInt8) (RG.of (RG.ofOwn (hr_vo.keep hC)) e17) e20 (by omega) fun v h => ⟨Ext.refl _, h⟩
   ·refine stepY 3 false 16 rfl rfl (fun _ _ h => h) fun σ w1 hC h => ?_
    have e21 : (fun x w' => PR (Lib.byteCells (o.getD ((o.length) - (1)) ([] : List UInt8))) x w') (σ 21) w1 := h 21 (by decide)
    exact Yk.loadPR e21 wr46_ty25 rfl (by rw [RG.elem (RG.ofOwn hr_vo) ([] : List UInt8) (by omega)]; exact wr46_isz25) ⟨Ext.refl _, rfl⟩
   ·refine stepY 3 false 16 rfl rfl (fun _ _ h => h) fun σ w1 hC h => ?_
    have e5 : σ 5 = PQ n22 0 := (eqo (h 5 (by decide))).trans rfl
    exact Yk.loadAll e5 (eb hC hb34) wr46_ty25 rfl (by exact sizeId_of (bytes_len32 (hl21))) ⟨Ext.refl _, rfl⟩
   ·refine stepY 3 false 16 rfl rfl (fun _ _ h => h) fun σ w1 hC h => ?_
    have e22 := eqo (h 22 (by decide))
    have e23 := eqo (h 23 (by decide))
    exact Yk.neArr (l1 := (o.getD ((o.length) - (1)) ([] : List UInt8))) (l2 := (m.getD (i) ([] : List UInt8))) wr46_ty25 wr46_ty5 wr46_sz5 wr46_eg25 e22 e23 (hyl) (hxl) ⟨Ext.refl _, rfl⟩
   ·refine stepN rfl fun σ w1 hC h => ?_
    have e16 := eqo (h 16 (by decide))
    have e24 := eqo (h 24 (by decide))
    exact Yk.pickF e16 e24 ⟨Ext.refl _, rfl⟩
  intro ρ56 w57 hx58 he hf
  obtain ⟨-, -, -, -, -, -, -, -, -, -, -, -, k25, -⟩ := hf
  obtain ⟨T0, T2, T3, T5, T7, T8, T9, -⟩ := he.hold [(0, _), (2, _), (3, _), (5, PQ n22 0), (7, _), (8, _), (9, _)] ⟨T0, T2, T3, rfl, T7, T8, T9, trivial⟩ rfl
  clear he
  have hE := hE.trans hx58
  have hA10 := hA10.trans hx58
  have hr_vo := hr_vo.keep hx58
  have hA28 := hA28.trans hx58
  have hb34 := eb hx58 hb34
  have T25 : ρ56 25 = .bool (decide ((o.getD ((o.length) - (1)) ([] : List UInt8)) ≠ (m.getD (i) ([] : List UInt8)))) := k25
  clear k25
  refine tN (hK55 _ _ ?_)
  refine wpF_cond ((o.getD ((o.length) - (1)) ([] : List UInt8)) ≠ (m.getD (i) ([] : List UInt8))) T25 (fun hc1 => ?_) (fun hc1 => ?_)
  ·have hq : o.length = 0 ∨ o.getD (o.length - 1) [] ≠ m.getD i [] := .inr hc1
   refine wt (oM rfl (oS rfl (Yk.loadAll T5 hb34 wr46_ty25 rfl (by exact sizeId_of (bytes_len32 (hl21))) (oS rfl (Yk.lit1G (a := (m.getD (i) ([] : List UInt8))) (enc := Lib.byteCells) (vr (AB (m.getD (i) ([] : List UInt8))) rfl) (by rw [Lib.byteCells_length]; exact (bytes_len32 (hl21))) wr46_lg23 fun v59 w60 hr61 hx62 => ?_)))))
   have hE := hE.trans hx62
   have hA10 := hA10.trans hx62
   have hr_vo := hr_vo.keep hx62
   have hA28 := hA28.trans hx62
   have hb34 := eb hx62 hb34
   refine oS rfl (Yk.appendRG _ _ w8.heap.size _ 32 wr46_ty23 wr46_ig25.choose_spec.1 wr46_ig25.choose_spec.2 wr46_ty23 (o) ([(m.getD (i) ([] : List UInt8))]) (OG.of hr_vo T3) (RG.of hr61 (vr v59 rfl)) (fun _ _ => byteCells_one _) (by simp only [List.length_cons, List.length_nil]; omega) (by simp only [List.length_cons, List.length_nil]; omega) hA10.size fun v63 w64 ho65 hg66 => ?_)
   have hg66 : Grew w60 w64 vo v63 := .eqv T3 hg66
   have hap67 : OB v63 n22 := apart_grew hg66 hap33 (bl hb34)
   have hE := ext_grew hE hg66 hr_vo.2 hz12
   have hA10 := ext_grew hA10 hg66 hr_vo.2 (Nat.le_refl _)
   clear hA28
   have hb34 := blk_grew hb34 hg66 hap33
   clear hr61
   clear hr_vo
   refine oA rfl (oZ (bN (tN (hK17 _ _ (wt (oS rfl (Yk.bin (xv := NI i) (yv := NI 1) T9 rfl rfl (i64_add _ _ _ (by omega)) (oM rfl (oL_ [(0, v), (2, (Value.slice none 0 0)), (3, v63), (5, PQ n22 0), (7, v5), (8, NI m.length), (9, NI ((i) + (1)))] ⟨T0, T2, rfl, T5, T7, T8, rfl, trivial⟩ fun ρ68 ⟨T0, T2, T3, T5, T7, T8, T9, _⟩ => (tN (And.intro ⟨i + 1, o ++ [m.getD i []], v63, T0, T2, T7, T8, T9, T3, hE, hA10, og_eq ho65 (rfl), by omega, uniq_new hma hlt hS hmem hq, uniq_memT hlt hmem, (by simp only [List.length_append, List.length_cons, List.length_nil]; omega), trivial⟩ ?_)))))))))))
   show m.length - (intOf (ρ68 9)).toNat < m.length - (intOf (ρ13 9)).toNat
   rw [T9, q9]
   simp only [intOf, Int.toNat_natCast]; omega
  have hq : ¬ o.getD (o.length - 1) [] ≠ m.getD i [] := hc1
  refine wpF_skip (bN (tN (hK17 _ _ (wt (oS rfl (Yk.bin (xv := NI i) (yv := NI 1) T9 rfl rfl (i64_add _ _ _ (by omega)) (oM rfl (oL_ [(0, v), (2, (Value.slice none 0 0)), (3, vo), (5, PQ n22 0), (7, v5), (8, NI m.length), (9, NI ((i) + (1)))] ⟨T0, T2, T3, T5, T7, T8, rfl, trivial⟩ fun ρ69 ⟨T0, T2, T3, T5, T7, T8, T9, _⟩ => (tN (And.intro ⟨i + 1, o, vo, T0, T2, T7, T8, T9, T3, hE, hA10, og_eq hr_vo (rfl), by omega, hS, uniq_memF hlt hmem h0 hq, by omega, trivial⟩ ?_))))))))))
  show m.length - (intOf (ρ69 9)).toNat < m.length - (intOf (ρ13 9)).toNat
  rw [T9, q9]
  simp only [intOf, Int.toNat_natCast]; omega
 refine wpF_exit (thenF_exit (thenF_exit (inBlockF_hit (tN (hK3 _ _ (sk fun K70 hK70 => (wt (oM rfl (oA rfl (oZ (tN (hK70 _ _ (wpF_ret (postF_ret (fn := Tryd.f134) _ rfl [vo] (vo) rfl ⟨T3, trivial⟩ ?_))))))))))))))
 rw [show i = m.length by omega, List.take_length] at hmem
 exact ⟨_, o, rfl, OG.low hr_vo (by have := hz12; omega), hS, fun x => (hmem x).trans (hmm x), by omega, hE⟩

theorem placeB_any (w : World) (v : Value) (l : List Bs) (hr : RG 32 Lib.byteCells w v l) (hl : l.length ≤ 100000) (hS : SAsc l) (x : Bs) (hxl : x.length = 32) :
  Calls Tryd.prog 135 #[v, AB x] w fun e w' => ∃ p : Nat, e = .returned (.tuple #[NI p, .bool (decide (x ∈ l))]) ∧ Ext w w' := by
 refine calls_of_wpF (args := [v, AB x]) Tryd.func135 rfl 38 rfl (Nat.le_of_ble_eq_true rfl) ?_
 intro ρ0 hb
 have T0 : ρ0 0 = (v : Value) := hb.get 0
 have T1 : ρ0 1 = (AB x : Value) := hb.get 1
 clear hb
 have hE := Ext.refl w
 refine sk fun K1 hK1 => (wt (oS rfl (Yk.box (cs := (Lib.byteCells x : List Value).toArray) T1 fun n2 w3 hn4 hb5 hx6 hs7 => ?_)))
 have hE := hE.trans hx6
 have hb8 := hb5; clear hb5
 have hl9 : n2 < w3.heap.size := by omega
 refine oA rfl (oA rfl (oZ (tN (hK1 _ _ (sk fun K10 hK10 => (wt (oM rfl (oS rfl (Yk.lenRG wr46_ty23 (RG.of (hr.keep hE) T0) (oA rfl (oA rfl (oL_ [(0, v), (1, AB x), (3, PQ n2 0), (4, NI 0), (5, .bool (false)), (6, NI 0), (7, NI l.length)] ⟨T0, T1, rfl, rfl, rfl, rfl, rfl, trivial⟩ fun ρ11 ⟨T0, T1, T3, T4, T5, T6, T7, _⟩ => (tN (hK10 _ _ (sk fun K12 hK12 => (wpF_block (wpF_loop (fun (ρ : Slots) (wz : World) => ∃ lo : Nat, ∃ hi : Nat, ρ 0 = (v : Value) ∧ ρ 1 = (AB x : Value) ∧ ρ 3 = (PQ n2 0 : Value) ∧ ρ 6 = (NI lo : Value) ∧ ρ 7 = (NI hi : Value) ∧ Ext w wz ∧ wz.heap[n2]? = some (.cells (Lib.byteCells x).toArray 25 (0, 0)) ∧ (lo ≤ hi) ∧ (hi ≤ l.length) ∧ (∀ j, j < lo → Lib.compareBytes (l.getD j []) x < 0) ∧ (∀ j, hi ≤ j → j < l.length → 0 < Lib.compareBytes (l.getD j []) x) ∧ True) (fun ρ _ => (intOf (ρ 7)).toNat - (intOf (ρ 6)).toNat) ⟨0, l.length, T0, T1, T3, T6, T7, hE, hb8, Nat.zero_le _, Nat.le_refl _, fun j hj => absurd hj (Nat.not_lt_zero _), (fun j h1 h2 => by omega), trivial⟩ ?_)))))))))))))))))
 clear hE hb8
 rintro ρ13 w14 ⟨lo, hi, T0, T1, T3, T6, T7, hE, hb8, h1, h2, hlo, hhi, -⟩
 have q7 := T7
 have q6 := T6
 refine sk fun K15 hK15 => (sk fun K16 hK16 => (wt (oM rfl (oM rfl (oS rfl (Yk.eqI (a := (lo : Nat)) (b := (hi : Nat)) T6 T7 (k_lss _ _ _ _) (oZ (tN (hK16 _ _ ?_)))))))))
 refine wpF_cond ((lo) < (hi)) (vr (.bool (decide ((lo) < (hi)))) rfl) (fun hc0 => ?_) (fun hc0 => ?_)
 ·have hlt : lo < hi := hc0
  have hmid : lo + (hi - lo) / 2 < l.length := by omega
  have hyl : (l.getD (lo + (hi - lo) / 2) []).length = 32 := bytes_len32 ((hr.keep hE).1 _ (getD_mem [] hmid))
  refine wpF_skip (tN (hK15 _ _ (wpF_block (sk fun K17 hK17 => (wt (oM rfl (oM rfl (oM rfl (oS rfl (Yk.bin (xv := NI hi) (yv := NI lo) T7 T6 rfl (i64_sub _ _ _ (by omega) (by omega)) (oS rfl (Yk.bin (xv := NI ((hi) - (lo))) (yv := NI 2) rfl rfl rfl (i64_quo _ _ _ (by omega) (by omega)) (oS rfl (Yk.bin (xv := NI lo) (yv := NI (((hi) - (lo)) / (2))) T6 rfl rfl (i64_add _ _ _ (by omega)) (oA rfl (oZ (tN (hK17 _ _ (sk fun K18 hK18 => ?_)))))))))))))))))))
  refine wpF_draw [Is (v), Is (NI ((lo) + (((hi) - (lo)) / (2)))), fun x w' => PR (Lib.byteCells (l.getD ((lo) + (((hi) - (lo)) / (2))) ([] : List UInt8))) x w', Is (AB (l.getD ((lo) + (((hi) - (lo)) / (2))) ([] : List UInt8))), Is (AB x), Is (.int .i64 (Lib.compareBytes (l.getD ((lo) + (((hi) - (lo)) / (2))) ([] : List UInt8)) x : Int)), Is (.int .i64 (Lib.compareBytes (l.getD ((lo) + (((hi) - (lo)) / (2))) ([] : List UInt8)) x : Int))] (by kernel_rfl) [21, 22, 23, 24, 25, 26, 9] (by kernel_rfl) (by kernel_rfl) (si2 ⟨(fun _ _ _ h k => PR.keep h k), (si4 trivial)⟩) ?hs1004 ?hQ1004
  case hs1004 =>
   refine ⟨?_, ?_, ?_, ?_, ?_, ?_, ?_, trivial⟩
   ·refine stepN rfl fun σ w1 hC h => ?_
    have e0 := (eqo (h 0 (by decide))).trans T0
    exact Yk.move e0 ⟨Ext.refl _, rfl⟩
   ·refine stepN rfl fun σ w1 hC h => ?_
    have e8 : σ 8 = NI ((lo) + (((hi) - (lo)) / (2))) := (eqo (h 8 (by decide))).trans rfl
    exact Yk.move e8 ⟨Ext.refl _, rfl⟩
   ·refine stepN rfl fun σ w1 hC h => ?_
    have e21 := eqo (h 21 (by decide))
    have e22 := eqo (h 22 (by decide))
    exact Yk.atRG wr46_ty23 wr46_szg25 (by decide) ([] : List UInt8) (RG.of (hr.keep (hE.trans hC)) e21) e22 (by omega) fun v h => ⟨Ext.refl _, h⟩
   ·refine stepN rfl fun σ w1 hC h => ?_
    have e23 : (fun x w' => PR (Lib.byteCells (l.getD ((lo) + (((hi) - (lo)) / (2))) ([] : List UInt8))) x w') (σ 23) w1 := h 23 (by decide)
    exact Yk.loadPR e23 wr46_ty25 rfl (by rw [RG.elem hr ([] : List UInt8) (by omega)]; exact wr46_isz25) ⟨Ext.refl _, rfl⟩
   ·refine stepN rfl fun σ w1 hC h => ?_
    have e3 := (eqo (h 3 (by decide))).trans T3
    exact Yk.loadAll e3 (eb hC hb8) wr46_ty25 rfl (by exact sizeId_of hxl) ⟨Ext.refl _, rfl⟩
   ·refine stepN rfl fun σ w1 hC h => ?_
    have e24 := eqo (h 24 (by decide))
    have e25 := eqo (h 25 (by decide))
    refine Yk.callA2 wr46_pl142 e24 e25 ((compare_any _ (l.getD ((lo) + (((hi) - (lo)) / (2))) ([] : List UInt8)) x hyl hxl).mono ?_)
    rintro e w2 ⟨rfl, hx⟩
    exact ⟨_, rfl, hx, rfl⟩
   ·refine stepN rfl fun σ w1 hC h => ?_
    have e26 := eqo (h 26 (by decide))
    exact Yk.assign e26 ⟨Ext.refl _, rfl⟩
  intro ρ19 w20 hx21 he hf
  obtain ⟨-, -, -, -, -, -, k9, -⟩ := hf
  obtain ⟨T0, T1, T3, T6, T7, T8, -⟩ := he.hold [(0, _), (1, _), (3, _), (6, _), (7, _), (8, NI ((lo) + (((hi) - (lo)) / (2))))] ⟨T0, T1, T3, T6, T7, rfl, trivial⟩ rfl
  clear he
  have hE := hE.trans hx21
  have hb8 := eb hx21 hb8
  have T9 : ρ19 9 = .int .i64 (Lib.compareBytes (l.getD ((lo) + (((hi) - (lo)) / (2))) ([] : List UInt8)) x : Int) := k9
  clear k9
  refine tN (hK18 _ _ (wpF_block (sk fun K22 hK22 => (wt (oM rfl (oS rfl (Yk.eqI T9 (vr (NI 0) rfl) (z_eql _ .i64 (Lib.compareBytes (l.getD ((lo) + (((hi) - (lo)) / (2))) ([] : List UInt8)) x : Int) ((0 : Nat) : Int)) (oA rfl (oZ (tN (hK22 _ _ ?_)))))))))))
  refine wpF_cond ((Lib.compareBytes (l.getD ((lo) + (((hi) - (lo)) / (2))) ([] : List UInt8)) x : Int) = ((0 : Nat) : Int)) (vr (.bool (decide ((Lib.compareBytes (l.getD ((lo) + (((hi) - (lo)) / (2))) ([] : List UInt8)) x : Int) = ((0 : Nat) : Int)))) rfl) (fun hc1 => ?_) (fun hc1 => ?_)
  ·refine sk fun K23 hK23 => (wt (oM rfl (oA rfl (oA rfl (oZ (tN (hK23 _ _ (wpF_ret (inBlockF_ret (inBlockF_ret (thenF_ret (inBlockF_ret (thenF_ret (postF_ret (fn := Tryd.f135) _ rfl [NI ((lo) + (((hi) - (lo)) / (2))), .bool (true)] (.tuple #[NI ((lo) + (((hi) - (lo)) / (2))), .bool (true)]) rfl ⟨T8, rfl, trivial⟩ ?_))))))))))))))
   have hmem : x ∈ l := by rw [← cmp_zero hc1]; exact getD_mem [] hmid
   exact ⟨_, by rw [decide_eq_true hmem], hE⟩
  refine sk fun K24 hK24 => (wt (oM rfl (oS rfl (Yk.eqI T9 (vr (NI 0) rfl) (z_lss _ .i64 (Lib.compareBytes (l.getD ((lo) + (((hi) - (lo)) / (2))) ([] : List UInt8)) x : Int) ((0 : Nat) : Int)) (oA rfl (oZ (tN (hK24 _ _ ?_))))))))
  refine wpF_cond ((Lib.compareBytes (l.getD ((lo) + (((hi) - (lo)) / (2))) ([] : List UInt8)) x : Int) < ((0 : Nat) : Int)) (vr (.bool (decide ((Lib.compareBytes (l.getD ((lo) + (((hi) - (lo)) / (2))) ([] : List UInt8)) x : Int) < ((0 : Nat) : Int)))) rfl) (fun hc2 => ?_) (fun hc2 => ?_)
  ·refine wt (oM rfl (oS rfl (Yk.bin (xv := NI ((lo) + (((hi) - (lo)) / (2)))) (yv := NI 1) T8 rfl rfl (i64_add _ _ _ (by omega)) (oA rfl (oL_ [(0, v), (1, AB x), (3, PQ n2 0), (6, NI (((lo) + (((hi) - (lo)) / (2))) + (1))), (7, NI hi), (8, NI ((lo) + (((hi) - (lo)) / (2)))), (9, .int .i64 (Lib.compareBytes (l.getD ((lo) + (((hi) - (lo)) / (2))) ([] : List UInt8)) x : Int))] ⟨T0, T1, T3, rfl, T7, T8, T9, trivial⟩ fun ρ25 ⟨T0, T1, T3, T6, T7, T8, T9, _⟩ => (bN (bN (tN (And.intro ⟨lo + (hi - lo) / 2 + 1, hi, T0, T1, T3, T6, T7, hE, hb8, by omega, by omega, place_lo hS hmid hc2, hhi, trivial⟩ ?_)))))))))
   show (intOf (ρ25 7)).toNat - (intOf (ρ25 6)).toNat < (intOf (ρ13 7)).toNat - (intOf (ρ13 6)).toNat
   rw [T7, T6, q7, q6]
   simp only [intOf, Int.toNat_natCast]; omega
  refine wt (oM rfl (oA rfl (oL_ [(0, v), (1, AB x), (3, PQ n2 0), (6, NI lo), (7, NI ((lo) + (((hi) - (lo)) / (2)))), (8, NI ((lo) + (((hi) - (lo)) / (2)))), (9, .int .i64 (Lib.compareBytes (l.getD ((lo) + (((hi) - (lo)) / (2))) ([] : List UInt8)) x : Int))] ⟨T0, T1, T3, T6, T8, T8, T9, trivial⟩ fun ρ26 ⟨T0, T1, T3, T6, T7, T8, T9, _⟩ => (bN (bN (tN (And.intro ⟨lo, lo + (hi - lo) / 2, T0, T1, T3, T6, T7, hE, hb8, by omega, by omega, hlo, place_hi hS (by omega), trivial⟩ ?_)))))))
  show (intOf (ρ26 7)).toNat - (intOf (ρ26 6)).toNat < (intOf (ρ13 7)).toNat - (intOf (ρ13 6)).toNat
  rw [T7, T6, q7, q6]
  simp only [intOf, Int.toNat_natCast]; omega
 refine wpF_exit (thenF_exit (thenF_exit (inBlockF_hit (tN (hK12 _ _ (sk fun K27 hK27 => (wt (oM rfl (oA rfl (oA rfl (oZ (tN (hK27 _ _ (wpF_ret (postF_ret (fn := Tryd.f135) _ rfl [NI lo, .bool (false)] (.tuple #[NI lo, .bool (false)]) rfl ⟨T6, rfl, trivial⟩ ?_)))))))))))))))
 have hno : x ∉ l := place_no (p := lo) hlo (fun j hj hl => hhi j (by omega) hl)
 exact ⟨_, by rw [decide_eq_false hno], hE⟩

theorem pick_any (w : World) (v v2 : Value) (a b : List Bs) (hr : RG 32 Lib.byteCells w v a) (hr2 : RG 32 Lib.byteCells w v2 b) (ha : a.length ≤ 100000) (hb : b.length ≤ 100000) (q : Bool) :
  Calls Tryd.prog 93 #[v, v2, .bool q] w fun e w' => ∃ v' o, e = .returned v' ∧ OG w.heap.size 25 32 Lib.byteCells w' v' o ∧ SAsc o ∧ (∀ x, x ∈ o ↔ x ∈ a ∧ (decide (x ∈ b) == q) = true) ∧ o.length ≤ a.length ∧ Ext w w' := by
 refine calls_of_wpF (args := [v, v2, .bool (q)]) Tryd.func93 rfl 36 rfl (Nat.le_of_ble_eq_true rfl) ?_
 intro ρ0 hb
 have T0 : ρ0 0 = (v : Value) := hb.get 0
 have T1 : ρ0 1 = (v2 : Value) := hb.get 1
 have T2 : ρ0 2 = (.bool (q) : Value) := hb.get 2
 clear hb
 have hE := Ext.refl w
 refine sk fun K1 hK1 => (wt (oA rfl (oZ (tN (hK1 _ _ (sk fun K2 hK2 => (wt (oM rfl (oS rfl (Yk.callA1 wr46_pl134 T1 ((set_any _ v2 b hr2 hb).mono ?_)))))))))))
 rintro e w6 ⟨v3, B, rfl, ho4, hSB, hmB, hlB, hx5⟩
 refine ⟨_, rfl, ?_⟩
 have hr := hr.keep hx5
 have hr2 := hr2.keep hx5
 have hE := hE.trans hx5
 have ho4 := RG.ofOwn ho4
 refine oA rfl (oZ (tN (hK2 _ _ (sk fun K7 hK7 => (wt (oA rfl (oZ (tN (hK7 _ _ (sk fun K8 hK8 => (sk fun K9 hK9 => (wt (oM rfl (oS rfl (Yk.callA1 wr46_pl134 T0 ((set_any _ v a hr ha).mono ?_))))))))))))))))
 rintro e w13 ⟨v10, A, rfl, ho11, hSA, hmA, hlA, hx12⟩
 refine ⟨_, rfl, ?_⟩
 have hr := hr.keep hx12
 have hr2 := hr2.keep hx12
 have hE := hE.trans hx12
 have ho4 := ho4.keep hx12
 have ho11 := RG.ofOwn ho11
 refine oS rfl (Yk.lenRG wr46_ty23 (RG.of ho11 (vr v10 rfl)) (oM rfl (oL_ [(0, v), (1, v3), (2, .bool (q)), (6, (Value.slice none 0 0)), (7, (Value.slice none 0 0)), (15, v10), (16, NI A.length), (17, NI 0)] ⟨T0, rfl, T2, rfl, rfl, rfl, rfl, rfl, trivial⟩ fun ρ14 ⟨T0, T1, T2, T6, T7, T15, T16, T17, _⟩ => ?_)))
 have hA15 := Ext.refl w13
 have hea16 := hE
 have hz17 := hE.size
 have hrow0 : OG w13.heap.size 25 32 Lib.byteCells w13 (Value.slice none 0 0) ([] : List Bs) := OG.nil _ _ _ _ _
 refine tN (hK9 _ _ (wpF_block (wpF_loop (fun (ρ : Slots) (wz : World) => ∃ i : Nat, ∃ vo : Value, ρ 0 = (v : Value) ∧ ρ 1 = (v3 : Value) ∧ ρ 2 = (.bool (q) : Value) ∧ ρ 6 = ((Value.slice none 0 0) : Value) ∧ ρ 15 = (v10 : Value) ∧ ρ 16 = (NI A.length : Value) ∧ ρ 17 = (NI i : Value) ∧ ρ 7 = (vo : Value) ∧ Ext w wz ∧ Ext w13 wz ∧ OG w13.heap.size 25 32 (Lib.byteCells) wz vo (pickB (A.take i) B q) ∧ (i ≤ A.length) ∧ True) (fun ρ _ => A.length - (intOf (ρ 17)).toNat) ⟨0, (Value.slice none 0 0), T0, T1, T2, T6, T15, T16, T17, T7, hE, hA15, og_eq hrow0 (rfl), Nat.zero_le _, trivial⟩ ?_)))
 clear hrow0
 clear hE hA15
 rintro ρ18 w19 ⟨i, vo, T0, T1, T2, T6, T15, T16, T17, T7, hE, hA15, hr_vo, hi, -⟩
 have q17 := T17
 refine sk fun K20 hK20 => (wt (oS rfl (Yk.eqI (a := (i : Nat)) (b := (A.length : Nat)) T17 T16 (k_lss _ _ _ _) (oZ (tN (hK20 _ _ (sk fun K21 hK21 => ?_)))))))
 refine wpF_cond ((i) < (A.length)) (vr (.bool (decide ((i) < (A.length)))) rfl) (fun hc0 => ?_) (fun hc0 => ?_)
 ·have hlt : i < A.length := hc0
  have hxl : (A.getD i []).length = 32 := bytes_len32 ((ho11.keep hA15).1 _ (getD_mem [] hlt))
  have hpl : (pickB (A.take i) B q).length ≤ i := by unfold pickB; exact Nat.le_trans (List.length_filter_le _ _) (by rw [List.length_take]; omega)
  refine wpF_skip (tN (hK21 _ _ (sk fun K22 hK22 => (wpF_block (sk fun K23 hK23 => (wt ?_))))))
  have hl26 : (Lib.byteCells (A.getD (i) ([] : List UInt8))).length = 32 := (RG.elem (ho11.keep hA15) ([] : List UInt8) (by omega))
  refine oS rfl (Yk.atRG wr46_ty23 wr46_szg25 (by decide) ([] : List UInt8) (RG.of (ho11.keep hA15) T15) T17 (by omega) fun v24 hp25 => (oS rfl (Yk.loadPR (PR.of hp25 (vr v24 rfl)) wr46_ty25 rfl (by rw [hl26]; exact wr46_isz25) (oS rfl (Yk.alloc (cs := (Lib.byteCells (List.replicate 32 0)).toArray) wr46_al25 fun n27 w28 hn29 hb30 hx31 hs32 => ?_)))))
  have hA33 := Ext.refl w19
  have hea34 := hE
  have hea35 := hA15
  have hz36 := hE.size
  have hz37 := hA15.size
  have hap38 : OB vo n27 := own_newer hr_vo.2 (by omega)
  have hE := hE.trans hx31
  have hA15 := hA15.trans hx31
  have hr_vo := hr_vo.keep hx31
  have hA33 := hA33.trans hx31
  have hb39 := hb30; clear hb30
  have hl40 : n27 < w28.heap.size := by omega
  refine oS rfl (Yk.storeAll (vr (PQ n27 0) rfl) (vr (AB (A.getD (i) ([] : List UInt8))) rfl) hb39 (by exact idsize (bytes_len32 (hl26)) List.length_replicate) (by exact sizeId_of (bytes_len32 (hl26))) (byteCells_one _) fun w41 hb42 hg43 hs44 => ?_)
  have hE := row_fresh hE hg43 (Nat.le_trans hz36 (by omega))
  have hA15 := row_fresh hA15 hg43 (Nat.le_trans hz37 (by omega))
  have hr_vo := OG.kept hr_vo hg43 hap38
  have hA33 := row_fresh hA33 hg43 (Nat.le_trans (Nat.le_refl _) (by omega))
  clear hb39
  have hb39 := hb42; clear hb42
  have hl45 := bl hb39
  refine oZ ?_
  clear hp25
  refine tN (hK23 _ _ (sk fun K46 hK46 => (wt (oM rfl (oS rfl (Yk.loadAll (vr (PQ n27 0) rfl) hb39 wr46_ty25 rfl (by exact sizeId_of (bytes_len32 (hl26))) (oS rfl (Yk.callA2 wr46_pl135 T1 (vr (AB (A.getD (i) ([] : List UInt8))) rfl) ((placeB_any _ v3 B (ho4.keep hA15) (by omega) hSB (A.getD i []) hxl).mono ?_)))))))))
  rintro e w48 ⟨pp, rfl, hx47⟩
  refine ⟨_, rfl, ?_⟩
  have hE := hE.trans hx47
  have hA15 := hA15.trans hx47
  have hr_vo := hr_vo.keep hx47
  have hA33 := hA33.trans hx47
  have hb39 := eb hx47 hb39
  refine oM rfl (oS rfl (Yk.extract (vs := [NI pp, .bool (decide (A.getD i [] ∈ B))]) (vr (.tuple #[NI pp, .bool (decide (A.getD i [] ∈ B))]) rfl) (show _ = some (NI pp : Value) from rfl) (oS rfl (Yk.extract (vs := [NI pp, .bool (decide (A.getD i [] ∈ B))]) (vr (.tuple #[NI pp, .bool (decide (A.getD i [] ∈ B))]) rfl) (show _ = some (.bool (decide (A.getD i [] ∈ B)) : Value) from rfl) (oA rfl (oA rfl (oZ (tN (hK46 _ _ (sk fun K49 hK49 => (wt (oM rfl (oM rfl (oS rfl (Yk.eqBool wr46_ty4 (vr (.bool (decide (A.getD i [] ∈ B))) rfl) T2 (oZ (tN (hK49 _ _ ?_))))))))))))))))))
  refine wpF_condB (decide (A.getD i [] ∈ B) == q) (vr (.bool (decide (A.getD i [] ∈ B) == q)) rfl) (fun hc1 => ?_) (fun hc1 => ?_)
  ·have hq := hc1
   refine wt (oM rfl (oS rfl (Yk.loadAll (vr (PQ n27 0) rfl) hb39 wr46_ty25 rfl (by exact sizeId_of (bytes_len32 (hl26))) (oS rfl (Yk.lit1G (a := (A.getD (i) ([] : List UInt8))) (enc := Lib.byteCells) (vr (AB (A.getD (i) ([] : List UInt8))) rfl) (by rw [Lib.byteCells_length]; exact (bytes_len32 (hl26))) wr46_lg23 fun v50 w51 hr52 hx53 => ?_)))))
   have hE := hE.trans hx53
   have hA15 := hA15.trans hx53
   have hr_vo := hr_vo.keep hx53
   have hA33 := hA33.trans hx53
   have hb39 := eb hx53 hb39
   refine oS rfl (Yk.appendRG _ _ w13.heap.size _ 32 wr46_ty23 wr46_ig25.choose_spec.1 wr46_ig25.choose_spec.2 wr46_ty23 (pickB (A.take i) B q) ([(A.getD (i) ([] : List UInt8))]) (OG.of hr_vo T7) (RG.of hr52 (vr v50 rfl)) (fun _ _ => byteCells_one _) (by simp only [List.length_cons, List.length_nil]; omega) (by simp only [List.length_cons, List.length_nil]; omega) hA15.size fun v54 w55 ho56 hg57 => ?_)
   have hg57 : Grew w51 w55 vo v54 := .eqv T7 hg57
   have hap58 : OB v54 n27 := apart_grew hg57 hap38 (bl hb39)
   have hE := ext_grew hE hg57 hr_vo.2 hz17
   have hA15 := ext_grew hA15 hg57 hr_vo.2 (Nat.le_refl _)
   clear hA33
   have hb39 := blk_grew hb39 hg57 hap38
   clear hr52
   clear hr_vo
   refine oA rfl (oZ (bN (tN (hK22 _ _ (wt (oS rfl (Yk.bin (xv := NI i) (yv := NI 1) T17 rfl rfl (i64_add _ _ _ (by omega)) (oM rfl (oL_ [(0, v), (1, v3), (2, .bool (q)), (6, (Value.slice none 0 0)), (7, v54), (9, PQ n27 0), (11, .bool (decide (A.getD i [] ∈ B))), (15, v10), (16, NI A.length), (17, NI ((i) + (1)))] ⟨T0, T1, T2, T6, rfl, rfl, rfl, T15, T16, rfl, trivial⟩ fun ρ59 ⟨T0, T1, T2, T6, T7, T9, T11, T15, T16, T17, _⟩ => (tN (And.intro ⟨i + 1, v54, T0, T1, T2, T6, T15, T16, T17, T7, hE, hA15, og_eq ho56 (by rw [pick_memS hlt, if_pos hq]), by omega, trivial⟩ ?_)))))))))))
   show A.length - (intOf (ρ59 17)).toNat < A.length - (intOf (ρ18 17)).toNat
   rw [T17, q17]
   simp only [intOf, Int.toNat_natCast]; omega
  have hq : ¬ (decide (A.getD i [] ∈ B) == q) = true := by rw [hc1]; decide
  refine wpF_skip (bN (tN (hK22 _ _ (wt (oS rfl (Yk.bin (xv := NI i) (yv := NI 1) T17 rfl rfl (i64_add _ _ _ (by omega)) (oM rfl (oL_ [(0, v), (1, v3), (2, .bool (q)), (6, (Value.slice none 0 0)), (7, vo), (9, PQ n27 0), (11, .bool (decide (A.getD i [] ∈ B))), (15, v10), (16, NI A.length), (17, NI ((i) + (1)))] ⟨T0, T1, T2, T6, T7, rfl, rfl, T15, T16, rfl, trivial⟩ fun ρ60 ⟨T0, T1, T2, T6, T7, T9, T11, T15, T16, T17, _⟩ => (tN (And.intro ⟨i + 1, vo, T0, T1, T2, T6, T15, T16, T17, T7, hE, hA15, og_eq hr_vo (by rw [pick_memS hlt, if_neg hq, List.append_nil]), by omega, trivial⟩ ?_))))))))))
  show A.length - (intOf (ρ60 17)).toNat < A.length - (intOf (ρ18 17)).toNat
  rw [T17, q17]
  simp only [intOf, Int.toNat_natCast]; omega
 refine wpF_exit (thenF_exit (thenF_exit (inBlockF_hit (tN (hK8 _ _ (sk fun K61 hK61 => (wt (oM rfl (oA rfl (oZ (tN (hK61 _ _ (wpF_ret (postF_ret (fn := Tryd.f93) _ rfl [vo] (vo) rfl ⟨T7, trivial⟩ ?_))))))))))))))
 have hie : i = A.length := by omega
 subst hie
 exact ⟨_, _, rfl, OG.low hr_vo (by have := hz17; omega), pick_sasc (by rw [List.take_length]; exact hSA), fun x => by unfold pickB; rw [List.take_length, List.mem_filter, hmA, show decide (x ∈ B) = decide (x ∈ b) from decide_eq_decide.2 (hmB x)], by rw [List.take_length]; unfold pickB; exact Nat.le_trans (List.length_filter_le _ _) hlA, hE⟩

theorem minus_any (w : World) (v v2 : Value) (a b : List Bs) (hr : RG 32 Lib.byteCells w v a) (hr2 : RG 32 Lib.byteCells w v2 b) (ha : a.length ≤ 100000) (hb : b.length ≤ 100000) :
  Calls Tryd.prog 44 #[v, v2] w fun e w' => ∃ v' o, e = .returned v' ∧ OG w.heap.size 25 32 Lib.byteCells w' v' o ∧ SAsc o ∧ (∀ x, x ∈ o ↔ x ∈ a ∧ x ∉ b) ∧ o.length ≤ a.length ∧ Ext w w' := by
 refine calls_of_wpF (args := [v, v2]) Tryd.func44 rfl 8 rfl (Nat.le_of_ble_eq_true rfl) ?_
 intro ρ0 hb
 have T0 : ρ0 0 = (v : Value) := hb.get 0
 have T1 : ρ0 1 = (v2 : Value) := hb.get 1
 clear hb
 have hE := Ext.refl w
 refine sk fun K1 hK1 => (wt (oA rfl (oZ (tN (hK1 _ _ (sk fun K2 hK2 => (wt (oM rfl (oM rfl (oS rfl (Yk.callA3 wr46_pl93 T0 T1 (vr (.bool (false)) rfl) ((pick_any _ v v2 a b hr hr2 ha hb false).mono ?_))))))))))))
 rintro e w6 ⟨v3, o, rfl, ho4, hS, hm, hl, hx5⟩
 refine ⟨_, rfl, ?_⟩
 have hr := hr.keep hx5
 have hr2 := hr2.keep hx5
 have hE := hE.trans hx5
 refine oA rfl (oZ (tN (hK2 _ _ (wpF_ret (postF_ret (fn := Tryd.f44) _ rfl [v3] (v3) rfl ⟨rfl, trivial⟩ ?_)))))
 exact ⟨_, o, rfl, ho4, hS, fun x => by rw [hm]; simp, hl, hE⟩
open Go.RowKit
set_option maxRecDepth 100000
def rootsN (r : Refs) (i : Nat) : List Bs := [r.at_.1] ++ ((r.branches ++ r.tags).take i).map fun n => n.id.1
def rootsE (r : Refs) (j : Nat) : List Bs := ([r.at_.1] ++ (r.branches ++ r.tags).map fun n => n.id.1) ++ (r.log.take j).flatMap fun e => [e.old.1, e.new.1]
def rootsL (r : Refs) : List Bs := ([r.at_.1] ++ (r.branches ++ r.tags).map fun n => n.id.1) ++ r.log.flatMap fun e => [e.old.1, e.new.1]
theorem roots_mid {r : Refs} {i : Nat} (h : i = (r.branches ++ r.tags).length) : rootsN r i = rootsE r 0 := by
 subst h
 unfold rootsN rootsE
 rw [List.take_length, List.take_zero, List.flatMap_nil, List.append_nil]
theorem rootsN_len (r : Refs) (i : Nat) : (rootsN r i).length ≤ 1 + (r.branches.length + r.tags.length) := by
 unfold rootsN
 rw [List.length_append, List.length_map, List.length_take, List.length_append]
 simp only [List.length_cons, List.length_nil]
 omega
theorem flat2_len : ∀ l : List Ent, (l.flatMap fun e => [e.old.1, e.new.1]).length = 2 * l.length
 | [] => rfl
 | a :: l => by rw [List.flatMap_cons, List.length_append, flat2_len l]; simp only [List.length_cons, List.length_nil]; omega
theorem rootsE_len (r : Refs) (j : Nat) : (rootsE r j).length ≤ 1 + (r.branches.length + r.tags.length) + 2 * r.log.length := by
 unfold rootsE
 rw [List.length_append, flat2_len, List.length_append, List.length_map, List.length_take, List.length_append]
 simp only [List.length_cons, List.length_nil]
 omega
theorem take_flat_snoc {α β : Type} {f : α → List β} {l : List α} {i : Nat} (d : α) (h : i < l.length) : (l.take (i + 1)).flatMap f = (l.take i).flatMap f ++ f (l.getD i d) := by
 rw [List.take_succ_eq_append_getElem h, List.flatMap_append, List.flatMap_cons, List.flatMap_nil, List.append_nil, List.getD_eq_getElem?_getD, List.getElem?_eq_getElem h]; rfl
section
variable {P : Program} {K : Value → World → Prop} {ρ : Slots} {w : World} {d : Option Tmp} {ty : TypeId} {pos : String} {af : Array Edge} {gd : Option (Nat × Bool)} {α : Type} {t : TypeId}
theorem Yk.pairG {k : Nat} {enc : α → List Value} {e : TypeId} {x y : Operand} {a b : α} (hx : evalR ρ x = .agg (enc a).toArray) (hy : evalR ρ y = .agg (enc b).toArray) (hl : (enc a).length = k) (hl2 : (enc b).length = k)
  (hr : ∀ (cs cs' : Array Value), cs.size = k → cs'.size = k → ∀ w : World, (Instr.buildSlice t 2 #[(0, .agg cs), (1, .agg cs')]).run P w = .ok (.slice (some ⟨w.heap.size, 0, none⟩) 2 2) (w.alloc (.cells (cs.toList ++ cs'.toList).toArray e)))
  (hk : ∀ v w', RG k enc w' v [a, b] → Ext w w' → K v w') : Yk P K ((execOp (evalR ρ) ⟨d, .buildSlice t 2 #[(0, x), (1, y)], ty, pos, af, gd⟩).run P w) := by
 have hE : Ext w (w.alloc (.cells (enc a ++ enc b).toArray e)) := (Below.refl _ _).alloc (Nat.le_refl _) _
 have hen : ∀ q ∈ [a, b], (enc q).length = k := fun q hq => by
  rcases List.mem_cons.1 hq with rfl | hq
  ·exact hl
  ·rw [List.mem_singleton.1 hq]; exact hl2
 have hnew := heap_alloc_new w (.cells (enc a ++ enc b).toArray e)
 refine Yk.value (v := .slice (some ⟨w.heap.size, 0, none⟩) 2 2) (w' := w.alloc (.cells (enc a ++ enc b).toArray e)) ?_ (hk _ _ (RG.ofOwn (OG.ofRow (b := 0) (t := e) (l := [a, b]) (R := []) (c := 2) hen (Nat.zero_le _) (hnew.trans (by simp)) (by simp [hl, hl2]; omega) (Nat.le_refl _) (by unfold maxLen; omega))) hE)
 unfold execOp
 simp only [List.map_toArray, List.map_cons, List.map_nil, hx, hy, Sem.run_bind, hr _ _ (show (enc a).toArray.size = k by rw [List.size_toArray]; exact hl) (show (enc b).toArray.size = k by rw [List.size_toArray]; exact hl2), Result.andThen_ok, Sem.run_pure]
end
set_option maxHeartbeats 1600000
theorem wr47_fo53_3 : FieldOff Tryd.prog 53 3 3 := fun b o w => by simp [go_sem]
theorem wr47_ty25 : Tryd.prog.underlying 25 = some (.array 32 5) := by kernel_rfl
theorem wr47_lh23 (c0 c1 c2 c3 c4 c5 c6 c7 c8 c9 c10 c11 c12 c13 c14 c15 c16 c17 c18 c19 c20 c21 c22 c23 c24 c25 c26 c27 c28 c29 c30 c31 : Value) (w : World) : (Instr.buildSlice 23 1 #[(0, .agg #[c0, c1, c2, c3, c4, c5, c6, c7, c8, c9, c10, c11, c12, c13, c14, c15, c16, c17, c18, c19, c20, c21, c22, c23, c24, c25, c26, c27, c28, c29, c30, c31])]).run Tryd.prog w = .ok (.slice (some ⟨w.heap.size, 0, none⟩) 1 1) (w.alloc (.cells #[c0, c1, c2, c3, c4, c5, c6, c7, c8, c9, c10, c11, c12, c13, c14, c15, c16, c17, c18, c19, c20, c21, c22, c23, c24, c25, c26, c27, c28, c29, c30, c31] 25)) := by kernel_rfl
theorem wr47_lg23 : ∀ (cs : Array Value), cs.size = 32 → ∀ w : World, (Instr.buildSlice 23 1 #[(0, .agg cs)]).run Tryd.prog w = .ok (.slice (some ⟨w.heap.size, 0, none⟩) 1 1) (w.alloc (.cells cs 25))
 | ⟨[c0, c1, c2, c3, c4, c5, c6, c7, c8, c9, c10, c11, c12, c13, c14, c15, c16, c17, c18, c19, c20, c21, c22, c23, c24, c25, c26, c27, c28, c29, c30, c31]⟩, _, w => wr47_lh23 c0 c1 c2 c3 c4 c5 c6 c7 c8 c9 c10 c11 c12 c13 c14 c15 c16 c17 c18 c19 c20 c21 c22 c23 c24 c25 c26 c27 c28 c29 c30 c31 w
theorem wr47_fo53_0 : FieldOff Tryd.prog 53 0 0 := fun b o w => by simp [go_sem]
theorem wr47_ty51 : Tryd.prog.underlying 51 = some (.slice 70) := by kernel_rfl
theorem wr47_pl74 : Plain Tryd.prog 74 := fun _ _ => by kernel_rfl
theorem wr47_fo53_1 : FieldOff Tryd.prog 53 1 1 := fun b o w => by simp [go_sem]
theorem wr47_ig70 : ∃ z, (Tryd.prog.info? 70).map (fun i => (i.zero, i.size, i.bytes)) = some (some z, 33, 48) ∧ z.cells.size = 33 := info_ex (by kernel_rfl)
theorem wr47_szg70 : ∀ w' : World, (sizeOf 70).run Tryd.prog w' = .ok 33 w' := fun _ => by kernel_rfl
theorem wr47_ty70 : ∃ fs, Tryd.prog.underlying 70 = some (.struct fs) := struct_of (by kernel_rfl)
theorem wr47_isz70 : (Tryd.prog.info? 70).map (·.size) = some 33 := by kernel_rfl
theorem wr47_al70 {d : Option Tmp} {ty : TypeId} {pos : String} {af : Array Edge} {gd : Option (Nat × Bool)} (σ : Operand → Value) (w : World) : (execOp σ ⟨d, .alloc 70, ty, pos, af, gd⟩).run Tryd.prog w = .ok (.value (PQ w.heap.size 0)) (w.alloc (.cells (nmdC (⟨[], zid⟩ : Nmd)).toArray 70)) := by kernel_rfl
theorem wr47_fo70_1 : FieldOff Tryd.prog 70 1 1 := fun b o w => by simp [go_sem]
theorem wr47_ig25 : ∃ z, (Tryd.prog.info? 25).map (fun i => (i.zero, i.size, i.bytes)) = some (some z, 32, 32) ∧ z.cells.size = 32 := info_ex (by kernel_rfl)
theorem wr47_ty23 : Tryd.prog.underlying 23 = some (.slice 25) := by kernel_rfl
theorem wr47_fo53_4 : FieldOff Tryd.prog 53 4 35 := fun b o w => by simp [go_sem]
theorem wr47_ty47 : Tryd.prog.underlying 47 = some (.slice 122) := by kernel_rfl
theorem wr47_szg122 : ∀ w' : World, (sizeOf 122).run Tryd.prog w' = .ok 67 w' := fun _ => by kernel_rfl
theorem wr47_ty122 : ∃ fs, Tryd.prog.underlying 122 = some (.struct fs) := struct_of (by kernel_rfl)
theorem wr47_isz122 : (Tryd.prog.info? 122).map (·.size) = some 67 := by kernel_rfl
theorem wr47_al122 {d : Option Tmp} {ty : TypeId} {pos : String} {af : Array Edge} {gd : Option (Nat × Bool)} (σ : Operand → Value) (w : World) : (execOp σ ⟨d, .alloc 122, ty, pos, af, gd⟩).run Tryd.prog w = .ok (.value (PQ w.heap.size 0)) (w.alloc (.cells (entC (⟨0, [], zid, zid, []⟩ : Ent)).toArray 122)) := by kernel_rfl
theorem wr47_fo122_0 : FieldOff Tryd.prog 122 0 0 := fun b o w => by simp [go_sem]
theorem wr47_fo67_2 : FieldOff Tryd.prog 67 2 2 := fun b o w => by simp [go_sem]
theorem wr47_fo67_3 : FieldOff Tryd.prog 67 3 34 := fun b o w => by simp [go_sem]
theorem wr47_l2h (c0 c1 c2 c3 c4 c5 c6 c7 c8 c9 c10 c11 c12 c13 c14 c15 c16 c17 c18 c19 c20 c21 c22 c23 c24 c25 c26 c27 c28 c29 c30 c31 d0 d1 d2 d3 d4 d5 d6 d7 d8 d9 d10 d11 d12 d13 d14 d15 d16 d17 d18 d19 d20 d21 d22 d23 d24 d25 d26 d27 d28 d29 d30 d31 : Value) (w : World) : (Instr.buildSlice 23 2 #[(0, .agg #[c0, c1, c2, c3, c4, c5, c6, c7, c8, c9, c10, c11, c12, c13, c14, c15, c16, c17, c18, c19, c20, c21, c22, c23, c24, c25, c26, c27, c28, c29, c30, c31]), (1, .agg #[d0, d1, d2, d3, d4, d5, d6, d7, d8, d9, d10, d11, d12, d13, d14, d15, d16, d17, d18, d19, d20, d21, d22, d23, d24, d25, d26, d27, d28, d29, d30, d31])]).run Tryd.prog w = .ok (.slice (some ⟨w.heap.size, 0, none⟩) 2 2) (w.alloc (.cells ([c0, c1, c2, c3, c4, c5, c6, c7, c8, c9, c10, c11, c12, c13, c14, c15, c16, c17, c18, c19, c20, c21, c22, c23, c24, c25, c26, c27, c28, c29, c30, c31] ++ [d0, d1, d2, d3, d4, d5, d6, d7, d8, d9, d10, d11, d12, d13, d14, d15, d16, d17, d18, d19, d20, d21, d22, d23, d24, d25, d26, d27, d28, d29, d30, d31] : List Value).toArray 25)) := by kernel_rfl
theorem wr47_a32 : ∀ cs : Array Value, cs.size = 32 → ∃ c0 c1 c2 c3 c4 c5 c6 c7 c8 c9 c10 c11 c12 c13 c14 c15 c16 c17 c18 c19 c20 c21 c22 c23 c24 c25 c26 c27 c28 c29 c30 c31 : Value, cs = #[c0, c1, c2, c3, c4, c5, c6, c7, c8, c9, c10, c11, c12, c13, c14, c15, c16, c17, c18, c19, c20, c21, c22, c23, c24, c25, c26, c27, c28, c29, c30, c31]
 | ⟨[c0, c1, c2, c3, c4, c5, c6, c7, c8, c9, c10, c11, c12, c13, c14, c15, c16, c17, c18, c19, c20, c21, c22, c23, c24, c25, c26, c27, c28, c29, c30, c31]⟩, _ => ⟨c0, c1, c2, c3, c4, c5, c6, c7, c8, c9, c10, c11, c12, c13, c14, c15, c16, c17, c18, c19, c20, c21, c22, c23, c24, c25, c26, c27, c28, c29, c30, c31, rfl⟩
theorem wr47_l2g (a b : Array Value) (ha : a.size = 32) (hb : b.size = 32) (w : World) : (Instr.buildSlice 23 2 #[(0, .agg a), (1, .agg b)]).run Tryd.prog w = .ok (.slice (some ⟨w.heap.size, 0, none⟩) 2 2) (w.alloc (.cells (a.toList ++ b.toList).toArray 25)) := by
 obtain ⟨c0, c1, c2, c3, c4, c5, c6, c7, c8, c9, c10, c11, c12, c13, c14, c15, c16, c17, c18, c19, c20, c21, c22, c23, c24, c25, c26, c27, c28, c29, c30, c31, rfl⟩ := wr47_a32 a ha
 obtain ⟨d0, d1, d2, d3, d4, d5, d6, d7, d8, d9, d10, d11, d12, d13, d14, d15, d16, d17, d18, d19, d20, d21, d22, d23, d24, d25, d26, d27, d28, d29, d30, d31, rfl⟩ := wr47_a32 b hb
 exact wr47_l2h c0 c1 c2 c3 c4 c5 c6 c7 c8 c9 c10 c11 c12 c13 c14 c15 c16 c17 c18 c19 c20 c21 c22 c23 c24 c25 c26 c27 c28 c29 c30 c31 d0 d1 d2 d3 d4 d5 d6 d7 d8 d9 d10 d11 d12 d13 d14 d15 d16 d17 d18 d19 d20 d21 d22 d23 d24 d25 d26 d27 d28 d29 d30 d31 w
theorem wr47_pl44 : Plain Tryd.prog 44 := fun _ _ => by kernel_rfl
set_option maxHeartbeats 1600000
theorem roots_any (w : World) (z : RefsV) (hm : RefsAt w z) (hb1 : z.1.branches.length ≤ 80) (ht1 : z.1.tags.length ≤ 80) (hl1 : z.1.log.length ≤ 80) :
  Calls Tryd.prog 42 #[.agg (refsC z).toArray] w fun e w' => ∃ v' o, e = .returned v' ∧ OG w.heap.size 25 32 Lib.byteCells w' v' o ∧ SAsc o ∧ (∀ x, x ∈ o ↔ x ∈ rootsL z.1 ∧ x ≠ List.replicate 32 0) ∧ o.length ≤ 1 + (z.1.branches.length + z.1.tags.length) + 2 * z.1.log.length ∧ Ext w w' := by
 have hNT : (z.1.branches ++ z.1.tags).length = _ := List.length_append
 have hmt := hm.branches
 have hmg := hm.tags
 have hml := hm.log
 refine calls_of_wpF (args := [.agg (refsC z).toArray]) Tryd.func42 rfl 49 rfl (Nat.le_of_ble_eq_true rfl) ?_
 intro ρ0 hb
 have T0 : ρ0 0 = (.agg (refsC z).toArray : Value) := hb.get 0
 clear hb
 have hE := Ext.refl w
 refine sk fun K1 hK1 => (wt (oS rfl (Yk.box (cs := (refsC z : List Value).toArray) T0 fun n2 w3 hn4 hb5 hx6 hs7 => ?_)))
 have hE := hE.trans hx6
 have hb8 := hb5; clear hb5
 have hl9 : n2 < w3.heap.size := by omega
 refine oA rfl (oZ (tN (hK1 _ _ (sk fun K10 hK10 => (wt (oS rfl (Yk.fieldAt wr47_fo53_3 (vr (PQ n2 0) rfl) (oS rfl (Yk.loadPR (PR.blk hb8 (refs_m3 z) (refs_n3 z) (vr (PQ n2 3) rfl)) wr47_ty25 rfl (sizeId_of z.1.at_.2) ?_)))))))))
 have hA11 := Ext.refl w3
 have hea12 := hE
 have hz13 := hE.size
 refine oS rfl (Yk.lit1B (enc := Lib.byteCells) (a := z.1.at_.1) (vr (AB z.1.at_.1) rfl) (by rw [Lib.byteCells_length]; exact z.1.at_.2) wr47_lg23 fun n14 w15 hn16 hb17 hx18 hs19 => ?_)
 have hlt20 := lte (bl hb8) hn16
 have hE := hE.trans hx18
 have hb8 := eb hx18 hb8
 have hA11 := hA11.trans hx18
 obtain ⟨v21, hve_⟩ : ∃ v, v = Value.slice (some ⟨n14, 0, none⟩) 1 1 := ⟨_, rfl⟩
 rw [← hve_]
 have ho22 : OG w3.heap.size 25 32 Lib.byteCells w15 v21 [z.1.at_.1] := by rw [hve_]; exact OG.ofRow (R := []) (c := 1) (by intro q hq; rw [List.mem_singleton.1 hq, Lib.byteCells_length]; exact z.1.at_.2) (by omega) (by simpa using hb17) (by simp only [List.flatMap_cons, List.flatMap_nil, List.append_nil, Lib.byteCells_length]; exact z.1.at_.2) (Nat.le_refl _) (by unfold maxLen; omega)
 have hap23 : OB v21 n2 := by rw [hve_]; exact some_ne (show n14 ≠ n2 by omega)
 refine oA rfl (oZ (tN (hK10 _ _ (sk fun K24 hK24 => (sk fun K25 hK25 => ?_)))))
 have hA26 := Ext.refl w15
 have hea27 := hE
 have hea28 := hA11
 have hz29 := hE.size
 have hz30 := hA11.size
 have hlt31 : n2 < w15.heap.size := (bl hb8)
 refine wpF_draw_rowsB w15.heap.size (Nat.le_refl _) [5] (fun m => if m = 5 then [2] else []) (fun m => if m = 5 then [2, 5] else []) [Is (PQ n2 0), Is (z.2.branches), fun x w' => OG w15.heap.size 70 33 (nmdC) w' x (z.1.branches), Is (PQ n2 1), Is (z.2.tags), fun x w' => OG w15.heap.size 70 33 (nmdC) w' x (z.1.branches ++ z.1.tags), Is (NI ((z.1.branches ++ z.1.tags).length)), Is (NI 0)] (by kernel_rfl) [11, 12, 13, 14, 15, 16, 17, 18] (by kernel_rfl) (by kernel_rfl) (by kernel_rfl) (by kernel_rfl) rfl (si2 ⟨(fun _ _ _ h k => OG.keep h k), (si2 ⟨(fun _ _ _ h k => OG.keep h k), (si2 trivial)⟩)⟩) ⟨⟨.inr (Stab.is _), .inr (Stab.is _), .inl rfl, .inr (Stab.is _), .inr (Stab.is _), .inl rfl, .inr (Stab.is _), .inr (Stab.is _), trivial⟩, trivial⟩ ?hs2002 ?hQ2002
 case hs2002 =>
  refine ⟨?_, ?_, ?_, ?_, ?_, ?_, ?_, ?_, trivial⟩
  ·refine stepN rfl fun σ w1 hC h => ?_
   have hC : Ext w15 w1 := hC
   have e1 : σ 1 = PQ n2 0 := (eqo (h 1 (by decide))).trans rfl
   exact Yk.fieldAt wr47_fo53_0 e1 ⟨Ext.refl _, rfl⟩
  ·refine stepN rfl fun σ w1 hC h => ?_
   have hC : Ext w15 w1 := hC
   have e11 := eqo (h 11 (by decide))
   exact Yk.cell1 wr47_ty51 rfl e11 (cellAt (eb hC hb8) (show (refsC z)[0]? = some (z.2.branches : Value) from refs_g0 z)) ⟨Ext.refl _, rfl⟩
  ·refine stepN rfl fun σ w1 hC h => ?_
   have hC : Ext w15 w1 := hC
   have e12 := eqo (h 12 (by decide))
   refine Yk.callA1 wr47_pl74 e12 ((cloneNmd_any _ z.2.branches z.1.branches (hmt.keep (hE.trans hC)) (by omega)).mono ?_)
   rintro e w2 ⟨v, rfl, ho, hx⟩
   exact ⟨_, rfl, hx, OG.low ho hC.size⟩
  ·refine stepN rfl fun σ w1 hC h => ?_
   have hC : Ext w15 w1 := hC
   have e1 : σ 1 = PQ n2 0 := (eqo (h 1 (by decide))).trans rfl
   exact Yk.fieldAt wr47_fo53_1 e1 ⟨Ext.refl _, rfl⟩
  ·refine stepN rfl fun σ w1 hC h => ?_
   have hC : Ext w15 w1 := hC
   have e14 := eqo (h 14 (by decide))
   exact Yk.cell1 wr47_ty51 rfl e14 (cellAt (eb hC hb8) (show (refsC z)[1]? = some (z.2.tags : Value) from refs_g1 z)) ⟨Ext.refl _, rfl⟩
  ·refine stepN rfl fun σ w1 hC h => ?_
   have hC : Ext w15 w1 := hC
   have e13 : (fun x w' => OG w15.heap.size 70 33 (nmdC) w' x (z.1.branches)) (σ 13) w1 := h 13 (by decide)
   have e15 := eqo (h 15 (by decide))
   exact Yk.appendRG _ _ w15.heap.size _ 48 wr47_ty51 wr47_ig70.choose_spec.1 wr47_ig70.choose_spec.2 wr47_ty51 (z.1.branches) (z.1.tags) e13 (RG.of (hmg.keep (hE.trans hC)) e15) (fun _ _ => nmd_one) (by omega) (by omega) hC.size fun v w2 ho hg => ⟨hg.below hC.size (fun k hk => (e13.2.lt k hk).1), ho⟩
  ·refine stepN rfl fun σ w1 hC h => ?_
   have hC : Ext w15 w1 := hC
   have e16 : (fun x w' => OG w15.heap.size 70 33 (nmdC) w' x (z.1.branches ++ z.1.tags)) (σ 16) w1 := h 16 (by decide)
   exact Yk.lenRG wr47_ty51 (RG.ofOwn e16) ⟨Ext.refl _, rfl⟩
  ·refine stepN rfl fun σ w1 hC h => ?_
   have hC : Ext w15 w1 := hC
   exact Yk.move (vr (NI 0) rfl) ⟨Ext.refl _, rfl⟩
 intro ρ32 w33 hx34 he hf
 obtain ⟨-, -, -, -, -, k16, k17, k18, -⟩ := hf
 obtain ⟨T0, T1, T2, T3, -⟩ := he.hold [(0, _), (1, PQ n2 0), (2, (Value.slice none 0 0)), (3, v21)] ⟨T0, rfl, rfl, rfl, trivial⟩ rfl
 clear he
 have hx34 : Ext w15 w33 := hx34
 have hE := hE.trans hx34
 have hb8 := eb hx34 hb8
 have hA11 := hA11.trans hx34
 have ho22 := ho22.keep hx34
 have hA26 := hA26.trans hx34
 have k16 : (fun x w' => OG w15.heap.size 70 33 (nmdC) w' x (z.1.branches ++ z.1.tags)) (ρ32 16) w33 := k16
 obtain ⟨v35, T16⟩ : ∃ v, ρ32 16 = v := ⟨_, rfl⟩
 rw [T16] at k16
 have hk36 := k16; clear k16
 have hap37 : OB v35 n2 := own_older hk36.2 hlt31
 have T17 : ρ32 17 = NI ((z.1.branches ++ z.1.tags).length) := k17
 have T18 : ρ32 18 = NI 0 := k18
 clear k17 k18
 refine tN (hK25 _ _ (wpF_block (wpF_loop (fun (ρ : Slots) (wz : World) => ∃ i : Nat, ∃ vo : Value, ρ 0 = (.agg (refsC z).toArray : Value) ∧ ρ 1 = (PQ n2 0 : Value) ∧ ρ 2 = ((Value.slice none 0 0) : Value) ∧ ρ 16 = (v35 : Value) ∧ ρ 17 = (NI ((z.1.branches ++ z.1.tags).length) : Value) ∧ ρ 18 = (NI i : Value) ∧ ρ 3 = (vo : Value) ∧ Ext w wz ∧ wz.heap[n2]? = some (.cells (refsC z).toArray 53 (0, 0)) ∧ Ext w3 wz ∧ OG w15.heap.size 70 33 (nmdC) wz v35 (z.1.branches ++ z.1.tags) ∧ OG w3.heap.size 25 32 (Lib.byteCells) wz vo (rootsN z.1 i) ∧ (i ≤ (z.1.branches ++ z.1.tags).length) ∧ True) (fun ρ _ => (z.1.branches ++ z.1.tags).length - (intOf (ρ 18)).toNat) ⟨0, v21, T0, T1, T2, T16, T17, T18, T3, hE, hb8, hA11, hk36, og_eq ho22 (rfl), Nat.zero_le _, trivial⟩ ?_)))
 clear ho22
 clear hA26
 clear hE hb8 hA11 hk36
 rintro ρ38 w39 ⟨i, vo, T0, T1, T2, T16, T17, T18, T3, hE, hb8, hA11, hk36, hr_vo, hi, -⟩
 have q18 := T18
 refine sk fun K40 hK40 => (wt (oS rfl (Yk.eqI (a := (i : Nat)) (b := ((z.1.branches ++ z.1.tags).length : Nat)) T18 T17 (k_lss _ _ _ _) (oZ (tN (hK40 _ _ (sk fun K41 hK41 => ?_)))))))
 refine wpF_cond ((i) < ((z.1.branches ++ z.1.tags).length)) (vr (.bool (decide ((i) < ((z.1.branches ++ z.1.tags).length)))) rfl) (fun hc0 => ?_) (fun hc0 => ?_)
 ·have hlt : i < (z.1.branches ++ z.1.tags).length := hc0
  refine wpF_skip (tN (hK41 _ _ (sk fun K42 hK42 => (wpF_block (sk fun K43 hK43 => (wt ?_))))))
  have hl46 : (nmdC ((z.1.branches ++ z.1.tags).getD (i) dNmd)).length = 33 := (RG.elem (RG.ofOwn hk36) dNmd (by omega))
  refine oS rfl (Yk.atRG wr47_ty51 wr47_szg70 (by decide) dNmd (RG.of (RG.ofOwn hk36) T16) T18 (by omega) fun v44 hp45 => (oS rfl (Yk.loadPR (PR.of hp45 (vr v44 rfl)) (wr47_ty70).choose_spec rfl (by rw [nmd_len]; exact wr47_isz70) (oS rfl (Yk.alloc (cs := (nmdC (⟨[], zid⟩ : Nmd)).toArray) wr47_al70 fun n47 w48 hn49 hb50 hx51 hs52 => ?_)))))
  have hA53 := Ext.refl w39
  have hea54 := hE
  have hea55 := hA11
  have hz56 := hE.size
  have hz57 := hA11.size
  have hlt58 := lte (bl hb8) hn49
  have hap59 : OB v35 n47 := own_newer hk36.2 (by omega)
  have hap60 : OB vo n47 := own_newer hr_vo.2 (by omega)
  have hE := hE.trans hx51
  have hb8 := eb hx51 hb8
  have hA11 := hA11.trans hx51
  have hk36 := hk36.keep hx51
  have hr_vo := hr_vo.keep hx51
  have hA53 := hA53.trans hx51
  have hb61 := hb50; clear hb50
  have hl62 : n47 < w48.heap.size := by omega
  have hap63 := OG.off hr_vo hb61 (by decide)
  refine oS rfl (Yk.storeAll (vr (PQ n47 0) rfl) (vr (.agg (nmdC ((z.1.branches ++ z.1.tags).getD (i) dNmd)).toArray) rfl) hb61 (by simp only [List.size_toArray, nmd_len]) (st_isz (nmd_len _) wr47_isz70) (nmd_one (x := ((z.1.branches ++ z.1.tags).getD (i) dNmd))) fun w64 hb65 hg66 hs67 => ?_)
  have hE := row_fresh hE hg66 (Nat.le_trans hz56 (by omega))
  have hb8 := kb hg66 hb8 (by omega)
  have hA11 := row_fresh hA11 hg66 (Nat.le_trans hz57 (by omega))
  have hk36 := OG.kept hk36 hg66 hap59
  have hr_vo := OG.kept hr_vo hg66 hap63
  have hA53 := row_fresh hA53 hg66 (Nat.le_trans (Nat.le_refl _) (by omega))
  clear hb61
  have hb61 : w64.heap[n47]? = some (.cells (nmdC ((z.1.branches ++ z.1.tags).getD (i) dNmd)).toArray 70 (0, 0)) := hb65; clear hb65
  have hl68 := bl hb61
  refine oZ ?_
  clear hp45
  refine tN (hK43 _ _ (wt (oM rfl (oS rfl (Yk.fieldAt wr47_fo70_1 (vr (PQ n47 0) rfl) (oS rfl (Yk.loadPR (PR.blk hb61 (nmd_m1 ((z.1.branches ++ z.1.tags).getD (i) dNmd)) (nmd_n1 ((z.1.branches ++ z.1.tags).getD (i) dNmd)) (vr (PQ n47 1) rfl)) wr47_ty25 rfl (sizeId_of (((z.1.branches ++ z.1.tags).getD (i) dNmd)).id.2) (oS rfl (Yk.lit1G (a := ((((z.1.branches ++ z.1.tags).getD (i) dNmd)).id.1)) (enc := Lib.byteCells) (vr (AB ((((z.1.branches ++ z.1.tags).getD (i) dNmd)).id.1)) rfl) (by rw [Lib.byteCells_length]; exact (((z.1.branches ++ z.1.tags).getD (i) dNmd)).id.2) wr47_lg23 fun v69 w70 hr71 hx72 => ?_)))))))))
  have hE := hE.trans hx72
  have hb8 := eb hx72 hb8
  have hA11 := hA11.trans hx72
  have hk36 := hk36.keep hx72
  have hr_vo := hr_vo.keep hx72
  have hA53 := hA53.trans hx72
  have hb61 := eb hx72 hb61
  have hap73 := OG.off hr_vo hb8 (by decide)
  have hap74 := OG.apart hr_vo hk36 (by decide)
  have hap75 := OG.off hr_vo hb61 (by decide)
  have hap76 := OG.off hr_vo hb8 (by decide)
  have hap77 := OG.apart hr_vo hk36 (by decide)
  have hap78 := OG.off hr_vo hb61 (by decide)
  refine oS rfl (Yk.appendRG _ _ w3.heap.size _ 32 wr47_ty23 wr47_ig25.choose_spec.1 wr47_ig25.choose_spec.2 wr47_ty23 (rootsN z.1 i) ([((((z.1.branches ++ z.1.tags).getD (i) dNmd)).id.1)]) (OG.of hr_vo T3) (RG.of hr71 (vr v69 rfl)) (fun _ _ => byteCells_one _) (by have := rootsN_len z.1 i; simp only [List.length_cons, List.length_nil]; omega) (by have := rootsN_len z.1 i; simp only [List.length_cons, List.length_nil]; omega) hA11.size fun v79 w80 ho81 hg82 => ?_)
  have hg82 : Grew w70 w80 vo v79 := .eqv T3 hg82
  have hap83 : OB v79 n47 := apart_grew hg82 hap78 (bl hb61)
  have hap84 : OB v79 n2 := apart_grew hg82 hap76 (bl hb8)
  have hap85 : ApartV v79 v35 := apartv_grew hg82 hap77 hk36.2
  have hap86 : ApartV v35 v79 := fun k h1 h2 => hap85 k h2 h1
  have hE := ext_grew hE hg82 hr_vo.2 hz13
  have hb8 := blk_grew hb8 hg82 hap76
  have hA11 := ext_grew hA11 hg82 hr_vo.2 (Nat.le_refl _)
  have hk36 := og_grew hk36 hg82 hap77
  clear hA53
  have hb61 := blk_grew hb61 hg82 hap78
  clear hr71
  clear hr_vo
  refine oA rfl (oZ (bN (tN (hK42 _ _ (wt (oS rfl (Yk.bin (xv := NI i) (yv := NI 1) T18 rfl rfl (i64_add _ _ _ (by omega)) (oM rfl (oL_ [(0, .agg (refsC z).toArray), (1, PQ n2 0), (2, (Value.slice none 0 0)), (3, v79), (5, PQ n47 0), (16, v35), (17, NI ((z.1.branches ++ z.1.tags).length)), (18, NI ((i) + (1)))] ⟨T0, T1, T2, rfl, rfl, T16, T17, rfl, trivial⟩ fun ρ87 ⟨T0, T1, T2, T3, T5, T16, T17, T18, _⟩ => (tN (And.intro ⟨i + 1, v79, T0, T1, T2, T16, T17, T18, T3, hE, hb8, hA11, hk36, og_eq ho81 ((by unfold rootsN; exact take_map_snoc hlt)), by omega, trivial⟩ ?_)))))))))))
  show (z.1.branches ++ z.1.tags).length - (intOf (ρ87 18)).toNat < (z.1.branches ++ z.1.tags).length - (intOf (ρ38 18)).toNat
  rw [T18, q18]
  simp only [intOf, Int.toNat_natCast]; omega
 refine wpF_exit (thenF_exit (thenF_exit (inBlockF_hit (tN (hK24 _ _ (sk fun K88 hK88 => (sk fun K89 hK89 => (wt (oS rfl (Yk.fieldAt wr47_fo53_4 T1 (oS rfl (Yk.cell1 wr47_ty47 rfl (vr (PQ n2 35) rfl) (cellAt hb8 (show (refsC z)[35]? = some (z.2.log : Value) from refs_g4 z)) (oS rfl (Yk.lenRG wr47_ty47 (RG.of (hml.keep hE) (vr z.2.log rfl)) (oM rfl (oL_ [(0, .agg (refsC z).toArray), (1, PQ n2 0), (2, (Value.slice none 0 0)), (3, vo), (16, v35), (17, NI ((z.1.branches ++ z.1.tags).length)), (18, NI i), (29, z.2.log), (30, NI ((z.1.log).length)), (31, NI 0)] ⟨T0, T1, T2, T3, T16, T17, T18, rfl, rfl, rfl, trivial⟩ fun ρ90 ⟨T0, T1, T2, T3, T16, T17, T18, T29, T30, T31, _⟩ => (tN (hK89 _ _ (wpF_block (wpF_loop (fun (ρ : Slots) (wz : World) => ∃ j : Nat, ∃ vp : Value, ρ 0 = (.agg (refsC z).toArray : Value) ∧ ρ 1 = (PQ n2 0 : Value) ∧ ρ 2 = ((Value.slice none 0 0) : Value) ∧ ρ 16 = (v35 : Value) ∧ ρ 17 = (NI ((z.1.branches ++ z.1.tags).length) : Value) ∧ ρ 18 = (NI i : Value) ∧ ρ 29 = (z.2.log : Value) ∧ ρ 30 = (NI ((z.1.log).length) : Value) ∧ ρ 31 = (NI j : Value) ∧ ρ 3 = (vp : Value) ∧ Ext w wz ∧ wz.heap[n2]? = some (.cells (refsC z).toArray 53 (0, 0)) ∧ Ext w3 wz ∧ OG w15.heap.size 70 33 (nmdC) wz v35 (z.1.branches ++ z.1.tags) ∧ OG w3.heap.size 25 32 (Lib.byteCells) wz vp (rootsE z.1 j) ∧ (j ≤ z.1.log.length) ∧ True) (fun ρ _ => z.1.log.length - (intOf (ρ 31)).toNat) ⟨0, vo, T0, T1, T2, T16, T17, T18, T29, T30, T31, T3, hE, hb8, hA11, hk36, og_eq hr_vo ((roots_mid (by omega))), Nat.zero_le _, trivial⟩ ?_))))))))))))))))))))
 clear hr_vo
 clear hE hb8 hA11 hk36
 rintro ρ91 w92 ⟨j, vp, T0, T1, T2, T16, T17, T18, T29, T30, T31, T3, hE, hb8, hA11, hk36, hr_vp, hj, -⟩
 have q31 := T31
 refine sk fun K93 hK93 => (wt (oS rfl (Yk.eqI (a := (j : Nat)) (b := ((z.1.log).length : Nat)) T31 T30 (k_lss _ _ _ _) (oZ (tN (hK93 _ _ (sk fun K94 hK94 => ?_)))))))
 refine wpF_cond ((j) < ((z.1.log).length)) (vr (.bool (decide ((j) < ((z.1.log).length)))) rfl) (fun hc1 => ?_) (fun hc1 => ?_)
 ·have hlt2 : j < z.1.log.length := hc1
  refine wpF_skip (tN (hK94 _ _ (sk fun K95 hK95 => (wpF_block (sk fun K96 hK96 => (wt ?_))))))
  have hl99 : (entC ((z.1.log).getD (j) dEntry)).length = 67 := (RG.elem (hml.keep hE) dEntry (by omega))
  refine oS rfl (Yk.atRG wr47_ty47 wr47_szg122 (by decide) dEntry (RG.of (hml.keep hE) T29) T31 (by omega) fun v97 hp98 => (oS rfl (Yk.loadPR (PR.of hp98 (vr v97 rfl)) (wr47_ty122).choose_spec rfl (by rw [ent_len]; exact wr47_isz122) (oS rfl (Yk.alloc (cs := (entC (⟨0, [], zid, zid, []⟩ : Ent)).toArray) wr47_al122 fun n100 w101 hn102 hb103 hx104 hs105 => ?_)))))
  have hA106 := Ext.refl w92
  have hea107 := hE
  have hea108 := hA11
  have hz109 := hE.size
  have hz110 := hA11.size
  have hlt111 := lte (bl hb8) hn102
  have hap112 : OB v35 n100 := own_newer hk36.2 (by omega)
  have hap113 : OB vp n100 := own_newer hr_vp.2 (by omega)
  have hE := hE.trans hx104
  have hb8 := eb hx104 hb8
  have hA11 := hA11.trans hx104
  have hk36 := hk36.keep hx104
  have hr_vp := hr_vp.keep hx104
  have hA106 := hA106.trans hx104
  have hb114 := hb103; clear hb103
  have hl115 : n100 < w101.heap.size := by omega
  have hap116 := OG.off hk36 hb114 (by decide)
  have hap117 := OG.off hr_vp hb114 (by decide)
  refine oS rfl (Yk.storeAll (vr (PQ n100 0) rfl) (vr (.agg (entC ((z.1.log).getD (j) dEntry)).toArray) rfl) hb114 (by simp only [List.size_toArray, ent_len]) (st_isz (ent_len _) wr47_isz122) (ent_one (x := ((z.1.log).getD (j) dEntry))) fun w118 hb119 hg120 hs121 => ?_)
  have hE := row_fresh hE hg120 (Nat.le_trans hz109 (by omega))
  have hb8 := kb hg120 hb8 (by omega)
  have hA11 := row_fresh hA11 hg120 (Nat.le_trans hz110 (by omega))
  have hk36 := OG.kept hk36 hg120 hap116
  have hr_vp := OG.kept hr_vp hg120 hap117
  have hA106 := row_fresh hA106 hg120 (Nat.le_trans (Nat.le_refl _) (by omega))
  clear hb114
  have hb114 : w118.heap[n100]? = some (.cells (entC ((z.1.log).getD (j) dEntry)).toArray 122 (0, 0)) := hb119; clear hb119
  have hl122 := bl hb114
  refine oZ ?_
  clear hp98
  refine tN (hK96 _ _ (wt (oM rfl (oS rfl (Yk.fieldAt wr47_fo122_0 (vr (PQ n100 0) rfl) (oS rfl (Yk.fieldAt wr47_fo67_2 (vr (PQ n100 0) rfl) (oS rfl (Yk.loadPR (PR.blk hb114 (ent_m2 ((z.1.log).getD (j) dEntry)) (ent_n2 ((z.1.log).getD (j) dEntry)) (vr (PQ n100 2) rfl)) wr47_ty25 rfl (sizeId_of (((z.1.log).getD (j) dEntry)).old.2) (oS rfl (Yk.fieldAt wr47_fo122_0 (vr (PQ n100 0) rfl) (oS rfl (Yk.fieldAt wr47_fo67_3 (vr (PQ n100 0) rfl) (oS rfl (Yk.loadPR (PR.blk hb114 (ent_m3 ((z.1.log).getD (j) dEntry)) (ent_n3 ((z.1.log).getD (j) dEntry)) (vr (PQ n100 34) rfl)) wr47_ty25 rfl (sizeId_of (((z.1.log).getD (j) dEntry)).new.2) (oS rfl (Yk.pairG (enc := Lib.byteCells) (a := (((z.1.log).getD (j) dEntry)).old.1) (b := (((z.1.log).getD (j) dEntry)).new.1) (vr (AB ((((z.1.log).getD (j) dEntry)).old.1)) rfl) (vr (AB ((((z.1.log).getD (j) dEntry)).new.1)) rfl) (by rw [Lib.byteCells_length]; exact (((z.1.log).getD (j) dEntry)).old.2) (by rw [Lib.byteCells_length]; exact (((z.1.log).getD (j) dEntry)).new.2) wr47_l2g fun v123 w124 hr125 hx126 => ?_)))))))))))))))))
  have hE := hE.trans hx126
  have hb8 := eb hx126 hb8
  have hA11 := hA11.trans hx126
  have hk36 := hk36.keep hx126
  have hr_vp := hr_vp.keep hx126
  have hA106 := hA106.trans hx126
  have hb114 := eb hx126 hb114
  have hap127 := OG.off hr_vp hb8 (by decide)
  have hap128 := OG.apart hr_vp hk36 (by decide)
  have hap129 := OG.off hr_vp hb114 (by decide)
  have hap130 := OG.off hr_vp hb8 (by decide)
  have hap131 := OG.apart hr_vp hk36 (by decide)
  have hap132 := OG.off hr_vp hb114 (by decide)
  refine oS rfl (Yk.appendRG _ _ w3.heap.size _ 32 wr47_ty23 wr47_ig25.choose_spec.1 wr47_ig25.choose_spec.2 wr47_ty23 (rootsE z.1 j) ([(((z.1.log).getD (j) dEntry)).old.1, (((z.1.log).getD (j) dEntry)).new.1]) (OG.of hr_vp T3) (RG.of hr125 (vr v123 rfl)) (fun _ _ => byteCells_one _) (by have := rootsE_len z.1 j; simp only [List.length_cons, List.length_nil]; omega) (by have := rootsE_len z.1 j; simp only [List.length_cons, List.length_nil]; omega) hA11.size fun v133 w134 ho135 hg136 => ?_)
  have hg136 : Grew w124 w134 vp v133 := .eqv T3 hg136
  have hap137 : OB v133 n100 := apart_grew hg136 hap132 (bl hb114)
  have hap138 : OB v133 n2 := apart_grew hg136 hap130 (bl hb8)
  have hap139 : ApartV v133 v35 := apartv_grew hg136 hap131 hk36.2
  have hap140 : ApartV v35 v133 := fun k h1 h2 => hap139 k h2 h1
  have hE := ext_grew hE hg136 hr_vp.2 hz13
  have hb8 := blk_grew hb8 hg136 hap130
  have hA11 := ext_grew hA11 hg136 hr_vp.2 (Nat.le_refl _)
  have hk36 := og_grew hk36 hg136 hap131
  clear hA106
  have hb114 := blk_grew hb114 hg136 hap132
  clear hr125
  clear hr_vp
  refine oA rfl (oZ (bN (tN (hK95 _ _ (wt (oS rfl (Yk.bin (xv := NI j) (yv := NI 1) T31 rfl rfl (i64_add _ _ _ (by omega)) (oM rfl (oL_ [(0, .agg (refsC z).toArray), (1, PQ n2 0), (2, (Value.slice none 0 0)), (3, v133), (7, PQ n100 0), (16, v35), (17, NI ((z.1.branches ++ z.1.tags).length)), (18, NI i), (29, z.2.log), (30, NI ((z.1.log).length)), (31, NI ((j) + (1)))] ⟨T0, T1, T2, rfl, rfl, T16, T17, T18, T29, T30, rfl, trivial⟩ fun ρ141 ⟨T0, T1, T2, T3, T7, T16, T17, T18, T29, T30, T31, _⟩ => (tN (And.intro ⟨j + 1, v133, T0, T1, T2, T16, T17, T18, T29, T30, T31, T3, hE, hb8, hA11, hk36, og_eq ho135 ((by unfold rootsE; rw [take_flat_snoc dEntry hlt2, List.append_assoc])), by omega, trivial⟩ ?_)))))))))))
  show z.1.log.length - (intOf (ρ141 31)).toNat < z.1.log.length - (intOf (ρ91 31)).toNat
  rw [T31, q31]
  simp only [intOf, Int.toNat_natCast]; omega
 refine wpF_exit (thenF_exit (thenF_exit (inBlockF_hit (tN (hK88 _ _ (sk fun K142 hK142 => (wt (oM rfl (oS rfl (Yk.run (v := AB (List.replicate 32 0)) (by kernel_rfl) (oS rfl (Yk.lit1G (a := (List.replicate 32 0)) (enc := Lib.byteCells) (vr (AB (List.replicate 32 0)) rfl) (by rw [Lib.byteCells_length]; exact List.length_replicate) wr47_lg23 fun v143 w144 hr145 hx146 => ?_))))))))))))
 have hE := hE.trans hx146
 have hb8 := eb hx146 hb8
 have hA11 := hA11.trans hx146
 have hk36 := hk36.keep hx146
 have hr_vp := hr_vp.keep hx146
 have hz_ := hE.size
 refine oS rfl (Yk.callA2 wr47_pl44 T3 (vr v143 rfl) ((minus_any _ vp v143 (rootsE z.1 j) ([(List.replicate 32 0)]) (RG.ofOwn hr_vp) hr145 (by have := rootsE_len z.1 j; omega) (by simp)).mono ?_))
 rintro e w150 ⟨v147, o, rfl, ho148, hS, hmm, hol, hx149⟩
 refine ⟨_, rfl, ?_⟩
 have hE := hE.trans hx149
 have hb8 := eb hx149 hb8
 have hA11 := hA11.trans hx149
 have hk36 := hk36.keep hx149
 have hr_vp := hr_vp.keep hx149
 have hr145 := hr145.keep hx149
 have ho148 := OG.low ho148 hz_
 refine oA rfl (oZ (tN (hK142 _ _ (wpF_ret (postF_ret (fn := Tryd.f42) _ rfl [v147] (v147) rfl ⟨rfl, trivial⟩ ?_)))))
 have hje : j = z.1.log.length := by omega
 subst hje
 exact ⟨_, o, rfl, ho148, hS, fun x => (hmm x).trans (by rw [List.mem_singleton]; unfold rootsE rootsL; rw [List.take_length]), Nat.le_trans hol (rootsE_len z.1 _), hE⟩
open Go.RowKit
def rootsB (r : Refs) (x : Bs) : Prop := (∃ n ∈ r.branches, n.id.1 = x) ∨ (∃ n ∈ r.tags, n.id.1 = x) ∨ ∃ e ∈ r.log, e.old.1 = x ∨ e.new.1 = x
theorem roots_iff {r : Refs} {x : Bs} : x ∈ rootsL r ↔ x = r.at_.1 ∨ rootsB r x := by
  unfold rootsL rootsB
  simp only [List.mem_append, List.mem_map, List.mem_flatMap, List.mem_cons, List.not_mem_nil, or_false]
  constructor
  · rintro ((h | ⟨n, h | h, rfl⟩) | ⟨e, he, h⟩)
    · exact .inl h
    · exact .inr (.inl ⟨n, h, rfl⟩)
    · exact .inr (.inr (.inl ⟨n, h, rfl⟩))
    · exact .inr (.inr (.inr ⟨e, he, h.imp Eq.symm Eq.symm⟩))
  · rintro (h | ⟨n, h, rfl⟩ | ⟨n, h, rfl⟩ | ⟨e, he, h⟩)
    · exact .inl (.inl h)
    · exact .inl (.inr ⟨n, .inl h, rfl⟩)
    · exact .inl (.inr ⟨n, .inr h, rfl⟩)
    · exact .inr ⟨e, he, h.imp Eq.symm Eq.symm⟩
theorem turn_kept {l : List Nmd} {y : Upd} (h : (turnQ l y).1 = 0) {n : Nmd} (hn : n ∈ l) : n ∈ (turnQ l y).2 ∨ n.id.1 = y.old.1 := by
  unfold turnQ at h ⊢
  generalize placeN l y.name = p at h ⊢
  obtain ⟨i, hi, rfl⟩ := List.getElem_of_mem hn
  have hd : ∀ q (hq : q < l.length), l.getD q dNmd = l[q] := fun q hq => by rw [List.getD_eq_getElem?_getD, List.getElem?_eq_getElem hq]; rfl
  unfold turnP at h ⊢
  by_cases h1 : (if foundN l y.name p = true then (l.getD p dNmd).id else zid).1 ≠ y.old.1
  · rw [if_pos h1] at h; cases h
  rw [if_neg h1] at h ⊢
  have h1 := Classical.not_not.1 h1
  by_cases hf : foundN l y.name p = true
  · rw [if_pos hf] at h1
    by_cases hip : i = p
    · subst hip
      rw [hd _ hi] at h1
      exact .inr h1
    · left
      rw [if_pos hf]
      split
      · exact List.mem_eraseIdx_iff_getElem.2 ⟨i, hi, hip, rfl⟩
      · exact List.mem_iff_getElem.2 ⟨i, by rw [List.length_set]; exact hi, List.getElem_set_ne (fun e => hip e.symm) _⟩
  · left
    rw [if_neg hf] at h ⊢
    split
    · exact hn
    · rename_i hz
      rw [if_neg hz, if_neg hf] at h
      split
      · rename_i h4
        rw [if_pos h4] at h
        cases h
      · have hn2 : l[i] ∈ List.take p l ++ List.drop p l := by rw [List.take_append_drop]; exact hn
        rcases List.mem_append.1 hn2 with hm | hm
        · exact List.mem_append_left _ hm
        · exact List.mem_append_right _ (List.mem_cons_of_mem _ hm)
theorem step_kept {note : Bs} {r : Refs} {y : Upd} (h : (stepP note r y).1 = 0) {x : Bs} (hx : rootsB r x) : rootsB (stepP note r y).2 x := by
  unfold stepP at h ⊢
  by_cases h1 : updErr y ≠ 0
  · rw [if_pos h1] at h; exact absurd h h1
  rw [if_neg h1] at h ⊢
  by_cases h2 : (doP r y).1 ≠ 0
  · rw [if_pos h2] at h; exact absurd h h2
  rw [if_neg h2]
  have h2 := Classical.not_not.1 h2
  have hold : y.old.1 = x → rootsB (addlog (doP r y).2 (entOf y note)) x := fun e => .inr (.inr ⟨_, List.mem_append_right _ (List.mem_singleton.2 rfl), .inl e⟩)
  have hlog : (∃ e ∈ r.log, e.old.1 = x ∨ e.new.1 = x) → rootsB (addlog (doP r y).2 (entOf y note)) x := fun ⟨e, he, h⟩ => .inr (.inr ⟨e, List.mem_append_left _ (by rw [doP_log]; exact he), h⟩)
  unfold doP at h2 hold hlog ⊢
  split at h2
  · rename_i hk
    rw [if_pos hk] at hold hlog ⊢
    unfold branchP at h2 hold hlog ⊢
    by_cases h3 : hdlost r y = true
    · rw [if_pos h3] at h2; cases h2
    rw [if_neg h3] at h2 hold hlog ⊢
    by_cases h4 : (turnQ r.branches y).1 = 0
    · rw [if_pos h4] at hold hlog ⊢
      rcases hx with ⟨n, hn, rfl⟩ | hx | hx
      · rcases turn_kept h4 hn with h5 | h5
        · exact .inl ⟨n, h5, rfl⟩
        · exact hold h5.symm
      · exact .inr (.inl hx)
      · exact hlog hx
    · rw [if_neg h4] at h2; exact absurd h2 h4
  · rename_i hk
    rw [if_neg hk] at hold hlog ⊢
    split at h2
    · rename_i hk2
      rw [if_pos hk2] at hold hlog ⊢
      unfold tagP at h2 hold hlog ⊢
      by_cases h4 : (turnQ r.tags y).1 = 0
      · rw [if_pos h4] at hold hlog ⊢
        rcases hx with hx | ⟨n, hn, rfl⟩ | hx
        · exact .inl hx
        · rcases turn_kept h4 hn with h5 | h5
          · exact .inr (.inl ⟨n, h5, rfl⟩)
          · exact hold h5.symm
        · exact hlog hx
      · rw [if_neg h4] at h2; exact absurd h2 h4
    · rename_i hk2
      rw [if_neg hk2] at hold hlog ⊢
      rcases hx with hx | hx | hx
      · exact .inl hx
      · exact .inr (.inl hx)
      · exact hlog hx
theorem step_log {note : Bs} {r : Refs} {y : Upd} : (stepP note r y).2.log.length ≤ r.log.length + 1 := by
  unfold stepP
  split
  · exact Nat.le_succ _
  · split
    · exact Nat.le_succ _
    · show ((doP r y).2.log ++ [_]).length ≤ _
      rw [doP_log, List.length_append]; exact Nat.le_refl _
theorem run_kept {note : Bs} : ∀ {l : List Upd} {r : Refs}, (runP note r l).1 = 0 → (∀ x, rootsB r x → rootsB (runP note r l).2 x) ∧ (runP note r l).2.log.length ≤ r.log.length + l.length
  | [], r, _ => ⟨fun _ h => h, Nat.le_refl _⟩
  | y :: l, r, h => by
    unfold runP at h ⊢
    by_cases h1 : (stepP note r y).1 ≠ 0
    · rw [if_pos h1] at h; exact absurd h h1
    rw [if_neg h1] at h ⊢
    obtain ⟨h2, h3⟩ := run_kept h
    have h4 := step_log (note := note) (r := r) (y := y)
    exact ⟨fun x hx => h2 x (step_kept (Classical.not_not.1 h1) hx), by rw [List.length_cons]; omega⟩
theorem apply_kept {note : Bs} {r : Refs} {l : List Upd} (h : (applyP r l note).1 = 0) (hl : r.log.length + l.length ≤ 64) {x : Bs} (hx : x ∈ rootsL r) (ha : x ≠ r.at_.1) : x ∈ rootsL (applyP r l note).2 := by
  obtain ⟨h1, h2, h3⟩ := applyP_right h
  obtain ⟨h4, h5⟩ := run_kept (r := r) h2
  rw [h3]
  have h6 := h4 x ((roots_iff.1 hx).resolve_left ha)
  refine roots_iff.2 (.inr ?_)
  unfold cutlog
  rw [show (runP note r l).2.log.length - 64 = 0 by omega]
  exact h6
open Go.RowKit
structure GoodR (r : Refs) : Prop where
  br : nlistB r.branches = true
  tg : nlistB r.tags = true
  hd : rE2 r = false
  lg : ∀ e ∈ r.log, kindB e.kind = true ∧ noteB e.note = true ∧ e.name.length ≤ 32
theorem nlistB_iff {l : List Nmd} : nlistB l = true ↔ (∀ n ∈ l, nameB n.name = true ∧ zeroB n.id = false) ∧ sortN l ∧ l.length ≤ 64 := by
  classical
  constructor
  · intro h
    refine ⟨fun n hn => ?_, nlistB_sorted h⟩
    unfold nlistB at h
    have h := (of_decide_eq_true h).1
    obtain ⟨i, hi, rfl⟩ := List.mem_iff_getElem.1 hn
    have := h i hi
    unfold nE at this
    rw [List.getD_eq_getElem?_getD, List.getElem?_eq_getElem hi] at this
    simp only [Bool.or_eq_false_iff, Bool.not_eq_false', Option.getD_some] at this
    exact this.1
  · rintro ⟨h1, h2, h3⟩
    unfold nlistB
    refine decide_eq_true ⟨fun j hj => ?_, h3⟩
    unfold nE
    have := h1 (l.getD j dNmd) (getD_mem dNmd hj)
    rw [this.1, this.2]
    simp only [Bool.not_true, Bool.false_or, Bool.and_eq_false_iff, decide_eq_false_iff_not, Bool.not_eq_false']
    by_cases h0 : 0 < j
    · right
      rw [bytesLess_eq]
      exact decide_eq_true (h2 (j - 1) j (by omega) hj)
    · exact .inl h0
theorem rightF_iff {r : Refs} : rightF r = true ↔ GoodR r ∧ r.log.length ≤ 64 := by
  classical
  constructor
  · intro h
    obtain ⟨h1, h2, h3⟩ := rightF_lists h
    unfold rightF at h
    simp only [Bool.and_eq_true, Bool.not_eq_true', decide_eq_true_eq] at h
    refine ⟨⟨h1, h2, h.2.1, fun e he => ?_⟩, h3⟩
    obtain ⟨i, hi, rfl⟩ := List.mem_iff_getElem.1 he
    have := h.2.2 i hi
    unfold entE at this
    rw [List.getD_eq_getElem?_getD, List.getElem?_eq_getElem hi] at this
    simp only [Bool.or_eq_false_iff, Bool.not_eq_false', Option.getD_some, decide_eq_false_iff_not] at this
    exact ⟨this.1.1, this.1.2, by omega⟩
  · rintro ⟨h, h3⟩
    refine rightF_all (i := r.log.length) ?_ h.hd (Nat.le_refl _) fun j hj => ?_
    · unfold rE1; rw [h.br, h.tg]; simp; omega
    · have := h.lg _ (getD_mem dEntry hj)
      unfold entE
      rw [this.1, this.2.1, decide_eq_false (by omega)]
      rfl
theorem good_cut {r : Refs} (h : GoodR r) : rightF (cutlog r) = true := by
  refine rightF_iff.2 ⟨⟨h.br, h.tg, h.hd, fun e he => h.lg e (List.mem_of_mem_drop he)⟩, ?_⟩
  show (r.log.drop (r.log.length - 64)).length ≤ 64
  rw [List.length_drop]; omega
theorem turnQ_good {l : List Nmd} {y : Upd} (h : nlistB l = true) (hn : nameB y.name = true) : nlistB (turnQ l y).2 = true := by
  obtain ⟨h1, h2, h3⟩ := nlistB_iff.1 h
  obtain ⟨h4, h5⟩ := turnQ_sorted (y := y) h2 h3
  refine nlistB_iff.2 ⟨fun n hm => ?_, h4, h5⟩
  unfold turnQ at hm
  cases hf : foundN l y.name (placeN l y.name) with
  | true =>
    have hlt := found_lt hf
    rw [turnT hf] at hm
    split at hm
    · cases hm
    · split at hm
      · exact h1 n (List.mem_of_mem_eraseIdx hm)
      · rename_i hz
        rcases List.mem_or_eq_of_mem_set hm with hm | rfl
        · exact h1 n hm
        · exact ⟨(h1 _ (getD_mem dNmd hlt)).1, by simpa using hz⟩
  | false =>
    rw [turnF hf] at hm
    split at hm
    · cases hm
    · split at hm
      · exact h1 n hm
      · rename_i hz
        split at hm
        · cases hm
        · rcases List.mem_append.1 hm with hm | hm
          · exact h1 n (List.mem_of_mem_take hm)
          · rcases List.mem_cons.1 hm with rfl | hm
            · exact ⟨hn, by simpa using hz⟩
            · exact h1 n (List.mem_of_mem_drop hm)
theorem upd_facts {y : Upd} (h : updErr y = 0) : kindB y.kind = true ∧ uE1 y = false ∧ uE2 y = false ∧ uE3 y = false := by
  refine ⟨updErr_kind h, ?_⟩
  unfold updErr at h
  rw [updErr_kind h] at h
  simp only [Bool.not_true, Bool.false_eq_true, if_false] at h
  cases h1 : uE1 y with
  | true => rw [h1] at h; simp at h
  | false =>
    rw [h1] at h
    simp only [Bool.false_eq_true, if_false] at h
    cases h2 : uE2 y with
    | true => rw [h2] at h; simp at h
    | false =>
      rw [h2] at h
      simp only [Bool.false_eq_true, if_false] at h
      cases h3 : uE3 y with
      | true => rw [h3] at h; simp at h
      | false => exact ⟨rfl, rfl, rfl⟩
theorem upd_name {y : Upd} (h : updErr y = 0) : (y.kind.toNat ≠ 3 → nameB y.name = true) ∧ (y.name ≠ [] → nameB y.name = true) ∧ y.name.length ≤ 32 := by
  obtain ⟨-, -, -, h3⟩ := upd_facts h
  unfold uE3 at h3
  simp only [Bool.and_eq_false_iff, Bool.not_eq_false', Bool.or_eq_false_iff, decide_eq_false_iff_not] at h3
  refine ⟨fun hk => ?_, fun hn => ?_, ?_⟩
  · rcases h3 with h3 | h3
    · exact h3
    · exact absurd hk h3.1
  · rcases h3 with h3 | h3
    · exact h3
    · exact absurd hn h3.2
  · rcases h3 with h3 | h3
    · exact (nameB_len h3).2
    · rw [Classical.not_not.1 h3.2]; simp
theorem doP_good {r : Refs} {y : Upd} (h : GoodR r) (hu : updErr y = 0) (_h0 : (doP r y).1 = 0) : GoodR (doP r y).2 := by
  obtain ⟨hk, -, h2, h3⟩ := upd_facts hu
  obtain ⟨hn1, hn2, -⟩ := upd_name hu
  unfold doP
  split
  · rename_i hk1
    have hn := hn1 (by omega)
    unfold branchP
    split
    · exact h
    · split
      · exact ⟨turnQ_good h.br hn, h.tg, h.hd, h.lg⟩
      · exact h
  · split
    · rename_i hk2
      have hn := hn1 (by omega)
      unfold tagP
      split
      · exact ⟨h.br, turnQ_good h.tg hn, h.hd, h.lg⟩
      · exact h
    · rename_i hk1 hk2
      refine ⟨h.br, h.tg, ?_, h.lg⟩
      have hk3 : y.kind.toNat = 3 := by
        unfold kindB at hk
        simp only [Bool.or_eq_true, decide_eq_true_eq] at hk
        omega
      unfold uE2 at h2
      rw [hk3] at h2
      simp only [decide_true, Bool.true_and, Bool.or_eq_false_iff, Bool.not_eq_false'] at h2
      show rE2 ⟨r.branches, r.tags, y.name, y.new, r.log⟩ = false
      unfold rE2
      by_cases hy : y.name = []
      · have h4 := h2.2
        rw [decide_eq_true hy] at h4
        simp only [hy]
        cases hz : zeroB y.new with
        | true => rw [hz] at h4; simp at h4
        | false => simp
      · have h4 := h2.2
        rw [decide_eq_false hy] at h4
        simp only [hn2 hy]
        cases hz : zeroB y.new with
        | false => rw [hz] at h4; simp at h4
        | true => simp [hy]
theorem step_good {note : Bs} {r : Refs} {y : Upd} (hn : noteB note = true) (h : GoodR r) (h0 : (stepP note r y).1 = 0) : GoodR (stepP note r y).2 ∧ updErr y = 0 ∧ (doP r y).1 = 0 ∧ (stepP note r y).2 = addlog (doP r y).2 (entOf y note) := by
  unfold stepP at h0 ⊢
  split
  · rename_i h1; rw [if_pos h1] at h0; exact absurd h0 h1
  · rename_i h1
    rw [if_neg h1] at h0
    have h1 := Classical.not_not.1 h1
    split
    · rename_i h2; rw [if_pos h2] at h0; exact absurd h0 h2
    · rename_i h2
      have h2 := Classical.not_not.1 h2
      have h3 := doP_good h h1 h2
      refine ⟨⟨h3.br, h3.tg, h3.hd, fun e he => ?_⟩, h1, h2, rfl⟩
      rcases List.mem_append.1 he with he | he
      · exact h3.lg e he
      · rw [List.mem_singleton.1 he]
        exact ⟨(upd_facts h1).1, hn, (upd_name h1).2.2⟩
theorem run_good {note : Bs} (hn : noteB note = true) : ∀ {l : List Upd} {r : Refs}, GoodR r → (runP note r l).1 = 0 → GoodR (runP note r l).2
  | [], r, h, _ => h
  | y :: l, r, h, h0 => by
    unfold runP at h0 ⊢
    split
    · rename_i h1; rw [if_pos h1] at h0; exact absurd h0 h1
    · rename_i h1; rw [if_neg h1] at h0; exact run_good hn (step_good hn h (Classical.not_not.1 h1)).1 h0
theorem apply_right {note : Bs} {r : Refs} {l : List Upd} (h : (applyP r l note).1 = 0) : rightF (applyP r l note).2 = true := by
  obtain ⟨h1, h2, h3⟩ := applyP_right h
  simp only [Bool.or_eq_false_iff, Bool.not_eq_false'] at h1
  rw [h3]
  exact good_cut (run_good h1.2 (rightF_iff.1 h1.1).1 h2)
open Go.RowKit
set_option maxRecDepth 100000
noncomputable def look0P (r : Refs) : Id32 × Nat := if rightF r = true then (if r.head = [] then (r.at_, 0) else if foundN r.branches r.head (placeN r.branches r.head) = true then ((r.branches.getD (placeN r.branches r.head) dNmd).id, 0) else (zid, 4)) else (zid, 1)
theorem wr36_al25 {d : Option Tmp} {ty : TypeId} {pos : String} {af : Array Edge} {gd : Option (Nat × Bool)} (σ : Operand → Value) (w : World) : (execOp σ ⟨d, .alloc 25, ty, pos, af, gd⟩).run Tryd.prog w = .ok (.value (PQ w.heap.size 0)) (w.alloc (.cells (Lib.byteCells (List.replicate 32 0)).toArray 25)) := by kernel_rfl
theorem wr36_ty53 : ∃ fs, Tryd.prog.underlying 53 = some (.struct fs) := struct_of (by kernel_rfl)
theorem wr36_isz53 : (Tryd.prog.info? 53).map (·.size) = some 36 := by kernel_rfl
theorem wr36_pl31 : Plain Tryd.prog 31 := fun _ _ => by kernel_rfl
theorem wr36_ty25 : Tryd.prog.underlying 25 = some (.array 32 5) := by kernel_rfl
theorem wr36_fo53_2 : FieldOff Tryd.prog 53 2 2 := fun b o w => by simp [go_sem]
theorem wr36_ty9 : Tryd.prog.underlying 9 = some (.string) := by kernel_rfl
theorem wr36_fo53_3 : FieldOff Tryd.prog 53 3 3 := fun b o w => by simp [go_sem]
theorem wr36_fo53_0 : FieldOff Tryd.prog 53 0 0 := fun b o w => by simp [go_sem]
theorem wr36_ty51 : Tryd.prog.underlying 51 = some (.slice 70) := by kernel_rfl
theorem wr36_pl88 : Plain Tryd.prog 88 := fun _ _ => by kernel_rfl
theorem wr36_szg70 : ∀ w' : World, (sizeOf 70).run Tryd.prog w' = .ok 33 w' := fun _ => by kernel_rfl
theorem wr36_fo70_1 : FieldOff Tryd.prog 70 1 1 := fun b o w => by simp [go_sem]
theorem wr36_isz25 : (Tryd.prog.info? 25).map (·.size) = some 32 := by kernel_rfl
set_option maxHeartbeats 1600000
theorem look0_any (w : World) (z : RefsV) (hm : RefsAt w z) (hL : RefsLt z.1) :
  Calls Tryd.prog 39 #[.agg (refsC z).toArray, St []] w fun e w' => e = .returned (.tuple #[AB ((look0P z.1).1.1), NI (look0P z.1).2]) ∧ Ext w w' := by
 have hmt := hm.branches
 have hmg := hm.tags
 have hml := hm.log
 refine calls_of_wpF (args := [.agg (refsC z).toArray, St (([] : List UInt8))]) Tryd.func39 rfl 70 rfl (Nat.le_of_ble_eq_true rfl) ?_
 intro ρ0 hb
 have T0 : ρ0 0 = (.agg (refsC z).toArray : Value) := hb.get 0
 have T1 : ρ0 1 = (St (([] : List UInt8)) : Value) := hb.get 1
 clear hb
 have hE := Ext.refl w
 refine sk fun K1 hK1 => (wt (oS rfl (Yk.box (cs := (refsC z : List Value).toArray) T0 fun n2 w3 hn4 hb5 hx6 hs7 => ?_)))
 have hE := hE.trans hx6
 have hb8 := hb5; clear hb5
 have hl9 : n2 < w3.heap.size := by omega
 refine oS rfl (Yk.alloc (cs := (Lib.byteCells (List.replicate 32 0)).toArray) wr36_al25 fun n10 w11 hn12 hb13 hx14 hs15 => ?_)
 have hA16 := Ext.refl w3
 have hea17 := hE
 have hz18 := hE.size
 have hlt19 := lte (bl hb8) hn12
 have hE := hE.trans hx14
 have hb8 := eb hx14 hb8
 have hA16 := hA16.trans hx14
 have hb20 := hb13; clear hb13
 have hl21 : n10 < w11.heap.size := by omega
 refine oA rfl (oZ (tN (hK1 _ _ (sk fun K22 hK22 => (sk fun K23 hK23 => (wt (oS rfl (Yk.loadAll (vr (PQ n2 0) rfl) hb8 (wr36_ty53).choose_spec rfl (st_isz (refs_len z) wr36_isz53) (oS rfl (Yk.callA1 wr36_pl31 (vr (.agg (refsC z).toArray) rfl) ((fright_any _ z ⟨(hmt.keep hE), (hmg.keep hE), (hml.keep hE)⟩ hL).mono ?_)))))))))))
 rintro e w25 ⟨rfl, hx24⟩
 refine ⟨_, rfl, ?_⟩
 have hE := hE.trans hx24
 have hb8 := eb hx24 hb8
 have hA16 := hA16.trans hx24
 have hb20 := eb hx24 hb20
 refine oS rfl (Yk.notB (vr (.bool (rightF z.1)) rfl) (oZ (tN (hK23 _ _ ?_))))
 refine wpF_condB (!(rightF z.1)) (vr (.bool (!(rightF z.1))) rfl) (fun hc0 => ?_) (fun hc0 => ?_)
 ·have hrt : rightF z.1 = false := by simpa using hc0
  refine sk fun K26 hK26 => (wt (oS rfl (Yk.run (v := AB (List.replicate 32 0)) (by kernel_rfl) (oS rfl (Yk.storeAll (vr (PQ n10 0) rfl) (vr (AB (List.replicate 32 0)) rfl) hb20 (by exact idsize List.length_replicate List.length_replicate) (by exact sizeId_of List.length_replicate) (byteCells_one _) fun w27 hb28 hg29 hs30 => ?_)))))
  have hE := row_fresh hE hg29 (Nat.le_trans hz18 (by omega))
  have hb8 := kb hg29 hb8 (by omega)
  have hA16 := row_fresh hA16 hg29 (Nat.le_trans (Nat.le_refl _) (by omega))
  clear hb20
  have hb20 := hb28; clear hb28
  have hl31 := bl hb20
  refine oA rfl (oZ (tN (hK26 _ _ (wpF_ret (thenF_ret (postF_ret (fn := Tryd.f39) _ rfl [AB (List.replicate 32 0), NI 1] (.tuple #[AB (List.replicate 32 0), NI 1]) rfl ⟨ResF.row rfl hb20 wr36_ty25 rfl (by exact sizeId_of List.length_replicate), rfl, trivial⟩ ?_))))))
  have hT : look0P z.1 = (zid, 1) := by unfold look0P; rw [if_neg (by rw [hrt]; decide)]
  exact ⟨by rw [hT]; try rfl, hE⟩
 have hrt : rightF z.1 = true := by simpa using hc0
 have hS := rightF_sorted hrt
 refine wpF_skip (tN (hK22 _ _ (sk fun K32 hK32 => (sk fun K33 hK33 => (wt (oM rfl (oS rfl (Yk.eqSt (l := ([] : List UInt8)) (m := ([] : List UInt8)) (.inl rfl) T1 (vr (St (([] : List UInt8))) rfl) (decide (([] : List UInt8) = (([] : List UInt8) : List UInt8))) rfl (oZ (tN (hK33 _ _ (wpF_true (vr (.bool (true)) (congrArg Value.bool (decide_eq_true (rfl)))) (sk fun K34 hK34 => (sk fun K35 hK35 => (wt (oS rfl (Yk.fieldAt wr36_fo53_2 (vr (PQ n2 0) rfl) (oS rfl (Yk.cell1 wr36_ty9 rfl (vr (PQ n2 2) rfl) (cellAt hb8 (show (refsC z)[2]? = some (St (z.1.head) : Value) from refs_g2 z)) (oS rfl (Yk.eqSt (l := z.1.head) (m := ([] : List UInt8)) (.inl rfl) (vr (St (z.1.head)) rfl) (vr (St (([] : List UInt8))) rfl) (decide ((z.1.head : List UInt8) = (([] : List UInt8) : List UInt8))) rfl ?_)))))))))))))))))))))
 refine oZ (tN (hK35 _ _ ?_))
 refine wpF_cond ((z.1.head : List UInt8) = (([] : List UInt8) : List UInt8)) (vr (.bool (decide ((z.1.head : List UInt8) = (([] : List UInt8) : List UInt8)))) rfl) (fun hc2 => ?_) (fun hc2 => ?_)
 ·have hh := hc2
  refine sk fun K36 hK36 => (wt (oS rfl (Yk.fieldAt wr36_fo53_3 (vr (PQ n2 0) rfl) (oS rfl (Yk.loadPR (PR.blk hb8 (refs_m3 z) (refs_n3 z) (vr (PQ n2 3) rfl)) wr36_ty25 rfl (sizeId_of z.1.at_.2) (oS rfl (Yk.storeAll (vr (PQ n10 0) rfl) (vr (AB z.1.at_.1) rfl) hb20 (by exact idsize z.1.at_.2 List.length_replicate) (by exact sizeId_of z.1.at_.2) (byteCells_one _) fun w37 hb38 hg39 hs40 => ?_)))))))
  have hE := row_fresh hE hg39 (Nat.le_trans hz18 (by omega))
  have hb8 := kb hg39 hb8 (by omega)
  have hA16 := row_fresh hA16 hg39 (Nat.le_trans (Nat.le_refl _) (by omega))
  clear hb20
  have hb20 := hb38; clear hb38
  have hl41 := bl hb20
  refine oA rfl (oZ (tN (hK36 _ _ (wpF_ret (thenF_ret (thenF_ret (postF_ret (fn := Tryd.f39) _ rfl [AB z.1.at_.1, NI 0] (.tuple #[AB z.1.at_.1, NI 0]) rfl ⟨ResF.row rfl hb20 wr36_ty25 rfl (by exact sizeId_of z.1.at_.2), rfl, trivial⟩ ?_)))))))
  have hT : look0P z.1 = (z.1.at_, 0) := by unfold look0P; rw [if_pos hrt, if_pos hh]
  exact ⟨by rw [hT]; try rfl, hE⟩
 have hh := hc2
 refine wpF_skip (tN (hK34 _ _ (sk fun K42 hK42 => (sk fun K43 hK43 => (wt (oS rfl (Yk.fieldAt wr36_fo53_0 (vr (PQ n2 0) rfl) (oS rfl (Yk.cell1 wr36_ty51 rfl (vr (PQ n2 0) rfl) (cellAt hb8 (show (refsC z)[0]? = some (z.2.branches : Value) from refs_g0 z)) (oS rfl (Yk.fieldAt wr36_fo53_2 (vr (PQ n2 0) rfl) (oS rfl (Yk.cell1 wr36_ty9 rfl (vr (PQ n2 2) rfl) (cellAt hb8 (show (refsC z)[2]? = some (St (z.1.head) : Value) from refs_g2 z)) (oS rfl (Yk.callA2 wr36_pl88 (vr z.2.branches rfl) (vr (St (z.1.head)) rfl) ((place_any _ _ z.1.branches (hmt.keep hE) (by have := hS.bl; omega) hS.br z.1.head).mono ?_))))))))))))))))
 rintro e w45 ⟨⟨p, rfl, hp⟩, hx44⟩
 refine ⟨_, rfl, ?_⟩
 have hE := hE.trans hx44
 have hb8 := eb hx44 hb8
 have hA16 := hA16.trans hx44
 have hb20 := eb hx44 hb20
 refine oM rfl (oS rfl (Yk.extract (vs := [NI p, .bool (foundN z.1.branches z.1.head p)]) (vr (.tuple #[NI p, .bool (foundN z.1.branches z.1.head p)]) rfl) (show _ = some (NI p : Value) from rfl) (oS rfl (Yk.extract (vs := [NI p, .bool (foundN z.1.branches z.1.head p)]) (vr (.tuple #[NI p, .bool (foundN z.1.branches z.1.head p)]) rfl) (show _ = some (.bool (foundN z.1.branches z.1.head p) : Value) from rfl) (oA rfl (oA rfl (oZ (tN (hK43 _ _ (sk fun K46 hK46 => (wt (oM rfl (oZ (tN (hK46 _ _ ?_)))))))))))))))
 refine wpF_condB (foundN z.1.branches z.1.head p) (vr (.bool (foundN z.1.branches z.1.head p)) rfl) (fun hc3 => ?_) (fun hc3 => ?_)
 ·have hf := hc3
  have hlt := found_lt hf
  refine sk fun K47 hK47 => (wt (oS rfl (Yk.fieldAt wr36_fo53_0 (vr (PQ n2 0) rfl) (oS rfl (Yk.cell1 wr36_ty51 rfl (vr (PQ n2 0) rfl) (cellAt hb8 (show (refsC z)[0]? = some (z.2.branches : Value) from refs_g0 z)) (oM rfl ?_))))))
  have hl50 : (nmdC ((z.1.branches).getD (p) dNmd)).length = 33 := (RG.elem (hmt.keep hE) dNmd (hlt))
  refine oS rfl (Yk.atRG wr36_ty51 wr36_szg70 (by decide) dNmd (RG.of (hmt.keep hE) (vr z.2.branches rfl)) (vr (NI p) rfl) (hlt) fun v48 hp49 => ?_)
  have hl53 : (Lib.byteCells ((z.1.branches).getD (p) dNmd).id.1).length = 32 := by rw [Lib.byteCells_length, ((z.1.branches).getD (p) dNmd).id.2]
  refine oS rfl (Yk.fieldPR (n := 32) wr36_fo70_1 (PR.of hp49 (vr v48 rfl)) fun v51 hp52 => ?_)
  have hp52 : PR (Lib.byteCells ((z.1.branches).getD (p) dNmd).id.1) v51 w45 := (nmd_f1 ((z.1.branches).getD (p) dNmd)) ▸ hp52
  refine oS rfl (Yk.loadPR (PR.of hp52 (vr v51 rfl)) wr36_ty25 rfl (by rw [hl53]; exact wr36_isz25) (oS rfl (Yk.storeAll (vr (PQ n10 0) rfl) (vr (AB (((z.1.branches).getD (p) dNmd).id.1)) rfl) hb20 (by exact idsize (bytes_len32 (hl53)) List.length_replicate) (by exact sizeId_of (bytes_len32 (hl53))) (byteCells_one _) fun w54 hb55 hg56 hs57 => ?_)))
  have hE := row_fresh hE hg56 (Nat.le_trans hz18 (by omega))
  have hb8 := kb hg56 hb8 (by omega)
  have hA16 := row_fresh hA16 hg56 (Nat.le_trans (Nat.le_refl _) (by omega))
  clear hp49
  clear hp52
  clear hb20
  have hb20 := hb55; clear hb55
  have hl58 := bl hb20
  refine oA rfl (oZ (tN (hK47 _ _ (wpF_ret (thenF_ret (thenF_ret (postF_ret (fn := Tryd.f39) _ rfl [AB (((z.1.branches).getD (p) dNmd).id.1), NI 0] (.tuple #[AB (((z.1.branches).getD (p) dNmd).id.1), NI 0]) rfl ⟨ResF.row rfl hb20 wr36_ty25 rfl (by exact sizeId_of (bytes_len32 (hl53))), rfl, trivial⟩ ?_)))))))
  have hT : look0P z.1 = ((z.1.branches.getD p dNmd).id, 0) := by unfold look0P; rw [if_pos hrt, if_neg hh, ← place_uniq hp, if_pos hf]
  exact ⟨by rw [hT]; try rfl, hE⟩
 have hf := hc3
 refine wpF_skip (tN (hK42 _ _ (sk fun K59 hK59 => (wt (oS rfl (Yk.run (v := AB (List.replicate 32 0)) (by kernel_rfl) (oS rfl (Yk.storeAll (vr (PQ n10 0) rfl) (vr (AB (List.replicate 32 0)) rfl) hb20 (by exact idsize List.length_replicate List.length_replicate) (by exact sizeId_of List.length_replicate) (byteCells_one _) fun w60 hb61 hg62 hs63 => ?_))))))))
 have hE := row_fresh hE hg62 (Nat.le_trans hz18 (by omega))
 have hb8 := kb hg62 hb8 (by omega)
 have hA16 := row_fresh hA16 hg62 (Nat.le_trans (Nat.le_refl _) (by omega))
 clear hb20
 have hb20 := hb61; clear hb61
 have hl64 := bl hb20
 refine oA rfl (oZ (tN (hK59 _ _ (wpF_ret (thenF_ret (postF_ret (fn := Tryd.f39) _ rfl [AB (List.replicate 32 0), NI 4] (.tuple #[AB (List.replicate 32 0), NI 4]) rfl ⟨ResF.row rfl hb20 wr36_ty25 rfl (by exact sizeId_of List.length_replicate), rfl, trivial⟩ ?_))))))
 have hT : look0P z.1 = (zid, 4) := by unfold look0P; rw [if_pos hrt, if_neg hh, ← place_uniq hp, if_neg (by rw [hf]; decide)]
 exact ⟨by rw [hT]; try rfl, hE⟩
open Go.RowKit
abbrev mainB : Bs := [109, 97, 105, 110]
abbrev id1 : Id32 := ⟨1 :: List.replicate 31 0, rfl⟩
abbrev u1 : Upd := ⟨1, mainB, zid, id1⟩
abbrev u2 : Upd := ⟨1, mainB, id1, zid⟩
abbrev firstB : Bs := [102, 105, 114, 115, 116]
abbrev againB : Bs := [97, 103, 97, 105, 110]
abbrev r1 : Refs := ⟨[⟨mainB, id1⟩], [], mainB, zid, [entOf u1 firstB]⟩
theorem main_name : nameB mainB = true := by decide
theorem dec_ascii {l : Bs} {a : Nat} (h : ∀ x ∈ l, x.toNat < 128) (ha : a < l.length) : decU l a = some (a + 1) := by
  have hx : (l.getD a 0).toNat < 128 := h _ (getD_mem 0 ha)
  have hl : leadO (l.getD a 0) = some (0, (l.getD a 0).toNat, 0) := by unfold leadO; rw [if_pos hx]
  unfold decU
  rw [hl]
  simp only [tailU]
  rw [if_neg (by omega), if_pos ⟨Nat.zero_le _, by unfold mayB; simp only [Nat.zero_le, decide_true, Bool.true_and, Bool.and_eq_true, Bool.or_eq_true, decide_eq_true_eq]; omega⟩]
theorem utf_ascii {l : Bs} (h : ∀ x ∈ l, x.toNat < 128) : ∀ (n a : Nat), l.length ≤ a + n → utfB l a = true
  | 0, a, hn => utfB_end (by omega)
  | n + 1, a, hn => by
    by_cases ha : a < l.length
    · rw [utfB_some ha (dec_ascii h ha)]; exact utf_ascii h n _ (by omega)
    · exact utfB_end ha
theorem note_ascii {l : Bs} (h : ∀ x ∈ l, x.toNat < 128) (hl : l.length ≤ 256) : noteB l = true := by unfold noteB; rw [decide_eq_true hl, utf_ascii h l.length 0 (by omega)]; rfl
theorem first_note : noteB firstB = true := note_ascii (by decide) (by decide)
theorem again_note : noteB againB = true := note_ascii (by decide) (by decide)
theorem nil_note : noteB [] = true := note_ascii (by decide) (by decide)
theorem nil_list : nlistB [] = true := by rw [nlistB_all (i := 0) (Nat.le_refl _) (fun j hj => absurd hj (Nat.not_lt_zero _))]; rfl
theorem one_list : nlistB [⟨mainB, id1⟩] = true := by
  rw [nlistB_all (i := 1) (Nat.le_refl _) (fun j hj => by cases j with
    | zero => rfl
    | succ j => omega)]; rfl
theorem right0 : rightF beginV.1 = true := rightF_all (i := 0) (by unfold rE1; rw [nil_list]; rfl) (by unfold rE2; rw [show beginV.1.head = mainB from rfl, main_name]; rfl) (Nat.le_refl _) (fun j hj => absurd hj (Nat.not_lt_zero _))
theorem right1 : rightF r1 = true := rightF_all (i := 1) (by unfold rE1; rw [nil_list, one_list]; rfl) (by unfold rE2; rw [main_name]; rfl) (Nat.le_refl _) (fun j hj => by
  cases j with
  | zero => show entE [entOf u1 firstB] 0 = false; unfold entE; rw [show (([entOf u1 firstB] : List Ent).getD 0 dEntry).note = firstB from rfl, first_note]; rfl
  | succ j => omega)
theorem updErr1 : updErr u1 = 0 := by decide
theorem updErr2 : updErr u2 = 0 := by decide
theorem do1 : doP beginV.1 u1 = (0, ⟨[⟨mainB, id1⟩], [], mainB, zid, []⟩) := rfl
theorem do2 : (doP r1 u1).1 = 15 := by decide
theorem do3 : (doP r1 u2).1 = 16 := by decide
theorem apply_1 : applyP beginV.1 [u1] firstB = (0, r1) := by
  have h := runP_next (note := firstB) (r := beginV.1) (l := [u1]) (i := 0) (by decide) updErr1 (by show (doP beginV.1 u1).1 = 0; rw [do1])
  rw [List.drop_zero] at h
  rw [applyP_ok (by rw [right0, first_note]; rfl) (h.trans (runP_end (by decide)))]
  show (0, cutlog (addlog (doP beginV.1 u1).2 (entOf u1 firstB))) = _
  rw [do1]
  rfl
theorem look_1 : look0P r1 = (id1, 0) := by
  unfold look0P
  rw [if_pos right1]
  rfl
theorem apply_2 : applyP r1 [u1] againB = (15, zeroR) := by
  have h := runP_err2 (note := againB) (r := r1) (l := [u1]) (i := 0) (by decide) updErr1 (by show (doP r1 u1).1 ≠ 0; rw [do2]; decide)
  rw [List.drop_zero, show (doP r1 ([u1].getD 0 dUpd)).1 = 15 from do2] at h
  exact applyP_err (by rw [right1, again_note]; rfl) h (by decide)
theorem apply_3 : applyP r1 [u2] [] = (16, zeroR) := by
  have h := runP_err2 (note := []) (r := r1) (l := [u2]) (i := 0) (by decide) updErr2 (by show (doP r1 u2).1 ≠ 0; rw [do3]; decide)
  rw [List.drop_zero, show (doP r1 ([u2].getD 0 dUpd)).1 = 16 from do3] at h
  exact applyP_err (by rw [right1, nil_note]; rfl) h (by decide)
open Go.RowKit
/-! ### Numbers below 0; a literal of bytes (any program) -/
theorem zi_sub (t : TypeId) (a b : Int) (h : -9223372036854775808 ≤ a - b ∧ a - b ≤ 9223372036854775807) : Go.binOp .sub t (.int .i64 a) (.int .i64 b) = pure (.int .i64 (a - b)) := by
  show pure (Value.int .i64 (IntKind.i64.wrap (a - b))) = _
  rw [IntWalk.i64_in _ h]
open Go.RowKit
set_option maxRecDepth 100000
theorem entC_of (y : Upd) (note : Bs) : updC y ++ [Value.string ⟨note.toArray⟩] = entC (entOf y note) := by simp [entC, updC, entOf]
theorem wr35_al53 {d : Option Tmp} {ty : TypeId} {pos : String} {af : Array Edge} {gd : Option (Nat × Bool)} (σ : Operand → Value) (w : World) : (execOp σ ⟨d, .alloc 53, ty, pos, af, gd⟩).run Tryd.prog w = .ok (.value (PQ w.heap.size 0)) (w.alloc (.cells (refsC ((⟨[], [], [], zid, []⟩, ⟨.slice none 0 0, .slice none 0 0, .slice none 0 0⟩) : RefsV)).toArray 53)) := by kernel_rfl
theorem wr35_ty53 : ∃ fs, Tryd.prog.underlying 53 = some (.struct fs) := struct_of (by kernel_rfl)
theorem wr35_isz53 : (Tryd.prog.info? 53).map (·.size) = some 36 := by kernel_rfl
theorem wr35_pl31 : Plain Tryd.prog 31 := fun _ _ => by kernel_rfl
theorem wr35_pl73 : Plain Tryd.prog 73 := fun _ _ => by kernel_rfl
theorem wr35_fo53_0 : FieldOff Tryd.prog 53 0 0 := fun b o w => by simp [go_sem]
theorem wr35_ty51 : Tryd.prog.underlying 51 = some (.slice 70) := by kernel_rfl
theorem wr35_pl74 : Plain Tryd.prog 74 := fun _ _ => by kernel_rfl
theorem wr35_fo53_1 : FieldOff Tryd.prog 53 1 1 := fun b o w => by simp [go_sem]
theorem wr35_fo53_4 : FieldOff Tryd.prog 53 4 35 := fun b o w => by simp [go_sem]
theorem wr35_ty47 : Tryd.prog.underlying 47 = some (.slice 122) := by kernel_rfl
theorem wr35_pl75 : Plain Tryd.prog 75 := fun _ _ => by kernel_rfl
theorem wr35_isz51 : (Tryd.prog.info? 51).map (·.size) = some 1 := by kernel_rfl
theorem wr35_isz47 : (Tryd.prog.info? 47).map (·.size) = some 1 := by kernel_rfl
theorem wr35_pl76 : Plain Tryd.prog 76 := fun _ _ => by kernel_rfl
theorem wr35_ty22 : Tryd.prog.underlying 22 = some (.slice 67) := by kernel_rfl
theorem wr35_szg67 : ∀ w' : World, (sizeOf 67).run Tryd.prog w' = .ok 66 w' := fun _ => by kernel_rfl
theorem wr35_ty67 : ∃ fs, Tryd.prog.underlying 67 = some (.struct fs) := struct_of (by kernel_rfl)
theorem wr35_isz67 : (Tryd.prog.info? 67).map (·.size) = some 66 := by kernel_rfl
theorem wr35_al67 {d : Option Tmp} {ty : TypeId} {pos : String} {af : Array Edge} {gd : Option (Nat × Bool)} (σ : Operand → Value) (w : World) : (execOp σ ⟨d, .alloc 67, ty, pos, af, gd⟩).run Tryd.prog w = .ok (.value (PQ w.heap.size 0)) (w.alloc (.cells (updC (⟨0, [], zid, zid⟩ : Upd)).toArray 67)) := by kernel_rfl
theorem wr35_pl77 : Plain Tryd.prog 77 := fun _ _ => by kernel_rfl
theorem wr35_fo67_0 : FieldOff Tryd.prog 67 0 0 := fun b o w => by simp [go_sem]
theorem wr35_ty5 : Tryd.prog.underlying 5 = some (.int .u8) := by kernel_rfl
theorem wr35_ty125 : Tryd.prog.underlying 125 = some (.map 5 128) := by kernel_rfl
theorem wr35_bdE : ∀ (cs : Array Value), cs.size = 66 → ∀ (s : ByteArray) (w : World), (Instr.build 122 #[(0, Value.agg cs), (1, Value.string s)]).run Tryd.prog w = .ok (.agg (cs.toList ++ [Value.string s]).toArray) w
 | ⟨c0 :: c1 :: c2 :: c3 :: c4 :: c5 :: c6 :: c7 :: c8 :: c9 :: c10 :: c11 :: c12 :: c13 :: c14 :: c15 :: c16 :: c17 :: c18 :: c19 :: c20 :: c21 :: c22 :: c23 :: c24 :: c25 :: c26 :: c27 :: c28 :: c29 :: c30 :: c31 :: c32 :: c33 :: c34 :: c35 :: c36 :: c37 :: c38 :: c39 :: c40 :: c41 :: c42 :: c43 :: c44 :: c45 :: c46 :: c47 :: c48 :: c49 :: c50 :: c51 :: c52 :: c53 :: c54 :: c55 :: c56 :: c57 :: c58 :: c59 :: c60 :: c61 :: c62 :: c63 :: c64 :: c65 :: []⟩, _, s, w => by kernel_rfl
theorem wr35_lh47 (c0 c1 c2 c3 c4 c5 c6 c7 c8 c9 c10 c11 c12 c13 c14 c15 c16 c17 c18 c19 c20 c21 c22 c23 c24 c25 c26 c27 c28 c29 c30 c31 c32 c33 c34 c35 c36 c37 c38 c39 c40 c41 c42 c43 c44 c45 c46 c47 c48 c49 c50 c51 c52 c53 c54 c55 c56 c57 c58 c59 c60 c61 c62 c63 c64 c65 c66 : Value) (w : World) : (Instr.buildSlice 47 1 #[(0, .agg #[c0, c1, c2, c3, c4, c5, c6, c7, c8, c9, c10, c11, c12, c13, c14, c15, c16, c17, c18, c19, c20, c21, c22, c23, c24, c25, c26, c27, c28, c29, c30, c31, c32, c33, c34, c35, c36, c37, c38, c39, c40, c41, c42, c43, c44, c45, c46, c47, c48, c49, c50, c51, c52, c53, c54, c55, c56, c57, c58, c59, c60, c61, c62, c63, c64, c65, c66])]).run Tryd.prog w = .ok (.slice (some ⟨w.heap.size, 0, none⟩) 1 1) (w.alloc (.cells #[c0, c1, c2, c3, c4, c5, c6, c7, c8, c9, c10, c11, c12, c13, c14, c15, c16, c17, c18, c19, c20, c21, c22, c23, c24, c25, c26, c27, c28, c29, c30, c31, c32, c33, c34, c35, c36, c37, c38, c39, c40, c41, c42, c43, c44, c45, c46, c47, c48, c49, c50, c51, c52, c53, c54, c55, c56, c57, c58, c59, c60, c61, c62, c63, c64, c65, c66] 122)) := by kernel_rfl
theorem wr35_lg47 : ∀ (cs : Array Value), cs.size = 67 → ∀ w : World, (Instr.buildSlice 47 1 #[(0, .agg cs)]).run Tryd.prog w = .ok (.slice (some ⟨w.heap.size, 0, none⟩) 1 1) (w.alloc (.cells cs 122))
 | ⟨c0 :: c1 :: c2 :: c3 :: c4 :: c5 :: c6 :: c7 :: c8 :: c9 :: c10 :: c11 :: c12 :: c13 :: c14 :: c15 :: c16 :: c17 :: c18 :: c19 :: c20 :: c21 :: c22 :: c23 :: c24 :: c25 :: c26 :: c27 :: c28 :: c29 :: c30 :: c31 :: c32 :: c33 :: c34 :: c35 :: c36 :: c37 :: c38 :: c39 :: c40 :: c41 :: c42 :: c43 :: c44 :: c45 :: c46 :: c47 :: c48 :: c49 :: c50 :: c51 :: c52 :: c53 :: c54 :: c55 :: c56 :: c57 :: c58 :: c59 :: c60 :: c61 :: c62 :: c63 :: c64 :: c65 :: c66 :: []⟩, _, w => wr35_lh47 c0 c1 c2 c3 c4 c5 c6 c7 c8 c9 c10 c11 c12 c13 c14 c15 c16 c17 c18 c19 c20 c21 c22 c23 c24 c25 c26 c27 c28 c29 c30 c31 c32 c33 c34 c35 c36 c37 c38 c39 c40 c41 c42 c43 c44 c45 c46 c47 c48 c49 c50 c51 c52 c53 c54 c55 c56 c57 c58 c59 c60 c61 c62 c63 c64 c65 c66 w
theorem wr35_ig122 : ∃ z, (Tryd.prog.info? 122).map (fun i => (i.zero, i.size, i.bytes)) = some (some z, 67, 104) ∧ z.cells.size = 67 := info_ex (by kernel_rfl)
theorem wr35_szg122 : ∀ w' : World, (sizeOf 122).run Tryd.prog w' = .ok 67 w' := fun _ => by kernel_rfl
set_option maxHeartbeats 1600000
theorem apply20_any (w : World) (z0 : RefsV) (hm : RefsAt w z0) (hL : RefsLt z0.1) (lv : Value) (l : List Upd) (hr : RG 66 updC w lv l) (hl : l.length ≤ 1000) (hln : ∀ u ∈ l, u.name.length ≤ 9223372036854775807) (note : Bs) :
  Calls Tryd.prog 26 #[.agg (refsC z0).toArray, lv, St note] w fun e w' => ∃ v, e = .returned (.tuple #[.agg (refsC ((applyP z0.1 l note).2, v)).toArray, NI (applyP z0.1 l note).1]) ∧ RefsOw w.heap.size w' ((applyP z0.1 l note).2, v) ∧ Ext w w' := by
 have hmt := hm.branches
 have hmg := hm.tags
 have hml := hm.log
 refine calls_of_wpF (args := [.agg (refsC z0).toArray, lv, St (note)]) Tryd.func26 rfl 77 rfl (Nat.le_of_ble_eq_true rfl) ?_
 intro ρ0 hb
 have T0 : ρ0 0 = (.agg (refsC z0).toArray : Value) := hb.get 0
 have T1 : ρ0 1 = (lv : Value) := hb.get 1
 have T2 : ρ0 2 = (St (note) : Value) := hb.get 2
 clear hb
 have hE := Ext.refl w
 refine sk fun K1 hK1 => (wt (oS rfl (Yk.box (cs := (refsC z0 : List Value).toArray) T0 fun n2 w3 hn4 hb5 hx6 hs7 => ?_)))
 have hE := hE.trans hx6
 have hb8 := hb5; clear hb5
 have hl9 : n2 < w3.heap.size := by omega
 refine oS rfl (Yk.alloc (cs := (refsC ((⟨[], [], [], zid, []⟩, ⟨.slice none 0 0, .slice none 0 0, .slice none 0 0⟩) : RefsV)).toArray) wr35_al53 fun n10 w11 hn12 hb13 hx14 hs15 => ?_)
 have hA16 := Ext.refl w3
 have hea17 := hE
 have hz18 := hE.size
 have hlt19 := lte (bl hb8) hn12
 have hE := hE.trans hx14
 have hb8 := eb hx14 hb8
 have hA16 := hA16.trans hx14
 have hb20 := hb13; clear hb13
 have hl21 : n10 < w11.heap.size := by omega
 refine oA rfl (oZ (tN (hK1 _ _ (sk fun K22 hK22 => (sk fun K23 hK23 => (wt (oS rfl (Yk.loadAll (vr (PQ n2 0) rfl) hb8 (wr35_ty53).choose_spec rfl (st_isz (refs_len z0) wr35_isz53) (oS rfl (Yk.callA1 wr35_pl31 (vr (.agg (refsC z0).toArray) rfl) ((fright_any _ z0 ⟨(hmt.keep hE), (hmg.keep hE), (hml.keep hE)⟩ hL).mono ?_)))))))))))
 rintro e w25 ⟨rfl, hx24⟩
 refine ⟨_, rfl, ?_⟩
 have hE := hE.trans hx24
 have hb8 := eb hx24 hb8
 have hA16 := hA16.trans hx24
 have hb20 := eb hx24 hb20
 refine oS rfl (Yk.notB (vr (.bool (rightF z0.1)) rfl) (oM rfl (opsF_mayV (St (note)) rfl rfl (gF (vr (.bool (!(rightF z0.1))) rfl)) (fun hG26 => Yk.move T2 ⟨rfl, rfl⟩) (opsF_mayC (.bool (noteB note)) rfl rfl (gF (vr (.bool (!(rightF z0.1))) rfl)) (fun hG27 => Yk.callA1 wr35_pl73 (mayT (vr (cond (!(!(rightF z0.1))) (St (note)) undef) rfl) hG27) ((note_any _ note).mono (by rintro e w2 ⟨rfl, hx⟩; exact ⟨_, rfl, rfl, hx⟩))) fun w29 hx30 => ?_))))
 have hE := hE.trans hx30
 have hb8 := eb hx30 hb8
 have hA16 := hA16.trans hx30
 have hb20 := eb hx30 hb20
 refine opsF_mayV (.bool (!(noteB note))) rfl rfl (gF (vr (.bool (!(rightF z0.1))) rfl)) (fun hG31 => Yk.notB (mayT (vr (cond (!(!(rightF z0.1))) (.bool (noteB note)) undef) rfl) hG31) ⟨rfl, rfl⟩) (oS rfl (Yk.pickOrN (vr (.bool (!(rightF z0.1))) rfl) (vr (.bool (true)) rfl) (fun hA => (mayT (vr (cond (!(!(rightF z0.1))) (.bool (!(noteB note))) undef) rfl) (not_i hA))) fun bb32 hbb33 => (oZ (tN (hK23 _ _ ?_)))))
 refine wpF_condB (bb32) (vr (.bool (bb32)) rfl) (fun hc0 => ?_) (fun hc0 => ?_)
 ·subst hbb33
  have h0c : ((!rightF z0.1) || (!noteB note)) = true := hc0
  refine sk fun K34 hK34 => (wt (oS rfl (Yk.run (v := .agg (refsC ((⟨[], [], [], zid, []⟩, ⟨.slice none 0 0, .slice none 0 0, .slice none 0 0⟩) : RefsV)).toArray) (by kernel_rfl) (oS rfl (Yk.storeAll (vr (PQ n10 0) rfl) (vr (.agg (refsC ((⟨[], [], [], zid, []⟩, ⟨.slice none 0 0, .slice none 0 0, .slice none 0 0⟩) : RefsV)).toArray) rfl) hb20 (by simp only [List.size_toArray, refs_len]) (st_isz (refs_len _) wr35_isz53) (refs_one (x := ((⟨[], [], [], zid, []⟩, ⟨.slice none 0 0, .slice none 0 0, .slice none 0 0⟩) : RefsV)) rfl rfl rfl) fun w35 hb36 hg37 hs38 => ?_)))))
  have hE := row_fresh hE hg37 (Nat.le_trans hz18 (by omega))
  have hb8 := kb hg37 hb8 (by omega)
  have hA16 := row_fresh hA16 hg37 (Nat.le_trans (Nat.le_refl _) (by omega))
  clear hb20
  have hb20 : w35.heap[n10]? = some (.cells (refsC ((⟨[], [], [], zid, []⟩, ⟨.slice none 0 0, .slice none 0 0, .slice none 0 0⟩) : RefsV)).toArray 53 (0, 0)) := hb36; clear hb36
  have hl39 := bl hb20
  refine oA rfl (oZ (tN (hK34 _ _ (wpF_ret (thenF_ret (postF_ret (fn := Tryd.f26) _ rfl [.agg (refsC ((⟨[], [], [], zid, []⟩, ⟨.slice none 0 0, .slice none 0 0, .slice none 0 0⟩) : RefsV)).toArray, NI 1] (.tuple #[.agg (refsC ((⟨[], [], [], zid, []⟩, ⟨.slice none 0 0, .slice none 0 0, .slice none 0 0⟩) : RefsV)).toArray, NI 1]) rfl ⟨ResF.row rfl hb20 (wr35_ty53).choose_spec rfl (st_isz (refs_len _) wr35_isz53), rfl, trivial⟩ ?_))))))
  have hAp := applyP_bad (l := l) h0c
  exact ⟨⟨.slice none 0 0, .slice none 0 0, .slice none 0 0⟩, by rw [hAp], by rw [hAp]; exact ⟨OG.nil _ _ _ _ _, OG.nil _ _ _ _ _, OG.nil _ _ _ _ _⟩, hE⟩
 subst hbb33
 have h0c : ((!rightF z0.1) || (!noteB note)) = false := hc0
 have hrt : rightF z0.1 = true := by simp only [Bool.or_eq_false_iff, Bool.not_eq_false'] at h0c; exact h0c.1
 have hS0 := rightF_sorted hrt
 have hlg := (rightF_lists hrt).2.2
 have hb0 := hS0.bl
 have ht0 := hS0.tl
 refine wpF_skip (tN (hK22 _ _ (sk fun K40 hK40 => ?_)))
 refine wpF_draw_cut 9 [Is (PQ n2 0), Is (z0.2.branches), fun z' w' => OG w.heap.size 70 33 nmdC w' z' (z0.1.branches), Is (PQ n2 1), Is (z0.2.tags), fun z' w' => OG w.heap.size 70 33 nmdC w' z' (z0.1.tags), Is (PQ n2 35), Is (z0.2.log), fun z' w' => OG w.heap.size 122 67 entC w' z' (z0.1.log)] (by kernel_rfl) [22, 23, 24, 25, 26, 27, 28, 29, 30, 31, 32, 33] (by kernel_rfl) (by kernel_rfl) (by kernel_rfl) (by kernel_rfl) rfl rfl (si2 ⟨(fun _ _ _ h k => OG.keep h k), (si2 ⟨(fun _ _ _ h k => OG.keep h k), (si2 ⟨(fun _ _ _ h k => OG.keep h k), trivial⟩)⟩)⟩) ?hs1003 ?hQ1003
 case hs1003 =>
  refine ⟨?_, ?_, ?_, ?_, ?_, ?_, ?_, ?_, ?_, ?_, ?_, ?_, ?_, ?_, ?_, trivial⟩
  ·refine stepFC (stepN rfl fun σ w1 hC h => ?_)
   have e3 : σ 3 = PQ n2 0 := (eqo (h 3 (by decide))).trans rfl
   exact Yk.fieldAt wr35_fo53_0 e3 ⟨Ext.refl _, rfl⟩
  ·refine stepFC (stepN rfl fun σ w1 hC h => ?_)
   have e22 := eqo (h 22 (by decide))
   exact Yk.cell1 wr35_ty51 rfl e22 (cellAt (eb hC hb8) (show (refsC z0)[0]? = some (z0.2.branches : Value) from refs_g0 z0)) ⟨Ext.refl _, rfl⟩
  ·refine stepFC (stepN rfl fun σ w1 hC h => ?_)
   have e23 := eqo (h 23 (by decide))
   refine Yk.callA1 wr35_pl74 e23 ((cloneNmd_any _ z0.2.branches (z0.1.branches) (hmt.keep (hE.trans hC)) (by have := hb0; omega)).mono ?_)
   rintro e w2 ⟨v, rfl, ho, hx⟩
   exact ⟨_, rfl, hx, OG.low ho (Nat.le_trans hE.size hC.size)⟩
  ·refine stepFC (stepN rfl fun σ w1 hC h => ?_)
   have e3 : σ 3 = PQ n2 0 := (eqo (h 3 (by decide))).trans rfl
   exact Yk.fieldAt wr35_fo53_1 e3 ⟨Ext.refl _, rfl⟩
  ·refine stepFC (stepN rfl fun σ w1 hC h => ?_)
   have e25 := eqo (h 25 (by decide))
   exact Yk.cell1 wr35_ty51 rfl e25 (cellAt (eb hC hb8) (show (refsC z0)[1]? = some (z0.2.tags : Value) from refs_g1 z0)) ⟨Ext.refl _, rfl⟩
  ·refine stepFC (stepN rfl fun σ w1 hC h => ?_)
   have e26 := eqo (h 26 (by decide))
   refine Yk.callA1 wr35_pl74 e26 ((cloneNmd_any _ z0.2.tags (z0.1.tags) (hmg.keep (hE.trans hC)) (by have := ht0; omega)).mono ?_)
   rintro e w2 ⟨v, rfl, ho, hx⟩
   exact ⟨_, rfl, hx, OG.low ho (Nat.le_trans hE.size hC.size)⟩
  ·refine stepFC (stepN rfl fun σ w1 hC h => ?_)
   have e3 : σ 3 = PQ n2 0 := (eqo (h 3 (by decide))).trans rfl
   exact Yk.fieldAt wr35_fo53_4 e3 ⟨Ext.refl _, rfl⟩
  ·refine stepFC (stepN rfl fun σ w1 hC h => ?_)
   have e28 := eqo (h 28 (by decide))
   exact Yk.cell1 wr35_ty47 rfl e28 (cellAt (eb hC hb8) (show (refsC z0)[35]? = some (z0.2.log : Value) from refs_g4 z0)) ⟨Ext.refl _, rfl⟩
  ·refine stepFC (stepN rfl fun σ w1 hC h => ?_)
   have e29 := eqo (h 29 (by decide))
   refine Yk.callA1 wr35_pl75 e29 ((cloneEnt_any _ z0.2.log (z0.1.log) (hml.keep (hE.trans hC)) (by have := hlg; omega)).mono ?_)
   rintro e w2 ⟨v, rfl, ho, hx⟩
   exact ⟨_, rfl, hx, OG.low ho (Nat.le_trans hE.size hC.size)⟩
  ·exact trivial
  ·exact trivial
  ·exact trivial
  ·exact trivial
  ·exact trivial
  ·exact trivial
 intro ρ41 w42 hx43 he hf
 obtain ⟨-, -, k24, -, -, k27, -, -, k30, -⟩ := hf
 obtain ⟨T0, T1, T2, T3, T6, T7, -⟩ := he.hold [(0, _), (1, _), (2, _), (3, PQ n2 0), (6, PQ n10 0), (7, NI 0)] ⟨T0, T1, T2, rfl, rfl, rfl, trivial⟩ rfl
 clear he
 have hE := hE.trans hx43
 have hb8 := eb hx43 hb8
 have hA16 := hA16.trans hx43
 have hb20 := eb hx43 hb20
 have k24 : (fun z' w' => OG w.heap.size 70 33 nmdC w' z' (z0.1.branches)) (ρ41 24) w42 := k24
 obtain ⟨v44, T24⟩ : ∃ v, ρ41 24 = v := ⟨_, rfl⟩
 rw [T24] at k24
 have hk45 := k24; clear k24
 have hap46 := OG.off hk45 hb8 (by decide)
 have hap47 := OG.off hk45 hb20 (by decide)
 have k27 : (fun z' w' => OG w.heap.size 70 33 nmdC w' z' (z0.1.tags)) (ρ41 27) w42 := k27
 obtain ⟨v48, T27⟩ : ∃ v, ρ41 27 = v := ⟨_, rfl⟩
 rw [T27] at k27
 have hk49 := k27; clear k27
 have hap50 := OG.off hk49 hb8 (by decide)
 have hap51 := OG.off hk49 hb20 (by decide)
 have k30 : (fun z' w' => OG w.heap.size 122 67 entC w' z' (z0.1.log)) (ρ41 30) w42 := k30
 obtain ⟨v52, T30⟩ : ∃ v, ρ41 30 = v := ⟨_, rfl⟩
 rw [T30] at k30
 have hk53 := k30; clear k30
 have hap54 := OG.off hk53 hb8 (by decide)
 have hap55 := OG.off hk53 hb20 (by decide)
 refine oS rfl (Yk.fieldAt wr35_fo53_0 T3 (oS rfl (Yk.storeC (i := 0) (v := v44) (vr (PQ n2 0) rfl) T24 hb8 (by rw [refs_len]; decide) wr35_isz51 (RG.one (RG.ofOwn hk45)).1 (RG.one (RG.ofOwn hk45)).2 fun w56 hb57 hg58 hs59 => ?_)))
 have hE := row_fresh hE hg58 (Nat.le_trans (Nat.le_refl _) (by omega))
 clear hA16
 have hb20 := kb hg58 hb20 (by omega)
 have hk45 := OG.kept hk45 hg58 hap46
 have hk49 := OG.kept hk49 hg58 hap50
 have hk53 := OG.kept hk53 hg58 hap54
 clear hb8
 have hb8 : w56.heap[n2]? = some (.cells (refsC ((⟨z0.1.branches, z0.1.tags, z0.1.head, z0.1.at_, z0.1.log⟩, ⟨v44, z0.2.tags, z0.2.log⟩) : RefsV)).toArray 53 (0, 0)) := blk_eq hb57 (refs_s0 z0 v44 (z0.1.branches)); clear hb57
 have hl60 := bl hb8
 refine oS rfl (Yk.fieldAt wr35_fo53_1 T3 (oS rfl (Yk.storeC (i := 1) (v := v48) (vr (PQ n2 1) rfl) T27 hb8 (by rw [refs_len]; decide) wr35_isz51 (RG.one (RG.ofOwn hk49)).1 (RG.one (RG.ofOwn hk49)).2 fun w61 hb62 hg63 hs64 => ?_)))
 have hE := row_fresh hE hg63 (Nat.le_trans (Nat.le_refl _) (by omega))
 have hb20 := kb hg63 hb20 (by omega)
 have hk45 := OG.kept hk45 hg63 hap46
 have hk49 := OG.kept hk49 hg63 hap50
 have hk53 := OG.kept hk53 hg63 hap54
 clear hb8
 have hb8 : w61.heap[n2]? = some (.cells (refsC ((⟨z0.1.branches, z0.1.tags, z0.1.head, z0.1.at_, z0.1.log⟩, ⟨v44, v48, z0.2.log⟩) : RefsV)).toArray 53 (0, 0)) := blk_eq hb62 (refs_s1 ((⟨z0.1.branches, z0.1.tags, z0.1.head, z0.1.at_, z0.1.log⟩, ⟨v44, z0.2.tags, z0.2.log⟩) : RefsV) v48 (z0.1.tags)); clear hb62
 have hl65 := bl hb8
 refine oS rfl (Yk.fieldAt wr35_fo53_4 T3 (oS rfl (Yk.storeC (i := 35) (v := v52) (vr (PQ n2 35) rfl) T30 hb8 (by rw [refs_len]; decide) wr35_isz47 (RG.one (RG.ofOwn hk53)).1 (RG.one (RG.ofOwn hk53)).2 fun w66 hb67 hg68 hs69 => ?_)))
 have hE := row_fresh hE hg68 (Nat.le_trans (Nat.le_refl _) (by omega))
 have hb20 := kb hg68 hb20 (by omega)
 have hk45 := OG.kept hk45 hg68 hap46
 have hk49 := OG.kept hk49 hg68 hap50
 have hk53 := OG.kept hk53 hg68 hap54
 clear hb8
 have hb8 : w66.heap[n2]? = some (.cells (refsC ((⟨z0.1.branches, z0.1.tags, z0.1.head, z0.1.at_, z0.1.log⟩, ⟨v44, v48, v52⟩) : RefsV)).toArray 53 (0, 0)) := blk_eq hb67 (refs_s4 ((⟨z0.1.branches, z0.1.tags, z0.1.head, z0.1.at_, z0.1.log⟩, ⟨v44, v48, z0.2.log⟩) : RefsV) v52 (z0.1.log)); clear hb67
 have hl70 := bl hb8
 refine oZ (tN (hK40 _ _ (sk fun K71 hK71 => (wt (oS rfl (Yk.callA0 wr35_pl76  ((fkinds_any _).mono ?_)))))))
 rintro e w73 ⟨gm, rfl, hmp, hgm, hx72⟩
 refine ⟨_, rfl, ?_⟩
 have hlt74 : n10 < gm := Nat.lt_of_lt_of_le (bl hb20) hgm
 have hlt75 : n2 < gm := Nat.lt_of_lt_of_le (bl hb8) hgm
 have hE := hE.trans hx72
 have hb20 := eb hx72 hb20
 have hk45 := hk45.keep hx72
 have hk49 := hk49.keep hx72
 have hk53 := hk53.keep hx72
 have hb8 := eb hx72 hb8
 have hgl : gm < w73.heap.size := hmp.lt
 refine oA rfl (oZ (tN (hK71 _ _ (sk fun K76 hK76 => (sk fun K77 hK77 => (wt (oM rfl (oS rfl (Yk.lenRG wr35_ty22 (RG.of (hr.keep hE) T1) (oM rfl (oL_ [(0, .agg (refsC z0).toArray), (1, lv), (2, St (note)), (3, PQ n2 0), (6, PQ n10 0), (7, NI 0), (8, .map (some gm)), (35, lv), (36, NI l.length), (37, NI 0)] ⟨T0, T1, T2, T3, T6, T7, rfl, T1, rfl, rfl, trivial⟩ fun ρ78 ⟨T0, T1, T2, T3, T6, T7, T8, T35, T36, T37, _⟩ => ?_)))))))))))
 have ho79 : OG w.heap.size 70 33 nmdC w73 v44 (z0.1.branches) := hk45
 have ho80 : OG w.heap.size 70 33 nmdC w73 v48 (z0.1.tags) := hk49
 have ho81 : OG w.heap.size 122 67 entC w73 v52 (z0.1.log) := hk53
 have hP : AppAt w w73 n2 ((⟨z0.1.branches, z0.1.tags, z0.1.head, z0.1.at_, z0.1.log⟩, ⟨v44, v48, v52⟩) : RefsV) := ⟨hE, by omega, hb8, ho79, ho80, ho81, (OG.off ho79 hb8 (by decide)), (OG.off ho80 hb8 (by decide)), (OG.off ho81 hb8 (by decide)), OG.apart ho81 ho79 (by decide), OG.apart ho81 ho80 (by decide)⟩
 refine tN (hK77 _ _ (wpF_block (wpF_loop (fun (ρ : Slots) (wz : World) => ∃ i : Nat, ∃ z : RefsV, ρ 0 = (.agg (refsC z0).toArray : Value) ∧ ρ 1 = (lv : Value) ∧ ρ 2 = (St (note) : Value) ∧ ρ 3 = (PQ n2 0 : Value) ∧ ρ 6 = (PQ n10 0 : Value) ∧ ρ 8 = (.map (some gm) : Value) ∧ ρ 35 = (lv : Value) ∧ ρ 36 = (NI l.length : Value) ∧ ρ 37 = (NI i : Value) ∧ Ext w wz ∧ wz.heap[n10]? = some (.cells (refsC ((⟨[], [], [], zid, []⟩, ⟨.slice none 0 0, .slice none 0 0, .slice none 0 0⟩) : RefsV)).toArray 53 (0, 0)) ∧ MapF B8 fnV (fun _ : UInt8 => True) wz gm doG ∧ AppAt w wz n2 z ∧ (i ≤ l.length) ∧ (runP note z0.1 l = runP note z.1 (l.drop i)) ∧ (Sorted z.1) ∧ (z.1.log.length ≤ 64 + i) ∧ True) (fun ρ _ => l.length - (intOf (ρ 37)).toNat) ⟨0, ((⟨z0.1.branches, z0.1.tags, z0.1.head, z0.1.at_, z0.1.log⟩, ⟨v44, v48, v52⟩) : RefsV), T0, T1, T2, T3, T6, T8, T35, T36, T37, hE, hb20, hmp, hP, Nat.zero_le _, rfl, ⟨hS0.br, hS0.tg, hS0.bl, hS0.tl⟩, (show z0.1.log.length ≤ 64 + 0 by omega), trivial⟩ ?_)))
 clear hk45
 clear hk49
 clear hk53
 clear hb8
 clear hP
 clear hE hb20 hmp
 rintro ρ82 w83 ⟨i, z, T0, T1, T2, T3, T6, T8, T35, T36, T37, hE, hb20, hmp, hQ, hi, hrun, hS, hlog, -⟩
 have q37 := T37
 refine sk fun K84 hK84 => (wt (oS rfl (Yk.eqI (a := (i : Nat)) (b := (l.length : Nat)) T37 T36 (k_lss _ _ _ _) (oZ (tN (hK84 _ _ (sk fun K85 hK85 => ?_)))))))
 refine wpF_cond ((i) < (l.length)) (vr (.bool (decide ((i) < (l.length)))) rfl) (fun hc1 => ?_) (fun hc1 => ?_)
 ·have hlt : i < l.length := hc1
  refine wpF_skip (tN (hK85 _ _ (sk fun K86 hK86 => (wpF_block (sk fun K87 hK87 => (wt ?_))))))
  have hl90 : (updC (l.getD (i) dUpd)).length = 66 := (RG.elem (hr.keep hE) dUpd (by omega))
  refine oS rfl (Yk.atRG wr35_ty22 wr35_szg67 (by decide) dUpd (RG.of (hr.keep hE) T35) T37 (by omega) fun v88 hp89 => (oS rfl (Yk.loadPR (PR.of hp89 (vr v88 rfl)) (wr35_ty67).choose_spec rfl (by rw [upd_len]; exact wr35_isz67) (oS rfl (Yk.alloc (cs := (updC (⟨0, [], zid, zid⟩ : Upd)).toArray) wr35_al67 fun n91 w92 hn93 hb94 hx95 hs96 => ?_)))))
  have hA97 := Ext.refl w83
  have hea98 := hE
  have hz99 := hE.size
  have hlt100 := lte (bl hb20) hn93
  have hlt101 := lte hmp.lt hn93
  have hE := hE.trans hx95
  have hb20 := eb hx95 hb20
  have hmp := hmp.keep hx95
  have hA97 := hA97.trans hx95
  have hb102 := hb94; clear hb94
  have hl103 : n91 < w92.heap.size := by omega
  refine oS rfl (Yk.storeAll (vr (PQ n91 0) rfl) (vr (.agg (updC (l.getD (i) dUpd)).toArray) rfl) hb102 (by simp only [List.size_toArray, upd_len]) (st_isz (upd_len _) wr35_isz67) (upd_one (x := (l.getD (i) dUpd))) fun w104 hb105 hg106 hs107 => ?_)
  have hE := row_fresh hE hg106 (Nat.le_trans hz99 (by omega))
  have hb20 := kb hg106 hb20 (by omega)
  have hmp := MapF.other hmp hg106 (some_ne (by omega))
  have hA97 := row_fresh hA97 hg106 (Nat.le_trans (Nat.le_refl _) (by omega))
  clear hb102
  have hb102 : w104.heap[n91]? = some (.cells (updC (l.getD (i) dUpd)).toArray 67 (0, 0)) := hb105; clear hb105
  have hl108 := bl hb102
  refine oZ ?_
  clear hp89
  refine tN (hK87 _ _ (sk fun K109 hK109 => (sk fun K110 hK110 => (wt (oS rfl (Yk.loadAll (vr (PQ n91 0) rfl) hb102 (wr35_ty67).choose_spec rfl (st_isz (upd_len (l.getD (i) dUpd)) wr35_isz67) (oS rfl (Yk.callA1 wr35_pl77 (vr (.agg (updC (l.getD (i) dUpd)).toArray) rfl) ((update_any _ (l.getD i dUpd) (hln _ (getD_mem dUpd hlt))).mono ?_)))))))))
  rintro e w112 ⟨rfl, hx111⟩
  refine ⟨_, rfl, ?_⟩
  have hE := hE.trans hx111
  have hb20 := eb hx111 hb20
  have hmp := hmp.keep hx111
  have hA97 := hA97.trans hx111
  have hb102 := eb hx111 hb102
  refine oA rfl (oZ (tN (hK110 _ _ (sk fun K113 hK113 => (wt (oM rfl (oS rfl (Yk.eqI (a := (updErr (l.getD i dUpd) : Nat)) (b := (0 : Nat)) rfl rfl (k_neq _ _ _ _) (oZ (tN (hK113 _ _ ?_)))))))))))
  refine wpF_cond ((updErr (l.getD i dUpd) : Nat) ≠ (0)) (vr (.bool (decide ((updErr (l.getD i dUpd) : Nat) ≠ (0)))) rfl) (fun hc2 => ?_) (fun hc2 => ?_)
  ·have hU : updErr (l.getD i dUpd) ≠ 0 := hc2
   refine sk fun K114 hK114 => (wt (oS rfl (Yk.run (v := .agg (refsC ((⟨[], [], [], zid, []⟩, ⟨.slice none 0 0, .slice none 0 0, .slice none 0 0⟩) : RefsV)).toArray) (by kernel_rfl) (oM rfl (oS rfl (Yk.storeAll T6 (vr (.agg (refsC ((⟨[], [], [], zid, []⟩, ⟨.slice none 0 0, .slice none 0 0, .slice none 0 0⟩) : RefsV)).toArray) rfl) hb20 (by simp only [List.size_toArray, refs_len]) (st_isz (refs_len _) wr35_isz53) (refs_one (x := ((⟨[], [], [], zid, []⟩, ⟨.slice none 0 0, .slice none 0 0, .slice none 0 0⟩) : RefsV)) rfl rfl rfl) fun w115 hb116 hg117 hs118 => ?_))))))
   have hE := row_fresh hE hg117 (Nat.le_trans hz18 (by omega))
   have hmp := MapF.other hmp hg117 (some_ne (by omega))
   clear hA97
   have hb102 := kb hg117 hb102 (by omega)
   clear hb20
   have hb20 : w115.heap[n10]? = some (.cells (refsC ((⟨[], [], [], zid, []⟩, ⟨.slice none 0 0, .slice none 0 0, .slice none 0 0⟩) : RefsV)).toArray 53 (0, 0)) := hb116; clear hb116
   have hl119 := bl hb20
   refine oA rfl (oZ (tN (hK114 _ _ (wpF_ret (thenF_ret (inBlockF_ret (thenF_ret (thenF_ret (inBlockF_ret (thenF_ret (postF_ret (fn := Tryd.f26) _ rfl [.agg (refsC ((⟨[], [], [], zid, []⟩, ⟨.slice none 0 0, .slice none 0 0, .slice none 0 0⟩) : RefsV)).toArray, NI (updErr (l.getD i dUpd))] (.tuple #[.agg (refsC ((⟨[], [], [], zid, []⟩, ⟨.slice none 0 0, .slice none 0 0, .slice none 0 0⟩) : RefsV)).toArray, NI (updErr (l.getD i dUpd))]) rfl ⟨ResF.row T6 hb20 (wr35_ty53).choose_spec rfl (st_isz (refs_len _) wr35_isz53), rfl, trivial⟩ ?_)))))))))))
   have hAp := applyP_err h0c (hrun.trans (runP_err1 hlt hU)) hU
   exact ⟨⟨.slice none 0 0, .slice none 0 0, .slice none 0 0⟩, by rw [hAp], by rw [hAp]; exact ⟨OG.nil _ _ _ _ _, OG.nil _ _ _ _ _, OG.nil _ _ _ _ _⟩, hE⟩
  have hU : updErr (l.getD i dUpd) = 0 := by simpa using hc2
  obtain ⟨f, hF⟩ := doG_some (updErr_kind hU)
  refine wpF_skip (tN (hK109 _ _ (sk fun K120 hK120 => (sk fun K121 hK121 => (wt (oM rfl (oS rfl (Yk.fieldAt wr35_fo67_0 (vr (PQ n91 0) rfl) (oS rfl (Yk.cell1 wr35_ty5 rfl (vr (PQ n91 0) rfl) (cellAt hb102 (show (updC (l.getD (i) dUpd))[0]? = some (B8 (((l.getD (i) dUpd)).kind) : Value) from upd_g0 (l.getD (i) dUpd))) (oS rfl (Yk.lookMS (ek := B8) (ev := fnV) (D := fun _ : UInt8 => True) u8Law u8_ok (fun _ _ => b8_inj) wr35_ty125 (z := Value.nilFunc) zeroFn T8 (vr (B8 (((l.getD (i) dUpd)).kind)) rfl) hmp trivial hF (oS rfl (Yk.loadAll (vr (PQ n91 0) rfl) hb102 (wr35_ty67).choose_spec rfl (st_isz (upd_len (l.getD (i) dUpd)) wr35_isz67) (oS rfl (Yk.clo (plain_do hF) (caps := #[]) (vr (fnV f) rfl) #[PQ n2 0, .agg (updC (l.getD (i) dUpd)).toArray] (by simp only [List.map_toArray, List.map_cons, List.map_nil, List.append_toArray, List.cons_append, List.nil_append]; exact congrArg List.toArray (list2 T3 (vr (.agg (updC (l.getD (i) dUpd)).toArray) rfl))) ((do_any w _ n2 z (hQ.keep hA97) hS (l.getD i dUpd) hF).mono ?_)))))))))))))))))
  rintro e w123 ⟨z1, ⟨rfl, hz1⟩, hR, hl1, hg1⟩
  refine ⟨_, rfl, ?_⟩
  have hE := row_fresh hE hg1 (Nat.le_trans (Nat.le_refl _) (by omega))
  have hb20 := kb hg1 hb20 (by omega)
  have hmp := MapF.other hmp hg1 (some_ne (by omega))
  clear hA97
  have hb102 := kb hg1 hb102 (by omega)
  refine oA rfl (oZ ?_)
  have hb124 := hR.blk
  have ho125 := hR.br
  have ho126 := hR.tg
  have ho127 := hR.lg
  have hap128 := OG.off ho125 hb20 (by decide)
  have hap129 := OG.off ho126 hb20 (by decide)
  have hap130 := OG.off ho127 hb20 (by decide)
  have hap131 := OG.offMap ho127 hmp
  have hap132 := OG.off ho125 hb102 (by decide)
  have hap133 := OG.off ho126 hb102 (by decide)
  have hap134 := OG.off ho127 hb102 (by decide)
  have hap135 := OG.off ho125 hb124 (by decide)
  have hap136 := OG.off ho126 hb124 (by decide)
  have hap137 := OG.off ho127 hb124 (by decide)
  have hap138 := OG.apart ho127 ho125 (by decide)
  have hap139 := OG.apart ho127 ho126 (by decide)
  clear hR
  refine tN (hK121 _ _ (sk fun K140 hK140 => (wt (oM rfl (oS rfl (Yk.eqI (a := ((doP z.1 (l.getD i dUpd)).1 : Nat)) (b := (0 : Nat)) rfl rfl (k_neq _ _ _ _) (oZ (tN (hK140 _ _ ?_)))))))))
  refine wpF_cond (((doP z.1 (l.getD i dUpd)).1 : Nat) ≠ (0)) (vr (.bool (decide (((doP z.1 (l.getD i dUpd)).1 : Nat) ≠ (0)))) rfl) (fun hc3 => ?_) (fun hc3 => ?_)
  ·have hD : (doP z.1 (l.getD i dUpd)).1 ≠ 0 := hc3
   refine sk fun K141 hK141 => (wt (oS rfl (Yk.run (v := .agg (refsC ((⟨[], [], [], zid, []⟩, ⟨.slice none 0 0, .slice none 0 0, .slice none 0 0⟩) : RefsV)).toArray) (by kernel_rfl) (oM rfl (oS rfl (Yk.storeAll T6 (vr (.agg (refsC ((⟨[], [], [], zid, []⟩, ⟨.slice none 0 0, .slice none 0 0, .slice none 0 0⟩) : RefsV)).toArray) rfl) hb20 (by simp only [List.size_toArray, refs_len]) (st_isz (refs_len _) wr35_isz53) (refs_one (x := ((⟨[], [], [], zid, []⟩, ⟨.slice none 0 0, .slice none 0 0, .slice none 0 0⟩) : RefsV)) rfl rfl rfl) fun w142 hb143 hg144 hs145 => ?_))))))
   have hE := row_fresh hE hg144 (Nat.le_trans hz18 (by omega))
   have hmp := MapF.other hmp hg144 (some_ne (by omega))
   have hb102 := kb hg144 hb102 (by omega)
   have hb124 := kb hg144 hb124 (by omega)
   have ho125 := OG.kept ho125 hg144 hap128
   have ho126 := OG.kept ho126 hg144 hap129
   have ho127 := OG.kept ho127 hg144 hap130
   clear hb20
   have hb20 : w142.heap[n10]? = some (.cells (refsC ((⟨[], [], [], zid, []⟩, ⟨.slice none 0 0, .slice none 0 0, .slice none 0 0⟩) : RefsV)).toArray 53 (0, 0)) := hb143; clear hb143
   have hl146 := bl hb20
   refine oA rfl (oZ (tN (hK141 _ _ (wpF_ret (thenF_ret (inBlockF_ret (thenF_ret (thenF_ret (inBlockF_ret (thenF_ret (postF_ret (fn := Tryd.f26) _ rfl [.agg (refsC ((⟨[], [], [], zid, []⟩, ⟨.slice none 0 0, .slice none 0 0, .slice none 0 0⟩) : RefsV)).toArray, NI ((doP z.1 (l.getD i dUpd)).1)] (.tuple #[.agg (refsC ((⟨[], [], [], zid, []⟩, ⟨.slice none 0 0, .slice none 0 0, .slice none 0 0⟩) : RefsV)).toArray, NI ((doP z.1 (l.getD i dUpd)).1)]) rfl ⟨ResF.row T6 hb20 (wr35_ty53).choose_spec rfl (st_isz (refs_len _) wr35_isz53), rfl, trivial⟩ ?_)))))))))))
   have hAp := applyP_err h0c (hrun.trans (runP_err2 hlt hU hD)) hD
   exact ⟨⟨.slice none 0 0, .slice none 0 0, .slice none 0 0⟩, by rw [hAp], by rw [hAp]; exact ⟨OG.nil _ _ _ _ _, OG.nil _ _ _ _ _, OG.nil _ _ _ _ _⟩, hE⟩
  have hD : (doP z.1 (l.getD i dUpd)).1 = 0 := by simpa using hc3
  refine wpF_skip (tN (hK120 _ _ (wt (oS rfl (Yk.fieldAt wr35_fo53_4 T3 (oS rfl (Yk.cell1 wr35_ty47 rfl (vr (PQ n2 35) rfl) (cellAt hb124 (show (refsC z1)[35]? = some (z1.2.log : Value) from refs_g4 z1)) (oS rfl (Yk.loadAll (vr (PQ n91 0) rfl) hb102 (wr35_ty67).choose_spec rfl (st_isz (upd_len (l.getD (i) dUpd)) wr35_isz67) (oM rfl (oS rfl (Yk.build2 (vr (.agg (updC (l.getD (i) dUpd)).toArray) rfl) T2 (fun w => (wr35_bdE _ (by rw [List.size_toArray]; exact upd_len _) _ w).trans (by rw [List.toList_toArray, entC_of])) (oS rfl (Yk.lit1G (a := (entOf (l.getD i dUpd) note)) (enc := entC) (vr (.agg (entC (entOf (l.getD i dUpd) note)).toArray) rfl) (ent_len _) wr35_lg47 fun v147 w148 hr149 hx150 => ?_))))))))))))))
  have hE := hE.trans hx150
  have hb20 := eb hx150 hb20
  have hmp := hmp.keep hx150
  have hb102 := eb hx150 hb102
  have hb124 := eb hx150 hb124
  have ho125 := ho125.keep hx150
  have ho126 := ho126.keep hx150
  have ho127 := ho127.keep hx150
  refine oS rfl (Yk.appendRG _ _ w.heap.size _ 104 wr35_ty47 wr35_ig122.choose_spec.1 wr35_ig122.choose_spec.2 wr35_ty47 (z1.1.log) ([(entOf (l.getD i dUpd) note)]) (OG.of ho127 (vr z1.2.log rfl)) (RG.of hr149 (vr v147 rfl)) (fun _ _ => ent_one) (by have h_ := congrArg (fun r => r.log.length) hz1; simp only [doP_log] at h_; simp only [List.length_cons, List.length_nil]; omega) (by have h_ := congrArg (fun r => r.log.length) hz1; simp only [doP_log] at h_; simp only [List.length_cons, List.length_nil]; omega) hE.size fun v151 w152 ho153 hg154 => ?_)
  have hg154 : Grew w148 w152 z1.2.log v151 := hg154
  have hap155 : OB v151 n10 := apart_grew hg154 hap130 (bl hb20)
  have hap156 : OB v151 gm := apart_grew hg154 hap131 hmp.lt
  have hap157 : OB v151 n91 := apart_grew hg154 hap134 (bl hb102)
  have hap158 : OB v151 n2 := apart_grew hg154 hap137 (bl hb124)
  have hap159 : ApartV v151 z1.2.branches := apartv_grew hg154 hap138 ho125.2
  have hap160 : ApartV z1.2.branches v151 := fun k h1 h2 => hap159 k h2 h1
  have hap161 : ApartV v151 z1.2.tags := apartv_grew hg154 hap139 ho126.2
  have hap162 : ApartV z1.2.tags v151 := fun k h1 h2 => hap161 k h2 h1
  have hE := ext_grew hE hg154 ho127.2 (Nat.le_refl _)
  have hb20 := blk_grew hb20 hg154 hap130
  have hmp := MapF.grew hmp hg154 hap131
  have hb102 := blk_grew hb102 hg154 hap134
  have hb124 := blk_grew hb124 hg154 hap137
  have ho125 := og_grew ho125 hg154 hap138
  have ho126 := og_grew ho126 hg154 hap139
  clear hr149
  clear ho127
  refine oS rfl (Yk.fieldAt wr35_fo53_4 T3 (oS rfl (Yk.storeC (i := 35) (v := v151) (vr (PQ n2 35) rfl) (vr v151 rfl) hb124 (by rw [refs_len]; decide) wr35_isz47 (RG.one (RG.ofOwn ho153)).1 (RG.one (RG.ofOwn ho153)).2 fun w163 hb164 hg165 hs166 => ?_)))
  have hE := row_fresh hE hg165 (Nat.le_trans (Nat.le_refl _) (by omega))
  have hb20 := kb hg165 hb20 (by omega)
  have hmp := MapF.other hmp hg165 (some_ne (by omega))
  have hb102 := kb hg165 hb102 (by omega)
  have ho125 := OG.kept ho125 hg165 hap135
  have ho126 := OG.kept ho126 hg165 hap136
  have ho153 := OG.kept ho153 hg165 hap158
  clear hb124
  have hb124 : w163.heap[n2]? = some (.cells (refsC ((⟨z1.1.branches, z1.1.tags, z1.1.head, z1.1.at_, (z1.1.log) ++ [(entOf (l.getD i dUpd) note)]⟩, ⟨z1.2.branches, z1.2.tags, v151⟩) : RefsV)).toArray 53 (0, 0)) := blk_eq hb164 (refs_s4 z1 v151 ((z1.1.log) ++ [(entOf (l.getD i dUpd) note)])); clear hb164
  have hl167 := bl hb124
  refine oZ (bN (tN (hK86 _ _ (wt (oS rfl (Yk.bin (xv := NI i) (yv := NI 1) T37 rfl rfl (i64_add _ _ _ (by omega)) (oM rfl (oL_ [(0, .agg (refsC z0).toArray), (1, lv), (2, St (note)), (3, PQ n2 0), (6, PQ n10 0), (8, .map (some gm)), (10, PQ n91 0), (11, NI (updErr (l.getD i dUpd))), (12, NI ((doP z.1 (l.getD i dUpd)).1)), (35, lv), (36, NI l.length), (37, NI ((i) + (1)))] ⟨T0, T1, T2, T3, T6, T8, rfl, rfl, rfl, T35, T36, rfl, trivial⟩ fun ρ168 ⟨T0, T1, T2, T3, T6, T8, T10, T11, T12, T35, T36, T37, _⟩ => ?_))))))))
  have ho169 : OG w.heap.size 70 33 nmdC w163 z1.2.branches (z1.1.branches) := ho125
  have ho170 : OG w.heap.size 70 33 nmdC w163 z1.2.tags (z1.1.tags) := ho126
  have ho171 : OG w.heap.size 122 67 entC w163 v151 ((z1.1.log) ++ [(entOf (l.getD i dUpd) note)]) := ho153
  have hP : AppAt w w163 n2 ((⟨z1.1.branches, z1.1.tags, z1.1.head, z1.1.at_, (z1.1.log) ++ [(entOf (l.getD i dUpd) note)]⟩, ⟨z1.2.branches, z1.2.tags, v151⟩) : RefsV) := ⟨hE, by omega, hb124, ho169, ho170, ho171, (OG.off ho169 hb124 (by decide)), (OG.off ho170 hb124 (by decide)), (OG.off ho171 hb124 (by decide)), OG.apart ho171 ho169 (by decide), OG.apart ho171 ho170 (by decide)⟩
  have hS2 : Sorted (addlog (doP z.1 (l.getD i dUpd)).2 (entOf (l.getD i dUpd) note)) := by have h_ := doP_sorted (y := (l.getD i dUpd)) hS; exact ⟨h_.br, h_.tg, h_.bl, h_.tl⟩
  have hlog2 : (addlog (doP z.1 (l.getD i dUpd)).2 (entOf (l.getD i dUpd) note)).log.length ≤ 64 + (i + 1) := by simp only [addlog, List.length_append, List.length_cons, List.length_nil, doP_log]; omega
  rw [← hz1] at hS2 hlog2
  refine tN (And.intro ⟨i + 1, ((⟨z1.1.branches, z1.1.tags, z1.1.head, z1.1.at_, (z1.1.log) ++ [(entOf (l.getD i dUpd) note)]⟩, ⟨z1.2.branches, z1.2.tags, v151⟩) : RefsV), T0, T1, T2, T3, T6, T8, T35, T36, T37, hE, hb20, hmp, hP, by omega, (hrun.trans (runP_next hlt hU hD)).trans (by rw [hz1]; rfl), hS2, hlog2, trivial⟩ ?_)
  show l.length - (intOf (ρ168 37)).toNat < l.length - (intOf (ρ82 37)).toNat
  rw [T37, q37]
  simp only [intOf, Int.toNat_natCast]; omega
 have hb172 := hQ.blk
 have ho173 := hQ.br
 have ho174 := hQ.tg
 have ho175 := hQ.lg
 have hap176 := OG.off ho173 hb20 (by decide)
 have hap177 := OG.off ho174 hb20 (by decide)
 have hap178 := OG.off ho175 hb20 (by decide)
 have hap179 := OG.offMap ho175 hmp
 have hap180 := OG.off ho173 hb172 (by decide)
 have hap181 := OG.off ho174 hb172 (by decide)
 have hap182 := OG.off ho175 hb172 (by decide)
 have hap183 := OG.apart ho175 ho173 (by decide)
 have hap184 := OG.apart ho175 ho174 (by decide)
 clear hQ
 refine wpF_exit (thenF_exit (thenF_exit (inBlockF_hit (tN (hK76 _ _ (sk fun K185 hK185 => (wt (oS rfl (Yk.fieldAt wr35_fo53_4 T3 (oS rfl (Yk.cell1 wr35_ty47 rfl (vr (PQ n2 35) rfl) (cellAt hb172 (show (refsC z)[35]? = some (z.2.log : Value) from refs_g4 z)) (oS rfl (Yk.fieldAt wr35_fo53_4 T3 (oS rfl (Yk.cell1 wr35_ty47 rfl (vr (PQ n2 35) rfl) (cellAt hb172 (show (refsC z)[35]? = some (z.2.log : Value) from refs_g4 z)) (oS rfl (Yk.lenRG wr35_ty47 (RG.of (RG.ofOwn ho175) (vr z.2.log rfl)) (oS rfl (Yk.bin (xv := .int .i64 ((((z.1.log).length : Nat) : Int))) (yv := .int .i64 (((64 : Nat) : Int))) rfl rfl rfl (zi_sub _ ((((z.1.log).length : Nat) : Int)) (((64 : Nat) : Int)) (by omega)) (oS rfl (Yk.maxNI (n := z.1.log.length) (m := 64) (vr (.int .i64 ((((((z.1.log).length : Nat) : Int)) - (((64 : Nat) : Int))) : Int)) rfl) (vr (NI 0) rfl) (oS rfl (Yk.sliceLoW wr35_ty47 wr35_szg122 (vr z.2.log rfl) (RG.ofOwn ho175) (vr (NI (z.1.log.length - 64)) rfl) (by omega) fun v186 hr187 ha188 => ?_)))))))))))))))))))))))
 have hz_ := hE.size
 refine oS rfl (Yk.callA1 wr35_pl75 (vr v186 rfl) ((cloneEnt_any _ v186 ((z.1.log).drop (z.1.log.length - 64)) hr187 (by rw [List.length_drop]; omega)).mono ?_))
 rintro e w192 ⟨v189, rfl, ho190, hx191⟩
 refine ⟨_, rfl, ?_⟩
 have hE := hE.trans hx191
 have hb20 := eb hx191 hb20
 have hmp := hmp.keep hx191
 have hb172 := eb hx191 hb172
 have ho173 := ho173.keep hx191
 have ho174 := ho174.keep hx191
 have ho175 := ho175.keep hx191
 have hr187 := hr187.keep hx191
 have ho190 := OG.low ho190 hz_
 have hap193 := OG.off ho190 hb172 (by decide)
 have hap194 := OG.off ho190 hb20 (by decide)
 refine oS rfl (Yk.fieldAt wr35_fo53_4 T3 (oS rfl (Yk.storeC (i := 35) (v := v189) (vr (PQ n2 35) rfl) (vr v189 rfl) hb172 (by rw [refs_len]; decide) wr35_isz47 (RG.one (RG.ofOwn ho190)).1 (RG.one (RG.ofOwn ho190)).2 fun w195 hb196 hg197 hs198 => ?_)))
 have hE := row_fresh hE hg197 (Nat.le_trans (Nat.le_refl _) (by omega))
 have hb20 := kb hg197 hb20 (by omega)
 have hmp := MapF.other hmp hg197 (some_ne (by omega))
 have ho173 := OG.kept ho173 hg197 hap180
 have ho174 := OG.kept ho174 hg197 hap181
 have ho175 := OG.kept ho175 hg197 hap182
 clear hr187
 have ho190 := OG.kept ho190 hg197 hap193
 clear hb172
 have hb172 : w195.heap[n2]? = some (.cells (refsC ((⟨z.1.branches, z.1.tags, z.1.head, z.1.at_, (z.1.log).drop (z.1.log.length - 64)⟩, ⟨z.2.branches, z.2.tags, v189⟩) : RefsV)).toArray 53 (0, 0)) := blk_eq hb196 (refs_s4 z v189 ((z.1.log).drop (z.1.log.length - 64))); clear hb196
 have hl199 := bl hb172
 refine oZ (tN (hK185 _ _ (sk fun K200 hK200 => (wt (oS rfl (Yk.loadAll T3 hb172 (wr35_ty53).choose_spec rfl (st_isz (refs_len ((⟨z.1.branches, z.1.tags, z.1.head, z.1.at_, (z.1.log).drop (z.1.log.length - 64)⟩, ⟨z.2.branches, z.2.tags, v189⟩) : RefsV)) wr35_isz53) (oS rfl (Yk.storeAll T6 (vr (.agg (refsC ((⟨z.1.branches, z.1.tags, z.1.head, z.1.at_, (z.1.log).drop (z.1.log.length - 64)⟩, ⟨z.2.branches, z.2.tags, v189⟩) : RefsV)).toArray) rfl) hb20 (by simp only [List.size_toArray, refs_len]) (st_isz (refs_len _) wr35_isz53) (refs_one (x := ((⟨z.1.branches, z.1.tags, z.1.head, z.1.at_, (z.1.log).drop (z.1.log.length - 64)⟩, ⟨z.2.branches, z.2.tags, v189⟩) : RefsV)) (RG.one (RG.ofOwn ho173)).2 (RG.one (RG.ofOwn ho174)).2 (RG.one (RG.ofOwn ho190)).2) fun w201 hb202 hg203 hs204 => ?_))))))))
 have hE := row_fresh hE hg203 (Nat.le_trans hz18 (by omega))
 have hmp := MapF.other hmp hg203 (some_ne (by omega))
 have ho173 := OG.kept ho173 hg203 hap176
 have ho174 := OG.kept ho174 hg203 hap177
 have ho175 := OG.kept ho175 hg203 hap178
 have ho190 := OG.kept ho190 hg203 hap194
 have hb172 := kb hg203 hb172 (by omega)
 clear hb20
 have hb20 : w201.heap[n10]? = some (.cells (refsC ((⟨z.1.branches, z.1.tags, z.1.head, z.1.at_, (z.1.log).drop (z.1.log.length - 64)⟩, ⟨z.2.branches, z.2.tags, v189⟩) : RefsV)).toArray 53 (0, 0)) := hb202; clear hb202
 have hl205 := bl hb20
 refine oA rfl (oZ (tN (hK200 _ _ (wpF_ret (postF_ret (fn := Tryd.f26) _ rfl [.agg (refsC ((⟨z.1.branches, z.1.tags, z.1.head, z.1.at_, (z.1.log).drop (z.1.log.length - 64)⟩, ⟨z.2.branches, z.2.tags, v189⟩) : RefsV)).toArray, NI 0] (.tuple #[.agg (refsC ((⟨z.1.branches, z.1.tags, z.1.head, z.1.at_, (z.1.log).drop (z.1.log.length - 64)⟩, ⟨z.2.branches, z.2.tags, v189⟩) : RefsV)).toArray, NI 0]) rfl ⟨ResF.row T6 hb20 (wr35_ty53).choose_spec rfl (st_isz (refs_len _) wr35_isz53), rfl, trivial⟩ ?_)))))
 have hAp := applyP_ok h0c (hrun.trans (runP_end (show l.length ≤ i by omega)))
 exact ⟨⟨z.2.branches, z.2.tags, v189⟩, by rw [hAp]; rfl, by rw [hAp]; exact ⟨ho173, ho174, ho190⟩, hE⟩
end Go.Proofs.YtmonlobfofkbdaaDoor
