/- WireTold: refs that may be are told by a message that may be. Conditions: none beyond those of the given card. -/
import Derived.Test.YtmonlobfofkbdaaDoorT6
import Derived.Test.YtmonlobfofkbdaaDoorCards
import Derived.Test.YtmonlobfofkbdaaDoorTie
namespace Go.Proofs.YtmonlobfofkbdaaDoor.closeWireTold
open Go.ChangeShapes Go.WideShapes Go.ChangeAt Go.RowKit
open Go.ChangeMaps (open_string shut_string)
set_option linter.unusedVariables false
set_option maxRecDepth 100000 in
theorem contract (H : Type) (enc : TypeId × Value → H) (W : World) (base : Nat) (args : Array Value) (ds gs : List (DataW H)) (before : List MemPlace)
  (hval0 : ∀ (j : Nat) t v, Tryd.f11.params[j]? = some t → args[j]? = some v → Value.okWide Tryd.prog W .any base t v)
  (hW : DataW.Whole enc Tryd.prog Tryd.f11.params.toList Rows.wireToldSpec.vars false W args.toList ds gs before) (hL : laidMetH Tryd.prog Rows.wireToldRow.laid W) :
  Calls Tryd.prog 11 args W fun e W' => ∃ v, e = .returned v ∧ Rows.wireToldSpec.post enc Tryd.prog Tryd.f11 false true false false W args v W' := by
 have hval : ∀ (j : Nat) t v, Tryd.f11.params[j]? = some t → args[j]? = some v → Value.okWide Tryd.prog W .any base t v := hval0
 have hW' := hW
 obtain ⟨p, q, hA0, hV, rfl, hfz, hnd⟩ := hW
 have hA : DataW.TrodAll enc Tryd.prog W 0 (fun _ => true) true Tryd.f11.params.toList args.toList ds p := hA0
 rw [Tryd.params11] at hA hval
 obtain ⟨v0, vs0, d0, ds0, p0, q0, hargs, rfl, rfl, h0, r0⟩ := trodAll_cons hA
 obtain ⟨v1, vs1, d1, ds1, p1, q1, rfl, rfl, rfl, h1, r1⟩ := trodAll_cons r0
 obtain ⟨rfl, rfl, rfl⟩ := trodAll_nil r1
 obtain rfl : args = #[v0, v1] := by cases args; simp_all
 obtain ⟨rfl, rfl⟩ := trodVars_none hV
 have k0 := h0
 obtain ⟨x0, rfl, R0, N0, lt0⟩ := open_refs (hval 0 49 v0 rfl rfl) h0
 obtain ⟨a1, rfl, rfl, rfl, w1⟩ := open_int Tryd.underlying74 (hval 1 74 v1 rfl rfl) h1
 obtain ⟨s1, rfl, hs1⟩ := u16_of w1
 clear hA0 hval0
 refine (wireTold_walk W x0 R0 N0 s1 hs1).mono fun e W' ⟨he, bel⟩ => ?_
 subst he
 exact ⟨_, rfl, _, _, _, [], _, [], hW', trodAll_mk1 (shut_bool Tryd.underlying4 _), (trodAll_cons_mk (Below.trod laidOut (by kernel_rfl) (of_decide_eq_true (by kernel_rfl)) k0 bel lt0) (trodAll_cons_mk (shut_int Tryd.underlying74 w1) trodAll_mk0)), rfl, bel.frame _, fun h => by cases h⟩

set_option maxRecDepth 100000 in
theorem lifted (os : Os) (started : os.Started) (H : Type) (enc : TypeId × Value → H) (F : Stop.Interp) :
  ReturnsInHanded {} Tryd.checked os 11 .any ((OpenSpec.ofChange Rows.wireToldSpec).preRow enc Tryd.prog Tryd.f11 Rows.wireToldRow.domain false Rows.wireToldRow.laid) (((OpenSpec.ofChange Rows.wireToldSpec).at F).post enc Tryd.prog Tryd.f11 false true false false) := by
 have hx : DataW.whole enc Tryd.prog ((laidWorld os).forCall (fun _ _ => 0) ⟨#[], #[refZ, .int .u16 0], []⟩).memory Tryd.f11.params.toList Rows.wireToldSpec.vars false (#[refZ, .int .u16 0] : Array Value).toList 8 = some ([refZD, .lit (.int .u16 0)], [], []) := by kernel_rfl
 refine returnsInHanded_of_row (C := Tryd.checked) (s := OpenSpec.ofChange Rows.wireToldSpec) own started (by kernel_rfl) Tryd.func11
  (witness_row_at (enc := enc) (C := Tryd.checked) false (laidWorld os) #[refZ, .int .u16 0] rfl (by kernel_rfl) (by kernel_rfl) (by kernel_rfl)
   (OpenSpec.preRow_of_cond 8 hx (by kernel_rfl) (fun k hk => by cases hk) (by kernel_rfl) (laid_met os _))) ?_
 intro W base args ds gs before hval hW _ _ _ hL _ _
 exact contract H enc W base args ds gs before hval hW hL

theorem said : Rows.WireToldSaid :=
 OpenClaim.holds_of_cond 11 Tryd.f11 rfl rfl rfl rfl rfl rfl rfl ⟨rfl, rfl, rfl, rfl, rfl⟩ rfl rfl rfl rfl rfl (by kernel_rfl) Tryd.func11 (by kernel_rfl)
  (of_decide_eq_true (by kernel_rfl)) (by unfold Func.isWrapper; first | (rw [if_pos (by decide +kernel)]; kernel_rfl) | (rw [if_neg (by decide +kernel)]; exact ⟨rfl, rfl⟩))
  (fun os started H enc _ F => by rw [OpenClaim.pre_eq_preRow]; exact lifted os started H enc F)

theorem plain (f : FuncId) (fn : Func) (hf : Tryd.pinned.checked.prog.funcNamed "variorum/variorumlaw25.WireTold" = some f) (hfn : Tryd.pinned.checked.prog.funcs[f]? = some fn) :
  true = Tryd.pinned.checked.prog.looks [] ∧ ∀ (j : Nat) t, fn.params[j]? = some t → Tryd.pinned.checked.prog.wantsStandIn t = false := by
 obtain rfl : f = 11 := Option.some.inj ((show Tryd.prog.funcNamed "variorum/variorumlaw25.WireTold" = some 11 by kernel_rfl).symm.trans hf) |>.symm
 obtain rfl : fn = Tryd.f11 := (Option.some.inj (Tryd.func11.symm.trans hfn)).symm
 refine ⟨by kernel_rfl, fun j t ht => ?_⟩
 rw [Tryd.params11] at ht
 match j, ht with
 | 0, ht =>
  obtain rfl : t = 49 := by simpa using ht.symm
  exact (show Tryd.prog.wantsStandIn 49 = false by kernel_rfl)
 | 1, ht =>
  obtain rfl : t = 74 := by simpa using ht.symm
  exact (show Tryd.prog.wantsStandIn 74 = false by kernel_rfl)
 | j + 2, ht => simp at ht
theorem card : Rows.WireToldCardSaid :=
 Claim7.holds_tied_plain_at .later [] _ _ _ _ said (fun _ h => by cases h) (by kernel_rfl) (fun _ h => by cases h) wireTold_row_tie rfl ⟨rfl, rfl⟩ (by kernel_rfl) rfl plain (by kernel_rfl)
end Go.Proofs.YtmonlobfofkbdaaDoor.closeWireTold
