/- WireCut: bytes that are cut, or with more behind, are no message's. Conditions: none beyond those of the given card. -/
import Derived.Test.YtmonlobfofkbdaaDoorP6
import Derived.Test.YtmonlobfofkbdaaDoorCards
import Derived.Test.YtmonlobfofkbdaaDoorTie
namespace Go.Proofs.YtmonlobfofkbdaaDoor.closeWireCut
open Go.ChangeShapes Go.WideShapes Go.ChangeAt Go.RowKit
open Go.ChangeMaps (open_string shut_string)
set_option linter.unusedVariables false
set_option maxRecDepth 100000 in
theorem contract (H : Type) (enc : TypeId × Value → H) (W : World) (base : Nat) (args : Array Value) (ds gs : List (DataW H)) (before : List MemPlace)
  (hval0 : ∀ (j : Nat) t v, Tryd.f6.params[j]? = some t → args[j]? = some v → Value.okWide Tryd.prog W .any base t v)
  (hW : DataW.Whole enc Tryd.prog Tryd.f6.params.toList Rows.wireCutSpec.vars false W args.toList ds gs before) (hL : laidMetH Tryd.prog Rows.wireCutRow.laid W) :
  Calls Tryd.prog 6 args W fun e W' => ∃ v, e = .returned v ∧ Rows.wireCutSpec.post enc Tryd.prog Tryd.f6 false true false false W args v W' := by
 have hval : ∀ (j : Nat) t v, Tryd.f6.params[j]? = some t → args[j]? = some v → Value.okWide Tryd.prog W .any base t v := hval0
 have hW' := hW
 obtain ⟨p, q, hA0, hV, rfl, hfz, hnd⟩ := hW
 have hA : DataW.TrodAll enc Tryd.prog W 0 (fun _ => true) true Tryd.f6.params.toList args.toList ds p := hA0
 rw [Tryd.params6] at hA hval
 obtain ⟨v0, vs0, d0, ds0, p0, q0, hargs, rfl, rfl, h0, r0⟩ := trodAll_cons hA
 obtain ⟨v1, vs1, d1, ds1, p1, q1, rfl, rfl, rfl, h1, r1⟩ := trodAll_cons r0
 obtain ⟨v2, vs2, d2, ds2, p2, q2, rfl, rfl, rfl, h2, r2⟩ := trodAll_cons r1
 obtain ⟨rfl, rfl, rfl⟩ := trodAll_nil r2
 obtain rfl : args = #[v0, v1, v2] := by cases args; simp_all
 obtain ⟨rfl, rfl⟩ := trodVars_none hV
 have k0 := h0
 obtain ⟨x0, rfl, R0, lt0⟩ := open_msg (hval 0 29 v0 rfl rfl) h0
 obtain ⟨a1, rfl, rfl, rfl, w1⟩ := open_int Tryd.underlying3 (hval 1 3 v1 rfl rfl) h1
 have k2 := h2
 obtain ⟨l2, R2, b2, lt2⟩ := open_bytes Tryd.underlying26 Tryd.underlying5 (by kernel_rfl) (hval 2 26 v2 rfl rfl) h2
 clear hA0 hval0
 refine (wireCut_walk W x0 R0 a1 v2 l2 R2).mono fun e W' ⟨he, bel⟩ => ?_
 subst he
 exact ⟨_, rfl, _, _, _, [], _, [], hW', trodAll_mk1 (shut_bool Tryd.underlying4 _), (trodAll_cons_mk (Below.trod laidOut (by kernel_rfl) (of_decide_eq_true (by kernel_rfl)) k0 bel lt0) (trodAll_cons_mk (shut_int Tryd.underlying3 w1) (trodAll_cons_mk (Below.trod laidOut (by kernel_rfl) (of_decide_eq_true (by kernel_rfl)) k2 bel lt2) trodAll_mk0))), rfl, bel.frame _, fun h => by cases h⟩

set_option maxRecDepth 100000 in
theorem lifted (os : Os) (started : os.Started) (H : Type) (enc : TypeId × Value → H) (F : Stop.Interp) :
  ReturnsInHanded {} Tryd.checked os 6 .any ((OpenSpec.ofChange Rows.wireCutSpec).preRow enc Tryd.prog Tryd.f6 Rows.wireCutRow.domain false Rows.wireCutRow.laid) (((OpenSpec.ofChange Rows.wireCutSpec).at F).post enc Tryd.prog Tryd.f6 false true false false) := by
 have hx : DataW.whole enc Tryd.prog ((laidWorld os).forCall (fun _ _ => 0) ⟨#[], #[msgZ, .int .i64 0, .slice none 0 0], []⟩).memory Tryd.f6.params.toList Rows.wireCutSpec.vars false (#[msgZ, .int .i64 0, .slice none 0 0] : Array Value).toList 8 = some ([msgZD, .lit (.int .i64 0), .nil], [], []) := by kernel_rfl
 refine returnsInHanded_of_row (C := Tryd.checked) (s := OpenSpec.ofChange Rows.wireCutSpec) own started (by kernel_rfl) Tryd.func6
  (witness_row_at (enc := enc) (C := Tryd.checked) false (laidWorld os) #[msgZ, .int .i64 0, .slice none 0 0] rfl (by kernel_rfl) (by kernel_rfl) (by kernel_rfl)
   (OpenSpec.preRow_of_cond 8 hx (by kernel_rfl) (fun k hk => by cases hk) (by kernel_rfl) (laid_met os _))) ?_
 intro W base args ds gs before hval hW _ _ _ hL _ _
 exact contract H enc W base args ds gs before hval hW hL

theorem said : Rows.WireCutSaid :=
 OpenClaim.holds_of_cond 6 Tryd.f6 rfl rfl rfl rfl rfl rfl rfl ⟨rfl, rfl, rfl, rfl, rfl⟩ rfl rfl rfl rfl rfl (by kernel_rfl) Tryd.func6 (by kernel_rfl)
  (of_decide_eq_true (by kernel_rfl)) (by unfold Func.isWrapper; first | (rw [if_pos (by decide +kernel)]; kernel_rfl) | (rw [if_neg (by decide +kernel)]; exact ⟨rfl, rfl⟩))
  (fun os started H enc _ F => by rw [OpenClaim.pre_eq_preRow]; exact lifted os started H enc F)

theorem plain (f : FuncId) (fn : Func) (hf : Tryd.pinned.checked.prog.funcNamed "variorum/variorumlaw25.WireCut" = some f) (hfn : Tryd.pinned.checked.prog.funcs[f]? = some fn) :
  true = Tryd.pinned.checked.prog.looks [] ∧ ∀ (j : Nat) t, fn.params[j]? = some t → Tryd.pinned.checked.prog.wantsStandIn t = false := by
 obtain rfl : f = 6 := Option.some.inj ((show Tryd.prog.funcNamed "variorum/variorumlaw25.WireCut" = some 6 by kernel_rfl).symm.trans hf) |>.symm
 obtain rfl : fn = Tryd.f6 := (Option.some.inj (Tryd.func6.symm.trans hfn)).symm
 refine ⟨by kernel_rfl, fun j t ht => ?_⟩
 rw [Tryd.params6] at ht
 match j, ht with
 | 0, ht =>
  obtain rfl : t = 29 := by simpa using ht.symm
  exact (show Tryd.prog.wantsStandIn 29 = false by kernel_rfl)
 | 1, ht =>
  obtain rfl : t = 3 := by simpa using ht.symm
  exact (show Tryd.prog.wantsStandIn 3 = false by kernel_rfl)
 | 2, ht =>
  obtain rfl : t = 26 := by simpa using ht.symm
  exact (show Tryd.prog.wantsStandIn 26 = false by kernel_rfl)
 | j + 3, ht => simp at ht
theorem card : Rows.WireCutCardSaid :=
 Claim7.holds_tied_plain_at .later [] _ _ _ _ said (fun _ h => by cases h) (by kernel_rfl) (fun _ h => by cases h) wireCut_row_tie rfl ⟨rfl, rfl⟩ (by kernel_rfl) rfl plain (by kernel_rfl)
end Go.Proofs.YtmonlobfofkbdaaDoor.closeWireCut
