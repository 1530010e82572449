/- VaultKept: what a vault kept is there behind whatever crash. Conditions: none beyond those of the given card. -/
import Derived.Test.YtfpekahfdalfkaaGreatDoorC8
import Derived.Test.YtfpekahfdalfkaaGreatDoorCards
import Derived.Test.YtfpekahfdalfkaaGreatDoorTie
namespace Go.Proofs.YtfpekahfdalfkaaGreatDoor.closeVaultKept
open _root_.Go.Proofs.Tryz renaming prog->Ae5,f8->AlD,checked->AlC
open Go.ChangeShapes Go.WideShapes Go.ChangeAt Go.RowKit
open Go.ChangeMaps (open_string shut_string)
set_option linter.unusedVariables false
set_option maxRecDepth 100000 in
theorem contract(H:Type)(enc:TypeId × Value->H)(W:World)(base:Nat)(args:Array Value)(ds gs:List (DataW H))(before:List MemPlace) 
  (hval0:∀(j:Nat) t v,Tryz.f8.params[j]? =some t->args[j]? =some v->Value.okWide Ae5 W .any base t v)
  (hW:DataW.Whole enc Ae5 Tryz.f8.params.toList Rows.vaultKeptSpec.vars false W args.toList ds gs before) (hL:laidMetH Ae5 Rows.vaultKeptRow.laid W):
  Calls Ae5 8 args W fun e W' =>∃v,e = .returned v/\Rows.vaultKeptSpec.post enc Ae5 AlD false true false false W args v W' :=by
 have hval:∀(j:Nat) t v,Tryz.f8.params[j]? =some t->args[j]? =some v->Value.okWide Ae5 W .any base t v:=hval0;have hW' :=hW;obtain⟨p,q,a,hV,rfl,hfz,hnd⟩:=hW;have hA:DataW.TrodAll enc Ae5 W 0 (fun _=>true) true Tryz.f8.params.toList args.toList ds p:=a;rw[Tryz.params8]at hA hval;obtain⟨b,vs0,d0,ds0,p0,q0,hargs,rfl,rfl,h0,r0⟩:=trodAll_cons hA;obtain⟨rfl,rfl,rfl⟩:=trodAll_nil r0;obtain rfl:args = #[b]:=by cases args;simp_all
 obtain⟨rfl,rfl⟩:=trodVars_none hV;have k0:=h0;obtain⟨x0,rfl,O0,lt0⟩:=Xo (hval 0 48 b rfl rfl) h0;clear a hval0;have hG:=Zk hL;refine(My W hG x0 O0).mono fun e W' ⟨he,bel⟩=> ?_;subst he;exact⟨_,rfl,_,_,_,[],_,[],hW',trodAll_mk1 (shut_bool Tryz.underlying4 _),(trodAll_cons_mk (Below.trod XZ (by kernel_rfl) (of_decide_eq_true (by kernel_rfl)) k0 bel lt0) trodAll_mk0),rfl,bel.frame _,fun h=>by cases h⟩
set_option maxRecDepth 100000 in
theorem lifted(os:Os)(started:os.Started)(H:Type)(enc:TypeId × Value->H)(F:Stop.Interp):
  ReturnsInHanded {} AlC os 8 .any ((OpenSpec.ofChange Rows.vaultKeptSpec).preRow enc Ae5 AlD Rows.vaultKeptRow.domain false Rows.vaultKeptRow.laid) (((OpenSpec.ofChange Rows.vaultKeptSpec).at F).post enc Ae5 AlD false true false false):=by
 have hx:DataW.whole enc Ae5 ((JH os).forCall (fun _ _=>0) ⟨#[],#[.agg #[.slice none 0 0, .slice none 0 0, .slice none 0 0, .int .i64 0, .slice none 0 0]],[]⟩).memory Tryz.f8.params.toList Rows.vaultKeptSpec.vars false (#[.agg #[.slice none 0 0, .slice none 0 0, .slice none 0 0, .int .i64 0, .slice none 0 0]]:Array Value).toList 8=some ([.agg [.nil, .nil, .nil, .lit (.int .i64 0), .nil]],[],[]):=by kernel_rfl
 refine returnsInHanded_of_row (C:=AlC) (s:=OpenSpec.ofChange Rows.vaultKeptSpec) own started (by kernel_rfl) Tryz.func8
  (witness_row_at (enc:=enc) (C:=AlC) false (JH os) #[.agg #[.slice none 0 0, .slice none 0 0, .slice none 0 0, .int .i64 0, .slice none 0 0]] rfl (by kernel_rfl) (by kernel_rfl) (by kernel_rfl)
   (OpenSpec.preRow_of_cond 8 hx (by kernel_rfl) (fun k hk=>by cases hk) (by kernel_rfl) (Xh os _))) ?_
 intro W base args ds gs before hval hW _ _ _ hL _ _;exact contract H enc W base args ds gs before hval hW hL
theorem said:Rows.VaultKeptSaid:=
 OpenClaim.holds_of_cond 8 AlD rfl rfl rfl rfl rfl rfl rfl ⟨rfl,rfl,rfl,rfl,rfl⟩ rfl rfl rfl rfl rfl (by kernel_rfl) Tryz.func8 (by kernel_rfl)
  (of_decide_eq_true (by kernel_rfl)) (by unfold Func.isWrapper;first | (rw[if_pos (by decide+kernel)];kernel_rfl) | (rw[if_neg (by decide+kernel)];exact⟨rfl,rfl⟩))
  (fun os started H enc _ F=>by rw[OpenClaim.pre_eq_preRow];exact lifted os started H enc F)
theorem plain(f:FuncId)(fn:Func)(hf:Tryz.pinned.checked.prog.funcNamed "variorum/variorumlaw22.VaultKept" = some f)(hfn:Tryz.pinned.checked.prog.funcs[f]? =some fn):
  true=Tryz.pinned.checked.prog.looks []/\∀(j:Nat) t,fn.params[j]? =some t->Tryz.pinned.checked.prog.wantsStandIn t=false:=by
 obtain rfl:f=8:=Option.some.inj ((show Tryz.prog.funcNamed "variorum/variorumlaw22.VaultKept" = some 8 by kernel_rfl).symm.trans hf) |>.symm;obtain rfl:fn=AlD:=(Option.some.inj (Tryz.func8.symm.trans hfn)).symm;refine⟨by kernel_rfl,fun j t ht=> ?_⟩;rw[Tryz.params8]at ht
 match j,ht with
 | 0,ht=>
  obtain rfl:t=48:=by simpa using ht.symm
  exact(show Tryz.prog.wantsStandIn 48=false by kernel_rfl)
 | j+1,ht=>simp at ht
theorem card:Rows.VaultKeptCardSaid:=
 Claim7.holds_tied_plain_at .later [] _ _ _ _ said (fun _ h=>by cases h) (by kernel_rfl) (fun _ h=>by cases h) vaultKept_row_tie rfl ⟨rfl,rfl⟩ (by kernel_rfl) rfl plain (by kernel_rfl)
end Go.Proofs.YtfpekahfdalfkaaGreatDoor.closeVaultKept
