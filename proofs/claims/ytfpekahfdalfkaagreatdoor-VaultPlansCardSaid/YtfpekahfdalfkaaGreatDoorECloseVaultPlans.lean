/- VaultPlans: in which packs any ids go, and upon what. Conditions: none beyond those of the given card. -/
import Derived.Test.YtfpekahfdalfkaaGreatDoorE7
import Derived.Test.YtfpekahfdalfkaaGreatDoorCards
import Derived.Test.YtfpekahfdalfkaaGreatDoorTie
namespace Go.Proofs.YtfpekahfdalfkaaGreatDoor.closeVaultPlans
open _root_.Go.Proofs.Tryz renaming prog->AbL,f3->Ah2,params3->AhZ,checked->Ah0
open _root_.Go.OpenSpec renaming ofChange->AfH
open Go.ChangeShapes Go.WideShapes Go.ChangeAt Go.RowKit
open Go.ChangeMaps (open_string shut_string)
set_option linter.unusedVariables false
set_option maxRecDepth 100000 in
theorem contract(H:Type)(enc:TypeId × Value->H)(W:World)(base:Nat)(args:Array Value)(ds gs:List (DataW H))(before:List MemPlace) 
  (hval0:∀(j:Nat) t v,Tryz.f3.params[j]? =some t->args[j]? =some v->Value.okWide AbL W .any base t v)
  (hW:DataW.Whole enc AbL Tryz.f3.params.toList Rows.vaultPlansSpec.vars false W args.toList ds gs before) (hL:laidMetH AbL Rows.vaultPlansRow.laid W) (hwt:(DataW.weightsEach AbL (Tryz.f3.params.toList++(AfH Rows.vaultPlansSpec).bare.plain.varTypes AbL) (ds++gs)).all (· <= reachBytes)=true):
  Calls AbL 3 args W fun e W' =>∃v,e = .returned v/\Rows.vaultPlansSpec.post enc AbL Ah2 false true false false W args v W' :=by
 have hval:∀(j:Nat) t v,Tryz.f3.params[j]? =some t->args[j]? =some v->Value.okWide AbL W .any base t v:=hval0;have hW' :=hW;rw[AhZ]at hwt;obtain⟨p,q,c,hV,rfl,hfz,hnd⟩:=hW;have hA:DataW.TrodAll enc AbL W 0 (fun _=>true) true Tryz.f3.params.toList args.toList ds p:=c;rw[AhZ]at hA hval;obtain⟨a,vs0,d0,ds0,p0,q0,hargs,rfl,rfl,h0,r0⟩:=trodAll_cons hA;obtain⟨b,vs1,d1,ds1,p1,q1,rfl,rfl,rfl,h1,r1⟩:=trodAll_cons r0;obtain⟨rfl,rfl,rfl⟩:=trodAll_nil r1;obtain rfl:args = #[a,b]:=by cases args;simp_all
 obtain⟨rfl,rfl⟩:=trodVars_none hV;have k0:=h0;obtain⟨l0,R0,b0,lt0⟩:=K7 (hval 0 22 a rfl rfl) h0;have k1:=h1;obtain⟨l1,R1,b1,lt1⟩:=K7 (hval 1 22 b rfl rfl) h1;have f:l1.length*8<=140737488351232:=by
  rcases b1 with rfl | ⟨el,sp,hd,hl⟩
  ·exact Nat.zero_le _
  ·have:=Q6 hwt hd;omega
 clear c hval0;have hG:=Ws hL;refine(K8 W hG a b l0 l1 R0 R1 f).mono fun e W' ⟨he,bel⟩=> ?_;subst he;exact⟨_,rfl,_,_,_,[],_,[],hW',trodAll_mk1 (shut_bool Tryz.underlying4 _),(trodAll_cons_mk (Below.trod O1 (by kernel_rfl) (of_decide_eq_true (by kernel_rfl)) k0 bel lt0) (trodAll_cons_mk (Below.trod O1 (by kernel_rfl) (of_decide_eq_true (by kernel_rfl)) k1 bel lt1) trodAll_mk0)),rfl,bel.frame _,fun h=>by cases h⟩
set_option maxRecDepth 100000 in
theorem lifted(os:Os)(started:os.Started)(H:Type)(enc:TypeId × Value->H)(F:Stop.Interp):
  ReturnsInHanded {} Ah0 os 3 .any ((AfH Rows.vaultPlansSpec).preRow enc AbL Ah2 Rows.vaultPlansRow.domain false Rows.vaultPlansRow.laid) (((AfH Rows.vaultPlansSpec).at F).post enc AbL Ah2 false true false false):=by
 have hx:DataW.whole enc AbL ((IV os).forCall (fun _ _=>0) ⟨#[],#[.slice none 0 0, .slice none 0 0],[]⟩).memory Tryz.f3.params.toList Rows.vaultPlansSpec.vars false (#[.slice none 0 0, .slice none 0 0]:Array Value).toList 8=some ([.nil, .nil],[],[]):=by kernel_rfl
 refine returnsInHanded_of_row (C:=Ah0) (s:=AfH Rows.vaultPlansSpec) own started (by kernel_rfl) Tryz.func3
  (witness_row_at (enc:=enc) (C:=Ah0) false (IV os) #[.slice none 0 0, .slice none 0 0] rfl (by kernel_rfl) (by kernel_rfl) (by kernel_rfl)
   (OpenSpec.preRow_of_cond 8 hx (by kernel_rfl) (fun k hk=>by cases hk) (by kernel_rfl) (UW os _))) ?_
 intro W base args ds gs before hval hW _ _ hwt hL _ _;exact contract H enc W base args ds gs before hval hW hL hwt
theorem said:Rows.VaultPlansSaid:=
 OpenClaim.holds_of_cond 3 Ah2 rfl rfl rfl rfl rfl rfl rfl ⟨rfl,rfl,rfl,rfl,rfl⟩ rfl rfl rfl rfl rfl (by kernel_rfl) Tryz.func3 (by kernel_rfl)
  (of_decide_eq_true (by kernel_rfl)) (by unfold Func.isWrapper;first | (rw[if_pos (by decide+kernel)];kernel_rfl) | (rw[if_neg (by decide+kernel)];exact⟨rfl,rfl⟩))
  (fun os started H enc _ F=>by rw[OpenClaim.pre_eq_preRow];exact lifted os started H enc F)
theorem plain(f:FuncId)(fn:Func)(hf:Tryz.pinned.checked.prog.funcNamed "variorum/variorumlaw22.VaultPlans" = some f)(hfn:Tryz.pinned.checked.prog.funcs[f]? =some fn):
  true=Tryz.pinned.checked.prog.looks []/\∀(j:Nat) t,fn.params[j]? =some t->Tryz.pinned.checked.prog.wantsStandIn t=false:=by
 obtain rfl:f=3:=Option.some.inj ((show Tryz.prog.funcNamed "variorum/variorumlaw22.VaultPlans" = some 3 by kernel_rfl).symm.trans hf) |>.symm;obtain rfl:fn=Ah2:=(Option.some.inj (Tryz.func3.symm.trans hfn)).symm;refine⟨by kernel_rfl,fun j t ht=> ?_⟩;rw[AhZ]at ht
 match j,ht with
 | 0,ht=>
  obtain rfl:t=22:=by simpa using ht.symm
  exact(show Tryz.prog.wantsStandIn 22=false by kernel_rfl)
 | 1,ht=>
  obtain rfl:t=22:=by simpa using ht.symm
  exact(show Tryz.prog.wantsStandIn 22=false by kernel_rfl)
 | j+2,ht=>simp at ht
theorem card:Rows.VaultPlansCardSaid:=
 Claim7.holds_tied_plain_at .later [] _ _ _ _ said (fun _ h=>by cases h) (by kernel_rfl) (fun _ h=>by cases h) vaultPlans_row_tie rfl ⟨rfl,rfl⟩ (by kernel_rfl) rfl plain (by kernel_rfl)
end Go.Proofs.YtfpekahfdalfkaaGreatDoor.closeVaultPlans
