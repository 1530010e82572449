/- JournalRenewed: made new it tells the same. Conditions: none beyond those of the given card. -/
import Derived.Test.YtbbbblinjomajaaGreatDoorR6
import Derived.Test.YtbbbblinjomajaaGreatDoorCards
import Derived.Test.YtbbbblinjomajaaGreatDoorTie
namespace Go.Proofs.YtbbbblinjomajaaGreatDoor.closeJournalRenewed
open _root_.Go.Proofs.Tryz renaming prog->Acu,f6->AhM,checked->AhK
open Go.ChangeShapes Go.WideShapes Go.ChangeAt Go.RowKit
open Go.ChangeMaps (open_string shut_string)
set_option linter.unusedVariables false
set_option maxRecDepth 100000 in
theorem contract(H:Type)(enc:TypeId × Value->H)(W:World)(base:Nat)(args:Array Value)(ds gs:List (DataW H))(before:List MemPlace) 
  (hval0:∀(j:Nat) t v,Tryz.f6.params[j]? =some t->args[j]? =some v->Value.okWide Acu W .any base t v)
  (hW:DataW.Whole enc Acu Tryz.f6.params.toList Rows.journalRenewedSpec.vars false W args.toList ds gs before) (hL:laidMetH Acu Rows.journalRenewedRow.laid W):
  Calls Acu 6 args W fun e W' =>∃v,e = .returned v/\Rows.journalRenewedSpec.post enc Acu AhM false true false false W args v W' :=by
 have hval:∀(j:Nat) t v,Tryz.f6.params[j]? =some t->args[j]? =some v->Value.okWide Acu W .any base t v:=hval0;have hW' :=hW;obtain⟨p,q,b,hV,rfl,hfz,hnd⟩:=hW;have hA:DataW.TrodAll enc Acu W 0 (fun _=>true) true Tryz.f6.params.toList args.toList ds p:=b;rw[Tryz.params6]at hA hval;obtain⟨a,vs0,d0,ds0,p0,q0,hargs,rfl,rfl,h0,r0⟩:=trodAll_cons hA;obtain⟨rfl,rfl,rfl⟩:=trodAll_nil r0;obtain rfl:args = #[a]:=by cases args;simp_all
 obtain⟨rfl,rfl⟩:=trodVars_none hV;have k0:=h0;obtain⟨l0,R0,O0,lt0⟩:=TJ (hval 0 23 a rfl rfl) h0;clear b hval0;refine(Ih W a l0 R0 O0).mono fun e W' ⟨he,bel⟩=> ?_;subst he;exact⟨_,rfl,_,_,_,[],_,[],hW',trodAll_mk1 (shut_bool Tryz.underlying4 _),(trodAll_cons_mk (Below.trod V8 (by kernel_rfl) (of_decide_eq_true (by kernel_rfl)) k0 bel lt0) trodAll_mk0),rfl,bel.frame _,fun h=>by cases h⟩
set_option maxRecDepth 100000 in
theorem lifted(os:Os)(started:os.Started)(H:Type)(enc:TypeId × Value->H)(F:Stop.Interp):
  ReturnsInHanded {} AhK os 6 .any ((OpenSpec.ofChange Rows.journalRenewedSpec).preRow enc Acu AhM Rows.journalRenewedRow.domain false Rows.journalRenewedRow.laid) (((OpenSpec.ofChange Rows.journalRenewedSpec).at F).post enc Acu AhM false true false false):=by
 have hx:DataW.whole enc Acu ((Ii os).forCall (fun _ _=>0) ⟨#[],#[.slice none 0 0],[]⟩).memory Tryz.f6.params.toList Rows.journalRenewedSpec.vars false (#[.slice none 0 0]:Array Value).toList 8=some ([.nil],[],[]):=by kernel_rfl
 refine returnsInHanded_of_row (C:=AhK) (s:=OpenSpec.ofChange Rows.journalRenewedSpec) own started (by kernel_rfl) Tryz.func6
  (witness_row_at (enc:=enc) (C:=AhK) false (Ii os) #[.slice none 0 0] rfl (by kernel_rfl) (by kernel_rfl) (by kernel_rfl)
   (OpenSpec.preRow_of_cond 8 hx (by kernel_rfl) (fun k hk=>by cases hk) (by kernel_rfl) (TN os _))) ?_
 intro W base args ds gs before hval hW _ _ _ hL _ _;exact contract H enc W base args ds gs before hval hW hL
theorem said:Rows.JournalRenewedSaid:=
 OpenClaim.holds_of_cond 6 AhM rfl rfl rfl rfl rfl rfl rfl ⟨rfl,rfl,rfl,rfl,rfl⟩ rfl rfl rfl rfl rfl (by kernel_rfl) Tryz.func6 (by kernel_rfl)
  (of_decide_eq_true (by kernel_rfl)) (by unfold Func.isWrapper;first | (rw[if_pos (by decide+kernel)];kernel_rfl) | (rw[if_neg (by decide+kernel)];exact⟨rfl,rfl⟩))
  (fun os started H enc _ F=>by rw[OpenClaim.pre_eq_preRow];exact lifted os started H enc F)
theorem plain(f:FuncId)(fn:Func)(hf:Tryz.pinned.checked.prog.funcNamed "variorum/variorumlaw21.JournalRenewed" = some f)(hfn:Tryz.pinned.checked.prog.funcs[f]? =some fn):
  true=Tryz.pinned.checked.prog.looks []/\∀(j:Nat) t,fn.params[j]? =some t->Tryz.pinned.checked.prog.wantsStandIn t=false:=by
 obtain rfl:f=6:=Option.some.inj ((show Tryz.prog.funcNamed "variorum/variorumlaw21.JournalRenewed" = some 6 by kernel_rfl).symm.trans hf) |>.symm;obtain rfl:fn=AhM:=(Option.some.inj (Tryz.func6.symm.trans hfn)).symm;refine⟨by kernel_rfl,fun j t ht=> ?_⟩;rw[Tryz.params6]at ht
 match j,ht with
 | 0,ht=>
  obtain rfl:t=23:=by simpa using ht.symm
  exact(show Tryz.prog.wantsStandIn 23=false by kernel_rfl)
 | j+1,ht=>simp at ht
theorem card:Rows.JournalRenewedCardSaid:=
 Claim7.holds_tied_plain_at .later [] _ _ _ _ said (fun _ h=>by cases h) (by kernel_rfl) (fun _ h=>by cases h) journalRenewed_row_tie rfl ⟨rfl,rfl⟩ (by kernel_rfl) rfl plain (by kernel_rfl)
end Go.Proofs.YtbbbblinjomajaaGreatDoor.closeJournalRenewed
