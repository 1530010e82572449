/- JournalFull: without space a transaction is refused, and nothing is changed. Conditions: none beyond those of the given card. -/
import Derived.Test.YtbbbblinjomajaaGreatDoorF7
import Derived.Test.YtbbbblinjomajaaGreatDoorCards
import Derived.Test.YtbbbblinjomajaaGreatDoorTie
namespace Go.Proofs.YtbbbblinjomajaaGreatDoor.closeJournalFull
open _root_.Go.Proofs.Tryz renaming prog->AcF,f3->Ah3,checked->Ah2
open Go.ChangeShapes Go.WideShapes Go.ChangeAt Go.RowKit
open Go.ChangeMaps (open_string shut_string)
set_option linter.unusedVariables false
set_option maxRecDepth 100000 in
theorem contract(H:Type)(enc:TypeId × Value->H)(W:World)(base:Nat)(args:Array Value)(ds gs:List (DataW H))(before:List MemPlace) 
  (hval0:∀(j:Nat) t v,Tryz.f3.params[j]? =some t->args[j]? =some v->Value.okWide AcF W .any base t v)
  (hW:DataW.Whole enc AcF Tryz.f3.params.toList Rows.journalFullSpec.vars false W args.toList ds gs before) (hL:laidMetH AcF Rows.journalFullRow.laid W):
  Calls AcF 3 args W fun e W' =>∃v,e = .returned v/\Rows.journalFullSpec.post enc AcF Ah3 false true false false W args v W' :=by
 have hval:∀(j:Nat) t v,Tryz.f3.params[j]? =some t->args[j]? =some v->Value.okWide AcF W .any base t v:=hval0;have hW' :=hW;obtain⟨p,q,b,hV,rfl,hfz,hnd⟩:=hW;have hA:DataW.TrodAll enc AcF W 0 (fun _=>true) true Tryz.f3.params.toList args.toList ds p:=b;rw[Tryz.params3]at hA hval;obtain⟨c,vs0,d0,ds0,p0,q0,hargs,rfl,rfl,h0,r0⟩:=trodAll_cons hA;obtain⟨a,vs1,d1,ds1,p1,q1,rfl,rfl,rfl,h1,r1⟩:=trodAll_cons r0;obtain⟨rfl,rfl,rfl⟩:=trodAll_nil r1;obtain rfl:args = #[c,a]:=by cases args;simp_all
 obtain⟨rfl,rfl⟩:=trodVars_none hV;obtain⟨a0,rfl,rfl,rfl,w0⟩:=open_int Tryz.underlying22 (hval 0 22 c rfl rfl) h0;have w0' :=w0;obtain⟨c0,rfl,O0⟩:=X9 w0';have k1:=h1;obtain⟨l1,R1,O1,lt1⟩:=TU (hval 1 23 a rfl rfl) h1;clear b hval0;refine(Kf W c0 O0 a l1 R1 O1).mono fun e W' ⟨he,bel⟩=> ?_;subst he;exact⟨_,rfl,_,_,_,[],_,[],hW',trodAll_mk1 (shut_bool Tryz.underlying4 _),(trodAll_cons_mk (shut_int Tryz.underlying22 w0) (trodAll_cons_mk (Below.trod We (by kernel_rfl) (of_decide_eq_true (by kernel_rfl)) k1 bel lt1) trodAll_mk0)),rfl,bel.frame _,fun h=>by cases h⟩
set_option maxRecDepth 100000 in
theorem lifted(os:Os)(started:os.Started)(H:Type)(enc:TypeId × Value->H)(F:Stop.Interp):
  ReturnsInHanded {} Ah2 os 3 .any ((OpenSpec.ofChange Rows.journalFullSpec).preRow enc AcF Ah3 Rows.journalFullRow.domain false Rows.journalFullRow.laid) (((OpenSpec.ofChange Rows.journalFullSpec).at F).post enc AcF Ah3 false true false false):=by
 have hx:DataW.whole enc AcF ((Ij os).forCall (fun _ _=>0) ⟨#[],#[.int .u16 0, .slice none 0 0],[]⟩).memory Tryz.f3.params.toList Rows.journalFullSpec.vars false (#[.int .u16 0, .slice none 0 0]:Array Value).toList 8=some ([.lit (.int .u16 0), .nil],[],[]):=by kernel_rfl
 refine returnsInHanded_of_row (C:=Ah2) (s:=OpenSpec.ofChange Rows.journalFullSpec) own started (by kernel_rfl) Tryz.func3
  (witness_row_at (enc:=enc) (C:=Ah2) false (Ij os) #[.int .u16 0, .slice none 0 0] rfl (by kernel_rfl) (by kernel_rfl) (by kernel_rfl)
   (OpenSpec.preRow_of_cond 8 hx (by kernel_rfl) (fun k hk=>by cases hk) (by kernel_rfl) (TZ os _))) ?_
 intro W base args ds gs before hval hW _ _ _ hL _ _;exact contract H enc W base args ds gs before hval hW hL
theorem said:Rows.JournalFullSaid:=
 OpenClaim.holds_of_cond 3 Ah3 rfl rfl rfl rfl rfl rfl rfl ⟨rfl,rfl,rfl,rfl,rfl⟩ rfl rfl rfl rfl rfl (by kernel_rfl) Tryz.func3 (by kernel_rfl)
  (of_decide_eq_true (by kernel_rfl)) (by unfold Func.isWrapper;first | (rw[if_pos (by decide+kernel)];kernel_rfl) | (rw[if_neg (by decide+kernel)];exact⟨rfl,rfl⟩))
  (fun os started H enc _ F=>by rw[OpenClaim.pre_eq_preRow];exact lifted os started H enc F)
theorem plain(f:FuncId)(fn:Func)(hf:Tryz.pinned.checked.prog.funcNamed "variorum/variorumlaw21.JournalFull" = some f)(hfn:Tryz.pinned.checked.prog.funcs[f]? =some fn):
  true=Tryz.pinned.checked.prog.looks []/\∀(j:Nat) t,fn.params[j]? =some t->Tryz.pinned.checked.prog.wantsStandIn t=false:=by
 obtain rfl:f=3:=Option.some.inj ((show Tryz.prog.funcNamed "variorum/variorumlaw21.JournalFull" = some 3 by kernel_rfl).symm.trans hf) |>.symm;obtain rfl:fn=Ah3:=(Option.some.inj (Tryz.func3.symm.trans hfn)).symm;refine⟨by kernel_rfl,fun j t ht=> ?_⟩;rw[Tryz.params3]at ht
 match j,ht with
 | 0,ht=>
  obtain rfl:t=22:=by simpa using ht.symm
  exact(show Tryz.prog.wantsStandIn 22=false by kernel_rfl)
 | 1,ht=>
  obtain rfl:t=23:=by simpa using ht.symm
  exact(show Tryz.prog.wantsStandIn 23=false by kernel_rfl)
 | j+2,ht=>simp at ht
theorem card:Rows.JournalFullCardSaid:=
 Claim7.holds_tied_plain_at .later [] _ _ _ _ said (fun _ h=>by cases h) (by kernel_rfl) (fun _ h=>by cases h) journalFull_row_tie rfl ⟨rfl,rfl⟩ (by kernel_rfl) rfl plain (by kernel_rfl)
end Go.Proofs.YtbbbblinjomajaaGreatDoor.closeJournalFull
