/- PackOpens: what is opened of any bytes is as the document says. Conditions: none beyond those of the given card. -/
import Derived.Test.YtcegdjpdnlaleaaDoorO7
import Derived.Test.YtcegdjpdnlaleaaDoorCards
import Derived.Test.YtcegdjpdnlaleaaDoorTie
namespace Go.Proofs.YtcegdjpdnlaleaaDoor.closePackOpens
open Go.ChangeShapes Go.WideShapes Go.ChangeAt Go.RowKit
open Go.ChangeMaps (open_string shut_string)
set_option linter.unusedVariables false
set_option maxRecDepth 100000 in
theorem contract(H:Type)(enc:TypeId × Value→H)(W:World)(base:Nat)(args:Array Value)(ds gs:List (DataW H))(before:List MemPlace) 
  (hval0:∀(j:Nat) t v,Tryd.f5.params[j]? =some t→args[j]? =some v→Value.okWide Tryd.prog W .any base t v)
  (hW:DataW.Whole enc Tryd.prog Tryd.f5.params.toList Rows.packOpensSpec.vars false W args.toList ds gs before) (hL:laidMetH Tryd.prog Rows.packOpensRow.laid W):
  Calls Tryd.prog 5 args W fun e W' =>∃v,e = .returned v∧Rows.packOpensSpec.post enc Tryd.prog Tryd.f5 false true false false W args v W' :=by
 have hval:∀(j:Nat) t v,Tryd.f5.params[j]? =some t→args[j]? =some v→Value.okWide Tryd.prog W .any base t v:=hval0
 have hW' :=hW
 obtain⟨p,q,b,hV,rfl,hfz,hnd⟩:=hW
 have hA:DataW.TrodAll enc Tryd.prog W 0 (fun _=>true) true Tryd.f5.params.toList args.toList ds p:=b
 rw[Tryd.params5]at hA hval
 obtain⟨a,vs0,d0,ds0,p0,q0,hargs,rfl,rfl,h0,r0⟩:=trodAll_cons hA
 obtain⟨rfl,rfl,rfl⟩:=trodAll_nil r0
 obtain rfl:args = #[a]:=by cases args;simp_all
 obtain⟨rfl,rfl⟩:=trodVars_none hV
 have k0:=h0
 obtain⟨l0,R0,b0,lt0⟩:=IJ Tryd.underlying24 Tryd.underlying5 (by kernel_rfl) (hval 0 24 a rfl rfl) h0
 clear b hval0
 have hG:=MR hL
 refine(Jz W hG a l0 R0).mono fun e W' ⟨he,bel⟩=> ?_
 subst he
 exact⟨_,rfl,_,_,_,[],_,[],hW',trodAll_mk1 (shut_bool Tryd.underlying4 _),(trodAll_cons_mk (Below.trod Mo (by kernel_rfl) (of_decide_eq_true (by kernel_rfl)) k0 bel lt0) trodAll_mk0),rfl,bel.frame _,fun h=>by cases h⟩

set_option maxRecDepth 100000 in
theorem lifted(os:Os)(started:os.Started)(H:Type)(enc:TypeId × Value→H)(F:Stop.Interp):
  ReturnsInHanded {} Tryd.checked os 5 .any ((OpenSpec.ofChange Rows.packOpensSpec).preRow enc Tryd.prog Tryd.f5 Rows.packOpensRow.domain false Rows.packOpensRow.laid) (((OpenSpec.ofChange Rows.packOpensSpec).at F).post enc Tryd.prog Tryd.f5 false true false false):=by
 have hx:DataW.whole enc Tryd.prog ((E0 os).forCall (fun _ _=>0) ⟨#[],#[.slice none 0 0],[]⟩).memory Tryd.f5.params.toList Rows.packOpensSpec.vars false (#[.slice none 0 0]:Array Value).toList 8=some ([.nil],[],[]):=by kernel_rfl
 refine returnsInHanded_of_row (C:=Tryd.checked) (s:=OpenSpec.ofChange Rows.packOpensSpec) own started (by kernel_rfl) Tryd.func5
  (witness_row_at (enc:=enc) (C:=Tryd.checked) false (E0 os) #[.slice none 0 0] rfl (by kernel_rfl) (by kernel_rfl) (by kernel_rfl)
   (OpenSpec.preRow_of_cond 8 hx (by kernel_rfl) (fun k hk=>by cases hk) (by kernel_rfl) (LD os _))) ?_
 intro W base args ds gs before hval hW _ _ _ hL _ _
 exact contract H enc W base args ds gs before hval hW hL

theorem said:Rows.PackOpensSaid:=
 OpenClaim.holds_of_cond 5 Tryd.f5 rfl rfl rfl rfl rfl rfl rfl ⟨rfl,rfl,rfl,rfl,rfl⟩ rfl rfl rfl rfl rfl (by kernel_rfl) Tryd.func5 (by kernel_rfl)
  (of_decide_eq_true (by kernel_rfl)) (by unfold Func.isWrapper;first | (rw[if_pos (by decide+kernel)];kernel_rfl) | (rw[if_neg (by decide+kernel)];exact⟨rfl,rfl⟩))
  (fun os started H enc _ F=>by rw[OpenClaim.pre_eq_preRow];exact lifted os started H enc F)

theorem plain(f:FuncId)(fn:Func)(hf:Tryd.pinned.checked.prog.funcNamed "variorum/variorumlaw11.PackOpens" = some f)(hfn:Tryd.pinned.checked.prog.funcs[f]? =some fn):
  true=Tryd.pinned.checked.prog.looks []∧∀(j:Nat) t,fn.params[j]? =some t→Tryd.pinned.checked.prog.wantsStandIn t=false:=by
 obtain rfl:f=5:=Option.some.inj ((show Tryd.prog.funcNamed "variorum/variorumlaw11.PackOpens" = some 5 by kernel_rfl).symm.trans hf) |>.symm
 obtain rfl:fn=Tryd.f5:=(Option.some.inj (Tryd.func5.symm.trans hfn)).symm
 refine⟨by kernel_rfl,fun j t ht=> ?_⟩
 rw[Tryd.params5]at ht
 match j,ht with
 | 0,ht=>
  obtain rfl:t=24:=by simpa using ht.symm
  exact(show Tryd.prog.wantsStandIn 24=false by kernel_rfl)
 | j+1,ht=>simp at ht
theorem card:Rows.PackOpensCardSaid:=
 Claim7.holds_tied_plain_at .later [] _ _ _ _ said (fun _ h=>by cases h) (by kernel_rfl) (fun _ h=>by cases h) packOpens_row_tie rfl ⟨rfl,rfl⟩ (by kernel_rfl) rfl plain (by kernel_rfl)
end Go.Proofs.YtcegdjpdnlaleaaDoor.closePackOpens
