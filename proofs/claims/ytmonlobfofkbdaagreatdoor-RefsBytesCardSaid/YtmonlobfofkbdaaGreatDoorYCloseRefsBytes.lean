/- RefsBytes: the bytes of any refs, and any bytes as refs. Conditions: none beyond those of the given card. -/
import Derived.Test.YtmonlobfofkbdaaGreatDoorY7
import Derived.Test.YtmonlobfofkbdaaGreatDoorCards
import Derived.Test.YtmonlobfofkbdaaGreatDoorTie
namespace Go.Proofs.YtmonlobfofkbdaaGreatDoor.closeRefsBytes
open Go.ChangeShapes Go.WideShapes Go.ChangeAt Go.RowKit
open Go.ChangeMaps (open_string shut_string)
set_option linter.unusedVariables false
set_option maxRecDepth 100000 in
theorem contract(H:Type)(enc:TypeId × Value→H)(W:World)(base:Nat)(args:Array Value)(ds gs:List (DataW H))(before:List MemPlace) 
  (hval0:∀(j:Nat) t v,Tryz.f3.params[j]? =some t→args[j]? =some v→Value.okWide Tryz.prog W .any base t v)
  (hW:DataW.Whole enc Tryz.prog Tryz.f3.params.toList Rows.refsBytesSpec.vars false W args.toList ds gs before) (hL:laidMetH Tryz.prog Rows.refsBytesRow.laid W):
  Calls Tryz.prog 3 args W fun e W' =>∃v,e = .returned v∧Rows.refsBytesSpec.post enc Tryz.prog Tryz.f3 false true false false W args v W' :=by
 have hval:∀(j:Nat) t v,Tryz.f3.params[j]? =some t→args[j]? =some v→Value.okWide Tryz.prog W .any base t v:=hval0
 have hW' :=hW
 obtain⟨p,q,b,hV,rfl,hfz,hnd⟩:=hW
 have hA:DataW.TrodAll enc Tryz.prog W 0 (fun _=>true) true Tryz.f3.params.toList args.toList ds p:=b
 rw[Tryz.params3]at hA hval
 obtain⟨c,vs0,d0,ds0,p0,q0,hargs,rfl,rfl,h0,r0⟩:=trodAll_cons hA
 obtain⟨a,vs1,d1,ds1,p1,q1,rfl,rfl,rfl,h1,r1⟩:=trodAll_cons r0
 obtain⟨rfl,rfl,rfl⟩:=trodAll_nil r1
 obtain rfl:args = #[c,a]:=by cases args;simp_all
 obtain⟨rfl,rfl⟩:=trodVars_none hV
 have k0:=h0
 obtain⟨x0,rfl,R0,N0,lt0⟩:=NN (hval 0 27 c rfl rfl) h0
 have k1:=h1
 obtain⟨l1,R1,b1,lt1⟩:=Mz Tryz.underlying28 Tryz.underlying5 (by kernel_rfl) (hval 1 28 a rfl rfl) h1
 clear b hval0
 refine(Jn W x0 R0 N0 a l1 R1).mono fun e W' ⟨he,bel⟩=> ?_
 subst he
 exact⟨_,rfl,_,_,_,[],_,[],hW',trodAll_mk1 (shut_bool Tryz.underlying4 _),(trodAll_cons_mk (Below.trod Mg (by kernel_rfl) (of_decide_eq_true (by kernel_rfl)) k0 bel lt0) (trodAll_cons_mk (Below.trod Mg (by kernel_rfl) (of_decide_eq_true (by kernel_rfl)) k1 bel lt1) trodAll_mk0)),rfl,bel.frame _,fun h=>by cases h⟩

set_option maxRecDepth 100000 in
theorem lifted(os:Os)(started:os.Started)(H:Type)(enc:TypeId × Value→H)(F:Stop.Interp):
  ReturnsInHanded {} Tryz.checked os 3 .any ((OpenSpec.ofChange Rows.refsBytesSpec).preRow enc Tryz.prog Tryz.f3 Rows.refsBytesRow.domain false Rows.refsBytesRow.laid) (((OpenSpec.ofChange Rows.refsBytesSpec).at F).post enc Tryz.prog Tryz.f3 false true false false):=by
 have hx:DataW.whole enc Tryz.prog ((GH os).forCall (fun _ _=>0) ⟨#[],#[refZ, .slice none 0 0],[]⟩).memory Tryz.f3.params.toList Rows.refsBytesSpec.vars false (#[refZ, .slice none 0 0]:Array Value).toList 8=some ([Rr, .nil],[],[]):=by kernel_rfl
 refine returnsInHanded_of_row (C:=Tryz.checked) (s:=OpenSpec.ofChange Rows.refsBytesSpec) own started (by kernel_rfl) Tryz.func3
  (witness_row_at (enc:=enc) (C:=Tryz.checked) false (GH os) #[refZ, .slice none 0 0] rfl (by kernel_rfl) (by kernel_rfl) (by kernel_rfl)
   (OpenSpec.preRow_of_cond 8 hx (by kernel_rfl) (fun k hk=>by cases hk) (by kernel_rfl) (Pi os _))) ?_
 intro W base args ds gs before hval hW _ _ _ hL _ _
 exact contract H enc W base args ds gs before hval hW hL

theorem said:Rows.RefsBytesSaid:=
 OpenClaim.holds_of_cond 3 Tryz.f3 rfl rfl rfl rfl rfl rfl rfl ⟨rfl,rfl,rfl,rfl,rfl⟩ rfl rfl rfl rfl rfl (by kernel_rfl) Tryz.func3 (by kernel_rfl)
  (of_decide_eq_true (by kernel_rfl)) (by unfold Func.isWrapper;first | (rw[if_pos (by decide+kernel)];kernel_rfl) | (rw[if_neg (by decide+kernel)];exact⟨rfl,rfl⟩))
  (fun os started H enc _ F=>by rw[OpenClaim.pre_eq_preRow];exact lifted os started H enc F)

theorem plain(f:FuncId)(fn:Func)(hf:Tryz.pinned.checked.prog.funcNamed "variorum/variorumlaw20.RefsBytes" = some f)(hfn:Tryz.pinned.checked.prog.funcs[f]? =some fn):
  true=Tryz.pinned.checked.prog.looks []∧∀(j:Nat) t,fn.params[j]? =some t→Tryz.pinned.checked.prog.wantsStandIn t=false:=by
 obtain rfl:f=3:=Option.some.inj ((show Tryz.prog.funcNamed "variorum/variorumlaw20.RefsBytes" = some 3 by kernel_rfl).symm.trans hf) |>.symm
 obtain rfl:fn=Tryz.f3:=(Option.some.inj (Tryz.func3.symm.trans hfn)).symm
 refine⟨by kernel_rfl,fun j t ht=> ?_⟩
 rw[Tryz.params3]at ht
 match j,ht with
 | 0,ht=>
  obtain rfl:t=27:=by simpa using ht.symm
  exact(show Tryz.prog.wantsStandIn 27=false by kernel_rfl)
 | 1,ht=>
  obtain rfl:t=28:=by simpa using ht.symm
  exact(show Tryz.prog.wantsStandIn 28=false by kernel_rfl)
 | j+2,ht=>simp at ht
theorem card:Rows.RefsBytesCardSaid:=
 Claim7.holds_tied_plain_at .later [] _ _ _ _ said (fun _ h=>by cases h) (by kernel_rfl) (fun _ h=>by cases h) refsBytes_row_tie rfl ⟨rfl,rfl⟩ (by kernel_rfl) rfl plain (by kernel_rfl)
end Go.Proofs.YtmonlobfofkbdaaGreatDoor.closeRefsBytes
