/- LoosePlays: any acts on any disk, with crashes between, and files spoilt, are answered as the chapter says. Conditions: none beyond those of the given card. -/
import Derived.Test.YtejpjjhkjdpeaaaGreatDoorZ7
import Derived.Test.YtejpjjhkjdpeaaaGreatDoorCards
import Derived.Test.YtejpjjhkjdpeaaaGreatDoorTie
namespace Go.Proofs.YtejpjjhkjdpeaaaGreatDoor.closeLoosePlays
open Go.ChangeShapes Go.WideShapes Go.ChangeAt Go.RowKit
open Go.ChangeMaps (open_string shut_string)
set_option linter.unusedVariables false
set_option maxRecDepth 100000 in
theorem contract(H:Type)(enc:TypeId × Value→H)(W:World)(base:Nat)(args:Array Value)(ds gs:List (DataW H))(before:List MemPlace) 
  (hval0:∀(j:Nat) t v,Tryz.f3.params[j]? =some t→args[j]? =some v→Value.okWide Tryz.prog W .any base t v)
  (hW:DataW.Whole enc Tryz.prog Tryz.f3.params.toList Rows.loosePlaysSpec.vars false W args.toList ds gs before) (hL:laidMetH Tryz.prog Rows.loosePlaysRow.laid W):
  Calls Tryz.prog 3 args W fun e W' =>∃v,e = .returned v∧Rows.loosePlaysSpec.post enc Tryz.prog Tryz.f3 false true false false W args v W' :=by
 have hval:∀(j:Nat) t v,Tryz.f3.params[j]? =some t→args[j]? =some v→Value.okWide Tryz.prog W .any base t v:=hval0
 have hW' :=hW
 obtain⟨p,q,b,hV,rfl,hfz,hnd⟩:=hW
 have hA:DataW.TrodAll enc Tryz.prog W 0 (fun _=>true) true Tryz.f3.params.toList args.toList ds p:=b
 rw[Tryz.params3]at hA hval
 obtain⟨c,vs0,d0,ds0,p0,q0,hargs,rfl,rfl,h0,r0⟩:=trodAll_cons hA
 obtain⟨a,vs1,d1,ds1,p1,q1,rfl,rfl,rfl,h1,r1⟩:=trodAll_cons r0
 obtain⟨rfl,rfl,rfl⟩:=trodAll_nil r1
 obtain rfl:args = #[c,a]:=by cases args;simp_all
 obtain⟨rfl,rfl⟩:=trodVars_none hV
 obtain⟨a0,rfl,rfl,rfl,w0⟩:=open_int Tryz.underlying3 (hval 0 3 c rfl rfl) h0
 have k1:=h1
 obtain⟨l1,R1,O1,lt1⟩:=N8 (hval 1 22 a rfl rfl) h1
 clear b hval0
 have hG:=RH hL
 refine(Ih W hG a0 a l1 R1 O1).mono fun e W' ⟨he,bel⟩=> ?_
 subst he
 exact⟨_,rfl,_,_,_,[],_,[],hW',trodAll_mk1 (shut_bool Tryz.underlying4 _),(trodAll_cons_mk (shut_int Tryz.underlying3 w0) (trodAll_cons_mk (Below.trod QR (by kernel_rfl) (of_decide_eq_true (by kernel_rfl)) k1 bel lt1) trodAll_mk0)),rfl,bel.frame _,fun h=>by cases h⟩

set_option maxRecDepth 100000 in
theorem lifted(os:Os)(started:os.Started)(H:Type)(enc:TypeId × Value→H)(F:Stop.Interp):
  ReturnsInHanded {} Tryz.checked os 3 .any ((OpenSpec.ofChange Rows.loosePlaysSpec).preRow enc Tryz.prog Tryz.f3 Rows.loosePlaysRow.domain false Rows.loosePlaysRow.laid) (((OpenSpec.ofChange Rows.loosePlaysSpec).at F).post enc Tryz.prog Tryz.f3 false true false false):=by
 have hx:DataW.whole enc Tryz.prog ((Gp os).forCall (fun _ _=>0) ⟨#[],#[.int .i64 0, .slice none 0 0],[]⟩).memory Tryz.f3.params.toList Rows.loosePlaysSpec.vars false (#[.int .i64 0, .slice none 0 0]:Array Value).toList 8=some ([.lit (.int .i64 0), .nil],[],[]):=by kernel_rfl
 refine returnsInHanded_of_row (C:=Tryz.checked) (s:=OpenSpec.ofChange Rows.loosePlaysSpec) own started (by kernel_rfl) Tryz.func3
  (witness_row_at (enc:=enc) (C:=Tryz.checked) false (Gp os) #[.int .i64 0, .slice none 0 0] rfl (by kernel_rfl) (by kernel_rfl) (by kernel_rfl)
   (OpenSpec.preRow_of_cond 8 hx (by kernel_rfl) (fun k hk=>by cases hk) (by kernel_rfl) (P9 os _))) ?_
 intro W base args ds gs before hval hW _ _ _ hL _ _
 exact contract H enc W base args ds gs before hval hW hL

theorem said:Rows.LoosePlaysSaid:=
 OpenClaim.holds_of_cond 3 Tryz.f3 rfl rfl rfl rfl rfl rfl rfl ⟨rfl,rfl,rfl,rfl,rfl⟩ rfl rfl rfl rfl rfl (by kernel_rfl) Tryz.func3 (by kernel_rfl)
  (of_decide_eq_true (by kernel_rfl)) (by unfold Func.isWrapper;first | (rw[if_pos (by decide+kernel)];kernel_rfl) | (rw[if_neg (by decide+kernel)];exact⟨rfl,rfl⟩))
  (fun os started H enc _ F=>by rw[OpenClaim.pre_eq_preRow];exact lifted os started H enc F)

theorem plain(f:FuncId)(fn:Func)(hf:Tryz.pinned.checked.prog.funcNamed "variorum/variorumlaw09.LoosePlays" = some f)(hfn:Tryz.pinned.checked.prog.funcs[f]? =some fn):
  true=Tryz.pinned.checked.prog.looks []∧∀(j:Nat) t,fn.params[j]? =some t→Tryz.pinned.checked.prog.wantsStandIn t=false:=by
 obtain rfl:f=3:=Option.some.inj ((show Tryz.prog.funcNamed "variorum/variorumlaw09.LoosePlays" = some 3 by kernel_rfl).symm.trans hf) |>.symm
 obtain rfl:fn=Tryz.f3:=(Option.some.inj (Tryz.func3.symm.trans hfn)).symm
 refine⟨by kernel_rfl,fun j t ht=> ?_⟩
 rw[Tryz.params3]at ht
 match j,ht with
 | 0,ht=>
  obtain rfl:t=3:=by simpa using ht.symm
  exact(show Tryz.prog.wantsStandIn 3=false by kernel_rfl)
 | 1,ht=>
  obtain rfl:t=22:=by simpa using ht.symm
  exact(show Tryz.prog.wantsStandIn 22=false by kernel_rfl)
 | j+2,ht=>simp at ht
theorem card:Rows.LoosePlaysCardSaid:=
 Claim7.holds_tied_plain_at .later [] _ _ _ _ said (fun _ h=>by cases h) (by kernel_rfl) (fun _ h=>by cases h) loosePlays_row_tie rfl ⟨rfl,rfl⟩ (by kernel_rfl) rfl plain (by kernel_rfl)
end Go.Proofs.YtejpjjhkjdpeaaaGreatDoor.closeLoosePlays
