/- VaultFull: a vault whose disk is full says so, and keeps what it has. Conditions: none beyond those of the given card. -/
import Derived.Test.YtfpekahfdalfkaaGreatDoorB7
import Derived.Test.YtfpekahfdalfkaaGreatDoorCards
import Derived.Test.YtfpekahfdalfkaaGreatDoorTie
namespace Go.Proofs.YtfpekahfdalfkaaGreatDoor.closeVaultFull
open _root_.Go renaming TypeId → AcR, Value → AcJ, World → AcK, FuncId → AeB, Func → AfB
open _root_.Go.Value renaming okWide → Ai3
open _root_.Go.Proofs.Tryz renaming prog → AcM, f6 → Ai5, underlying4 → Agj, checked → Ai4
open _root_.Go.OpenSpec renaming ofChange → AhE
open _root_.Option.some renaming inj → Adu
open Go.ChangeShapes Go.WideShapes Go.ChangeAt Go.RowKit
open Go.ChangeMaps (open_string shut_string)
set_option linter.unusedVariables false
set_option maxRecDepth 100000 in
theorem contract(H:Type)(enc:AcR × AcJ→H)(W:AcK)(base:Nat)(args:Array AcJ)(ds gs:List (DataW H))(before:List MemPlace) 
  (hval0:∀(j:Nat) t v,Tryz.f6.params[j]? =some t→args[j]? =some v→Ai3 AcM W .any base t v)
  (hW:DataW.Whole enc AcM Tryz.f6.params.toList Rows.vaultFullSpec.vars false W args.toList ds gs before) (hL:laidMetH AcM Rows.vaultFullRow.laid W):
  Calls AcM 6 args W fun e W' =>∃v,e = .returned v∧Rows.vaultFullSpec.post enc AcM Ai5 false true false false W args v W' :=by
 have hval:∀(j:Nat) t v,Tryz.f6.params[j]? =some t→args[j]? =some v→Ai3 AcM W .any base t v:=hval0;have hW' :=hW;obtain⟨p,q,a,hV,rfl,hfz,hnd⟩:=hW;have hA:DataW.TrodAll enc AcM W 0 (fun _=>true) true Tryz.f6.params.toList args.toList ds p:=a;rw[Tryz.params6]at hA hval;obtain⟨b,vs0,d0,ds0,p0,q0,hargs,rfl,rfl,h0,r0⟩:=trodAll_cons hA;obtain⟨c,vs1,d1,ds1,p1,q1,rfl,rfl,rfl,h1,r1⟩:=trodAll_cons r0;obtain⟨rfl,rfl,rfl⟩:=trodAll_nil r1;obtain rfl:args = #[b,c]:=by cases args;simp_all
 obtain⟨rfl,rfl⟩:=trodVars_none hV;obtain⟨a0,rfl,rfl,rfl,w0⟩:=open_int Tryz.underlying59 (hval 0 59 b rfl rfl) h0;have w0' :=w0;obtain⟨c0,rfl,O0⟩:=YH w0';have k1:=h1;obtain⟨x1,rfl,O1,lt1⟩:=Wa (hval 1 48 c rfl rfl) h1;clear a hval0;have hG:=XT hL;refine(LY W hG c0 O0 x1 O1).mono fun e W' ⟨he,bel⟩=> ?_;subst he;exact⟨_,rfl,_,_,_,[],_,[],hW',trodAll_mk1 (shut_bool Agj _),(trodAll_cons_mk (shut_int Tryz.underlying59 w0) (trodAll_cons_mk (Below.trod WB (by kernel_rfl) (of_decide_eq_true (by kernel_rfl)) k1 bel lt1) trodAll_mk0)),rfl,bel.frame _,fun h=>by cases h⟩

set_option maxRecDepth 100000 in
theorem lifted(os:Os)(started:os.Started)(H:Type)(enc:AcR × AcJ→H)(F:Stop.Interp):
  ReturnsInHanded {} Ai4 os 6 .any ((AhE Rows.vaultFullSpec).preRow enc AcM Ai5 Rows.vaultFullRow.domain false Rows.vaultFullRow.laid) (((AhE Rows.vaultFullSpec).at F).post enc AcM Ai5 false true false false):=by
 have hx:DataW.whole enc AcM ((Ja os).forCall (fun _ _=>0) ⟨#[],#[.int .u16 0, .agg #[.slice none 0 0, .slice none 0 0, .slice none 0 0, .int .i64 0, .slice none 0 0]],[]⟩).memory Tryz.f6.params.toList Rows.vaultFullSpec.vars false (#[.int .u16 0, .agg #[.slice none 0 0, .slice none 0 0, .slice none 0 0, .int .i64 0, .slice none 0 0]]:Array AcJ).toList 8=some ([.lit (.int .u16 0), .agg [.nil, .nil, .nil, .lit (.int .i64 0), .nil]],[],[]):=by kernel_rfl
 refine returnsInHanded_of_row (C:=Ai4) (s:=AhE Rows.vaultFullSpec) own started (by kernel_rfl) Tryz.func6
  (witness_row_at (enc:=enc) (C:=Ai4) false (Ja os) #[.int .u16 0, .agg #[.slice none 0 0, .slice none 0 0, .slice none 0 0, .int .i64 0, .slice none 0 0]] rfl (by kernel_rfl) (by kernel_rfl) (by kernel_rfl)
   (OpenSpec.preRow_of_cond 8 hx (by kernel_rfl) (fun k hk=>by cases hk) (by kernel_rfl) (V3 os _))) ?_
 intro W base args ds gs before hval hW _ _ _ hL _ _;exact contract H enc W base args ds gs before hval hW hL

theorem said:Rows.VaultFullSaid:=
 OpenClaim.holds_of_cond 6 Ai5 rfl rfl rfl rfl rfl rfl rfl ⟨rfl,rfl,rfl,rfl,rfl⟩ rfl rfl rfl rfl rfl (by kernel_rfl) Tryz.func6 (by kernel_rfl)
  (of_decide_eq_true (by kernel_rfl)) (by unfold Func.isWrapper;first | (rw[if_pos (by decide+kernel)];kernel_rfl) | (rw[if_neg (by decide+kernel)];exact⟨rfl,rfl⟩))
  (fun os started H enc _ F=>by rw[OpenClaim.pre_eq_preRow];exact lifted os started H enc F)

theorem plain(f:AeB)(fn:AfB)(hf:Tryz.pinned.checked.prog.funcNamed "variorum/variorumlaw22.VaultFull" = some f)(hfn:Tryz.pinned.checked.prog.funcs[f]? =some fn):
  true=Tryz.pinned.checked.prog.looks []∧∀(j:Nat) t,fn.params[j]? =some t→Tryz.pinned.checked.prog.wantsStandIn t=false:=by
 obtain rfl:f=6:=Adu ((show Tryz.prog.funcNamed "variorum/variorumlaw22.VaultFull" = some 6 by kernel_rfl).symm.trans hf) |>.symm;obtain rfl:fn=Ai5:=(Adu (Tryz.func6.symm.trans hfn)).symm;refine⟨by kernel_rfl,fun j t ht=> ?_⟩;rw[Tryz.params6]at ht
 match j,ht with
 | 0,ht=>
  obtain rfl:t=59:=by simpa using ht.symm
  exact(show Tryz.prog.wantsStandIn 59=false by kernel_rfl)
 | 1,ht=>
  obtain rfl:t=48:=by simpa using ht.symm
  exact(show Tryz.prog.wantsStandIn 48=false by kernel_rfl)
 | j+2,ht=>simp at ht
theorem card:Rows.VaultFullCardSaid:=
 Claim7.holds_tied_plain_at .later [] _ _ _ _ said (fun _ h=>by cases h) (by kernel_rfl) (fun _ h=>by cases h) vaultFull_row_tie rfl ⟨rfl,rfl⟩ (by kernel_rfl) rfl plain (by kernel_rfl)
end Go.Proofs.YtfpekahfdalfkaaGreatDoor.closeVaultFull
