/- Part 5 of what stands behind these statements: laws and walks of the functions that are reached. Conditions: those that each theorem names. -/
import Derived.Test.YtbbbblinjomajaaGreatDoorT4
set_option linter.unusedVariables false
set_option linter.unusedSimpArgs false
namespace Go.Proofs.YtbbbblinjomajaaGreatDoor
open _root_.Nat renaming le_refl->Adw,le_trans->Adu,le_add_right->Afn,zero_le->AdN,le_of_ble_eq_true->AdD,lt_of_lt_of_le->AeS,blt->Ae5
open _root_.List renaming take_length->Ae4,take_append_of_le_length->Agk,take_of_length_le->Ad7,getD_eq_getElem?_getD->Adz,getElem?_append_left->AeP,getElem?_append_right->AeC,mem_map_of_mem->AfF,mem_map->Aeq,getElem?_eq_getElem->AdE,mem_cons_self->AeG,mem_cons_of_mem->AeF,map_toArray->AdH,map_cons->AdK,map_nil->AdO,length_append->Adx,append_assoc->AdW,mem_append->Aed,mem_singleton->Aeb,length_cons->AdJ,length_nil->AdQ,toArray->Ad2,append_toArray->Aei,cons_append->Ad1,nil_append->Ad9,mem_cons->Ad5,not_mem_nil->Aes,size_toArray->Ad6,getElem?_toArray->Aeh,getElem?_eq_none->AeX,getElem?_cons_zero->Af8
open _root_.Go renaming World->Ads,Value->Adr,TypeId->Ady,Program->AdM,Operand->AdC
open _root_.Go.Proofs.Tryz renaming prog->Adt
open _root_.Go.Instr renaming buildSlice->Ad0,build->Aew,index->Ah8
open _root_.Go.Sem renaming run_bind->AdB,run_pure->AdF
open _root_.Go.Result renaming andThen_ok->AdA,andThen->Aek
open _root_.And renaming intro->Aem
open _root_.Int renaming toNat_natCast->AdV
open _root_.Bool renaming or_false->Ahj,and_eq_true->AdX,or_eq_true->AeH
open _root_.Go.Lib renaming uvarint->AdU,byteCells->Adv,byteCells_length->AdG
open _root_.Go.World.grownBy renaming refl->AdZ
open _root_.Go.Value renaming slice->AdI,ownBlock->Aec
open _root_.Option renaming bind_some->AdP,bind_none->Aev,bind_eq_some_iff->Aff
open _root_.Array renaming replicate->Afc,getD_eq_getD_getElem?->Ad8,getElem?_append->AgT,getElem?_replicate->Afm
open Go.RowKit
def jc(D:Ak):Bs:=match lookD D.now jrN with
 | some k=>(Ar D k).1
 | none=> []
def dirM(D:Ak)(m:Nat):Bh:=(D.acts.take m).foldl turnD D.kept
def IA(D:Ak):Option Nat->Bs->Prop
 | some k,c=>∃n,(Ar D k).2<=n/\n<=(Ar D k).1.length/\c=(Ar D k).1.take n
 | none,c=>c= []
def CC(D:Ak)(c:Bs):Prop:=∃m,m<=D.acts.length/\IA D (lookD (dirM D m) jrN) c
def Safe(P:Bs->Prop)(D:Ak):Prop:=∀c,CC D c->P c
structure JOk (D : Ak) : Prop where
 ok:DOk D
 now:dirM D D.acts.length=D.now
 inj:InjD D.now
 nm:∀m,∀e∈dirM D m,e.1=jrN\/e.1=nwN
theorem JOk.nmn{D:Ak}(h:JOk D):∀e∈D.now,e.1=jrN\/e.1=nwN:=by
 have:=h.nm D.acts.length
 rwa [h.now]at this
structure EqD (D D' : Ak) : Prop where
 files:D'.files=D.files
 now:D'.now=D.now
 kept:D'.kept=D.kept
 acts:D'.acts=D.acts
 quota:D'.quota=D.quota
section
variable {D D' : Ak} {P : Bs -> Prop}
theorem EqD.jc(h:EqD D D'):jc D' =jc D:=by unfold Go.Proofs.YtbbbblinjomajaaGreatDoor.jc Ar;rw[h.now,h.files]
theorem EqD.cc(h:EqD D D')(c:Bs):CC D' c↔CC D c:=by
 have h1:∀m,dirM D' m=dirM D m:=fun m=>by unfold dirM;rw[h.acts,h.kept]
 have h2:∀o c,IA D' o c=IA D o c:=fun o c=>by
  cases o with
  | none=>rfl
  | some k=>show(∃n,_)=∃n,_;unfold Ar;rw[h.files]
 unfold CC;rw[h.acts];simp only[h1,h2]
theorem EqD.ok(h:EqD D D')(hj:JOk D):JOk D' :=by
 refine⟨⟨?_,?_,?_,?_⟩,?_,?_,?_⟩
 ·rw[h.files,h.now];exact hj.ok.now
 ·rw[h.files,h.kept];exact hj.ok.kept
 ·rw[h.files,h.acts];exact hj.ok.acts
 ·rw[h.files];exact hj.ok.syn
 ·unfold dirM;rw[h.acts,h.kept,h.now];exact hj.now
 ·rw[h.now];exact hj.inj
 ·unfold dirM;rw[h.acts,h.kept];exact hj.nm
theorem EqD.safe(h:EqD D D')(hs:Safe P D):Safe P D' :=fun c hc=>hs c ((h.cc c).1 hc)
theorem EqD.used(h:EqD D D'):usedD D' =usedD D:=by unfold usedD Ar;rw[h.now,h.files]
theorem Qs(D:Ak):EqD D (Cd D).1:=by
 obtain⟨h1,h2,h3,h4,h5,h6⟩:=EI D;exact⟨h1,h2,h3,h4,h5⟩
theorem TV(hd:D.down=false):((Cd D).2=true/\(Cd D).1.down=true/\D.arm≠0)\/((Cd D).2=false/\(Cd D).1.down=false/\(D.arm=0->(Cd D).1.arm=0)):=by
 unfold Cd;by_cases h:D.arm=0
 ·rw[if_pos h];exact .inr ⟨rfl,hd,fun _=>h⟩
 ·rw[if_neg h];by_cases h1:D.arm-1=0
  ·rw[decide_eq_true h1];exact .inl ⟨rfl,rfl,h⟩
  ·rw[decide_eq_false h1];exact .inr ⟨rfl,rfl,fun q=>absurd q h⟩
theorem Xv(h:JOk D)(m:Nat):DirOk D.files.length (dirM D m):=h.ok.kept.fold fun a ha=>h.ok.acts a ((List.take_sublist _ _).subset ha)
theorem LK:jrN≠nwN:=by decide
theorem GB(h:lookD D.now jrN=none):jc D= []:=by unfold jc;rw[h]
theorem EJ{k:Nat}(h:lookD D.now jrN=some k):jc D=(Ar D k).1:=by unfold jc;rw[h]
theorem Abf(h:JOk D):CC D (jc D):=by
 refine⟨D.acts.length,Adw _,?_⟩;rw[h.now];cases hl:lookD D.now jrN with
 | none=>exact GB hl
 | some k=>exact⟨_,h.ok.sync_le k,Adw _,by rw[EJ hl,Ae4]⟩
theorem FU(a:B5){m:Nat}(hm:m<=D.acts.length):dirM (turnedD D a) m=dirM D m:=by
 unfold dirM turnedD;simp only;rw[Agk hm]
theorem Ff(h:JOk D)(a:B5):dirM (turnedD D a) (D.acts.length+1)=turnD D.now a:=by
 have hn:=h.now;unfold dirM at hn ⊢;unfold turnedD;simp only;rw[Ae4]at hn;rw[Ad7 (by simp),List.foldl_append,hn];rfl
theorem TW(h:JOk D){a:B5}(ha:lookD (turnD D.now a) jrN=lookD D.now jrN){c:Bs}(hc:CC (turnedD D a) c):CC D c:=by
 obtain⟨m,hm,hk⟩:=hc;have hm:m<=D.acts.length+1:=by unfold turnedD at hm;simpa using hm
 by_cases hl:m<=D.acts.length
 ·rw[FU a hl]at hk;exact⟨m,hl,hk⟩
 ·obtain rfl:m=D.acts.length+1:=by omega
  rw[Ff h a,ha]at hk;exact⟨D.acts.length,Adw _,by rw[h.now];exact hk⟩
theorem M2(h:JOk D){a:B5}(hn:∀e∈turnD D.now a,e.1=jrN\/e.1=nwN):∀m,∀e∈dirM (turnedD D a) m,e.1=jrN\/e.1=nwN:=fun m=>by
 by_cases hl:m<=D.acts.length
 ·rw[FU a hl];exact h.nm m
 ·have e:dirM (turnedD D a) m=dirM (turnedD D a) (D.acts.length+1):=by
   unfold dirM;rw[Ad7 (by unfold turnedD;simp;omega),Ad7 (by unfold turnedD;simp)]
  rw[e,Ff h a];exact hn
theorem M3(h:JOk D){a:B5}(ha:ActOk D.files.length a)(hi:InjD (turnD D.now a))(hn:∀e∈turnD D.now a,e.1=jrN\/e.1=nwN):JOk (turnedD D a):=by
 refine⟨h.ok.turned ha,?_,hi,M2 h hn⟩;have e:(turnedD D a).acts.length=D.acts.length+1:=by unfold turnedD;simp
 rw[e,Ff h a];rfl
theorem M4(a:B5):jc (turnedD D a)=match lookD (turnD D.now a) jrN with
 | some k=>(Ar D k).1
 | none=> []:=rfl
theorem T1(h:JOk D){k:Nat}(hk:lookD D.now nwN=some k):JOk (turnedD D ⟨nwN,[],k⟩)/\jc (turnedD D ⟨nwN,[],k⟩)=jc D/\lookD (turnedD D ⟨nwN,[],k⟩).now nwN=none/\∀c,CC (turnedD D ⟨nwN,[],k⟩) c->CC D c:=by
 have e:lookD (turnD D.now ⟨nwN,[],k⟩) jrN=lookD D.now jrN:=(look_turn _ _ _).trans ((if_pos rfl).trans (if_neg LK));refine⟨M3 h ⟨(h.ok.now.look hk).1,fun q=>absurd rfl q,show nwN.length<=80 by decide⟩ (h.inj.turn _ fun q=>absurd rfl q) fun x hx=> ?_,?_,?_,fun c hc=>TW h e hc⟩
 ·rcases GR hx with q | ⟨q,-⟩
  ·exact h.nmn x q
  ·exact absurd rfl q
 ·rw[M4,e];rfl
 ·exact(look_turn D.now ⟨nwN,[],k⟩ nwN).trans ((if_pos rfl).trans (if_pos rfl))
theorem T4(h:JOk D){k:Nat}(hk:lookD D.now nwN=some k)(hs:(Ar D k).2=(Ar D k).1.length):JOk (turnedD D ⟨nwN,jrN,k⟩)/\jc (turnedD D ⟨nwN,jrN,k⟩)=(Ar D k).1/\lookD (turnedD D ⟨nwN,jrN,k⟩).now nwN=none/\(∃j,lookD (turnedD D ⟨nwN,jrN,k⟩).now jrN=some j)/\∀c,CC (turnedD D ⟨nwN,jrN,k⟩) c->CC D c\/c=(Ar D k).1:=by
 have e:lookD (turnD D.now ⟨nwN,jrN,k⟩) jrN=some k:=(look_turn _ _ _).trans ((if_neg (show ¬jrN.length=0 by decide)).trans (if_pos rfl));refine⟨M3 h ⟨(h.ok.now.look hk).1,fun _=>show Bq jrN=true by decide,show nwN.length<=80 by decide⟩ (h.inj.turn _ fun _ x hx q=> ?_) fun x hx=> ?_,?_,?_,⟨k,e⟩,fun c hc=> ?_⟩
 ·have q:x.2=k:=q;exact congrArg Prod.fst (h.inj.eq hx (E5 hk) q)
 ·rcases GR hx with q | ⟨-,q⟩
  ·exact h.nmn x q
  ·rw[q];exact .inl rfl
 ·rw[M4,e]
 ·exact(look_turn D.now ⟨nwN,jrN,k⟩ nwN).trans ((if_neg (show ¬jrN.length=0 by decide)).trans ((if_neg (show ¬nwN=jrN from fun q=>LK q.symm)).trans (if_pos rfl)))
 ·obtain⟨m,hm,hc⟩:=hc;have hm:m<=D.acts.length+1:=by unfold turnedD at hm;simpa using hm
  by_cases hl:m<=D.acts.length
  ·rw[FU _ hl]at hc;exact .inl ⟨m,hl,hc⟩
  ·obtain rfl:m=D.acts.length+1:=by omega
   rw[Ff h _,e]at hc;obtain⟨n,h1,h2,h3⟩:=hc;have h1:(Ar D k).2<=n:=h1;have h2:n<=(Ar D k).1.length:=h2;have h3:c=(Ar D k).1.take n:=h3;refine .inr ?_;rw[h3,Ad7 (by omega)]
theorem LL{b:Bs × Nat}{k:Nat}(hk:k<D.files.length):(D.files++ [b]).getD k ([],0)=Ar D k:=by
 unfold Ar;rw[Adz,AeP hk,<-Adz]
theorem Ho{b:Bs × Nat}:(D.files++ [b]).getD D.files.length ([],0)=b:=by
 rw[Adz,AeC (Adw _),Nat.sub_self];rfl
theorem Mf(h:JOk D){s:Bs}(hs:s=jrN\/s=nwN)(b:Bs)(hn:lookD D.now s=none):Bj D s b = { turnedD D ⟨[],s,D.files.length⟩with files:=D.files++ [(b,0)] } /\ JOk (Bj D s b)/\∀t,lookD (Bj D s b).now t=if t=s then some D.files.length else lookD D.now t:=by
 have hm:Bq s=true:=by rcases hs with rfl | rfl <;> decide
 have hl:¬s.length=0:=by have:=(B6 hm).1;omega
 have e:Bj D s b = { turnedD D ⟨[],s,D.files.length⟩with files:=D.files++ [(b,0)] } :=by unfold Bj;rw[hn]
 have hln:∀t,lookD (turnD D.now ⟨[],s,D.files.length⟩) t=if t=s then some D.files.length else lookD D.now t:=fun t=>by
  rw[look_turn,if_neg hl];split
  ·rfl
  ·split
   ·rename_i q;have q:t= []:=q;rw[q,h.ok.now.noEmpty]
   ·rfl
 refine⟨e,⟨h.ok.add b hm,?_,h.inj.add h.ok s b,?_⟩,fun t=>by rw[e];exact hln t⟩
 ·rw[e];show dirM (turnedD D ⟨[],s,D.files.length⟩) (turnedD D ⟨[],s,D.files.length⟩).acts.length=_;have a:(turnedD D ⟨[],s,D.files.length⟩).acts.length=D.acts.length+1:=by unfold turnedD;simp
  rw[a,Ff h];rfl
 ·rw[e];refine M2 h fun x hx=> ?_;rcases GR hx with q | ⟨-,q⟩
  ·exact h.nmn x q
  ·rw[q];exact hs
theorem Qt(h:JOk D){s:Bs}(hs:s=jrN\/s=nwN)(b:Bs)(hn:lookD D.now s=none){c:Bs}(hc:CC (Bj D s b) c):CC D c\/(s=jrN/\∃n,c=b.take n):=by
 obtain⟨e,-,hln⟩:=Mf h hs b hn;obtain⟨m,hm,hc⟩:=hc;rw[e]at hm hc hln;have hm:m<=D.acts.length+1:=by unfold turnedD at hm;simpa using hm
 have hcut:∀ {o:Option Nat},(∀k,o=some k->k<D.files.length)->IA { turnedD D ⟨[],s,D.files.length⟩with files:=D.files++ [(b,0)] } o c->IA D o c:=fun {o} ho q=>by
  cases o with
  | none=>exact q
  | some k=>
   obtain⟨n,q1,q2,q3⟩:=q;have g:Ar { turnedD D ⟨[],s,D.files.length⟩with files:=D.files++ [(b,0)] } k=Ar D k:=LL (ho k rfl);rw[g]at q1 q2 q3;exact⟨n,q1,q2,q3⟩
 by_cases hl:m<=D.acts.length
 ·have a:dirM { turnedD D ⟨[],s,D.files.length⟩with files:=D.files++ [(b,0)] } m=dirM D m:=FU _ hl;rw[a]at hc;exact .inl ⟨m,hl,hcut (fun k hk=>((Xv h m).look hk).1) hc⟩
 ·obtain rfl:m=D.acts.length+1:=by omega
  have a:dirM { turnedD D ⟨[],s,D.files.length⟩with files:=D.files++ [(b,0)] } (D.acts.length+1)=turnD D.now ⟨[],s,D.files.length⟩:=Ff h _;rw[a]at hc;have f:=hln jrN;have f:lookD (turnD D.now ⟨[],s,D.files.length⟩) jrN=if jrN=s then some D.files.length else lookD D.now jrN:=f;rw[f]at hc;by_cases q:jrN=s
  ·rw[if_pos q]at hc;obtain⟨n,-,-,q3⟩:=hc;have i:Ar { turnedD D ⟨[],s,D.files.length⟩with files:=D.files++ [(b,0)] } D.files.length=(b,0):=Ho;rw[i]at q3;exact .inr ⟨q.symm,n,q3⟩
  ·rw[if_neg q]at hc;exact .inl ⟨D.acts.length,Adw _,by rw[h.now];exact hcut (fun k hk=>(h.ok.now.look hk).1) hc⟩
theorem T2(h:JOk D)(b:Bs)(hn:lookD D.now nwN=none):JOk (Bj D nwN b)/\jc (Bj D nwN b)=jc D/\lookD (Bj D nwN b).now nwN=some D.files.length/\Ar (Bj D nwN b) D.files.length=(b,0)/\(∀c,CC (Bj D nwN b) c->CC D c):=by
 obtain⟨e,h1,h2⟩:=Mf h (.inr rfl) b hn;refine⟨h1,?_,by rw[h2,if_pos rfl],by rw[e];exact Ho,fun c hc=>(Qt h (.inr rfl) b hn hc).resolve_right fun q=>LK q.1.symm⟩;unfold jc;rw[h2,if_neg LK];cases hl:lookD D.now jrN with
 | none=>rfl
 | some k=>
  simp only;rw[e];exact congrArg Prod.fst (LL (h.ok.now.look hl).1)
def FC(D:Ak)(k:Nat):Ak:= { D with files:=D.files.set k ((Ar D k).1,(Ar D k).1.length),kept:=D.now,acts:= [] }
theorem GW(D:Ak)(k j:Nat):(Ar (FC D k) j).1=(Ar D j).1/\((Ar (FC D k) j).2=(Ar D j).2\/j=k)/\(k<D.files.length->(Ar (FC D k) k).2=(Ar D k).1.length):=by
 by_cases hk:k<D.files.length
 ·by_cases e:k=j
  ·subst e;have a:Ar (FC D k) k=((Ar D k).1,(Ar D k).1.length):=Hn hk;rw[a];exact⟨rfl, .inr rfl,fun _=>rfl⟩
  ·have a:Ar (FC D k) j=Ar D j:=Kq e;have b:Ar (FC D k) k=((Ar D k).1,(Ar D k).1.length):=Hn hk;rw[a,b];exact⟨rfl, .inl rfl,fun _=>rfl⟩
 ·have a:(FC D k).files=D.files:=by unfold FC;exact List.set_eq_of_length_le (by omega)
  unfold Ar;rw[a];exact⟨rfl, .inl rfl,fun q=>absurd q hk⟩
theorem T3(h:JOk D){k:Nat}(hk:k<D.files.length):JOk (FC D k)/\jc (FC D k)=jc D/\(Ar (FC D k) k).1=(Ar D k).1/\(Ar (FC D k) k).2=(Ar D k).1.length/\(∀c,CC (FC D k) c->CC D c)/\(lookD D.now jrN=some k->∀c,CC (FC D k) c->c=jc D):=by
 refine⟨⟨h.ok.synced k,rfl,h.inj,fun m e he=>h.nmn e (by cases m <;> exact he)⟩,?_,(GW D k k).1,(GW D k k).2.2 hk,fun c hc=> ?_,fun hj c hc=> ?_⟩
 ·unfold jc;show(match lookD D.now jrN with | some j=>(Ar (FC D k) j).1 | none=> [])=_;cases lookD D.now jrN with
  | none=>rfl
  | some j=>exact(GW D k j).1
 ·obtain⟨m,hm,hc⟩:=hc;have hm:m<=0:=hm;obtain rfl:m=0:=by omega
  have hc:IA (FC D k) (lookD D.now jrN) c:=hc;refine⟨D.acts.length,Adw _,?_⟩;rw[h.now];cases hl:lookD D.now jrN with
  | none=>rw[hl]at hc;exact hc
  | some j=>
   rw[hl]at hc;obtain⟨n,q1,q2,q3⟩:=hc;obtain⟨f1,f2,f3⟩:=GW D k j;rw[f1]at q2 q3;refine⟨n,?_,q2,q3⟩;rcases f2 with f2 | rfl
   ·rw[f2]at q1;exact q1
   ·rw[f3 hk]at q1;exact Adu (h.ok.sync_le j) q1
 ·obtain⟨m,hm,hc⟩:=hc;have hm:m<=0:=hm;obtain rfl:m=0:=by omega
  have hc:IA (FC D k) (lookD D.now jrN) c:=hc;rw[hj]at hc;obtain⟨n,q1,q2,q3⟩:=hc;obtain⟨f1,f2,f3⟩:=GW D k k;rw[f1]at q2 q3;rw[f3 hk]at q1;rw[EJ hj,q3,Ad7 (by omega)]
theorem T5(h:JOk D)(b:Bs):JOk (Bj D jrN b)/\jc (Bj D jrN b)=jc D++b/\lookD (Bj D jrN b).now nwN=lookD D.now nwN/\(∃k,lookD (Bj D jrN b).now jrN=some k)/\∀c,CC (Bj D jrN b) c->CC D c\/∃n,c=jc D++b.take n:=by
 cases hl:lookD D.now jrN with
 | none=>
  obtain⟨e,h1,h2⟩:=Mf h (.inl rfl) b hl;refine⟨h1,?_,by rw[h2,if_neg (fun q=>LK q.symm)],⟨_,by rw[h2,if_pos rfl]⟩,fun c hc=>(Qt h (.inl rfl) b hl hc).imp id fun⟨_,n,q⟩=>⟨n,by rw[GB hl];exact q⟩⟩;rw[GB hl,EJ (by rw[h2,if_pos rfl]),e];exact congrArg Prod.fst Ho
 | some k=>
  have hk:=(h.ok.now.look hl).1;have e:Bj D jrN b = { D with files:=D.files.set k ((Ar D k).1++b,(Ar D k).2) } :=by unfold Bj;rw[hl]
  have hf:∀j,Ar (Bj D jrN b) j=if j=k then((Ar D k).1++b,(Ar D k).2)else Ar D j:=fun j=>by
   rw[e];by_cases q:j=k
   ·subst q;rw[if_pos rfl];exact Hn hk
   ·rw[if_neg q];exact Kq (fun r=>q r.symm)
  have a:(Bj D jrN b).now=D.now:=by rw[e]
  refine⟨⟨h.ok.add b (by decide),?_,by rw[a];exact h.inj,by rw[e];exact h.nm⟩,?_,by rw[a],⟨k,by rw[a];exact hl⟩,fun c hc=> ?_⟩
  ·rw[e];exact h.now
  ·rw[EJ (by rw[a];exact hl),hf,if_pos rfl,EJ hl]
  ·obtain⟨m,hm,hc⟩:=hc;have hm:m<=D.acts.length:=by rw[e]at hm;exact hm
   have f:dirM (Bj D jrN b) m=dirM D m:=by rw[e];rfl
   rw[f]at hc;cases ho:lookD (dirM D m) jrN with
   | none=>rw[ho]at hc;exact .inl ⟨m,hm,by rw[ho];exact hc⟩
   | some j=>
    rw[ho]at hc;obtain⟨n,q1,q2,q3⟩:=hc;rw[hf]at q1 q2 q3;by_cases q:j=k
    ·subst q;rw[if_pos rfl]at q1 q2 q3;by_cases hn:n<=(Ar D j).1.length
     ·refine .inl ⟨m,hm,?_⟩;rw[ho];exact⟨n,q1,hn,by rw[q3];exact Agk hn⟩
     ·refine .inr ⟨n-(Ar D j).1.length,?_⟩;rw[q3,EJ hl];show((Ar D j).1++b).take n=_;rw[List.take_append,Ad7 (by omega)]
    ·rw[if_neg q]at q1 q2 q3;exact .inl ⟨m,hm,by rw[ho];exact⟨n,q1,q2,q3⟩⟩
theorem M5{l:Bh}(hs:DH l){s:Bs}:(∀ {k},lookD l s=some k->∃i,∃hi:i<l.length,l[i]=(s,k)/\lookD (Dg l) s=some i)/\(lookD l s=none->lookD (Dg l) s=none):=by
 refine⟨fun {k} h=> ?_,fun h=> ?_⟩
 ·obtain⟨i,hi,he⟩:=List.mem_iff_getElem.1 (E5 h);refine⟨i,hi,he,HU (MW hs) (e:=(s,i)) ?_⟩;unfold Dg;rw[List.mem_mapIdx];exact⟨i,hi,by rw[he]⟩
 ·rw[Gb]at h ⊢;intro e he q;have h1:e.1∈(Dg l).map Prod.fst:=AfF he;rw[GT]at h1;obtain⟨x,hx,hxe⟩:=Aeq.1 h1;exact h x hx (hxe.trans q)
theorem VI(h:JOk D)(l:List Int):JOk (A8 D l)/\CC D (jc (A8 D l))/\∀c,CC (A8 D l) c->c=jc (A8 D l):=by
 have hL:AM D l=dirM D (BK l 0 (D.acts.length+1)):=rfl;have hm:BK l 0 (D.acts.length+1)<=D.acts.length:=by have:=Iw l 0 (n:=D.acts.length+1) (by omega);omega
 have hok:=h.ok.crash l;have hj:JOk (A8 D l):=⟨hok,rfl,InjD.num _,fun m e he=>by
  have he:e∈Dg (AM D l):=by cases m <;> exact he
  have h1:e.1∈(Dg (AM D l)).map Prod.fst:=AfF he;rw[GT]at h1;obtain⟨x,hx,hxe⟩:=Aeq.1 h1;rw[<-hxe];exact h.nm _ x hx⟩
 have hs:DH (AM D l):=(h.ok.left l).sort;have hcut:∀i k,∀hi:i<(AM D l).length,(AM D l)[i]=(jrN,k)->Ar (A8 D l) i=Fv D l i k:=fun i k hi he=>by
  show((AM D l).mapIdx fun i e=>Fv D l i e.2).getD i ([],0)=_;rw[Adz,List.getElem?_mapIdx,AdE hi,he];rfl
 cases hl:lookD (AM D l) jrN with
 | none=>
  have hn:lookD (A8 D l).now jrN=none:=(M5 hs).2 hl;refine⟨hj,⟨_,hm,?_⟩,fun c hc=> ?_⟩
  ·rw[<-hL,hl];exact GB hn
  ·obtain⟨m,hm0,hc⟩:=hc;have hm0:m<=0:=hm0;obtain rfl:m=0:=by omega
   have hc:IA (A8 D l) (lookD (A8 D l).now jrN) c:=hc;rw[hn]at hc;rw[GB hn];exact hc
 | some k=>
  obtain⟨i,hi,he,hn⟩:=(M5 hs).1 hl;have hn:lookD (A8 D l).now jrN=some i:=hn;have hf:=hcut i k hi he;have hcl:=GS h.ok l i k;refine⟨hj,⟨_,hm,?_⟩,fun c hc=> ?_⟩
  ·rw[<-hL,hl];exact⟨(Fv D l i k).2,Afn _ _,hcl.2,by rw[EJ hn,hf];rfl⟩
  ·obtain⟨m,hm0,hc⟩:=hc;have hm0:m<=0:=hm0;obtain rfl:m=0:=by omega
   have hc:IA (A8 D l) (lookD (A8 D l).now jrN) c:=hc;rw[hn]at hc;obtain⟨n,q1,q2,q3⟩:=hc;rw[hf]at q1 q2 q3;rw[EJ hn,hf,q3,Ad7 (by omega)]
end
structure Up (D D' : Ak) : Prop where
 down:D'.down=false
 ok:JOk D'
 arm:D.arm=0->D'.arm=0
 quota:D'.quota=D.quota
theorem Up.trans{D D1 D2:Ak}(h:Up D D1)(k:Up D1 D2):Up D D2:=⟨k.down,k.ok,fun q=>k.arm (h.arm q),k.quota.trans h.quota⟩
def Res(D:Ak)(P:Bs->Prop)(r:Ak × Nat)(Q8 Q0:Ak->Prop):Prop:=
 (r.2=9/\r.1.down=true/\D.arm≠0/\JOk r.1/\Safe P r.1)\/(r.2=8/\Q8 r.1)\/(r.2=0/\Up D r.1/\Safe P r.1/\Q0 r.1)
section
variable {D D1 : Ak} {P : Bs -> Prop} {Q8 Q0 R8 R0 : Ak -> Prop}
theorem Res.cons{a:JA}{l:List JA}(h:Res D P (BL D a) Q8 Q0)(h8:∀E,Q8 E->R8 E)(h0:∀D1,Up D D1->Safe P D1->Q0 D1->Res D1 P (AP D1 l) R8 R0):Res D P (AP D (a :: l)) R8 R0:=by
 rw[Ez];rcases h with ⟨h1,h2⟩ | ⟨h1,h2⟩ | ⟨h1,h2,h3,h4⟩
 ·rw[if_pos (by omega)];exact .inl ⟨h1,h2⟩
 ·rw[if_pos (by omega)];exact .inr (.inl ⟨h1,h8 _ h2⟩)
 ·rw[if_neg (fun q=>q h1)];rcases h0 _ h2 h3 h4 with ⟨k1,k2,k3,k4⟩ | k | ⟨k1,k2,k3⟩
  ·exact .inl ⟨k1,k2,fun q=>k3 (h2.arm q),k4⟩
  ·exact .inr (.inl k)
  ·exact .inr (.inr ⟨k1,h2.trans k2,k3⟩)
theorem Res.nil(h:Up D D)(hs:Safe P D)(h0:R0 D):Res D P (AP D []) R8 R0:= .inr (.inr ⟨rfl,h,hs,h0⟩)
theorem Res.mono{r:Ak × Nat}(h:Res D P r Q8 Q0)(h8:∀E,Q8 E->R8 E)(h0:∀E,Up D E->Safe P E->Q0 E->R0 E):Res D P r R8 R0:=by
 rcases h with h | ⟨h1,h2⟩ | ⟨h1,h2,h3,h4⟩
 ·exact .inl h
 ·exact .inr (.inl ⟨h1,h8 _ h2⟩)
 ·exact .inr (.inr ⟨h1,h2,h3,h0 _ h2 h3 h4⟩)
theorem Res.one{a:JA}(h:Res D P (BL D a) Q8 Q0):Res D P (AP D [a]) Q8 Q0:=h.cons (fun _ q=>q) fun D1 h1 h2 h3=>Res.nil ⟨h1.down,h1.ok,id,rfl⟩ h2 h3
abbrev Adn:=@Res.one
theorem Aa2{f:Ak->Ak}(hd:D.down=false)(hj:JOk D)(hs:Safe P D)(hf:∀E,EqD D E->E.down=false->(D.arm=0->E.arm=0)->E.refused=D.refused->Up D (f E)/\Safe P (f E)/\Q0 (f E)):Res D P (DA D f) Q8 Q0:=by
 have he:=Qs D;unfold DA;rcases TV hd with ⟨h1,h2,h3⟩ | ⟨h1,h2,h3⟩
 ·rw[if_pos h1];exact .inl ⟨rfl,h2,h3,he.ok hj,he.safe hs⟩
 ·rw[if_neg (by rw[h1];decide)];exact .inr (.inr ⟨rfl,hf _ he h2 h3 (EI D).2.2.2.2.2⟩)
theorem JZ{s t:Bs}{k:Nat}(hd:D.down=false)(hs:Bq s=true)(ht:Bq t=true)(hk:lookD D.now s=some k):Fu D s t = .ok k:=by
 unfold Fu;rw[if_neg (by rw[Jx hd hs ht];exact fun q=>q rfl),hk]
theorem M6{s t:Bs}(hd:D.down=false)(hs:Bq s=true)(ht:Bq t=true)(hk:lookD D.now s=none):Fu D s t = .error 4:=by
 unfold Fu;rw[if_neg (by rw[Jx hd hs ht];exact fun q=>q rfl),hk]
theorem Up.refl(hd:D.down=false)(hj:JOk D):Up D D:=⟨hd,hj,id,rfl⟩
theorem IB(hd:D.down=false)(hn:lookD D.now nwN=none):BL D .clear=(D,0):=by
 have h:Bt D nwN=(D,4):=by unfold Bt;rw[M6 hd (by decide) (by decide) hn]
 show(if(Bt D nwN).2=4 then((Bt D nwN).1,0)else Bt D nwN)=_;rw[h];rfl
theorem A1(hd:D.down=false)(hj:JOk D)(hs:Safe P D):Res D P (BL D .clear) (fun _=>False) fun E=>jc E=jc D/\lookD E.now nwN=none/\E.refused=D.refused:=by
 cases hn:lookD D.now nwN with
 | none=>
  rw[IB hd hn];exact .inr (.inr ⟨rfl,Up.refl hd hj,hs,rfl,hn,rfl⟩)
 | some k=>
  have h:Bt D nwN=DA D fun d=>turnedD d ⟨nwN,[],k⟩:=by unfold Bt;rw[JZ hd (by decide) (by decide) hn]
  have hr:Res D P (Bt D nwN) (fun _=>False) fun E=>jc E=jc D/\lookD E.now nwN=none/\E.refused=D.refused:=by
   rw[h];refine Aa2 hd hj hs fun E he hE ha hr=> ?_;obtain⟨t1,t2,t3,t4⟩:=T1 (he.ok hj) (k:=k) (by rw[he.now];exact hn);exact⟨⟨hE,t1,ha,he.quota⟩,fun c hc=>hs c ((he.cc c).1 (t4 c hc)),t2.trans he.jc,t3,hr⟩
  have hne:(Bt D nwN).2≠4:=by
   rcases hr with ⟨q,_⟩ | ⟨q,_⟩ | ⟨q,_⟩ <;> omega
  have e:BL D .clear=Bt D nwN:=if_neg hne;rw[e];exact hr
theorem LM{s b:Bs}(hd:D.down=false)(hj:JOk D)(hs:Safe P D)(hm:Bq s=true)(hq:∀E,EqD D E->E.down=false->(D.arm=0->E.arm=0)->E.refused=D.refused->Up D (Bj E s b)/\Safe P (Bj E s b)/\Q0 (Bj E s b)):
  Res D P (BU D s b) (fun E=>E = { D with refused:=D.refused+1 } /\ D.quota<usedD D+b.length) Q0:=by
 unfold BU;rw[if_neg (by rw[Jx hd hm hm];exact fun q=>q rfl)];split
 ·rename_i h;exact .inr (.inl ⟨rfl,rfl,h⟩)
 ·exact Aa2 (f:=fun E=>Bj E s b) hd hj hs hq
theorem A2{b:Bs}(hd:D.down=false)(hj:JOk D)(hs:Safe P D)(hn:lookD D.now nwN=none):Res D P (BL D (.app nwN b)) (fun E=>E = { D with refused:=D.refused+1 } /\ D.quota<usedD D+b.length) fun E=>jc E=jc D/\(∃k,lookD E.now nwN=some k/\k<E.files.length/\Ar E k=(b,0))/\E.refused=D.refused:=
 LM hd hj hs (by decide) fun E he hE ha hr=>by
  obtain⟨t1,t2,t3,t4,t5⟩:=T2 (he.ok hj) b (by rw[he.now];exact hn);have ha2:=Qr E nwN b;refine⟨⟨ha2.2.trans hE,t1,fun q=>ha2.1.trans (ha q),?_⟩,fun c hc=>hs c ((he.cc c).1 (t5 c hc)),t2.trans he.jc,⟨_,t3,(t1.ok.now.look t3).1,t4⟩,?_⟩
  ·rw[<-he.quota];unfold Bj;split <;> rfl
  ·rw[<-hr];unfold Bj;split <;> rfl
theorem A3{s:Bs}{k:Nat}(hm:Bq s=true)(hd:D.down=false)(hj:JOk D)(hs:Safe P D)(hk:lookD D.now s=some k)(Q:Bs->Prop)(hQ:s=jrN->Q (jc D)):Res D P (BL D (.sync s)) (fun _=>False) fun E=>jc E=jc D/\E.now=D.now/\(Ar E k).1=(Ar D k).1/\(Ar E k).2=(Ar D k).1.length/\E.refused=D.refused/\(s=jrN->Safe Q E):=by
 have h:Ce D s=DA D fun d=>FC d k:=by unfold Ce;rw[JZ hd hm hm hk];rfl
 show Res D P (Ce D s) _ _;rw[h];refine Aa2 hd hj hs fun E he hE ha hr=> ?_;have a:lookD E.now s=some k:=by rw[he.now];exact hk
 obtain⟨t1,t2,t3,t4,t5,t6⟩:=T3 (he.ok hj) ((he.ok hj).ok.now.look a).1;have hf:Ar E k=Ar D k:=by unfold Ar;rw[he.files]
 rw[hf]at t3 t4;refine⟨⟨hE,t1,ha,he.quota⟩,fun c hc=>hs c ((he.cc c).1 (t5 c hc)),t2.trans he.jc,he.now,t3,t4,hr,fun e c hc=> ?_⟩;subst e;rw[t6 a c hc,he.jc];exact hQ rfl
theorem A4{b:Bs}{k:Nat}(hd:D.down=false)(hj:JOk D)(hs:Safe P D)(hk:lookD D.now nwN=some k)(hf:Ar D k=(b,b.length))(hb:P b):Res D P (BL D .move) (fun _=>False) fun E=>jc E=b/\lookD E.now nwN=none/\(∃j,lookD E.now jrN=some j)/\E.refused=D.refused:=by
 have h:Df D nwN jrN=DA D fun d=>turnedD d ⟨nwN,jrN,k⟩:=by unfold Df;rw[JZ hd (by decide) (by decide) hk]
 show Res D P (Df D nwN jrN) _ _;rw[h];refine Aa2 hd hj hs fun E he hE ha hr=> ?_;have hfE:Ar E k=(b,b.length):=by unfold Ar;rw[he.files];exact hf
 obtain⟨t1,t2,t3,t4,t5⟩:=T4 (he.ok hj) (k:=k) (by rw[he.now];exact hk) (by rw[hfE]);rw[hfE]at t2 t5;exact⟨⟨hE,t1,ha,he.quota⟩,fun c hc=>(t5 c hc).elim (fun q=>hs c ((he.cc c).1 q)) fun q=>q▸hb,t2,t3,t4,hr⟩
theorem A6{b:Bs}(hd:D.down=false)(hj:JOk D)(hs:Safe P D)(hp:∀n,P (jc D++b.take n)):Res D P (BL D (.app jrN b)) (fun E=>E = { D with refused:=D.refused+1 } /\ D.quota<usedD D+b.length) fun E=>jc E=jc D++b/\lookD E.now nwN=lookD D.now nwN/\(∃k,lookD E.now jrN=some k)/\E.refused=D.refused:=
 LM hd hj hs (by decide) fun E he hE ha hr=>by
  obtain⟨t1,t2,t3,t4,t5⟩:=T5 (he.ok hj) b;have ha2:=Qr E jrN b;rw[he.jc]at t2 t5;refine⟨⟨ha2.2.trans hE,t1,fun q=>ha2.1.trans (ha q),?_⟩,fun c hc=>(t5 c hc).elim (fun q=>hs c ((he.cc c).1 q)) fun⟨n,q⟩=>q▸hp n,t2,by rw[t3,he.now],t4,?_⟩
  ·rw[<-he.quota];unfold Bj;split <;> rfl
  ·rw[<-hr];unfold Bj;split <;> rfl
theorem VJ{r:Au}(hd:D.down=false)(hj:JOk D)(hs:Safe P D):Res D P (Bl D r) (fun E=>Up D E/\Safe P E/\jc E=jc D/\lookD E.now nwN=none/\E.refused=D.refused+1/\E.quota<usedD E+(wholeB r).length) fun E=>jc E=jc D/\(∃k,lookD E.now nwN=some k/\k<E.files.length/\Ar E k=(wholeB r,0))/\E.refused=D.refused:=
 (A1 hd hj hs).cons (fun _ q=>q.elim) fun D1 u1 s1 ⟨q1,q2,q3⟩=>(Adn (A2 (b:=wholeB r) u1.down u1.ok s1 q2)).mono (fun E ⟨e,h⟩=>by
  have he:EqD D1 E:=by subst e;exact⟨rfl,rfl,rfl,rfl,rfl⟩
  refine⟨⟨by rw[e];exact u1.down,he.ok u1.ok,fun q=>by rw[e];exact u1.arm q,he.quota.trans u1.quota⟩,he.safe s1,he.jc.trans q1,by rw[he.now];exact q2,by rw[e];show D1.refused+1=_;rw[q3],?_⟩;rw[he.used,he.quota];exact h) fun E u s ⟨k1,k2,k3⟩=>⟨k1.trans q1,k2,k3.trans q3⟩
theorem TY{b:Bs}{k:Nat}(hd:D.down=false)(hj:JOk D)(hs:Safe P D)(hk:lookD D.now nwN=some k)(hf:Ar D k=(b,0))(hb:P b)(Q:Bs->Prop)(hQ:Q b):Res D P (DI D) (fun _=>False) fun E=>jc E=b/\lookD E.now nwN=none/\E.refused=D.refused/\Safe Q E:=
 (A3 (by decide) hd hj hs hk (fun _=>True) fun _=>trivial).cons (fun _ q=>q.elim) fun D1 u1 s1 ⟨q1,q2,q3,q4,q5,_⟩=>by
  have hf1:Ar D1 k=(b,b.length):=by
   rw[hf]at q3 q4;exact Prod.ext q3 q4
  refine(A4 u1.down u1.ok s1 (by rw[q2];exact hk) hf1 hb).cons (fun _ q=>q.elim) fun D2 a s2 ⟨r1,r2,⟨j,r3⟩,r4⟩=> ?_;exact(Adn (A3 (by decide) a.down a.ok s2 r3 Q fun _=>by rw[r1];exact hQ)).mono (fun _ q=>q) fun E u s ⟨t1,t2,t3,t4,t5,t6⟩=>⟨t1.trans r1,by rw[t2];exact r2,(t5.trans r4).trans q5,t6 rfl⟩
theorem OU{b:Bs}(hd:D.down=false)(hj:JOk D)(hs:Safe P D)(hp:∀n,P (jc D++b.take n))(Q:Bs->Prop)(hQ:Q (jc D++b)):Res D P (Eg D b) (fun E=>E = { D with refused:=D.refused+1 } /\ D.quota<usedD D+b.length) fun E=>jc E=jc D++b/\lookD E.now nwN=lookD D.now nwN/\E.refused=D.refused/\Safe Q E:=
 (A6 hd hj hs hp).cons (fun _ q=>q) fun D1 u1 s1 ⟨q1,q2,⟨k,q3⟩,q4⟩=>(Adn (A3 (by decide) u1.down u1.ok s1 q3 Q fun _=>by rw[q1];exact hQ)).mono (fun _ q=>q.elim) fun E u s ⟨t1,t2,t3,t4,t5,t6⟩=>⟨t1.trans q1,by rw[t2];exact q2,t5.trans q4,t6 rfl⟩
end
structure YI (D : Ak) (J : Jn) (P : Bs -> Prop) (r : Ak × Jn × Nat) : Prop where
 out:(r.2.2=9/\r.1.down=true/\D.arm≠0/\JOk r.1/\Safe P r.1/\r.2.1=Gu J 9) \/
  (r.2.2=8/\Up D r.1/\Safe P r.1/\jc r.1=jc D/\lookD r.1.now nwN=none/\r.1.refused=D.refused+1/\r.2.1=J/\r.1.quota<usedD r.1+(wholeB J.refs).length) \/
  (r.2.2=0/\Up D r.1/\Safe P r.1/\jc r.1=wholeB J.refs/\lookD r.1.now nwN=none/\r.1.refused=D.refused/\r.2.1=⟨J.refs,(wholeB J.refs).length,false,J.lost⟩)
theorem LN{D:Ak}{J:Jn}{P:Bs->Prop}(hd:D.down=false)(hj:JOk D)(hs:Safe P D)(hb:P (wholeB J.refs)):YI D J P (AH D J):=by
 refine⟨?_⟩;unfold AH;rcases VJ (r:=J.refs) hd hj hs with ⟨h1,h2,h3,h4,h5⟩ | ⟨h1,h2,h3,h4,h5,h6,h7⟩ | ⟨h1,h2,h3,h4,⟨k,h5,h6,h7⟩,h8⟩
 ·rw[if_neg (by omega),if_pos (by omega)];exact .inl ⟨h1,h2,h3,h4,h5,by rw[h1]⟩
 ·rw[if_pos h1];have hc:AP (Bl D J.refs).1 [.clear]=((Bl D J.refs).1,0):=by rw[Ez,IB h2.down h5];rfl
  unfold LE;rw[hc];exact .inr (.inl ⟨rfl,h2,h3,h4,h5,h6,rfl,h7⟩)
 ·rw[if_neg (by omega),if_neg (by omega)];unfold OH;rcases TY h2.down h2.ok h3 h5 h7 hb (fun _=>True) trivial with ⟨k1,k2,k3,k4,k5⟩ | ⟨_,k⟩ | ⟨k1,k2,k3,k4,k5,k6,k7⟩
  ·rw[if_pos (by omega)];exact .inl ⟨k1,k2,fun q=>k3 (h2.arm q),k4,k5,by rw[k1]⟩
  ·exact k.elim
  ·rw[if_neg (by omega)];exact .inr (.inr ⟨rfl,h2.trans k2,k3,k4,k5,k6.trans h8,rfl⟩)
theorem Mg{D:Ak}(h:JOk D)(hn:lookD D.now nwN=none):usedD D=(jc D).length:=by
 have hall:∀e∈D.now,e.1=jrN:=fun e he=>(h.nmn e he).resolve_right fun q=>by
  have:=HU h.ok.now.sort he;rw[q,hn]at this;cases this
 have hs:=h.ok.now.sort;unfold usedD jc
 match hl:D.now,hs,hall with
 | [],_,_=>rfl
 | [e],_,ha=>
  have he:=ha e AeG;rw[Cz,if_pos he];simp
 | e :: f :: l,hs,ha=>
  have h1:=ha e AeG;have h2:=ha f (AeF _ AeG);have h3:=(List.pairwise_cons.1 hs).1 f AeG;rw[h1,h2,Ga]at h3;cases h3
section
variable {base : Nat} {w w' wb : Ads} {g : Nat} {H H' : Dk} {D D' : Ak}
structure DkW (wb w : Ads) (g : Nat) (H : Dk) (D : Ak) (w' : Ads) (H' : Dk) (D' : Ak) : Prop where
 g:DkG wb w' g H' D'
 chg:Chg (B7 H D.files.length) w w'
 foot:∀i,B7 H' D'.files.length i->B7 H D.files.length i\/w.heap.size<=i
theorem DkG.stepW(h:DkG wb w g H D)(k:DkT wb.heap.size w H D w' H' D'):DkW wb w g H D w' H' D' :=⟨h.step k,k.chg,k.foot⟩
theorem DkG.appendW(h:DkG wb w g H D)(s:Ai1)(vb:Adr)(b:Ai1)(hrb:RB w vb b)(hoff:b= []\/∀i,vb.ownBlock=some i->¬B7 H D.files.length i)(hbl:b.length<1099511627776)(hL:EV D):
  Calls Adt 44 #[PQ g 0,St s,vb] w fun e w' =>∃H',e = .returned (NI (BU D s b).2)/\DkW wb w g H D w' H' (BU D s b).1:=by
 rw[<-h.hg];exact(TM wb w h.ext H D h.st s vb b hrb hoff hbl hL).mono fun e w' ⟨H',he,hT⟩=>⟨H',he,by rw[h.hg];exact h.stepW hT⟩
theorem DkG.syncW(h:DkG wb w g H D)(s:Ai1)(hL:EV D):
  Calls Adt 46 #[PQ g 0,St s] w fun e w' =>∃H',e = .returned (NI (Ce D s).2)/\DkW wb w g H D w' H' (Ce D s).1:=by
 rw[<-h.hg];exact(Xn wb w h.ext H D h.st s hL).mono fun e w' ⟨H',he,hT⟩=>⟨H',he,by rw[h.hg];exact h.stepW hT⟩
theorem DkG.moveW(h:DkG wb w g H D)(s t:Ai1)(hL:EV D):
  Calls Adt 81 #[PQ g 0,St s,St t] w fun e w' =>∃H',e = .returned (NI (Df D s t).2)/\DkW wb w g H D w' H' (Df D s t).1:=by
 rw[<-h.hg];exact(Xo wb w h.ext H D h.st s t hL).mono fun e w' ⟨H',he,hT⟩=>⟨H',he,by rw[h.hg];exact h.stepW hT⟩
theorem DkG.dropW(h:DkG wb w g H D)(s:Ai1)(hL:EV D):
  Calls Adt 72 #[PQ g 0,St s] w fun e w' =>∃H',e = .returned (NI (Bt D s).2)/\DkW wb w g H D w' H' (Bt D s).1:=by
 rw[<-h.hg];exact(Xp wb w h.ext H D h.st s hL).mono fun e w' ⟨H',he,hT⟩=>⟨H',he,by rw[h.hg];exact h.stepW hT⟩
theorem DkG.armW(h:DkG wb w g H D)(n:Int):
  Calls Adt 19 #[PQ g 0, .int .i64 n] w fun e w' =>∃H',e = .returned (.tuple #[])/\DkW wb w g H D w' H' { D with arm:=n.toNat } :=by
 rw[<-h.hg];exact(YD wb w h.ext H D h.st n).mono fun e w' ⟨he,hT⟩=>⟨H,he,by rw[h.hg];exact h.stepW hT⟩
theorem DkG.crashW(h:DkG wb w g H D)(vf:Adr)(fs:List Int)(hrf:RG 1 IO w vf fs)(hL:EV D):
  Calls Adt 21 #[PQ g 0,vf] w fun e w' =>∃H',e = .returned (.tuple #[])/\DkW wb w g H D w' H' (A8 D fs):=by
 rw[<-h.hg];exact(VH wb w h.ext H D h.st vf fs hrf hL).mono fun e w' ⟨H',he,hT⟩=>⟨H',he,by rw[h.hg];exact h.stepW hT⟩
theorem ActAt.setT{F:Nat->Nat}{v:Adr}{a:B5}{g:Nat}{cs:Array Adr}{t:Ady}{fr:Nat × Nat}(h:ActAt w F v a)(hc:Chg (fun i=>i=g) w w')(hb:w.heap[g]? =some (.cells cs t fr))(h1:t≠112)(h2:t≠9):ActAt w' F v a:=by
 have k:∀ {b:Nat} {cs' :Array Adr} {t' :Ady} {fr' :Nat × Nat},w.heap[b]? =some (.cells cs' t' fr')->t' ≠t->w'.heap[b]? =some (.cells cs' t' fr'):=fun e hne=>(hc.blk _ (bl e) fun q=>by rw[q,hb]at e;cases e;exact hne rfl).trans e;rcases h with ⟨bf,bn,e,q1,q2,q3,q4⟩ | ⟨hm,bs,bf,bn,e,q1,q2,q3,q4⟩ | ⟨bn,e,q1,q2⟩
 ·exact .inl ⟨bf,bn,e,k q1 (Ne.symm h1),k q2 (Ne.symm h2),q3,q4⟩
 ·exact .inr (.inl ⟨hm,bs,bf,bn,e,k q1 (Ne.symm h2),k q2 (Ne.symm h1),k q3 (Ne.symm h2),q4⟩)
 ·exact .inr (.inr ⟨bn,e,k q1 (Ne.symm h2),q2⟩)
theorem DkS.setT(h:DkS base w H D){g:Nat}{cs:Array Adr}{t:Ady}{fr:Nat × Nat}(hg:w.grownBy w' (some g))(hb:w.heap[g]? =some (.cells cs t fr))(h1:t≠82)(h2:t≠120)(h3:t≠5)(h4:t≠113)(h5:t≠112)(h6:t≠9):DkS base w' H D:=by
 have hc:Chg (fun i=>i=g) w w' :=Aap hg fun i e=> .inl (Option.some.inj e).symm;have hB:∀i,B7 H D.files.length i->¬i=g:=fun i q e=>h.offT hb h1 h2 h3 h4 (e▸q);obtain⟨vs,hv⟩:=h.acts;exact⟨(hc.blk _ (bl h.blk) (hB _ (.inl rfl))).trans h.blk,h.now.chg hc (hB _ (.inr (.inl rfl))),h.kept.chg hc (hB _ (.inr (.inr (.inl rfl)))),h.ne,
  ⟨vs,Dl hc hv.row (fun i hi=>hB i (.inr (.inr (.inr (.inl hi))))),hv.len,fun i hi=>(hv.at_ i hi).setT hc hb h5 h6⟩,
  h.files.chg hc (fun k hk=>⟨hB _ (.inr (.inr (.inr (.inr ⟨k,hk, .inl rfl⟩)))),fun i hi=>hB i (.inr (.inr (.inr (.inr ⟨k,hk, .inr hi⟩))))⟩),h.ok,h.lo⟩
theorem DkG.setT(h:DkG wb w g H D){b:Nat}{cs:Array Adr}{t:Ady}{fr:Nat × Nat}(hg:w.grownBy w' (some b))(hb:w.heap[b]? =some (.cells cs t fr))(hw:wb.heap.size<=b)(h1:t≠82)(h2:t≠120)(h3:t≠5)(h4:t≠113)(h5:t≠112)(h6:t≠9):DkG wb w' g H D:=
 ⟨(show Chg (fun i=>i=b) w w' from Aap hg fun i e=> .inl (Option.some.inj e).symm).ext h.ext (fun i q=>by have q:i=b:=q;omega),h.st.setT hg hb h1 h2 h3 h4 h5 h6,h.hg⟩
end
section
variable {P : AdM} {K : Adr -> Ads -> Prop} {ρ : Aj} {w : Ads} {d : Option Tmp} {ty : Ady} {pos : String} {af : Array Edge} {gd : Option (Nat × Bool)}
theorem Acs{f:FuncId}(hp:Plain P f){c:AdC}{args:Array AdC}{at_:Array Ady}{bd caps:Array Adr}(hc:Ab ρ c = .func (.func f) bd caps)(vs:Array Adr)(hv:bd++args.map (Ab ρ)++caps=vs) 
  (h:Calls P f vs w fun e w' =>∃v,e = .returned v/\K v w'):Yk P K ((execOp (Ab ρ) ⟨d, .call ⟨.value c,args,at_⟩,ty,pos,af,gd⟩).run P w):=by
 subst hv;refine Yk.enter (f:=f) (args:=bd++args.map (Ab ρ)++caps) (w' :=w) ?_ h;unfold execOp;simp[resolve,hc,Deferred.ofValue,invoke,hp _ w]
theorem Acw{f:FuncId}{c:AdC}{v u:Adr}{bd caps:Array Adr}{R:Dk->Ads->Prop}{at_:Array Ady}(hp:Plain P f)(hc:Ab ρ c=v)(hve:v = .func (.func f) bd caps) 
  (h:Calls P f (bd++caps) w fun e w' =>∃H',e = .returned u/\R H' w') (hk:∀H' w',R H' w' ->K u w'):Yk P K ((execOp (Ab ρ) ⟨d, .call ⟨.value c,#[],at_⟩,ty,pos,af,gd⟩).run P w):=
 Acs hp (hc.trans hve) _ (by simp) (h.mono fun e w' ⟨H',q1,q2⟩=>⟨_,q1,hk H' w' q2⟩)
theorem AaX{f:Fn}{x:AdC}{v:Adr}(hx:Ab ρ x=v)(hk:K (.func f #[v] #[]) w):Yk P K ((execOp (Ab ρ) ⟨d, .makeFunc f #[x] #[],ty,pos,af,gd⟩).run P w):=by
 refine Ac1 (v:= .func f #[v] #[]) ?_ hk;unfold execOp;simp[hx,Instr.makeFunc]
theorem Acm{t e:Ady}(ht:P.underlying t=some (.slice e))(he:∀w' :Ads,(sizeOf e).run P w' = .ok 1 w'){x y:AdC}{b i n c:Nat}{kd:IntKind}(hx:Ab ρ x = .slice (some ⟨b,0,none⟩) n c)(hy:Ab ρ y = .int kd (i:Int))(hi:i<n)(hk:K (.pointer (some ⟨b,i,none⟩)) w):Yk P K ((execOp (Ab ρ) ⟨d, .indexAddr t x y,ty,pos,af,gd⟩).run P w):=
 AbK ht he hx hy hi (by rw[Nat.zero_add];exact hk)
theorem Abz{t e:Ady}{x0:AdC}{a:Adr}(h0:Ab ρ x0=a)(hr:∀w:Ads,(Ad0 t 1 #[(0,a)]).run P w = .ok (.slice (some ⟨w.heap.size,0,none⟩) 1 1) (w.alloc (.cells #[a] e))) 
  (hk:∀n w',w.heap.size=n->w'.heap[n]? =some (.cells ([a]).toArray e (0,0))->Ext w w' ->w'.heap.size=n+1->K (.slice (some ⟨n,0,none⟩) 1 1) w'):Yk P K ((execOp (Ab ρ) ⟨d, .buildSlice t 1 #[(0,x0)],ty,pos,af,gd⟩).run P w):=by
 have hr' :(execOp (Ab ρ) ⟨d, .buildSlice t 1 #[(0,x0)],ty,pos,af,gd⟩).run P w = .ok (.value (.slice (some ⟨w.heap.size,0,none⟩) 1 1)) (w.alloc (.cells #[a] e)):=by
  unfold execOp;simp only[AdH,AdK,AdO,h0,AdB,hr,AdA,AdF]
 rw[hr'];exact hk _ _ rfl (heap_alloc_new w _) ((Below.refl _ _).alloc (Adw _) _) (by simp)
theorem AbA{t e:Ady}{x0 x1:AdC}{a b:Adr}(h0:Ab ρ x0=a)(h1:Ab ρ x1=b)(hr:∀w:Ads,(Ad0 t 2 #[(0,a),(1,b)]).run P w = .ok (.slice (some ⟨w.heap.size,0,none⟩) 2 2) (w.alloc (.cells #[a,b] e))) 
  (hk:∀n w',w.heap.size=n->w'.heap[n]? =some (.cells ([a,b]).toArray e (0,0))->Ext w w' ->w'.heap.size=n+1->K (.slice (some ⟨n,0,none⟩) 2 2) w'):Yk P K ((execOp (Ab ρ) ⟨d, .buildSlice t 2 #[(0,x0),(1,x1)],ty,pos,af,gd⟩).run P w):=by
 have hr' :(execOp (Ab ρ) ⟨d, .buildSlice t 2 #[(0,x0),(1,x1)],ty,pos,af,gd⟩).run P w = .ok (.value (.slice (some ⟨w.heap.size,0,none⟩) 2 2)) (w.alloc (.cells #[a,b] e)):=by
  unfold execOp;simp only[AdH,AdK,AdO,h0,h1,AdB,hr,AdA,AdF]
 rw[hr'];exact hk _ _ rfl (heap_alloc_new w _) ((Below.refl _ _).alloc (Adw _) _) (by simp)
theorem Acn{t e:Ady}{x0 x1 x2:AdC}{a b c:Adr}(h0:Ab ρ x0=a)(h1:Ab ρ x1=b)(h2:Ab ρ x2=c)(hr:∀w:Ads,(Ad0 t 3 #[(0,a),(1,b),(2,c)]).run P w = .ok (.slice (some ⟨w.heap.size,0,none⟩) 3 3) (w.alloc (.cells #[a,b,c] e))) 
  (hk:∀n w',w.heap.size=n->w'.heap[n]? =some (.cells ([a,b,c]).toArray e (0,0))->Ext w w' ->w'.heap.size=n+1->K (.slice (some ⟨n,0,none⟩) 3 3) w'):Yk P K ((execOp (Ab ρ) ⟨d, .buildSlice t 3 #[(0,x0),(1,x1),(2,x2)],ty,pos,af,gd⟩).run P w):=by
 have hr' :(execOp (Ab ρ) ⟨d, .buildSlice t 3 #[(0,x0),(1,x1),(2,x2)],ty,pos,af,gd⟩).run P w = .ok (.value (.slice (some ⟨w.heap.size,0,none⟩) 3 3)) (w.alloc (.cells #[a,b,c] e)):=by
  unfold execOp;simp only[AdH,AdK,AdO,h0,h1,h2,AdB,hr,AdA,AdF]
 rw[hr'];exact hk _ _ rfl (heap_alloc_new w _) ((Below.refl _ _).alloc (Adw _) _) (by simp)
end
def BP(g:Nat)(z:Af)(n:Nat)(t l:Bool):List Adr:= [PQ g 0]++refsC z++ [NI n, .bool t, .bool l]
section
variable {g : Nat} {z : Af} {n : Nat} {t l : Bool}
theorem GX:(BP g z n t l).length=40:=by unfold BP;rw[Adx,Adx,An];rfl
theorem KO:(BP g z n t l)[0]? =some (PQ g 0):=rfl
theorem RI(k:Nat):(BP g z n t l)[37+k]? = [NI n, .bool t, .bool l][k]? :=by
 unfold BP;rw[AeC (by rw[Adx,An];simp),Adx,An]
 congr 1
 simp
theorem RJ:(BP g z n t l)[37]? =some (NI n):=RI 0
theorem RK:(BP g z n t l)[38]? =some (.bool t):=RI 1
theorem RL:(BP g z n t l)[39]? =some (.bool l):=RI 2
theorem OV(k:Nat)(v:Adr):(BP g z n t l).set (37+k) v= [PQ g 0]++refsC z++ [NI n, .bool t, .bool l].set k v:=by
 unfold BP;rw[List.set_append_right _ _ (by rw[Adx,An];simp),Adx,An]
 congr 2
 simp
theorem OW(m:Nat):(BP g z n t l).set 37 (NI m)=BP g z m t l:=OV 0 _
theorem TZ(b:Bool):(BP g z n t l).set 38 (.bool b)=BP g z n b l:=OV 1 _
theorem Ua(b:Bool):(BP g z n t l).set 39 (.bool b)=BP g z n t b:=OV 2 _
theorem Ab0{w:Ads}{gj:Nat}{ty:Ady}{fr:Nat × Nat}{v:Adr}(hb:w.heap[gj]? =some (.cells (BP g z n t l).toArray ty fr))(hv:v=PQ gj 1):PR (refsC z) v w:=⟨gj,1,hv,fun j u hu=>by
 refine Ac hb ?_;have hj:=(List.getElem?_eq_some_iff.1 hu).1;unfold BP;rw[AdW,AeC (by simp),AeP (by simp;omega)]
 simpa using hu⟩
end
section
variable {wb w w' w2 : Ads} {g gj : Nat} {H H' H2 : Dk} {D D' D2 : Ak}
theorem DkW.off(hW:DkW wb w g H D w' H' D'){v:Adr}{b:Ai1}(hr:RB w v b)(ho:b= []\/∀i,v.ownBlock=some i->¬B7 H D.files.length i):b= []\/∀i,v.ownBlock=some i->¬B7 H' D'.files.length i:=by
 rcases ho with h0 | ho
 ·exact .inl h0
 ·by_cases hb:b= []
  ·exact .inl hb
  ·refine .inr fun i hi q=> ?_;rcases hW.foot i q with q | q
   ·exact ho i hi q
   ·have:=RB.lt hr (List.length_pos_iff.2 hb) hi;omega
theorem DkW.ofExt(h:DkG wb w g H D)(k:Ext w w'):DkW wb w g H D w' H D:=⟨h.keep k,Ac5 k,fun _ q=> .inl q⟩
abbrev Ac6:=@DkW.ofExt
theorem DkW.trans(h:DkW wb w g H D w' H' D')(k:DkW wb w' g H' D' w2 H2 D2):DkW wb w g H D w2 H2 D2:=
 ⟨k.g,h.chg.trans k.chg h.foot,fun i q=>(k.foot i q).elim (h.foot i) fun r=> .inr (Adu h.chg.size r)⟩
def ZI(H:Dk)(n gj:Nat)(k:Nat):Prop:=B7 H n k\/k=gj
structure DkX (wb w : Ads) (g gj : Nat) (H : Dk) (D : Ak) (w' : Ads) (H' : Dk) (D' : Ak) : Prop where
 g:DkG wb w' g H' D'
 chg:Chg (ZI H D.files.length gj) w w'
 foot:∀i,B7 H' D'.files.length i->B7 H D.files.length i\/w.heap.size<=i
theorem Chg.monoJ{B C:Nat->Prop}(h:Chg B w w')(hB:∀k,B k->C k):Chg C w w' :=⟨h.os,h.tape,h.output,h.size,fun k hk hn=>h.blk k hk fun q=>hn (hB k q)⟩
theorem DkX.ofW(h:DkW wb w g H D w' H' D'):DkX wb w g gj H D w' H' D' :=⟨h.g,h.chg.monoJ fun k q=> .inl q,h.foot⟩
theorem DkX.ofExt(h:DkG wb w g H D)(k:Ext w w'):DkX wb w g gj H D w' H D:= .ofW (.ofExt h k)
theorem DkX.keep(h:DkX wb w g gj H D w' H' D')(k:Ext w' w2):DkX wb w g gj H D w2 H' D' :=⟨h.g.keep k,h.chg.keep k,h.foot⟩
theorem DkX.trans(h:DkX wb w g gj H D w' H' D')(k:DkX wb w' g gj H' D' w2 H2 D2):DkX wb w g gj H D w2 H2 D2:=
 ⟨k.g,h.chg.trans k.chg fun i q=>q.elim (fun q=>(h.foot i q).imp .inl id) fun q=> .inl (.inr q),fun i q=>(k.foot i q).elim (h.foot i) fun r=> .inr (Adu h.chg.size r)⟩
theorem DkX.setT(h:DkX wb w g gj H D w' H' D'){b:Nat}{cs:Array Adr}{t:Ady}{fr:Nat × Nat}(hg:w'.grownBy w2 (some b))(hb:w'.heap[b]? =some (.cells cs t fr))(hw:w.heap.size<=b\/b=gj)(hwb:wb.heap.size<=b)(h1:t≠82)(h2:t≠120)(h3:t≠5)(h4:t≠113)(h5:t≠112)(h6:t≠9):DkX wb w g gj H D w2 H' D' :=
 ⟨h.g.setT hg hb hwb h1 h2 h3 h4 h5 h6,Ac0 h.chg hg (hw.elim .inr fun q=> .inl (.inr q)),h.foot⟩
abbrev AcX:=@DkX.setT
theorem RefsOw.chg{b:Nat}{z:Af}(h:RefsOw b w z)(hD:DkG wb w g H D)(hc:Chg (B7 H D.files.length) w w'):RefsOw b w' z:=
 ⟨hD.og hc h.br (by decide) (by decide) (by decide) (by decide),hD.og hc h.tg (by decide) (by decide) (by decide) (by decide),hD.og hc h.lg (by decide) (by decide) (by decide) (by decide)⟩
abbrev AcK:=@RefsOw.chg
theorem OG.setT{α:Type}{b k x:Nat}{t ty:Ady}{enc:α->List Adr}{v:Adr}{l:List α}{cs:Array Adr}{fr:Nat × Nat}(h:OG b t k enc w v l)(hg:w.grownBy w' (some x))(hb:w.heap[x]? =some (.cells cs ty fr))(hne:t≠ty):OG b t k enc w' v l:=h.kept hg (h.off hb hne)
theorem RefsOw.setT{b x:Nat}{z:Af}{ty:Ady}{cs:Array Adr}{fr:Nat × Nat}(h:RefsOw b w z)(hg:w.grownBy w' (some x))(hb:w.heap[x]? =some (.cells cs ty fr))(h1:94≠ty)(h2:97≠ty):RefsOw b w' z:=
 ⟨h.br.setT hg hb h1,h.tg.setT hg hb h1,h.lg.setT hg hb h2⟩
abbrev AcI:=@RefsOw.setT
structure JnAt (w : Ads) (gj g : Nat) (J : Jn) (z : Af) : Prop where
 blk:w.heap[gj]? =some (.cells (BP g z J.size J.torn J.lost).toArray 84 (0,0))
 rf:RefsOw 0 w z
 eq:z.1=J.refs
theorem JnAt.keep{J:Jn}{z:Af}(h:JnAt w gj g J z)(k:Ext w w'):JnAt w' gj g J z:=⟨Aay k h.blk,h.rf.keep k,h.eq⟩
theorem JnAt.chg{J:Jn}{z:Af}(h:JnAt w gj g J z){g2:Nat}(hD:DkG wb w g2 H D)(hc:Chg (B7 H D.files.length) w w'):JnAt w' gj g J z:=
 ⟨hD.box hc h.blk (by decide) (by decide) (by decide) (by decide),h.rf.chg hD hc,h.eq⟩
def JaAt(w:Ads)(gj:Nat)(H:Dk)(n:Nat)(v:Adr):JA->Prop
 | .clear=>v = .func (.func 29) #[PQ gj 0] #[]
 | .app s b=>∃f bj bb vb,v = .func (.func f) #[] #[PQ bj 0,PQ bb 0]/\((s=nwN/\f=78)\/(s=jrN/\f=43))/\w.heap[bj]? =some (.cells ([PQ gj 0]).toArray 27 (0,0))/\w.heap[bb]? =some (.cells ([vb]).toArray 43 (0,0))/\RB w vb b/\(b= []\/∀i,vb.ownBlock=some i->¬B7 H n i)/\b.length<=45000
 | .sync s=>∃f bj,v = .func (.func f) #[] #[PQ bj 0]/\((s=nwN/\f=79)\/(s=jrN/\(f=82\/f=45)))/\w.heap[bj]? =some (.cells ([PQ gj 0]).toArray 27 (0,0))
 | .move=>∃bj,v = .func (.func 80) #[] #[PQ bj 0]/\w.heap[bj]? =some (.cells ([PQ gj 0]).toArray 27 (0,0))
theorem JaAt.step(hD:DkG wb w g H D)(hW:DkW wb w g H D w' H' D'){v:Adr}{a:JA}(h:JaAt w gj H D.files.length v a):JaAt w' gj H' D'.files.length v a:=by
 have bx:∀ {x:Nat} {cs:Array Adr} {t:Ady},w.heap[x]? =some (.cells cs t (0,0))->t=27\/t=43->w'.heap[x]? =some (.cells cs t (0,0)):=fun e ht=>by
  rcases ht with rfl | rfl <;> exact hD.box hW.chg e (by decide) (by decide) (by decide) (by decide)
 cases a with
 | clear=>exact h
 | app s b=>
  obtain⟨f,bj,bb,vb,e,q,h1,h2,h3,h4,h5⟩:=h;exact⟨f,bj,bb,vb,e,q,bx h1 (.inl rfl),bx h2 (.inr rfl),h3.chg hW.chg h4,hW.off h3 h4,h5⟩
 | sync s=>
  obtain⟨f,bj,e,q,h1⟩:=h;exact⟨f,bj,e,q,bx h1 (.inl rfl)⟩
 | move=>
  obtain⟨bj,e,h1⟩:=h;exact⟨bj,e,bx h1 (.inl rfl)⟩
theorem JaAt.ext{n:Nat}{v:Adr}{a:JA}(h:JaAt w gj H n v a)(k:Ext w w'):JaAt w' gj H n v a:=by
 cases a with
 | clear=>exact h
 | app s b=>
  obtain⟨f,bj,bb,vb,e,q,h1,h2,h3,h4,h5⟩:=h;exact⟨f,bj,bb,vb,e,q,Aay k h1,Aay k h2,h3.keep k,h4,h5⟩
 | sync s=>
  obtain⟨f,bj,e,q,h1⟩:=h;exact⟨f,bj,e,q,Aay k h1⟩
 | move=>
  obtain⟨bj,e,h1⟩:=h;exact⟨bj,e,Aay k h1⟩
structure JasAt (w : Ads) (gj : Nat) (H : Dk) (n : Nat) (vs : List Adr) (ac : List JA) : Prop where
 len:vs.length=ac.length
 at_:∀i,i<ac.length->JaAt w gj H n (vs.getD i undef) (ac.getD i .clear)
theorem JasAt.keep{n:Nat}{vs:List Adr}{ac:List JA}(h:JasAt w gj H n vs ac)(k:Ext w w'):JasAt w' gj H n vs ac:=⟨h.len,fun i hi=>(h.at_ i hi).ext k⟩
theorem JasAt.step{vs:List Adr}{ac:List JA}(h:JasAt w gj H D.files.length vs ac)(hD:DkG wb w g H D)(hW:DkW wb w g H D w' H' D'):JasAt w' gj H' D'.files.length vs ac:=⟨h.len,fun i hi=>(h.at_ i hi).step hD hW⟩
theorem jas1{n:Nat}{v:Adr}{a:JA}(h:JaAt w gj H n v a):JasAt w gj H n [v] [a]:=⟨rfl,fun i hi=>by
 have:i=0:=by simp at hi;omega
 subst this;exact h⟩
theorem YJ{n:Nat}{v b:Adr}{a a2:JA}(h:JaAt w gj H n v a)(h2:JaAt w gj H n b a2):JasAt w gj H n [v,b] [a,a2]:=⟨rfl,fun i hi=>by
 match i,hi with
 | 0,_=>exact h
 | 1,_=>exact h2⟩
theorem Zv{n:Nat}{v b c:Adr}{a a2 a3:JA}(h:JaAt w gj H n v a)(h2:JaAt w gj H n b a2)(h3:JaAt w gj H n c a3):JasAt w gj H n [v,b,c] [a,a2,a3]:=⟨rfl,fun i hi=>by
 match i,hi with
 | 0,_=>exact h
 | 1,_=>exact h2
 | 2,_=>exact h3⟩
end
section
variable {n : Nat} {D : Ak}
theorem DBd.addK{n k:Nat}{D:Ak}(h:DBd n D)(s:Ai1){b:Ai1}(hk:1<=k)(hb:b.length<=300*k):DBd (n+k) (Bj D s b):=by
 unfold Bj;split
 ·rename_i j _
  refine⟨h.quota,Adu h.refused (Afn _ _),h.arm,Adu h.acts (Afn _ _),Adu h.now (Afn _ _),fun x hx=> ?_⟩;rcases List.mem_or_eq_of_mem_set hx with hx | rfl
  ·have:=h.files x hx;omega
  ·have:=h.file j;show((Ar D j).1++b).length<=_;rw[Adx];omega
 ·have h1:=(h.turned ⟨[],s,D.files.length⟩).mono (show n+1<=n+k by omega);refine⟨h1.quota,h1.refused,h1.arm,h1.acts,h1.now,fun x hx=> ?_⟩;rcases Aed.1 hx with hx | hx
  ·have:=h.files x hx;omega
  ·rw[Aeb.1 hx];show b.length<=_;omega
theorem DBd.appendK{n k:Nat}{D:Ak}(h:DBd n D)(s:Ai1){b:Ai1}(hk:1<=k)(hb:b.length<=300*k):DBd (n+k) (BU D s b).1:=by
 unfold BU;split
 ·exact h.mono (Afn _ _)
 ·split
  ·have h2:=h.mono (Afn n k);have:=h.refused;exact⟨h2.quota,by show D.refused+1<=_;omega,h2.arm,h2.acts,h2.now,h2.files⟩
  ·split
   ·exact h.armed.mono (Afn _ _)
   ·exact h.armed.addK s hk hb
theorem DBd.jact{n:Nat}{D:Ak}(h:DBd n D):∀(a:JA),(∀s b,a = .app s b->b.length<=45000)->DBd (n+150) (BL D a).1
 | .clear,_=>by
  show DBd (n+150) (if(Bt D nwN).2=4 then((Bt D nwN).1,0)else Bt D nwN).1;split
  ·exact DBd.mono (n:=n+1) (h.drop nwN) (by omega)
  ·exact DBd.mono (n:=n+1) (h.drop nwN) (by omega)
 | .app s b,hb=>h.appendK s (by omega) (hb s b rfl)
 | .sync s,_=>(h.sync s).mono (by omega)
 | .move,_=>(h.move _ _).mono (by omega)
theorem DBd.jdo:∀(l:List JA) {n:Nat} {D:Ak},DBd n D->(∀a∈l,∀s b,a = .app s b->b.length<=45000)->DBd (n+150*l.length) (AP D l).1
 | [],n,D,h,_=>h
 | a :: r,n,D,h,hb=>by
  have h1:=h.jact a (hb a AeG);rw[Ez];split
  ·exact h1.mono (by rw[AdJ];omega)
  ·exact(DBd.jdo r h1 fun x hx=>hb x (AeF _ hx)).mono (by rw[AdJ];omega)
end
set_option maxRecDepth 100000
theorem Jy{l:List JA}{i:Nat}(h:i<l.length):l.drop i=l.getD i .clear :: l.drop (i+1):=by
 rw[Adz,AdE h];simp
theorem EB:Tryz.prog.underlying 27=some (.pointer 84):=by kernel_rfl
theorem D3:Ax Adt 84 0 0:=fun b o w=>by simp[go_sem]
theorem OX:Plain Adt 44:=fun _ _=>by kernel_rfl
theorem KP:Plain Adt 46:=fun _ _=>by kernel_rfl
theorem VK:Plain Adt 81:=fun _ _=>by kernel_rfl
theorem VL:Plain Adt 72:=fun _ _=>by kernel_rfl
theorem Fy:Ax Adt 84 4 39:=fun b o w=>by simp[go_sem]
theorem RM:Ax Adt 84 2 37:=fun b o w=>by simp[go_sem]
theorem M7:Tryz.prog.underlying 141=some (.slice 50):=by kernel_rfl
theorem VM:∀w' :Ads,(sizeOf 50).run Adt w' = .ok 1 w' :=fun _=>by kernel_rfl
theorem VN:Tryz.prog.underlying 50=some (.func #[] #[28] false):=by kernel_rfl
set_option maxHeartbeats 1600000
theorem VO(wb w:Ads)(g:Nat)(H:Dk)(D:Ak)(hD:DkG wb w g H D)(gj:Nat)(z:Af)(n:Nat)(t l:Bool)(hj:w.heap[gj]? =some (.cells (BP g z n t l).toArray 84 (0,0)))(bj:Nat)(hbj:w.heap[bj]? =some (.cells ([PQ gj 0]).toArray 27 (0,0)))(bb:Nat)(vb:Adr)(b:Ai1)(hbb:w.heap[bb]? =some (.cells ([vb]).toArray 43 (0,0)))(hr:RB w vb b)(hoff:b= []\/∀i,vb.ownBlock=some i->¬B7 H D.files.length i)(hbl:b.length<=45000)(hL:EV D):
  Calls Adt 78 #[PQ bj 0,PQ bb 0] w fun e w' =>∃H',e = .returned (NI (BU D nwN b).2)/\DkW wb w g H D w' H' ((BU D nwN b).1):=by
 refine gG (args:= [PQ bj 0,PQ bb 0]) Tryz.func78 rfl 9 rfl rfl ?_;have hE:=Acz w;refine gM0 [0,1,2,3,4,5,6] [5] [] fun c a=> ?_;have hj:=eb a hj;have hbj:=eb a hbj;have hbb:=eb a hbb;have hE:=hE.trans a;refine ys (ZN EB rfl rfl (Ac hbj rfl) zz) (ys (AcA rfl zz) (ys (Acy D3 rfl zz) (ys (ZN Vn rfl rfl (Ac hj KO) zz) (ys (ZN Hv rfl rfl (Ac hbb rfl) zz) (yC (Z5 OX rfl rfl rfl ((((hD.keep hE)).appendW nwN vb b (hr.keep hE) hoff (by omega) hL).mono ?_)))))));rintro e f ⟨H2,rfl,hW⟩;refine⟨_,rfl,?_⟩;have hW:=(Ac6 hD hE).trans hW;refine Az rfl (vr (NI ((BU D nwN b).2)) rfl) ?_;exact⟨H2,rfl,hW⟩
theorem VP(wb w:Ads)(g:Nat)(H:Dk)(D:Ak)(hD:DkG wb w g H D)(gj:Nat)(z:Af)(n:Nat)(t l:Bool)(hj:w.heap[gj]? =some (.cells (BP g z n t l).toArray 84 (0,0)))(bj:Nat)(hbj:w.heap[bj]? =some (.cells ([PQ gj 0]).toArray 27 (0,0)))(bb:Nat)(vb:Adr)(b:Ai1)(hbb:w.heap[bb]? =some (.cells ([vb]).toArray 43 (0,0)))(hr:RB w vb b)(hoff:b= []\/∀i,vb.ownBlock=some i->¬B7 H D.files.length i)(hbl:b.length<=45000)(hL:EV D):
  Calls Adt 43 #[PQ bj 0,PQ bb 0] w fun e w' =>∃H',e = .returned (NI (BU D jrN b).2)/\DkW wb w g H D w' H' ((BU D jrN b).1):=by
 refine gG (args:= [PQ bj 0,PQ bb 0]) Tryz.func43 rfl 9 rfl rfl ?_;have hE:=Acz w;refine gM0 [0,1,2,3,4,5,6] [5] [] fun c a=> ?_;have hj:=eb a hj;have hbj:=eb a hbj;have hbb:=eb a hbb;have hE:=hE.trans a;refine ys (ZN EB rfl rfl (Ac hbj rfl) zz) (ys (AcA rfl zz) (ys (Acy D3 rfl zz) (ys (ZN Vn rfl rfl (Ac hj KO) zz) (ys (ZN Hv rfl rfl (Ac hbb rfl) zz) (yC (Z5 OX rfl rfl rfl ((((hD.keep hE)).appendW jrN vb b (hr.keep hE) hoff (by omega) hL).mono ?_)))))));rintro e f ⟨H2,rfl,hW⟩;refine⟨_,rfl,?_⟩;have hW:=(Ac6 hD hE).trans hW;refine Az rfl (vr (NI ((BU D jrN b).2)) rfl) ?_;exact⟨H2,rfl,hW⟩
theorem VQ(wb w:Ads)(g:Nat)(H:Dk)(D:Ak)(hD:DkG wb w g H D)(gj:Nat)(z:Af)(n:Nat)(t l:Bool)(hj:w.heap[gj]? =some (.cells (BP g z n t l).toArray 84 (0,0)))(bj:Nat)(hbj:w.heap[bj]? =some (.cells ([PQ gj 0]).toArray 27 (0,0)))(hL:EV D):
  Calls Adt 79 #[PQ bj 0] w fun e w' =>∃H',e = .returned (NI (Ce D nwN).2)/\DkW wb w g H D w' H' ((Ce D nwN).1):=by
 refine gG (args:= [PQ bj 0]) Tryz.func79 rfl 7 rfl rfl ?_;have hE:=Acz w;refine gS (ZN EB rfl rfl (Ac hbj rfl) (gS (AcA rfl (gS (Acy D3 rfl (gS (ZN Vn rfl rfl (Ac hj KO) (gS (ZR KP rfl rfl ((((hD.keep hE)).syncW nwN hL).mono ?_))))))))));rintro e a ⟨H2,rfl,hW⟩;refine⟨_,rfl,?_⟩;have hW:=(Ac6 hD hE).trans hW;refine Az rfl (vr (NI ((Ce D nwN).2)) rfl) ?_;exact⟨H2,rfl,hW⟩
theorem VR(wb w:Ads)(g:Nat)(H:Dk)(D:Ak)(hD:DkG wb w g H D)(gj:Nat)(z:Af)(n:Nat)(t l:Bool)(hj:w.heap[gj]? =some (.cells (BP g z n t l).toArray 84 (0,0)))(bj:Nat)(hbj:w.heap[bj]? =some (.cells ([PQ gj 0]).toArray 27 (0,0)))(hL:EV D):
  Calls Adt 80 #[PQ bj 0] w fun e w' =>∃H',e = .returned (NI (Df D nwN jrN).2)/\DkW wb w g H D w' H' ((Df D nwN jrN).1):=by
 refine gG (args:= [PQ bj 0]) Tryz.func80 rfl 7 rfl rfl ?_;have hE:=Acz w;refine gS (ZN EB rfl rfl (Ac hbj rfl) (gS (AcA rfl (gS (Acy D3 rfl (gS (ZN Vn rfl rfl (Ac hj KO) (gS (Z5 VK rfl rfl rfl ((((hD.keep hE)).moveW nwN jrN hL).mono ?_))))))))));rintro e a ⟨H2,rfl,hW⟩;refine⟨_,rfl,?_⟩;have hW:=(Ac6 hD hE).trans hW;refine Az rfl (vr (NI ((Df D nwN jrN).2)) rfl) ?_;exact⟨H2,rfl,hW⟩
theorem VS(wb w:Ads)(g:Nat)(H:Dk)(D:Ak)(hD:DkG wb w g H D)(gj:Nat)(z:Af)(n:Nat)(t l:Bool)(hj:w.heap[gj]? =some (.cells (BP g z n t l).toArray 84 (0,0)))(bj:Nat)(hbj:w.heap[bj]? =some (.cells ([PQ gj 0]).toArray 27 (0,0)))(hL:EV D):
  Calls Adt 82 #[PQ bj 0] w fun e w' =>∃H',e = .returned (NI (Ce D jrN).2)/\DkW wb w g H D w' H' ((Ce D jrN).1):=by
 refine gG (args:= [PQ bj 0]) Tryz.func82 rfl 7 rfl rfl ?_;have hE:=Acz w;refine gS (ZN EB rfl rfl (Ac hbj rfl) (gS (AcA rfl (gS (Acy D3 rfl (gS (ZN Vn rfl rfl (Ac hj KO) (gS (ZR KP rfl rfl ((((hD.keep hE)).syncW jrN hL).mono ?_))))))))));rintro e a ⟨H2,rfl,hW⟩;refine⟨_,rfl,?_⟩;have hW:=(Ac6 hD hE).trans hW;refine Az rfl (vr (NI ((Ce D jrN).2)) rfl) ?_;exact⟨H2,rfl,hW⟩
theorem VT(wb w:Ads)(g:Nat)(H:Dk)(D:Ak)(hD:DkG wb w g H D)(gj:Nat)(z:Af)(n:Nat)(t l:Bool)(hj:w.heap[gj]? =some (.cells (BP g z n t l).toArray 84 (0,0)))(bj:Nat)(hbj:w.heap[bj]? =some (.cells ([PQ gj 0]).toArray 27 (0,0)))(hL:EV D):
  Calls Adt 45 #[PQ bj 0] w fun e w' =>∃H',e = .returned (NI (Ce D jrN).2)/\DkW wb w g H D w' H' ((Ce D jrN).1):=by
 refine gG (args:= [PQ bj 0]) Tryz.func45 rfl 7 rfl rfl ?_;have hE:=Acz w;refine gS (ZN EB rfl rfl (Ac hbj rfl) (gS (AcA rfl (gS (Acy D3 rfl (gS (ZN Vn rfl rfl (Ac hj KO) (gS (ZR KP rfl rfl ((((hD.keep hE)).syncW jrN hL).mono ?_))))))))));rintro e a ⟨H2,rfl,hW⟩;refine⟨_,rfl,?_⟩;have hW:=(Ac6 hD hE).trans hW;refine Az rfl (vr (NI ((Ce D jrN).2)) rfl) ?_;exact⟨H2,rfl,hW⟩
theorem Ub(wb w:Ads)(g:Nat)(H:Dk)(D:Ak)(hD:DkG wb w g H D)(gj:Nat)(z:Af)(n:Nat)(t l:Bool)(hj:w.heap[gj]? =some (.cells (BP g z n t l).toArray 84 (0,0)))(hL:EV D):
  Calls Adt 29 #[PQ gj 0] w fun e w' =>∃H',e = .returned (NI (BL D .clear).2)/\DkW wb w g H D w' H' ((BL D .clear).1):=by
 refine gG (args:= [PQ gj 0]) Tryz.func29 rfl 12 rfl rfl ?_;have hE:=Acz w;refine gS (AcA rfl (gS (Acy D3 rfl (gS (ZN Vn rfl rfl (Ac hj KO) (gS (ZR VL rfl rfl ((((hD.keep hE)).dropW nwN hL).mono ?_))))))));rintro e f ⟨H2,rfl,hW⟩;refine⟨_,rfl,?_⟩;have hW:=(Ac6 hD hE).trans hW;refine gS (ZO (a:=((Bt D nwN).2:Nat)) (b:=(4:Nat)) rfl rfl (AX _ _ _ _) ?_);refine cD rfl (fun c=> ?_) fun c=> ?_
 ·have hV:BL D .clear=Bt D nwN:=if_neg c;refine Az rfl (vr (NI ((Bt D nwN).2)) rfl) ?_;exact⟨H2,by rw[hV],by rw[hV];exact hW⟩
 have hV:BL D .clear=((Bt D nwN).1,0):=if_pos (Decidable.not_not.1 c);refine Az rfl (vr (NI 0) rfl) ?_;exact⟨H2,by rw[hV],by rw[hV];exact hW⟩
theorem Xw(wb w:Ads)(g:Nat)(H:Dk)(D:Ak)(hD:DkG wb w g H D)(gj:Nat)(z:Af)(n:Nat)(t l:Bool)(hj:w.heap[gj]? =some (.cells (BP g z n t l).toArray 84 (0,0)))(hL:EV D){v:Adr}{a:JA}(h:JaAt w gj H D.files.length v a):
  ∃f bd caps,v = .func (.func f) bd caps/\Plain Adt f/\Calls Adt f (bd++caps) w fun e w' =>∃H',e = .returned (NI (BL D a).2)/\DkW wb w g H D w' H' ((BL D a).1):=by
 cases a with
 | clear=>exact⟨_,_,_,h,fun _ _=>by kernel_rfl,Ub wb w g H D hD gj z n t l hj hL⟩
 | app s b=>
  obtain⟨f,bj,bb,vb,e,⟨rfl,rfl⟩ | ⟨rfl,rfl⟩,h1,h2,h3,h4,h5⟩:=h
  ·exact⟨_,_,_,e,fun _ _=>by kernel_rfl,VO wb w g H D hD gj z n t l hj bj h1 bb vb b h2 h3 h4 h5 hL⟩
  ·exact⟨_,_,_,e,fun _ _=>by kernel_rfl,VP wb w g H D hD gj z n t l hj bj h1 bb vb b h2 h3 h4 h5 hL⟩
 | sync s=>
  obtain⟨f,bj,e,⟨rfl,rfl⟩ | ⟨rfl,rfl | rfl⟩,h1⟩:=h
  ·exact⟨_,_,_,e,fun _ _=>by kernel_rfl,VQ wb w g H D hD gj z n t l hj bj h1 hL⟩
  ·exact⟨_,_,_,e,fun _ _=>by kernel_rfl,VS wb w g H D hD gj z n t l hj bj h1 hL⟩
  ·exact⟨_,_,_,e,fun _ _=>by kernel_rfl,VT wb w g H D hD gj z n t l hj bj h1 hL⟩
 | move=>
  obtain⟨bj,e,h1⟩:=h;exact⟨_,_,_,e,fun _ _=>by kernel_rfl,VR wb w g H D hD gj z n t l hj bj h1 hL⟩
theorem Gv(w:Ads)(g:Nat)(gj:Nat)(z:Af)(n:Nat)(t l:Bool)(hj:w.heap[gj]? =some (.cells (BP g z n t l).toArray 84 (0,0))):
  Calls Adt 40 #[PQ gj 0] w fun e w' =>e = .returned (NI (if l=true then 19 else 0))/\Ext w w' :=by
 refine gG (args:= [PQ gj 0]) Tryz.func40 rfl 9 rfl rfl ?_;have hE:=Acz w;refine gS (Aas EB rfl (kB (rfl) (cF rfl (gS (AcA rfl (gS (Acy Fy rfl (gS (ZN UW rfl rfl (Ac hj RL) ?_)))))))));refine cB (l) rfl (fun a=> ?_) fun a=> ?_
 ·refine Az rfl (vr (NI 19) rfl) ?_;exact⟨by rw[show l=true from a];rfl,hE⟩
 refine Az rfl (vr (NI 0) rfl) ?_;exact⟨by rw[show l=false from a];rfl,hE⟩
theorem Uc(w:Ads)(g:Nat)(gj:Nat)(z:Af)(n:Nat)(t l:Bool)(hj:w.heap[gj]? =some (.cells (BP g z n t l).toArray 84 (0,0))):
  Calls Adt 18 #[PQ gj 0] w fun e w' =>e = .returned (NI n)/\Ext w w' :=by
 refine gG (args:= [PQ gj 0]) Tryz.func18 rfl 9 rfl rfl ?_;have hE:=Acz w;refine gS (Aas EB rfl (kB (rfl) (cF rfl (gS (AcA rfl (gS (Acy RM rfl (gS (ZN Oa rfl rfl (Ac hj RJ) (Az rfl (vr (NI n) rfl) ?_))))))))));exact⟨rfl,hE⟩
theorem Jz(wb w:Ads)(g:Nat)(H:Dk)(D:Ak)(hD:DkG wb w g H D)(gj:Nat)(z:Af)(n:Nat)(t l:Bool)(hj:w.heap[gj]? =some (.cells (BP g z n t l).toArray 84 (0,0)))(hlo:wb.heap.size<=gj)(rb:Nat)(vs:List Adr)(ac:List JA)(hrb:w.heap[rb]? =some (.cells vs.toArray 50 (0,0)))(o:JasAt w gj H D.files.length vs ac)(m:Nat)(hB:DBd m D)(hm:m+150*ac.length<=99000)(hbs:∀a∈ac,∀s b,a = .app s b->b.length<=45000):
  Calls Adt 28 #[PQ gj 0, .slice (some ⟨rb,0,none⟩) vs.length vs.length] w fun e w' =>∃H',e = .returned (NI (AP D ac).2)/\DkX wb w g gj H D w' H' (AP D ac).1/\w'.heap[gj]? =some (.cells (BP g z n t (l||decide ((AP D ac).2=9))).toArray 84 (0,0)):=by
 have hal:=o.len;have hvm:vs.length<=maxLen:=by simp only[maxLen];omega
 refine gG (args:= [PQ gj 0, .slice (some ⟨rb,0,none⟩) vs.length vs.length]) Tryz.func28 rfl 31 rfl rfl ?_;have hE:=Acz w;refine gS (Aa6 M7 rfl (gL (fun(ρ:Aj) (wz:Ads)=>∃i:Nat,∃Hi:Dk,∃Di:Ak,ρ 0=(PQ gj 0:Adr)/\ρ 1=(.slice (some ⟨rb,0,none⟩) vs.length vs.length:Adr)/\ρ 8=(.slice (some ⟨rb,0,none⟩) vs.length vs.length:Adr)/\ρ 9=(NI vs.length:Adr)/\ρ 10=(NI i:Adr)/\wz.heap[rb]? =some (.cells vs.toArray 50 (0,0))/\wz.heap[gj]? =some (.cells (BP g z n t l).toArray 84 (0,0))/\DkW wb w g H D wz Hi Di/\JasAt wz gj Hi Di.files.length vs ac/\(i<=ac.length)/\(AP D ac=AP Di (ac.drop i))/\(DBd (m+150*i) Di)/\True) (fun ρ _=>ac.length-(intOf (ρ 10)).toNat) ⟨0,H,D,rfl,rfl,rfl,rfl,rfl,hrb,hj,Ac6 hD hE,o.keep hE,AdN _,rfl,hB,trivial⟩ ?_));clear hE;clear hrb hj;rintro ab w5 ⟨i,Hi,Di,c,T1,p,q,f,hrb,hj,hW,hA,hi,hq,hBi,-⟩;have q10:=f;refine gS (ZO (a:=(i:Nat)) (b:=(vs.length:Nat)) f q (Bg _ _ _ _) ?_);refine cD rfl (fun k=> ?_) fun k=> ?_
 ·have hlt:i<ac.length:=by have h:=k;rw[hal]at h;exact h
  have hcell:vs[i]? =some (vs.getD i undef):=by rw[Adz,AdE (by rw[hal];exact hlt)];rfl
  refine gS (Acm (i:=i) M7 VM p f (by rw[hal];exact hlt) (gS (ZN VN rfl rfl (Ac hrb hcell) ?_)));obtain⟨fi,bi,ci,hvi,hpl,hcl⟩:=Xw wb w5 g Hi Di hW.g gj z n t l hj (hBi.lt (by omega)) (hA.at_ i hlt);refine gS (Acw hpl rfl hvi hcl fun H2 r hW2=> ?_);have hW3:=hW.trans hW2;have hrb:=hW.g.box hW2.chg hrb (by decide) (by decide) (by decide) (by decide);have hj:=hW.g.box hW2.chg hj (by decide) (by decide) (by decide) (by decide);have ae:=hA.step hW.g hW2;refine gS (ZO (a:=((BL Di (ac.getD i .clear)).2:Nat)) (b:=(0:Nat)) rfl rfl (AX _ _ _ _) ?_);refine cD rfl (fun j=> ?_) fun j=> ?_
  ·have hjo:=hj;cases l
   ·have hX:DkX wb w g gj H D r H2 (BL Di (ac.getD i .clear)).1:= .ofW hW3;refine gS (AcA c (gS (Acy Fy rfl (gS (ZN UW rfl rfl (Ac hj RL) (gS (ZO (a:=((BL Di (ac.getD i .clear)).2:Nat)) (b:=(9:Nat)) rfl rfl (AI _ _ _ _) (gS (Z4 rfl rfl (gS (AcA c (gS (Acy Fy rfl (gS (ZS (i:=39) (v:= .bool (decide (((BL Di (ac.getD i .clear)).2:Nat)=(9)))) rfl rfl hj (by rw[GX];decide) Vu rfl rfl fun u x af ai=> ?_)))))))))))))));have hX:DkX wb w g gj H D u H2 (BL Di (ac.getD i .clear)).1:=AcX hX af hj (.inr rfl) hlo (by decide) (by decide) (by decide) (by decide) (by decide) (by decide);clear hj;have hj:u.heap[gj]? =some (.cells (BP g z n t (decide (((BL Di (ac.getD i .clear)).2:Nat)=(9)))).toArray 84 (0,0)):=AG x (Ua (decide (((BL Di (ac.getD i .clear)).2:Nat)=(9))));clear x;have aj:=bl hj;refine Az rfl (vr (NI ((BL Di (ac.getD i .clear)).2)) rfl) ?_;have hV:AP D ac=BL Di (ac.getD i .clear):=by rw[hq,Jy hlt,Ez,if_pos j]
    exact⟨H2,by rw[hV],by rw[hV];exact hX,by rw[hV];exact hj⟩
   have hX:DkX wb w g gj H D r H2 (BL Di (ac.getD i .clear)).1:= .ofW hW3;refine gS (AcA c (gS (Acy Fy rfl (gS (ZN UW rfl rfl (Ac hj RL) (gS (Z1 rfl rfl (gS (AcA c (gS (Acy Fy rfl (gS (ZS (i:=39) (v:= .bool (true)) rfl rfl hj (by rw[GX];decide) Vu rfl rfl fun y aa ag ak=> ?_)))))))))))));have hX:DkX wb w g gj H D y H2 (BL Di (ac.getD i .clear)).1:=AcX hX ag hj (.inr rfl) hlo (by decide) (by decide) (by decide) (by decide) (by decide) (by decide);clear hj;have hj:y.heap[gj]? =some (.cells (BP g z n t true).toArray 84 (0,0)):=AG aa (Ua true);clear aa;have al:=bl hj;refine Az rfl (vr (NI ((BL Di (ac.getD i .clear)).2)) rfl) ?_;have hV:AP D ac=BL Di (ac.getD i .clear):=by rw[hq,Jy hlt,Ez,if_pos j]
   exact⟨H2,by rw[hV],by rw[hV];exact hX,by rw[hV];exact hj⟩
  have hst:¬(BL Di (ac.getD i .clear)).2≠0:=j;have hq3:AP D ac=AP (BL Di (ac.getD i .clear)).1 (ac.drop (i+1)):=by rw[hq,Jy hlt,Ez,if_neg hst]
  have ah:=hBi.jact (ac.getD i .clear) (hbs _ (Cq .clear hlt));refine gS (ZV (xv:=NI i) (yv:=NI 1) f rfl rfl (AF _ _ _ (by omega)) (gK (Aem ⟨i+1,H2,(BL Di (ac.getD i .clear)).1,c,T1,p,q,rfl,hrb,hj,hW3,ae,by omega,hq3,ah,trivial⟩ ?_)));show ac.length-(intOf (NI ((i)+(1)))).toNat<ac.length-(intOf (ab 10)).toNat;rw[q10];simp only[intOf,AdV];omega
 refine Az rfl (vr (NI 0) rfl) ?_;have hie:i=ac.length:=by have h:=k;rw[hal]at h;omega
 have hV:AP D ac=(Di,0):=by rw[hq,hie,List.drop_length];rfl
 exact⟨Hi,by rw[hV],by rw[hV];exact .ofW hW,by rw[hV,show decide ((Di,0).2=9)=false from rfl,Ahj];exact hj⟩
theorem Ud:Plain Adt 56:=fun _ _=>by kernel_rfl
theorem Ue:Plain Adt 58:=fun _ _=>by kernel_rfl
theorem Uf:Plain Adt 60:=fun _ _=>by kernel_rfl
theorem JB(w0 w:Ads)(h:Ext w0 w)(gb:Nat)(hgb:w0.heap.size<=gb)(vb:Adr)(l:Bs)(hb:w.heap[gb]? =some (.cells ([vb]).toArray 43 (0,0)))(hr:RB w vb l)(n:Nat)(hl:l.length+64<=140737488355328)(hn:n<=9223372036854775807):
  Calls Adt 55 #[NI n,PQ gb 0] w fun e w' =>∃v',e = .returned (.tuple #[])/\w'.heap[gb]? =some (.cells ([v']).toArray 43 (0,0))/\w'.ownsRow w.heap.size 5 1 v' (l++AdU n).length (Adv (l++AdU n))/\w.grownBy w' (some gb):=by
 have hgl:=(bl hb);have hgr:=AdZ w (some gb);refine gG (args:= [NI n,PQ gb 0]) Tryz.func55 rfl 9 rfl rfl ?_;have hE:=Acz w;refine gS (ZN Hv rfl rfl (Ac hb rfl) (gS (ZR Ud rfl rfl ((P8 _ vb (l) (hr.keep hE) (by omega) n (by omega)).mono ?_))));rintro e j ⟨b,rfl,c⟩;refine⟨_,rfl,?_⟩;have o:=hE.size;have p:=h.size;have k:OB b gb:=Bk c.own (bl hb);have hgr:w.grownBy j (some gb):=Aa hgr c.ext.grown (fun _ e=>by cases e);have a:=c.own;have hb:=eb c.ext hb;refine gS (AcB (vs:= [b,NI 0]) rfl rfl (gS (AcB (vs:= [b,NI 0]) rfl rfl (gS (ZS (i:=0) (v:=b) rfl rfl hb (AdD rfl) M0 (CY a).1 (CY a).2 fun m f g q=> ?_)))));have hgr:w.grownBy m (some gb):=Aa hgr g (fun _ e=> .inl e);clear hE;clear hb;have hb:=f;clear f;have r:=bl hb;refine Gm rfl ?_;have a:=E2 a g k;exact⟨_,rfl,hb,AN a (by omega),hgr⟩
theorem Gf(w0 w:Ads)(h:Ext w0 w)(gb:Nat)(hgb:w0.heap.size<=gb)(vb:Adr)(l:Bs)(hb:w.heap[gb]? =some (.cells ([vb]).toArray 43 (0,0)))(hr:RB w vb l)(s:Bs)(hl:l.length+s.length+64<=140737488355328):
  Calls Adt 57 #[St s,PQ gb 0] w fun e w' =>∃v',e = .returned (.tuple #[])/\w'.heap[gb]? =some (.cells ([v']).toArray 43 (0,0))/\w'.ownsRow w.heap.size 5 1 v' (l++AL s).length (Adv (l++AL s))/\w.grownBy w' (some gb):=by
 have hgl:=(bl hb);have hgr:=AdZ w (some gb);refine gG (args:= [St (s),PQ gb 0]) Tryz.func57 rfl 6 rfl rfl ?_;have hE:=Acz w;refine gS (ZN Hv rfl rfl (Ac hb rfl) (gS (ZR Ue rfl rfl ((Ij _ vb (l) (hr.keep hE) s (by omega)).mono ?_))));rintro e j ⟨c,rfl,b⟩;refine⟨_,rfl,?_⟩;have n:=hE.size;have o:=h.size;have k:OB c gb:=Bk b.own (bl hb);have hgr:w.grownBy j (some gb):=Aa hgr b.ext.grown (fun _ e=>by cases e);have a:=b.own;have hb:=eb b.ext hb;refine gS (ZS (i:=0) (v:=c) rfl rfl hb (AdD rfl) M0 (CY a).1 (CY a).2 fun m f g p=> ?_);have hgr:w.grownBy m (some gb):=Aa hgr g (fun _ e=> .inl e);clear hE;clear hb;have hb:=f;clear f;have q:=bl hb;refine Gm rfl ?_;have a:=E2 a g k;exact⟨_,rfl,hb,AN a (by omega),hgr⟩
theorem Gg(w0 w:Ads)(b:Ext w0 w)(gb:Nat)(hgb:w0.heap.size<=gb)(vb:Adr)(l:Bs)(hb:w.heap[gb]? =some (.cells ([vb]).toArray 43 (0,0)))(hr:RB w vb l)(id:Cl)(hl:l.length+64<=140737488355328):
  Calls Adt 59 #[AB id.1,PQ gb 0] w fun e w' =>∃v',e = .returned (.tuple #[])/\w'.heap[gb]? =some (.cells ([v']).toArray 43 (0,0))/\w'.ownsRow w.heap.size 5 1 v' (l++id.1).length (Adv (l++id.1))/\w.grownBy w' (some gb):=by
 have hgl:=(bl hb);have hgr:=AdZ w (some gb);refine gG (args:= [AB id.1,PQ gb 0]) Tryz.func59 rfl 6 rfl rfl ?_;have hE:=Acz w;refine gS (AcP (vr (AB id.1) rfl) fun n g o h c t=> ?_);have u:=hE.size;have x:=b.size;have hgr:w.grownBy g (some gb):=Aa hgr c.grown (fun _ e=>by cases e);have p:=h;clear h;have y:n<g.heap.size:=by omega
 have z:=AO (bl hb) o;have hb:=eb c hb;have hE:=hE.trans c;refine gS (ZN Hv rfl rfl (Ac hb rfl) (gS (Aal rfl p WA rfl (by exact As id.2) (gS (ZR Uf rfl rfl ((Jm _ vb (l) (hr.keep hE) (by omega) id).mono ?_))))));rintro e q ⟨j,rfl,f⟩;refine⟨_,rfl,?_⟩;have b:=b.trans c;have aa:=hE.size;have ab:=b.size;have r:OB j gb:=Bk f.own (bl hb);have hgr:w.grownBy q (some gb):=Aa hgr f.ext.grown (fun _ e=>by cases e);have a:=f.own;have hb:=eb f.ext hb;refine gS (ZS (i:=0) (v:=j) rfl rfl hb (AdD rfl) M0 (CY a).1 (CY a).2 fun s k m ac=> ?_);have hgr:w.grownBy s (some gb):=Aa hgr m (fun _ e=> .inl e);clear hE;clear hb;have hb:=k;clear k;have ad:=bl hb;refine Gm rfl ?_;have a:=E2 a m r;exact⟨_,rfl,hb,AN a (by omega),hgr⟩
section
variable {P : AdM} {K : Adr -> Ads -> Prop} {ρ : Aj} {w : Ads} {d : Option Tmp} {ty : Ady} {pos : String} {af : Array Edge} {gd : Option (Nat × Bool)}
theorem Acx{src dst:Ady}{x:AdC}{a b:Adr}(hx:Ab ρ x=a)(hr:∀w:Ads,(convert src dst a).run P w = .ok b w)(hk:K b w):Yk P K ((execOp (Ab ρ) ⟨d, .convert src dst x,ty,pos,af,gd⟩).run P w):=by
 refine AcG (v:=b) (w' :=w) ?_ hk;unfold execOp;simp only[hx,AdB,hr,AdA,AdF]
end
theorem VU{k:UInt8}(hk:k=83\/k=84)(w:Ads):(convert 5 9 (B8 k)).run Adt w = .ok (St [k]) w:=by
 rcases hk with rfl | rfl <;> kernel_rfl
theorem OY{l:List AC}(hu:∀u∈l,u.name.length<=256)(hl:l.length<=1000)(i:Nat):((l.take i).flatMap CA).length<=330000:=by
 have h1:=Ey (f:=CA) (c:=330) (l:=l.take i) fun u hm=>OC (hu u (List.mem_of_mem_take hm));have h2:(l.take i).length<=l.length:=by rw[List.length_take];omega
 omega
theorem VV:EM Adt 77 updC:=⟨⟨_,(S9).choose_spec⟩,fun x=>AQ (Cv x) Re⟩
theorem Ug(z:Int)(w:Ads):(Ad0 43 1 #[(0, .int .u8 z)]).run Adt w = .ok (.slice (some ⟨w.heap.size,0,none⟩) 1 1) (w.alloc (.cells #[.int .u8 z] 5)):=by kernel_rfl
theorem LO(w:Ads)(k:UInt8)(hk:k=83\/k=84)(v:Adr)(b:Bs)(hr:RB w v b)(hl:b.length<=4611686018427):
  Calls Adt 41 #[B8 k,v] w fun e w' =>∃v',e = .returned v' /\w'.ownsRow w.heap.size 5 1 v' (recB k b).length (Adv (recB k b))/\Ext w w' :=by
 refine gG (args:= [B8 (k),v]) Tryz.func41 rfl 11 rfl rfl ?_;have hE:=Acz w;refine gS (Acx rfl (VU hk) (gS (Ab4 Hv u5 E4 (Aaf (hr.keep hE) rfl) (gS (Aci (l:=([k]:Ai1)) (m:=b) rfl rfl (by simp only[Adx,AdJ,AdQ];omega) (gS (ZR Ue rfl rfl ((Ij _ (AdI none 0 0) [] (RB.nil _) ((([k]:Ai1):Ai1)++b) (by simp only[Adx,AdJ,AdQ];omega)).mono ?_))))))));rintro e g ⟨a,rfl,c⟩;refine⟨_,rfl,?_⟩;have f:=c.own;refine Az rfl (vr a rfl) ?_;have hE:=hE.trans c.ext;exact⟨a,rfl,f,hE⟩
theorem LP(w:Ads)(lv:Adr)(l:List AC)(hr:RG 66 updC w lv l)(hl:l.length<=1000)(hu:∀u∈l,u.name.length<=256)(note:Bs)(hn:note.length<=256):
  Calls Adt 42 #[lv,St note] w fun e w' =>∃v',e = .returned v' /\w'.ownsRow w.heap.size 5 1 v' (tranB l note).length (Adv (tranB l note))/\Ext w w' :=by
 refine gG (args:= [lv,St (note)]) Tryz.func42 rfl 40 rfl rfl ?_;have hE:=Acz w;refine gS (ZZ MQ (ZU (hr.keep hE) rfl) ?_);have hsp_:=hE.size;refine gS (ZR Ud rfl rfl ((P8 _ (.slice none 0 0) [] (RB.nil _) (by decide) l.length (by omega)).mono ?_));rintro e w5 ⟨t,rfl,z⟩;refine⟨_,rfl,?_⟩;have p:=z.own;have p:=AN p hsp_;have hE:=hE.trans z.ext;refine gS (AcB (vs:= [t,NI 0]) rfl rfl (gS (AcB (vs:= [t,NI 0]) rfl rfl (gS (ZZ MQ (ZU (hr.keep hE) rfl) (gL (fun(ρ:Aj) (wz:Ads)=>∃i:Nat,∃r5:Adr,ρ 0=(lv:Adr)/\ρ 1=(St (note):Adr)/\ρ 4=((AdI none 0 0):Adr)/\ρ 15=(lv:Adr)/\ρ 16=(NI l.length:Adr)/\ρ 17=(NI i:Adr)/\ρ 5=(r5:Adr)/\Ext w wz/\wz.ownsRow w.heap.size 5 1 r5 (AdU l.length++(l.take i).flatMap CA:Ai1).length (Adv (AdU l.length++(l.take i).flatMap CA))/\(i<=l.length)/\True) (fun ρ _=>l.length-(intOf (ρ 17)).toNat) ⟨0,t,rfl,rfl,rfl,rfl,rfl,rfl,rfl,hE,D7 p (by simp),AdN _,trivial⟩ ?_))))));clear p;clear hE;rintro ao ap ⟨i,r5,T0,T1,T4,aa,ab,q,T5,hE,hr_r5,hi,-⟩;have q17:=q;refine gS (ZO (a:=(i:Nat)) (b:=(l.length:Nat)) q ab (Bg _ _ _ _) ?_);refine cD rfl (fun ac=> ?_) fun ac=> ?_
 ·have hlt:i<l.length:=ac;have hnm:=hu _ (Cq AD hlt);have htl:=BY hnm (by omega);have hfl:=OY hu hl i;have hul:=Cc (n:=l.length) (by omega);have hol:(l.getD i AD).old.1.length=32:=(l.getD i AD).old.2;have hnl:(l.getD i AD).new.1.length=32:=(l.getD i AD).new.2;have ba:(updC (l.getD (i) AD)).length=66:=(AcL (hr.keep hE) AD (hlt));refine gS (Z3 MQ Rj (by decide) AD (ZU (hr.keep hE) aa) q (hlt) fun bb ad=>(gS (ZT (Aaa ad rfl) (S9).choose_spec rfl (by rw[Cv];exact Re) (gS (AcH Tk fun r ar bc ae au bd=> ?_)))));have f:=Acz ap;have be:=hE.size;have av:OB r5 r:=Cf hr_r5 (by omega);have c:=ae;clear ae;have bf:r<ar.heap.size:=by omega
  refine gS (Z0 VV (vr (PQ r 0) rfl) (vr (.agg (updC (l.getD (i) AD)).toArray) rfl) c (Hw) fun aw af ax bg=> ?_);clear c;have c:aw.heap[r]? =some (.cells (updC (l.getD (i) AD)).toArray 77 (0,0)):=af;clear af;have bh:=bl c;clear ad;refine Ev [0,1,2,5,6,3,4,7,8] [3,4,7,8] [5] [6] fun bi ag=> ?_;have c:=eb ag c;refine Qa c ?_;refine ys (Acy PF rfl zz) (ys (ZN u5 rfl rfl (Ac c (EQ (l.getD (i) AD))) zz) (yp (Acy PH rfl zz) (yf (fun _ ⟨c,_⟩=>ZN E4 rfl rfl (Ac c (DK (l.getD (i) AD))) zz) (yI (AbL (b:=((l.getD (i) AD)).kind) Ug (vr (B8 (((l.getD (i) AD)).kind)) rfl) fun ah ay k=> ?_)))));have f:=f.trans au;have f:=Ad f ax (Adu (Adw _) (by omega));have f:=f.trans ag;have hE:=hE.trans f;have bj:=hE.size;have bk:=f.size;have hr_r5:=AcU _ _ _ _ _ _ _ _ hr_r5 f;have az:C9 r5 ah:=Li hr_r5 k.own;have g:=k.own;have hE:=hE.trans k.ext;have hr_r5:=AcU _ _ _ _ _ _ _ _ hr_r5 k.ext;have c:=eb k.ext c;refine⟨⟨c,trivial⟩,?_⟩;refine yI (AaA _ _ w.heap.size (.int .u8 0) Hv QE rfl Hv (AdU l.length++(l.take i).flatMap CA) ([(((l.getD (i) AD)).kind:UInt8)]) (Hu hr_r5 T5) (Aaf (Z8 g) (vr ah rfl)) (by simp only[Adx,AdJ,AdQ];omega) hE.size fun ai a0 m o=> ?_);have o:Grew ay a0 r5 ai:= .eqv T5 o;have hE:=Bz hE o hr_r5 (Adw _);have c:=A0 c o av;have g:=KF g o az;clear hr_r5;refine⟨⟨c,trivial⟩,?_⟩;refine yD rfl (ZR Ue rfl rfl ((Ij _ ai (AdU l.length++(l.take i).flatMap CA++ [(((l.getD (i) AD)).kind:UInt8)]) (Z8 m) (((l.getD (i) AD)).name) (by simp only[Adx,AdJ,AdQ];omega)).mono ?_));rintro e bm ⟨a1,rfl,aj⟩;refine⟨_,rfl,?_⟩;have a2:=hE.size;have bn:=hE.size;have h:=aj.own;have h:=AN h a2;refine yD rfl (AcS rfl (Ev [0,1,2,4,5,3,6,7] [3,6,7] [4] [5] fun a3 ak=> ?_));have s:=Acz a3;have hZ1:=aj.ext.trans ak;have c:=eb hZ1 c;have h:=AcU _ _ _ _ _ _ _ _ h ak;refine Ew s ?_;refine ys (Acy Kc rfl zz) (ys (ZT (AcN c (D8 (l.getD (i) AD)) (En (l.getD (i) AD)) rfl) WA rfl (As ((l.getD (i) AD)).old.2) zz) (yp (Acy Kd rfl zz) (yf (fun _ ⟨hZ,_⟩=>ZT (AcN (eb hZ c) (CP (l.getD (i) AD)) (C6 (l.getD (i) AD)) rfl) WA rfl (As ((l.getD (i) AD)).new.2) zz) (yE (ZR Uf rfl rfl ((Jm _ a1 ((AdU l.length++(l.take i).flatMap CA++ [(((l.getD (i) AD)).kind:UInt8)]:Ai1)++AL (((l.getD (i) AD)).name)) (Z8 h) (by simp only[Adx,AdJ,AdQ];omega) (((l.getD (i) AD)).old)).mono ?_))))));rintro e bo ⟨a4,rfl,j⟩;refine⟨_,rfl,?_⟩;have hE:=hE.trans hZ1;have a5:=hE.size;have g:=AcU _ _ _ _ _ _ _ _ g hZ1;have m:=AcU _ _ _ _ _ _ _ _ m hZ1;have v:=j.own;have v:=AN v a5;have s:=s.trans j.ext;refine⟨s,?_⟩;refine yD rfl (ZR Uf rfl rfl ((Jm _ a4 (((AdU l.length++(l.take i).flatMap CA++ [(((l.getD (i) AD)).kind:UInt8)]:Ai1)++AL (((l.getD (i) AD)).name):Ai1)++(((l.getD (i) AD)).old).1) (Z8 v) (by simp only[Adx,AdJ,AdQ];omega) (((l.getD (i) AD)).new)).mono ?_));rintro e bp ⟨a6,rfl,al⟩;refine⟨_,rfl,?_⟩;have hE:=hE.trans j.ext;have a7:=hE.size;have c:=eb j.ext c;have g:=AcU _ _ _ _ _ _ _ _ g j.ext;have m:=AcU _ _ _ _ _ _ _ _ m j.ext;have h:=AcU _ _ _ _ _ _ _ _ h j.ext;have x:=al.own;have x:=AN x a7;have hE:=hE.trans al.ext;refine yD rfl (AcS rfl (gS (ZV (xv:=NI i) (yv:=NI 1) q rfl rfl (AF _ _ _ (by omega)) (gK (Aem ⟨i+1,a6,T0,T1,T4,aa,ab,rfl,rfl,hE,D7 x (by rw[EH AD hlt];simp only[CA,AdW]),by omega,trivial⟩ ?_)))));show l.length-(intOf (NI ((i)+(1)))).toNat<l.length-(intOf (ao 17)).toNat;rw[q17];simp only[intOf,AdV];omega
 have hie:i=l.length:=by omega
 have hfl:=OY hu hl i;have hul:=Cc (n:=l.length) (by omega);refine gS (ZR Ue T5 T1 ((Ij _ r5 (AdU l.length++(l.take i).flatMap CA) (Z8 hr_r5) note (by simp only[Adx,AdJ,AdQ];omega)).mono ?_));rintro e bq ⟨am,rfl,an⟩;refine⟨_,rfl,?_⟩;have a8:=hE.size;have br:=hE.size;have y:=an.own;have y:=AN y a8;refine Az rfl (vr am rfl) ?_;have hE:=hE.trans an.ext;exact⟨am,rfl,D7 y (by rw[hie,Ae4];rfl),hE⟩
section
variable {P : AdM} {K : Adr -> Ads -> Prop} {ρ : Aj} {w : Ads} {d : Option Tmp} {ty : Ady} {pos : String} {af : Array Edge} {gd : Option (Nat × Bool)} {t : Ady}
theorem Acu{a b:Adr}(hr:∀w:Ads,(Aew t #[(0,a),(1,b)]).run P w = .ok (.agg #[a,b]) w){x y:AdC}(hx:Ab ρ x=a)(hy:Ab ρ y=b)(hk:K (.agg #[a,b]) w):
  Yk P K ((execOp (Ab ρ) ⟨d, .build t #[(0,x),(1,y)],ty,pos,af,gd⟩).run P w):=by
 refine AcG (v:= .agg #[a,b]) (w' :=w) ?_ hk;unfold execOp;simp only[AdH,AdK,AdO,hx,hy,AdB,hr,AdA,AdF]
theorem Abl{a b c:Adr}{n:Nat}(hr:∀w:Ads,(Ah8 t (.agg #[a,b]) (NI n)).run P w = .ok c w){x y:AdC}(hx:Ab ρ x = .agg #[a,b])(hy:Ab ρ y=NI n)(hk:K c w):
  Yk P K ((execOp (Ab ρ) ⟨d, .index t x y,ty,pos,af,gd⟩).run P w):=by
 refine AcG (v:=c) (w' :=w) ?_ hk;unfold execOp;simp only[hx,hy,AdB,hr,AdA,AdF]
end
theorem Uh:EM Adt 36 refsC:=⟨⟨_,(MD).choose_spec⟩,fun x=>AQ (An x) Lr⟩
theorem Ui{d:Option Tmp}{ty:Ady}{pos:String}{af:Array Edge}{gd:Option (Nat × Bool)}(σ:AdC->Adr)(w:Ads):(execOp σ ⟨d, .alloc 43,ty,pos,af,gd⟩).run Adt w = .ok (.value (PQ w.heap.size 0)) (w.alloc (.cells ([(AdI none 0 0)]).toArray 43)):=by kernel_rfl
theorem Xx{a b:Adr}(ha:∃o n c,a = .slice o n c)(hb:∃o n c,b = .slice o n c)(w:Ads):(Aew 127 #[(0,a),(1,b)]).run Adt w = .ok (.agg #[a,b]) w:=by
 obtain⟨_,_,_,rfl⟩:=ha;obtain⟨_,_,_,rfl⟩:=hb
 kernel_rfl
theorem VW{a b:Adr}(ha:∃o n c,a = .slice o n c)(hb:∃o n c,b = .slice o n c)(w:Ads):(Ah8 127 (.agg #[a,b]) (NI 0)).run Adt w = .ok a w:=by
 obtain⟨_,_,_,rfl⟩:=ha;obtain⟨_,_,_,rfl⟩:=hb
 kernel_rfl
theorem VX{a b:Adr}(ha:∃o n c,a = .slice o n c)(hb:∃o n c,b = .slice o n c)(w:Ads):(Ah8 127 (.agg #[a,b]) (NI 1)).run Adt w = .ok b w:=by
 obtain⟨_,_,_,rfl⟩:=ha;obtain⟨_,_,_,rfl⟩:=hb
 kernel_rfl
theorem JC:Plain Adt 55:=fun _ _=>by kernel_rfl
theorem M8:EM Adt 94 nmdC:=⟨⟨_,(Mt).choose_spec⟩,fun x=>AQ (BA x) Lk⟩
theorem Gh:Plain Adt 57:=fun _ _=>by kernel_rfl
theorem Gi:Plain Adt 59:=fun _ _=>by kernel_rfl
theorem Uj:EM Adt 97 entC:=⟨⟨_,(Mw).choose_spec⟩,fun x=>AQ (CZ x) Ll⟩
set_option maxHeartbeats 3200000
theorem PP(w:Ads)(z:Af)(hm:RefsAt w z)(hL:DM z.1):
  Calls Adt 22 #[.agg (refsC z).toArray] w fun e w' =>∃v,e = .returned (.tuple #[v,NI (if AA z.1=true then 0 else 1)])/\RB w' v (if AA z.1=true then Ee z.1 else [])/\Ext w w' :=by
 have hmt:=hm.branches;have hmg:=hm.tags;have hml:=hm.log;refine gG (args:= [.agg (refsC z).toArray]) Tryz.func22 rfl 95 rfl rfl ?_;have hE:=Acz w;refine gS (AcP (vr (.agg (refsC z).toArray) rfl) fun l w3 d7 bq cw d8=> ?_);have f:=bq;clear bq;have d9:l<w3.heap.size:=by omega
 have hE:=hE.trans cw;refine gS (ZY Uh rfl f (gS (ZP Ti rfl ((Ii _ z ⟨(hmt.keep hE),(hmg.keep hE),(hml.keep hE)⟩ hL).mono ?_))));rintro e ao ⟨rfl,a5⟩;refine⟨_,rfl,?_⟩;refine gS (Z2 rfl ?_);refine cB (!(AA z.1)) rfl (fun a6=> ?_) fun a6=> ?_
 ·have hrt:AA z.1=false:=by simpa using a6
  refine Ei rfl (vr (AdI none 0 0) rfl) (vr (NI 1) rfl) ?_;have hE:=hE.trans a5;exact⟨.slice none 0 0,by rw[hrt];rfl,by rw[hrt];exact RB.nil _,hE⟩
 have hrt:AA z.1=true:=by simpa using a6
 have hR:=Jl hrt;have hbl_:=hR.bl;have htl_:=hR.tl;have hgl_:=hR.ll;refine gS (AcH Ui fun c br cx bs a7 ea=> ?_);have g:=Acz ao;have hE:=hE.trans a5;have q:=hE.size;have bt:=bs;clear bs;have ec:c<br.heap.size:=by omega
 have hrow0:br.ownsRow w.heap.size 5 1 (AdI none 0 0) ([]:Ai1).length (Adv ([]:Ai1)):=World.ownsRow_nil _ _ _ 1;have cy:Aec (AdI none 0 0)≠some l:=by simp[Aec]
 have cz:Aec (AdI none 0 0)≠some c:=by simp[Aec]
 have f:=eb a5 f;have ed:=AO (bl f) cx;have f:=eb a7 f;have hE:=hE.trans a7;have g:=g.trans a7;refine gS (Aac (vs:= #[PQ c 0]) (by simp only[AdH,AdK,AdO];exact congrArg Ad2 (FP (vr (PQ c 0) rfl))) (gS (Aac (vs:= #[PQ c 0]) (by simp only[AdH,AdK,AdO];exact congrArg Ad2 (FP (vr (PQ c 0) rfl))) (gS (Aac (vs:= #[PQ c 0]) (by simp only[AdH,AdK,AdO];exact congrArg Ad2 (FP (vr (PQ c 0) rfl))) (gS (Acy PD rfl (gS (ZN Fb rfl rfl (Ac f (Br z)) (gS (Acy PE rfl (gS (ZN Fb rfl rfl (Ac f (BQ z)) (gS (Acu (Xx (Adh (hmt.keep hE)) (Adh (hmg.keep hE))) rfl rfl (gL (fun(ρ:Aj) (wz:Ads)=>∃i:Nat,∃vb_i:Adr,ρ 0=(.agg (refsC z).toArray:Adr)/\ρ 1=(PQ l 0:Adr)/\ρ 2=((AdI none 0 0):Adr)/\ρ 3=(NI 0:Adr)/\ρ 4=(PQ c 0:Adr)/\ρ 5=(.func (.func 55) #[] #[PQ c 0]:Adr)/\ρ 6=(.func (.func 57) #[] #[PQ c 0]:Adr)/\ρ 7=(.func (.func 59) #[] #[PQ c 0]:Adr)/\ρ 24=(.agg #[z.2.branches,z.2.tags]:Adr)/\ρ 25=(NI i:Adr)/\Ext w wz/\wz.heap[l]? =some (.cells (refsC z).toArray 36 (0,0))/\Ext ao wz/\wz.heap[c]? =some (.cells ([vb_i]).toArray 43 (0,0))/\wz.ownsRow w.heap.size 5 1 vb_i (lsB z.1 i:Ai1).length (Adv (lsB z.1 i))/\(i<=2)/\(OB vb_i l)/\(OB vb_i c)/\True) (fun ρ _=>2-(intOf (ρ 25)).toNat) ⟨0,(AdI none 0 0),rfl,rfl,rfl,rfl,rfl,rfl,rfl,rfl,rfl,rfl,hE,f,g,bt,D7 hrow0 ((WB rfl).symm),AdN _,cy,cz,trivial⟩ ?_))))))))))))))));clear bt;clear hrow0;clear hE f;rintro bu ee ⟨i,vb_i,s,T1,T2,T3,T4,T5,m,o,r,p,hE,f,g,hb_i,ho_i,hii,hap_n2i,hap_n16i,-⟩;have q25:=p;have hgli:=(bl hb_i);refine gS (ZO (a:=(i:Nat)) (b:=(2:Nat)) p rfl (Bg _ _ _ _) ?_);refine cD rfl (fun c0=> ?_) fun c0=> ?_
 ·have h01:i=0\/i=1:=by omega
  have hll:=Qk hR i;rcases h01 with h0 | h0
  ·have c1:=Cc (n:=z.1.branches.length) (by have:=hR.bl;omega);refine gS (Abl (VW (Adh (hmt.keep hE)) (Adh (hmg.keep hE))) r ((show _=NI i from p).trans (by rw[h0])) (gS (ZZ Fb (ZU (hmt.keep hE) rfl) (gS (Aaj JC (caps:= #[PQ c 0]) T5 #[NI ((z.1.branches).length),PQ c 0] (by simp only[AdH,AdK,AdO,Aei,Ad1,Ad9];exact congrArg Ad2 (Cj rfl rfl)) ((JB w _ hE c (by omega) vb_i (lsB z.1 i) hb_i (Z8 ho_i) ((z.1.branches).length) (by(try simp only[Adx,AdJ,AdQ]);omega) (by omega)).mono ?_))))));rintro e ef ⟨a8,rfl,bv,ae,a9⟩;refine⟨_,rfl,?_⟩;have c2:OB a8 l:=Bk ae (bl f);have c3:OB a8 c:=Bk ae (bl hb_i);have ae:=AN ae hE.size;clear hb_i;clear ho_i;have hb_i:=bv;clear bv;have eg:=bl hb_i;have hE:=Ad hE a9 (Adu q (by omega));have f:=kb a9 f (by omega);have g:=Ad g a9 (Adu (Adw _) (by omega));refine gS (ZZ Fb (ZU (hmt.keep hE) rfl) (gL (fun(ρ:Aj) (wz:Ads)=>∃j:Nat,∃vb_j:Adr,ρ 0=(.agg (refsC z).toArray:Adr)/\ρ 1=(PQ l 0:Adr)/\ρ 2=((AdI none 0 0):Adr)/\ρ 3=(NI 0:Adr)/\ρ 4=(PQ c 0:Adr)/\ρ 5=(.func (.func 55) #[] #[PQ c 0]:Adr)/\ρ 6=(.func (.func 57) #[] #[PQ c 0]:Adr)/\ρ 7=(.func (.func 59) #[] #[PQ c 0]:Adr)/\ρ 9=(z.2.branches:Adr)/\ρ 24=(.agg #[z.2.branches,z.2.tags]:Adr)/\ρ 25=(NI i:Adr)/\ρ 32=(z.2.branches:Adr)/\ρ 33=(NI ((z.1.branches).length):Adr)/\ρ 34=(NI j:Adr)/\Ext w wz/\wz.heap[l]? =some (.cells (refsC z).toArray 36 (0,0))/\Ext ao wz/\wz.heap[c]? =some (.cells ([vb_j]).toArray 43 (0,0))/\wz.ownsRow w.heap.size 5 1 vb_j (((lsB z.1 i:Ai1)++AdU ((z.1.branches).length):Ai1)++(z.1.branches.take j).flatMap C3:Ai1).length (Adv (((lsB z.1 i:Ai1)++AdU ((z.1.branches).length):Ai1)++(z.1.branches.take j).flatMap C3))/\(j<=z.1.branches.length)/\(OB vb_j l)/\(OB vb_j c)/\True) (fun ρ _=>z.1.branches.length-(intOf (ρ 34)).toNat) ⟨0,a8,s,T1,T2,T3,T4,T5,m,o,rfl,r,p,rfl,rfl,rfl,hE,f,g,hb_i,D7 ae (by simp),AdN _,c2,c3,trivial⟩ ?_));clear hb_i;clear ae;clear hE f g;rintro c4 c5 ⟨j,vb_j,s,T1,T2,T3,T4,T5,m,o,T9,r,p,ai,aj,t,hE,f,g,hb_j,ho_j,hij,hap_n2j,hap_n16j,-⟩;have q34:=t;have hglj:=(bl hb_j);refine gS (ZO (a:=(j:Nat)) (b:=((z.1.branches).length:Nat)) t aj (Bg _ _ _ _) ?_);refine cD rfl (fun ak=> ?_) fun ak=> ?_
   ·have hltj:j<z.1.branches.length:=ak;have hnl:=hR.bn _ (Cq dNmd hltj);have htl:=BY hnl (by omega);have hfl:=Oq hR.bl hR.bn j;have hidl:(z.1.branches.getD j dNmd).id.1.length=32:=(z.1.branches.getD j dNmd).id.2;have eh:(nmdC ((z.1.branches).getD (j) dNmd)).length=33:=(AcL (hmt.keep hE) dNmd (hltj));refine gS (Z3 Fb Lj (by decide) dNmd (ZU (hmt.keep hE) ai) t (hltj) fun ei bw=>(gS (ZT (Aaa bw rfl) (Mt).choose_spec rfl (by rw[BA];exact Lk) (gS (AcH SK fun bb c6 ej bx bz el=> ?_)))));have x:=Acz c5;have em:=hE.size;have c7:=g.size;have y:=bx;clear bx;have en:bb<c6.heap.size:=by omega
    refine gS (Z0 M8 (vr (PQ bb 0) rfl) (vr (.agg (nmdC ((z.1.branches).getD (j) dNmd)).toArray) rfl) y (Ec) fun c8 b0 b1 eo=> ?_);clear y;have y:c8.heap[bb]? =some (.cells (nmdC ((z.1.branches).getD (j) dNmd)).toArray 94 (0,0)):=b0;clear b0;have ep:=bl y;clear bw;have x:=x.trans bz;have x:=Ad x b1 (Adu (Adw _) (by omega));have hb_j:=eb x hb_j;have ho_j:=AcU _ _ _ _ _ _ _ _ ho_j x;have hE:=hE.trans x;refine gS (Acy Hg rfl (gS (ZN E4 rfl rfl (Ac y (Eo ((z.1.branches).getD (j) dNmd))) (gS (Aaj Gh (caps:= #[PQ c 0]) m #[St ((((z.1.branches).getD (j) dNmd)).name),PQ c 0] (by simp only[AdH,AdK,AdO,Aei,Ad1,Ad9];exact congrArg Ad2 (Cj rfl rfl)) ((Gf w _ hE c (by omega) vb_j (((lsB z.1 i:Ai1)++AdU ((z.1.branches).length):Ai1)++(z.1.branches.take j).flatMap C3) hb_j (Z8 ho_j) ((((z.1.branches).getD (j) dNmd)).name) (by(try simp only[Adx,AdJ,AdQ]);omega)).mono ?_))))));rintro e eq ⟨c9,rfl,b2,ap,aq⟩;refine⟨_,rfl,?_⟩;have f:=eb x f;have ap:=AN ap hE.size;clear hb_j;clear ho_j;have hb_j:=b2;clear b2;have er:=bl hb_j;have hE:=Ad hE aq (Adu q (by omega));have y:=kb aq y (by omega);refine gS (Acy PC rfl (gS (ZT (AcN y (FY ((z.1.branches).getD (j) dNmd)) (FZ ((z.1.branches).getD (j) dNmd)) rfl) WA rfl (As (((z.1.branches).getD (j) dNmd)).id.2) (gS (Aaj Gi (caps:= #[PQ c 0]) o #[AB ((((z.1.branches).getD (j) dNmd)).id.1),PQ c 0] (by simp only[AdH,AdK,AdO,Aei,Ad1,Ad9];exact congrArg Ad2 (Cj rfl rfl)) ((Gg w _ hE c (by omega) c9 ((((lsB z.1 i:Ai1)++AdU ((z.1.branches).length):Ai1)++(z.1.branches.take j).flatMap C3:Ai1)++AL ((((z.1.branches).getD (j) dNmd)).name)) hb_j (Z8 ap) ((((z.1.branches).getD (j) dNmd)).id) (by(try simp only[Adx,AdJ,AdQ]);omega)).mono ?_))))));rintro e es ⟨bc,rfl,b3,al,bd⟩;refine⟨_,rfl,?_⟩;have f:=kb aq f (by omega);have da:OB bc l:=Bk al (bl f);have db:OB bc c:=Bk al (bl hb_j);have al:=AN al hE.size;clear hb_j;clear ap;have hb_j:=b3;clear b3;have et:=bl hb_j;have g:=g.trans bz;have g:=Ad g b1 (Adu c7 (by omega));have g:=Ad g aq (Adu (Adw _) (by omega));have g:=Ad g bd (Adu (Adw _) (by omega));have hE:=Ad hE bd (Adu q (by omega));have f:=kb bd f (by omega);refine gS (ZV (xv:=NI j) (yv:=NI 1) t rfl rfl (AF _ _ _ (by omega)) (gK (Aem ⟨j+1,bc,s,T1,T2,T3,T4,T5,m,o,T9,r,p,ai,aj,rfl,hE,f,g,hb_j,D7 al (by rw[EH dNmd hltj];simp only[C3,AdW]),by omega,da,db,trivial⟩ ?_)));show z.1.branches.length-(intOf (NI ((j)+(1)))).toNat<z.1.branches.length-(intOf (c4 34)).toNat;rw[q34];simp only[intOf,AdV];omega
   have hje:j=z.1.branches.length:=by omega
   refine gS (ZV (xv:=NI i) (yv:=NI 1) p rfl rfl (AF _ _ _ (by omega)) (gK (Aem ⟨i+1,vb_j,s,T1,T2,T3,T4,T5,m,o,r,rfl,hE,f,g,hb_j,D7 ho_j (by rw[WB h0,WC (show i+1=1 by omega),hje,Ae4];simp[EU]),by omega,hap_n2j,hap_n16j,trivial⟩ ?_)));show 2-(intOf (NI ((i)+(1)))).toNat<2-(intOf (bu 25)).toNat;rw[q25];simp only[intOf,AdV];omega
  have c1:=Cc (n:=z.1.tags.length) (by have:=hR.tl;omega);refine gS (Abl (VX (Adh (hmt.keep hE)) (Adh (hmg.keep hE))) r ((show _=NI i from p).trans (by rw[h0])) (gS (ZZ Fb (ZU (hmg.keep hE) rfl) (gS (Aaj JC (caps:= #[PQ c 0]) T5 #[NI ((z.1.tags).length),PQ c 0] (by simp only[AdH,AdK,AdO,Aei,Ad1,Ad9];exact congrArg Ad2 (Cj rfl rfl)) ((JB w _ hE c (by omega) vb_i (lsB z.1 i) hb_i (Z8 ho_i) ((z.1.tags).length) (by(try simp only[Adx,AdJ,AdQ]);omega) (by omega)).mono ?_))))));rintro e eu ⟨be,rfl,b4,af,bf⟩;refine⟨_,rfl,?_⟩;have dc:OB be l:=Bk af (bl f);have dd:OB be c:=Bk af (bl hb_i);have af:=AN af hE.size;clear hb_i;clear ho_i;have hb_i:=b4;clear b4;have ew:=bl hb_i;have hE:=Ad hE bf (Adu q (by omega));have f:=kb bf f (by omega);have g:=Ad g bf (Adu (Adw _) (by omega));refine gS (ZZ Fb (ZU (hmg.keep hE) rfl) (gL (fun(ρ:Aj) (wz:Ads)=>∃j:Nat,∃vb_j:Adr,ρ 0=(.agg (refsC z).toArray:Adr)/\ρ 1=(PQ l 0:Adr)/\ρ 2=((AdI none 0 0):Adr)/\ρ 3=(NI 0:Adr)/\ρ 4=(PQ c 0:Adr)/\ρ 5=(.func (.func 55) #[] #[PQ c 0]:Adr)/\ρ 6=(.func (.func 57) #[] #[PQ c 0]:Adr)/\ρ 7=(.func (.func 59) #[] #[PQ c 0]:Adr)/\ρ 9=(z.2.tags:Adr)/\ρ 24=(.agg #[z.2.branches,z.2.tags]:Adr)/\ρ 25=(NI i:Adr)/\ρ 32=(z.2.tags:Adr)/\ρ 33=(NI ((z.1.tags).length):Adr)/\ρ 34=(NI j:Adr)/\Ext w wz/\wz.heap[l]? =some (.cells (refsC z).toArray 36 (0,0))/\Ext ao wz/\wz.heap[c]? =some (.cells ([vb_j]).toArray 43 (0,0))/\wz.ownsRow w.heap.size 5 1 vb_j (((lsB z.1 i:Ai1)++AdU ((z.1.tags).length):Ai1)++(z.1.tags.take j).flatMap C3:Ai1).length (Adv (((lsB z.1 i:Ai1)++AdU ((z.1.tags).length):Ai1)++(z.1.tags.take j).flatMap C3))/\(j<=z.1.tags.length)/\(OB vb_j l)/\(OB vb_j c)/\True) (fun ρ _=>z.1.tags.length-(intOf (ρ 34)).toNat) ⟨0,be,s,T1,T2,T3,T4,T5,m,o,rfl,r,p,rfl,rfl,rfl,hE,f,g,hb_i,D7 af (by simp),AdN _,dc,dd,trivial⟩ ?_));clear hb_i;clear af;clear hE f g;rintro de df ⟨j,vb_j,s,T1,T2,T3,T4,T5,m,o,T9,r,p,ai,aj,t,hE,f,g,hb_j,ho_j,hij,hap_n2j,hap_n16j,-⟩;have q34:=t;have hglj:=(bl hb_j);refine gS (ZO (a:=(j:Nat)) (b:=((z.1.tags).length:Nat)) t aj (Bg _ _ _ _) ?_);refine cD rfl (fun ak=> ?_) fun ak=> ?_
  ·have hltj:j<z.1.tags.length:=ak;have hnl:=hR.tn _ (Cq dNmd hltj);have htl:=BY hnl (by omega);have hfl:=Oq hR.tl hR.tn j;have hidl:(z.1.tags.getD j dNmd).id.1.length=32:=(z.1.tags.getD j dNmd).id.2;have ex:(nmdC ((z.1.tags).getD (j) dNmd)).length=33:=(AcL (hmg.keep hE) dNmd (hltj));refine gS (Z3 Fb Lj (by decide) dNmd (ZU (hmg.keep hE) ai) t (hltj) fun ey b5=>(gS (ZT (Aaa b5 rfl) (Mt).choose_spec rfl (by rw[BA];exact Lk) (gS (AcH SK fun bg dg ez b6 b7 e0=> ?_)))));have aa:=Acz df;have e1:=hE.size;have dh:=g.size;have ab:=b6;clear b6;have e2:bg<dg.heap.size:=by omega
   refine gS (Z0 M8 (vr (PQ bg 0) rfl) (vr (.agg (nmdC ((z.1.tags).getD (j) dNmd)).toArray) rfl) ab (Ec) fun di b8 b9 e3=> ?_);clear ab;have ab:di.heap[bg]? =some (.cells (nmdC ((z.1.tags).getD (j) dNmd)).toArray 94 (0,0)):=b8;clear b8;have e4:=bl ab;clear b5;have aa:=aa.trans b7;have aa:=Ad aa b9 (Adu (Adw _) (by omega));have hb_j:=eb aa hb_j;have ho_j:=AcU _ _ _ _ _ _ _ _ ho_j aa;have hE:=hE.trans aa;refine gS (Acy Hg rfl (gS (ZN E4 rfl rfl (Ac ab (Eo ((z.1.tags).getD (j) dNmd))) (gS (Aaj Gh (caps:= #[PQ c 0]) m #[St ((((z.1.tags).getD (j) dNmd)).name),PQ c 0] (by simp only[AdH,AdK,AdO,Aei,Ad1,Ad9];exact congrArg Ad2 (Cj rfl rfl)) ((Gf w _ hE c (by omega) vb_j (((lsB z.1 i:Ai1)++AdU ((z.1.tags).length):Ai1)++(z.1.tags.take j).flatMap C3) hb_j (Z8 ho_j) ((((z.1.tags).getD (j) dNmd)).name) (by(try simp only[Adx,AdJ,AdQ]);omega)).mono ?_))))));rintro e e5 ⟨dj,rfl,ca,ar,au⟩;refine⟨_,rfl,?_⟩;have f:=eb aa f;have ar:=AN ar hE.size;clear hb_j;clear ho_j;have hb_j:=ca;clear ca;have e6:=bl hb_j;have hE:=Ad hE au (Adu q (by omega));have ab:=kb au ab (by omega);refine gS (Acy PC rfl (gS (ZT (AcN ab (FY ((z.1.tags).getD (j) dNmd)) (FZ ((z.1.tags).getD (j) dNmd)) rfl) WA rfl (As (((z.1.tags).getD (j) dNmd)).id.2) (gS (Aaj Gi (caps:= #[PQ c 0]) o #[AB ((((z.1.tags).getD (j) dNmd)).id.1),PQ c 0] (by simp only[AdH,AdK,AdO,Aei,Ad1,Ad9];exact congrArg Ad2 (Cj rfl rfl)) ((Gg w _ hE c (by omega) dj ((((lsB z.1 i:Ai1)++AdU ((z.1.tags).length):Ai1)++(z.1.tags.take j).flatMap C3:Ai1)++AL ((((z.1.tags).getD (j) dNmd)).name)) hb_j (Z8 ar) ((((z.1.tags).getD (j) dNmd)).id) (by(try simp only[Adx,AdJ,AdQ]);omega)).mono ?_))))));rintro e e7 ⟨bh,rfl,cb,am,bi⟩;refine⟨_,rfl,?_⟩;have f:=kb au f (by omega);have dk:OB bh l:=Bk am (bl f);have dl:OB bh c:=Bk am (bl hb_j);have am:=AN am hE.size;clear hb_j;clear ar;have hb_j:=cb;clear cb;have e8:=bl hb_j;have g:=g.trans b7;have g:=Ad g b9 (Adu dh (by omega));have g:=Ad g au (Adu (Adw _) (by omega));have g:=Ad g bi (Adu (Adw _) (by omega));have hE:=Ad hE bi (Adu q (by omega));have f:=kb bi f (by omega);refine gS (ZV (xv:=NI j) (yv:=NI 1) t rfl rfl (AF _ _ _ (by omega)) (gK (Aem ⟨j+1,bh,s,T1,T2,T3,T4,T5,m,o,T9,r,p,ai,aj,rfl,hE,f,g,hb_j,D7 am (by rw[EH dNmd hltj];simp only[C3,AdW]),by omega,dk,dl,trivial⟩ ?_)));show z.1.tags.length-(intOf (NI ((j)+(1)))).toNat<z.1.tags.length-(intOf (de 34)).toNat;rw[q34];simp only[intOf,AdV];omega
  have hje:j=z.1.tags.length:=by omega
  refine gS (ZV (xv:=NI i) (yv:=NI 1) p rfl rfl (AF _ _ _ (by omega)) (gK (Aem ⟨i+1,vb_j,s,T1,T2,T3,T4,T5,m,o,r,rfl,hE,f,g,hb_j,D7 ho_j (by rw[WC h0,WD (show i+1=2 by omega),hje,Ae4];simp only[EU,AdW]),by omega,hap_n2j,hap_n16j,trivial⟩ ?_)));show 2-(intOf (NI ((i)+(1)))).toNat<2-(intOf (bu 25)).toNat;rw[q25];simp only[intOf,AdV];omega
 have hie:i=2:=by omega
 have hll:=Qk hR i;have hhd:=hR.hd;have htl:=BY hhd (by omega);have hul:=Cc (n:=z.1.log.length) (by have:=hR.ll;omega);have hal:z.1.at_.1.length=32:=z.1.at_.2;refine gS (Acy Hh T1 (gS (ZN E4 rfl rfl (Ac f (Cw z)) (gS (Aaj Gh (caps:= #[PQ c 0]) m #[St (z.1.head),PQ c 0] (by simp only[AdH,AdK,AdO,Aei,Ad1,Ad9];exact congrArg Ad2 (Cj rfl rfl)) ((Gf w _ hE c (by omega) vb_i (lsB z.1 i) hb_i (Z8 ho_i) z.1.head (by(try simp only[Adx,AdJ,AdQ]);omega)).mono ?_))))));rintro e e9 ⟨dm,rfl,cc,av,cd⟩;refine⟨_,rfl,?_⟩;have av:=AN av hE.size;clear hb_i;clear ho_i;have hb_i:=cc;clear cc;have fa:=bl hb_i;have hE:=Ad hE cd (Adu q (by omega));have f:=kb cd f (by omega);refine gS (Acy Ka T1 (gS (ZT (AcN f (Cx z) (CH z) rfl) WA rfl (As z.1.at_.2) (gS (Aaj Gi (caps:= #[PQ c 0]) o #[AB z.1.at_.1,PQ c 0] (by simp only[AdH,AdK,AdO,Aei,Ad1,Ad9];exact congrArg Ad2 (Cj rfl rfl)) ((Gg w _ hE c (by omega) dm ((lsB z.1 i:Ai1)++AL z.1.head) hb_i (Z8 av) z.1.at_ (by(try simp only[Adx,AdJ,AdQ]);omega)).mono ?_))))));rintro e fb ⟨dn,rfl,ce,aw,cf⟩;refine⟨_,rfl,?_⟩;have aw:=AN aw hE.size;clear hb_i;clear av;have hb_i:=ce;clear ce;have fc:=bl hb_i;have hE:=Ad hE cf (Adu q (by omega));have f:=kb cf f (by omega);refine gS (Acy J9 T1 (gS (ZN F4 rfl rfl (Ac f (Bv z)) (gS (ZZ F4 (ZU (hml.keep hE) rfl) (gS (Aaj JC (caps:= #[PQ c 0]) T5 #[NI ((z.1.log).length),PQ c 0] (by simp only[AdH,AdK,AdO,Aei,Ad1,Ad9];exact congrArg Ad2 (Cj rfl rfl)) ((JB w _ hE c (by omega) dn (((lsB z.1 i:Ai1)++AL z.1.head:Ai1)++z.1.at_.1) hb_i (Z8 aw) ((z.1.log).length) (by(try simp only[Adx,AdJ,AdQ]);omega) (by omega)).mono ?_))))))));rintro e fd ⟨bj,rfl,cg,ag,ch⟩;refine⟨_,rfl,?_⟩;have dp:OB bj l:=Bk ag (bl f);have dq:OB bj c:=Bk ag (bl hb_i);have ag:=AN ag hE.size;clear hb_i;clear aw;have hb_i:=cg;clear cg;have fe:=bl hb_i;have hE:=Ad hE ch (Adu q (by omega));have f:=kb ch f (by omega);refine gS (Acy J9 T1 (gS (ZN F4 rfl rfl (Ac f (Bv z)) (gS (ZZ F4 (ZU (hml.keep hE) rfl) (gL (fun(ρ:Aj) (wz:Ads)=>∃k:Nat,∃vb_k:Adr,ρ 0=(.agg (refsC z).toArray:Adr)/\ρ 1=(PQ l 0:Adr)/\ρ 2=((AdI none 0 0):Adr)/\ρ 3=(NI 0:Adr)/\ρ 4=(PQ c 0:Adr)/\ρ 5=(.func (.func 55) #[] #[PQ c 0]:Adr)/\ρ 6=(.func (.func 57) #[] #[PQ c 0]:Adr)/\ρ 7=(.func (.func 59) #[] #[PQ c 0]:Adr)/\ρ 24=(.agg #[z.2.branches,z.2.tags]:Adr)/\ρ 25=(NI i:Adr)/\ρ 62=(z.2.log:Adr)/\ρ 63=(NI ((z.1.log).length):Adr)/\ρ 64=(NI k:Adr)/\Ext w wz/\wz.heap[l]? =some (.cells (refsC z).toArray 36 (0,0))/\wz.heap[c]? =some (.cells ([vb_k]).toArray 43 (0,0))/\wz.ownsRow w.heap.size 5 1 vb_k (((((lsB z.1 i:Ai1)++AL z.1.head:Ai1)++z.1.at_.1:Ai1)++AdU ((z.1.log).length):Ai1)++(z.1.log.take k).flatMap CK:Ai1).length (Adv (((((lsB z.1 i:Ai1)++AL z.1.head:Ai1)++z.1.at_.1:Ai1)++AdU ((z.1.log).length):Ai1)++(z.1.log.take k).flatMap CK))/\(k<=z.1.log.length)/\(OB vb_k l)/\(OB vb_k c)/\True) (fun ρ _=>z.1.log.length-(intOf (ρ 64)).toNat) ⟨0,bj,s,T1,T2,T3,T4,T5,m,o,r,p,rfl,rfl,rfl,hE,f,hb_i,D7 ag (by simp),AdN _,dp,dq,trivial⟩ ?_))))));clear g;clear hb_i;clear ag;clear hE f;rintro dr ds ⟨k,vb_k,s,T1,T2,T3,T4,T5,m,o,r,p,ci,cj,ax,hE,f,hb_k,ho_k,hik,hap_n2k,hap_n16k,-⟩;have q64:=ax;have hglk:=(bl hb_k);refine gS (ZO (a:=(k:Nat)) (b:=((z.1.log).length:Nat)) ax cj (Bg _ _ _ _) ?_);refine cD rfl (fun ck=> ?_) fun ck=> ?_
 ·have hltk:k<z.1.log.length:=ck;have hnn:=hR.ln _ (Cq Ap hltk);have hkn:=hnn.1;have hkm:=hnn.2;have ht1:=BY hkn (by omega);have ht2:=BY hkm (by omega);have hfl:=Ot hR k;have hol:(z.1.log.getD k Ap).old.1.length=32:=(z.1.log.getD k Ap).old.2;have hnl:(z.1.log.getD k Ap).new.1.length=32:=(z.1.log.getD k Ap).new.2;have ff:(entC ((z.1.log).getD (k) Ap)).length=67:=(AcL (hml.keep hE) Ap (hltk));refine gS (Z3 F4 QY (by decide) Ap (ZU (hml.keep hE) ci) ax (hltk) fun fg cl=>(gS (ZT (Aaa cl rfl) (Mw).choose_spec rfl (by rw[CZ];exact Ll) (gS (AcH SM fun ay dt fh cm du fi=> ?_)))));have u:=Acz ds;have fj:=hE.size;have dv:OB vb_k ay:=Cf ho_k (by omega);have h:=cm;clear cm;have fk:ay<dt.heap.size:=by omega
  refine gS (Z0 Uj (vr (PQ ay 0) rfl) (vr (.agg (entC ((z.1.log).getD (k) Ap)).toArray) rfl) h (Gw) fun dw cn dx fl=> ?_);clear h;have h:dw.heap[ay]? =some (.cells (entC ((z.1.log).getD (k) Ap)).toArray 97 (0,0)):=cn;clear cn;have fm:=bl h;clear cl;have u:=u.trans du;have u:=Ad u dx (Adu (Adw _) (by omega));have hb_k:=eb u hb_k;refine gS (ZN Hv rfl T4 (Ac hb_k rfl) (gS (Acy Kb rfl (gS (Acy PF rfl (gS (ZN u5 rfl rfl (Ac h (So ((z.1.log).getD (k) Ap))) (gS (AbL (b:=(((z.1.log).getD (k) Ap)).kind) Ug (vr (B8 ((((z.1.log).getD (k) Ap)).kind)) rfl) fun co dy ad=> ?_)))))))));have hE:=hE.trans u;have fn:=hE.size;have fo:=u.size;have f:=eb u f;have ho_k:=AcU _ _ _ _ _ _ _ _ ho_k u;have dz:C9 vb_k co:=Li ho_k ad.own;have az:=ad.own;have hE:=hE.trans ad.ext;have ho_k:=AcU _ _ _ _ _ _ _ _ ho_k ad.ext;refine gS (AaA _ _ w.heap.size (.int .u8 0) Hv QE rfl Hv (((((lsB z.1 i:Ai1)++AL z.1.head:Ai1)++z.1.at_.1:Ai1)++AdU ((z.1.log).length):Ai1)++(z.1.log.take k).flatMap CK) ([((((z.1.log).getD (k) Ap)).kind:UInt8)]) (Hu ho_k (vr vb_k rfl)) (Aaf (Z8 az) (vr co rfl)) (by(try simp only[Adx,AdJ,AdQ]);omega) hE.size fun a0 d0 ah ac=> ?_);have ac:Grew dy d0 vb_k a0:=ac;have f:=eb ad.ext f;have hb_k:=eb ad.ext hb_k;have d1:OB a0 c:=Cp ac hap_n16k (bl hb_k);have h:=eb ad.ext h;have hE:=Bz hE ac ho_k (Adw _);have f:=A0 f ac hap_n2k;have hb_k:=A0 hb_k ac hap_n16k;have h:=A0 h ac dv;have az:=KF az ac dz;clear ho_k;refine gS (ZS (i:=0) (v:=a0) T4 rfl hb_k (AdD rfl) M0 (CY ah).1 (CY ah).2 fun fp cp a1 fq=> ?_);clear hb_k;have hb_k:=cp;clear cp;have fr:=bl hb_k;clear az;have hE:=Ad hE a1 (Adu q (by omega));have h:=kb a1 h (by omega);have ah:=E2 ah a1 d1;refine gS (Acy Kb rfl (gS (Acy PH rfl (gS (ZN E4 rfl rfl (Ac h (Sp ((z.1.log).getD (k) Ap))) (gS (Aaj Gh (caps:= #[PQ c 0]) m #[St ((((z.1.log).getD (k) Ap)).name),PQ c 0] (by simp only[AdH,AdK,AdO,Aei,Ad1,Ad9];exact congrArg Ad2 (Cj rfl rfl)) ((Gf w _ hE c (by omega) a0 (((((lsB z.1 i:Ai1)++AL z.1.head:Ai1)++z.1.at_.1:Ai1)++AdU ((z.1.log).length):Ai1)++(z.1.log.take k).flatMap CK++ [((((z.1.log).getD (k) Ap)).kind:UInt8)]) hb_k (Z8 ah) ((((z.1.log).getD (k) Ap)).name) (by(try simp only[Adx,AdJ,AdQ]);omega)).mono ?_))))))));rintro e fs ⟨d2,rfl,cq,a2,bk⟩;refine⟨_,rfl,?_⟩;have f:=kb a1 f (by omega);have a2:=AN a2 hE.size;clear ah;clear hb_k;have hb_k:=cq;clear cq;have ft:=bl hb_k;have hE:=Ad hE bk (Adu q (by omega));have h:=kb bk h (by omega);refine gS (Acy Kb rfl (gS (Acy Kc rfl (gS (ZT (AcN h (NV ((z.1.log).getD (k) Ap)) (Sq ((z.1.log).getD (k) Ap)) rfl) WA rfl (As (((z.1.log).getD (k) Ap)).old.2) (gS (Aaj Gi (caps:= #[PQ c 0]) o #[AB ((((z.1.log).getD (k) Ap)).old.1),PQ c 0] (by simp only[AdH,AdK,AdO,Aei,Ad1,Ad9];exact congrArg Ad2 (Cj rfl rfl)) ((Gg w _ hE c (by omega) d2 ((((((lsB z.1 i:Ai1)++AL z.1.head:Ai1)++z.1.at_.1:Ai1)++AdU ((z.1.log).length):Ai1)++(z.1.log.take k).flatMap CK++ [((((z.1.log).getD (k) Ap)).kind:UInt8)]:Ai1)++AL ((((z.1.log).getD (k) Ap)).name)) hb_k (Z8 a2) ((((z.1.log).getD (k) Ap)).old) (by(try simp only[Adx,AdJ,AdQ]);omega)).mono ?_))))))));rintro e fu ⟨d3,rfl,cr,a3,bm⟩;refine⟨_,rfl,?_⟩;have f:=kb bk f (by omega);have a3:=AN a3 hE.size;clear hb_k;clear a2;have hb_k:=cr;clear cr;have fv:=bl hb_k;have hE:=Ad hE bm (Adu q (by omega));have h:=kb bm h (by omega);refine gS (Acy Kb rfl (gS (Acy Kd rfl (gS (ZT (AcN h (NW ((z.1.log).getD (k) Ap)) (Sr ((z.1.log).getD (k) Ap)) rfl) WA rfl (As (((z.1.log).getD (k) Ap)).new.2) (gS (Aaj Gi (caps:= #[PQ c 0]) o #[AB ((((z.1.log).getD (k) Ap)).new.1),PQ c 0] (by simp only[AdH,AdK,AdO,Aei,Ad1,Ad9];exact congrArg Ad2 (Cj rfl rfl)) ((Gg w _ hE c (by omega) d3 (((((((lsB z.1 i:Ai1)++AL z.1.head:Ai1)++z.1.at_.1:Ai1)++AdU ((z.1.log).length):Ai1)++(z.1.log.take k).flatMap CK++ [((((z.1.log).getD (k) Ap)).kind:UInt8)]:Ai1)++AL ((((z.1.log).getD (k) Ap)).name):Ai1)++((((z.1.log).getD (k) Ap)).old).1) hb_k (Z8 a3) ((((z.1.log).getD (k) Ap)).new) (by(try simp only[Adx,AdJ,AdQ]);omega)).mono ?_))))))));rintro e fw ⟨d4,rfl,cs,a4,bo⟩;refine⟨_,rfl,?_⟩;have f:=kb bm f (by omega);have a4:=AN a4 hE.size;clear hb_k;clear a3;have hb_k:=cs;clear cs;have fx:=bl hb_k;have hE:=Ad hE bo (Adu q (by omega));have h:=kb bo h (by omega);refine gS (Acy PG rfl (gS (ZN E4 rfl rfl (Ac h (HC ((z.1.log).getD (k) Ap))) (gS (Aaj Gh (caps:= #[PQ c 0]) m #[St ((((z.1.log).getD (k) Ap)).note),PQ c 0] (by simp only[AdH,AdK,AdO,Aei,Ad1,Ad9];exact congrArg Ad2 (Cj rfl rfl)) ((Gf w _ hE c (by omega) d4 ((((((((lsB z.1 i:Ai1)++AL z.1.head:Ai1)++z.1.at_.1:Ai1)++AdU ((z.1.log).length):Ai1)++(z.1.log.take k).flatMap CK++ [((((z.1.log).getD (k) Ap)).kind:UInt8)]:Ai1)++AL ((((z.1.log).getD (k) Ap)).name):Ai1)++((((z.1.log).getD (k) Ap)).old).1:Ai1)++((((z.1.log).getD (k) Ap)).new).1) hb_k (Z8 a4) ((((z.1.log).getD (k) Ap)).note) (by(try simp only[Adx,AdJ,AdQ]);omega)).mono ?_))))));rintro e fy ⟨bp,rfl,ct,an,cu⟩;refine⟨_,rfl,?_⟩;have f:=kb bo f (by omega);have d5:OB bp l:=Bk an (bl f);have d6:OB bp c:=Bk an (bl hb_k);have an:=AN an hE.size;clear hb_k;clear a4;have hb_k:=ct;clear ct;have fz:=bl hb_k;have hE:=Ad hE cu (Adu q (by omega));have f:=kb cu f (by omega);refine gS (ZV (xv:=NI k) (yv:=NI 1) ax rfl rfl (AF _ _ _ (by omega)) (gK (Aem ⟨k+1,bp,s,T1,T2,T3,T4,T5,m,o,r,p,ci,cj,rfl,hE,f,hb_k,D7 an (by rw[EH Ap hltk];simp only[CK,AdW]),by omega,d5,d6,trivial⟩ ?_)));show z.1.log.length-(intOf (NI ((k)+(1)))).toNat<z.1.log.length-(intOf (dr 64)).toNat;rw[q64];simp only[intOf,AdV];omega
 have hke:k=z.1.log.length:=by omega
 refine gS (ZN Hv rfl T4 (Ac hb_k rfl) (Ei rfl (vr vb_k rfl) (vr (NI 0) rfl) ?_));have hen:((((lsB z.1 i:Ai1)++AL z.1.head:Ai1)++z.1.at_.1:Ai1)++AdU ((z.1.log).length):Ai1)++(z.1.log.take k).flatMap CK=Ee z.1:=by rw[WD hie,hke,Ae4];simp only[Ee,AdW]
 exact⟨vb_k,by rw[hrt];rfl,by rw[hrt,if_pos rfl,<-hen];exact Z8 ho_k,hE⟩
section
variable {wb w w' : Ads} {g gj : Nat} {H H' : Dk} {D D' : Ak}
theorem DkX.box(hX:DkX wb w g gj H D w' H' D')(hD:DkG wb w g H D){cj:Array Adr}{fj:Nat × Nat}(hj:w.heap[gj]? =some (.cells cj 84 fj)){b:Nat}{cs:Array Adr}{t:Ady}{fr:Nat × Nat}(hb:w.heap[b]? =some (.cells cs t fr))(h1:t≠82)(h2:t≠120)(h3:t≠5)(h4:t≠113)(h5:t≠84):w'.heap[b]? =some (.cells cs t fr):=
 (hX.chg.blk b (bl hb) fun q=>q.elim (hD.st.offT hb h1 h2 h3 h4) fun e=>by
  subst e;rw[hj]at hb;cases hb;exact h5 rfl).trans hb
theorem DkX.og(hX:DkX wb w g gj H D w' H' D')(hD:DkG wb w g H D){cj:Array Adr}{fj:Nat × Nat}(hj:w.heap[gj]? =some (.cells cj 84 fj)){α:Type}{b k:Nat}{t:Ady}{enc:α->List Adr}{v:Adr}{l:List α}(hr:OG b t k enc w v l)(h1:t≠82)(h2:t≠120)(h3:t≠5)(h4:t≠113)(h5:t≠84):OG b t k enc w' v l:=by
 refine⟨hr.1,Dl hX.chg hr.2 fun i hi q=> ?_⟩;have ht:=Fe hr.2 hi;rcases q with q | q
 ·rcases(hD.st.foot q).1 with ⟨es,c,e⟩ | ⟨cs,t',fr,e,ht'⟩
  ·unfold CV at ht;rw[e]at ht;cases ht
  ·have:=Bu e;rw[this]at ht;have ht:t' =t:=by simpa using ht
   subst ht;rcases ht' with q | q | q | q
   ·exact h1 q
   ·exact h2 q
   ·exact h3 q
   ·exact h4 q
 ·subst q;rw[Bu hj]at ht;exact h5 (by simpa using ht.symm)
theorem RefsOw.chgX{b:Nat}{z:Af}(h:RefsOw b w z)(hX:DkX wb w g gj H D w' H' D')(hD:DkG wb w g H D){cj:Array Adr}{fj:Nat × Nat}(hj:w.heap[gj]? =some (.cells cj 84 fj)):RefsOw b w' z:=
 ⟨hX.og hD hj h.br (by decide) (by decide) (by decide) (by decide) (by decide),hX.og hD hj h.tg (by decide) (by decide) (by decide) (by decide) (by decide),hX.og hD hj h.lg (by decide) (by decide) (by decide) (by decide) (by decide)⟩
def OffJ(H:Dk)(n gj:Nat)(w:Ads)(v:Adr):Prop:=∀i,v.ownBlock=some i->i<w.heap.size/\¬B7 H n i/\i≠gj
theorem OffJ.keep{n:Nat}{v:Adr}(h:OffJ H n gj w v)(k:Ext w w'):OffJ H n gj w' v:=fun i hi=>⟨AeS (h i hi).1 k.size,(h i hi).2⟩
theorem OffJ.set{n x:Nat}{v:Adr}(h:OffJ H n gj w v)(k:w.grownBy w' (some x)):OffJ H n gj w' v:=fun i hi=>⟨AeS (h i hi).1 k.size,(h i hi).2⟩
abbrev Adi:=@OffJ.set
theorem OffJ.step{v:Adr}(h:OffJ H D.files.length gj w v)(hX:DkX wb w g gj H D w' H' D'):OffJ H' D'.files.length gj w' v:=fun i hi=>by
 obtain⟨h1,h2,h3⟩:=h i hi;exact⟨AeS h1 hX.chg.size,fun q=>(hX.foot i q).elim h2 fun q=>by omega,h3⟩
theorem OffJ.rb{v:Adr}{l:Ai1}(h:OffJ H D.files.length gj w v)(hX:DkX wb w g gj H D w' H' D')(hr:RB w v l):RB w' v l:=hr.chg hX.chg (.inr fun i hi q=>q.elim (h i hi).2.1 (h i hi).2.2)
theorem OffJ.new{w0:Ads}{v:Adr}{n:Nat}{xs:List Adr}{e:Ady}{s:Nat}(hD:DkG wb w0 g H D)(hr:w.ownsRow w0.heap.size e s v n xs)(hg:gj<w0.heap.size):OffJ H D.files.length gj w v:=fun i hi=>by
 have h1:=hr.lt i hi;exact⟨h1.2,fun q=>by have:=(hD.st.foot q).2.1;omega,by omega⟩
theorem OffJ.off{n:Nat}{v:Adr}(h:OffJ H n gj w v):∀i,v.ownBlock=some i->¬B7 H n i:=fun i hi=>(h i hi).2.1
end
theorem FJ{w:Ads}{gj g n e:Nat}{z:Af}{t l:Bool}{ty:Ady}{fr:Nat × Nat}(h:w.heap[gj]? =some (.cells (BP g z n t (l||decide (e=9))).toArray ty fr))(he:e≠9):w.heap[gj]? =some (.cells (BP g z n t l).toArray ty fr):=by
 rw[decide_eq_false he,Ahj]at h;exact h
theorem PS(w:Ads)(z:Af)(hm:RefsAt w z)(hR:AA z.1=true):
  Calls Adt 22 #[.agg (refsC z).toArray] w fun e w' =>∃v,e = .returned (.tuple #[v,NI 0])/\RB w' v (Ee z.1)/\Ext w w' :=
 (PP w z hm (BS hR)).mono fun e w' h=>by
  obtain⟨v,rfl,h1,h2⟩:=h;rw[if_pos hR]at h1;exact⟨v,by rw[if_pos hR],h1,h2⟩
theorem D4{r:Au}(h:AA r=true):(wholeB r).length<=40010:=by
 have:=KI (k:=83) (KJ h) (by omega);unfold wholeB;omega
section
variable {D : Ak} {J : Jn}
theorem PT(h:(Bl D J.refs).2=8)(h2:(AP (Bl D J.refs).1 [.clear]).2≠0):AH D J=((AP (Bl D J.refs).1 [.clear]).1,Gu J (AP (Bl D J.refs).1 [.clear]).2,(AP (Bl D J.refs).1 [.clear]).2):=(if_pos h).trans (if_pos h2)
theorem OZ(h:(Bl D J.refs).2=8)(h2:¬(AP (Bl D J.refs).1 [.clear]).2≠0):AH D J=((AP (Bl D J.refs).1 [.clear]).1,J,8):=(if_pos h).trans (if_neg h2)
theorem RN(h:¬(Bl D J.refs).2=8)(h2:(Bl D J.refs).2≠0):AH D J=((Bl D J.refs).1,Gu J (Bl D J.refs).2,(Bl D J.refs).2):=(if_neg h).trans (if_pos h2)
theorem RO(h:¬(Bl D J.refs).2=8)(h2:¬(Bl D J.refs).2≠0)(h3:(DI (Bl D J.refs).1).2≠0):AH D J=((DI (Bl D J.refs).1).1,Gu J (DI (Bl D J.refs).1).2,(DI (Bl D J.refs).1).2):=(if_neg h).trans ((if_neg h2).trans (if_pos h3))
theorem PU(h:¬(Bl D J.refs).2=8)(h2:¬(Bl D J.refs).2≠0)(h3:¬(DI (Bl D J.refs).1).2≠0):AH D J=((DI (Bl D J.refs).1).1,⟨J.refs,(wholeB J.refs).length,false,J.lost⟩,0):=(if_neg h).trans ((if_neg h2).trans (if_neg h3))
end
theorem RP:Ax Adt 84 1 1:=fun b o w=>by simp[go_sem]
theorem VY:Plain Adt 22:=fun _ _=>by kernel_rfl
theorem VZ:Plain Adt 41:=fun _ _=>by kernel_rfl
theorem Xy(f0:Fn)(a0 c0:Array Adr)(f1:Fn)(a1 c1:Array Adr)(w:Ads):(Ad0 141 2 #[(0, .func f0 a0 c0),(1, .func f1 a1 c1)]).run Adt w = .ok (.slice (some ⟨w.heap.size,0,none⟩) 2 2) (w.alloc (.cells #[.func f0 a0 c0, .func f1 a1 c1] 50)):=by kernel_rfl
theorem KQ:Plain Adt 28:=fun _ _=>by kernel_rfl
theorem Xz(f0:Fn)(a0 c0:Array Adr)(w:Ads):(Ad0 141 1 #[(0, .func f0 a0 c0)]).run Adt w = .ok (.slice (some ⟨w.heap.size,0,none⟩) 1 1) (w.alloc (.cells #[.func f0 a0 c0] 50)):=by kernel_rfl
theorem XA(f0:Fn)(a0 c0:Array Adr)(f1:Fn)(a1 c1:Array Adr)(f2:Fn)(a2 c2:Array Adr)(w:Ads):(Ad0 141 3 #[(0, .func f0 a0 c0),(1, .func f1 a1 c1),(2, .func f2 a2 c2)]).run Adt w = .ok (.slice (some ⟨w.heap.size,0,none⟩) 3 3) (w.alloc (.cells #[.func f0 a0 c0, .func f1 a1 c1, .func f2 a2 c2] 50)):=by kernel_rfl
theorem RQ:Ax Adt 84 3 38:=fun b o w=>by simp[go_sem]
set_option maxHeartbeats 1600000
theorem M9(wb w:Ads)(g:Nat)(H:Dk)(D:Ak)(hD:DkG wb w g H D)(gj:Nat)(z:Af)(n:Nat)(t l:Bool)(hj:w.heap[gj]? =some (.cells (BP g z n t l).toArray 84 (0,0)))(hlo:wb.heap.size<=gj)(hz:RefsOw 0 w z)(hR:AA z.1=true)(m:Nat)(hB:DBd m D)(hm:m<=98000):
  Calls Adt 32 #[PQ gj 0] w fun e w' =>∃H',e = .returned (NI (AH D ⟨z.1,n,t,l⟩).2.2)/\DkX wb w g gj H D w' H' (AH D ⟨z.1,n,t,l⟩).1/\JnAt w' gj g (AH D ⟨z.1,n,t,l⟩).2.1 z:=by
 have hX:DkX wb w g gj H D w H D:= .ofExt hD (Acz w);have hwb:=hD.ext.size;have hel:=KJ hR;have hwl:=D4 hR;have hgl:=bl hj;have hbs1:∀a∈([.clear, .app nwN (wholeB z.1)]:List JA),∀s b,a = .app s b->b.length<=45000:=by
   intro a ha;simp only[Ad5,Aes,or_false]at ha;intro s b e;rcases ha with rfl | rfl <;> cases e
   omega
 refine gG (args:= [PQ gj 0]) Tryz.func32 rfl 55 rfl rfl ?_;have hE:=Acz w;refine gS (Aat (vr (PQ gj 0) rfl) rfl fun h w3 ba a2 af bg=> ?_);have bh:=AO (bl hj) ba;have hX:DkX wb w g gj H D w3 H (D):=(hX.keep af);have hz:RefsOw 0 w3 z:=(hz.keep af);have c:=a2;clear a2;have bi:h<w3.heap.size:=by omega
 have hj:=eb af hj;refine gS (ZN EB rfl rfl (Ac c rfl) (gS (AcA rfl (gS (Acy RP rfl (gS (ZT (Ab0 hj rfl) (MD).choose_spec rfl (by rw[An];exact Lr) (gS (ZP VY rfl ((PS _ z (hz).rd hR).mono ?_))))))))));rintro e al ⟨ag,rfl,am,ad⟩;refine⟨_,rfl,?_⟩;have hX:DkX wb w g gj H D al H (D):=(hX.keep ad);have hz:RefsOw 0 al z:=(hz.keep ad);refine gS (AcB (vs:= [ag,NI 0]) rfl rfl (gS (AcB (vs:= [ag,NI 0]) rfl rfl (gS (AcH Ui fun p an a3 a4 y bj=> ?_)))));have o:=Acz al;have hE:=hE.trans (af.trans ad);have bb:=hE.size;have hj:=eb ad hj;have bk:=AO (bl hj) a3;have c:=eb ad c;have bm:=AO (bl c) a3;have hX:DkX wb w g gj H D an H (D):=(hX.keep y);have hz:RefsOw 0 an z:=(hz.keep y);have f:=a4;clear a4;have bn:p<an.heap.size:=by omega
 have o:=o.trans y;refine gS (ZS (i:=0) (v:=ag) rfl rfl f (AdD rfl) M0 (Ado (am.keep o)).1 (Ado (am.keep o)).2 fun a5 a6 aa bo=> ?_);have hX:DkX wb w g gj H D a5 H (D):=AcX hX aa f (.inl (by omega)) (by omega) (by decide) (by decide) (by decide) (by decide) (by decide) (by decide);have hz:RefsOw 0 a5 z:=AcI hz aa f (by decide) (by decide);clear f;have f:=a6;clear a6;have bp:=bl f;refine gS (ZN Hv rfl rfl (Ac f rfl) ?_);have hE:=hE.trans y;have hE:=Ad hE aa (Adu bb (by omega));have o:=Ad o aa (Adu (Adw _) (by omega));have bq:=hE.size;have br:=o.size;have hXr:=hX;have hj:=eb y hj;have hj:=kb aa hj (by omega);have hjr:=hj;have bs:=(bl hj);have c:=eb y c;have c:=kb aa c (by omega);have bt:=(bl c);have bu:=(bl f);refine gS (ZR VZ rfl rfl ((LO _ 83 (.inl rfl) ag (Ee z.1) (am.keep o) (by omega)).mono ?_));rintro e ao ⟨k,rfl,ap,ae⟩;refine⟨_,rfl,?_⟩;have hX:DkX wb w g gj H D ao H (D):=(hX.keep ae);have hz:RefsOw 0 ao z:=(hz.keep ae);have hO:OffJ H (D).files.length gj ao k:=OffJ.new hXr.g ap (bl hjr);have j:=Z8 ap;have bc:OB k p:=fun q=>by have:=(ap.lt _ q).1;omega
 have f:=eb ae f;refine gS (ZS (i:=0) (v:=k) rfl rfl f (AdD rfl) M0 (Ado j).1 (Ado j).2 fun aq a7 ab bv=> ?_);have hX:DkX wb w g gj H D aq H (D):=AcX hX ab f (.inl (by omega)) (by omega) (by decide) (by decide) (by decide) (by decide) (by decide) (by decide);have hz:RefsOw 0 aq z:=AcI hz ab f (by decide) (by decide);have hO:OffJ H (D).files.length gj aq k:=Adi hO ab;clear f;have f:=a7;clear a7;have bw:=bl f;have c:=eb ae c;have c:=kb ab c (by omega);refine gS (Aac (vs:= #[PQ h 0,PQ p 0]) (by simp only[AdH,AdK,AdO];exact congrArg Ad2 (Cj (vr (PQ h 0) rfl) (vr (PQ p 0) rfl))) (gS (ZN EB rfl rfl (Ac c rfl) (gS (ZN EB rfl rfl (Ac c rfl) (gS (AaX (vr (PQ gj 0) rfl) (gS (AbA (vr (.func (.func 29) #[PQ gj 0] #[]) rfl) (vr (.func (.func 78) #[] #[PQ h 0,PQ p 0]) rfl) (fun w=>Xy _ _ _ _ _ _ w) fun b58 ar bx bd r bz=> ?_)))))))));have hX:DkX wb w g gj H D ar H (D):=(hX.keep r);have hz:RefsOw 0 ar z:=(hz.keep r);have hO:OffJ H (D).files.length gj ar k:=(hO.keep r);have hXc:=hX;have hj:=eb ae hj;have hj:=kb ab hj (by omega);have hj:=eb r hj;have hjc:=hj;have hzc:=hz;have c:=eb r c;have hb9c:=c;have f:=eb r f;have hb27c:=f;have hOc:=hO;have j:=RB.kept j ab (.inr bc);have j:=j.keep r;have hrc:=j;refine gS (ZR KQ rfl rfl ?_);refine(Jz wb _ g H D hXc.g gj z n t l hjc hlo b58 [.func (.func 29) #[PQ gj 0] #[], .func (.func 78) #[] #[PQ h 0,PQ p 0]] [.clear, .app nwN (wholeB z.1)] bd (YJ (show JaAt _ _ _ _ _ (.clear)from rfl) (show JaAt _ _ _ _ _ (.app nwN (wholeB z.1))from⟨_,h,p,k,rfl, .inl ⟨rfl,rfl⟩,c,f,j, .inr (hO).off,by omega⟩)) (m) hB (by simp only[AdJ,AdQ];omega) (by intro a ha;simp only[Ad5,Aes,or_false]at ha;intro s b e;rcases ha with rfl | rfl <;> cases e;omega)).mono ?_;rintro e b0 ⟨H64,rfl,hX65,hj66⟩;refine⟨_,rfl,?_⟩;have hX:=hXc.trans hX65;have hj:=hj66;have hz:=hzc.chgX hX65 hXc.g hjc;have c:=hX65.box hXc.g hjc hb9c (by decide) (by decide) (by decide) (by decide) (by decide);have f:=hX65.box hXc.g hjc hb27c (by decide) (by decide) (by decide) (by decide) (by decide);have j:=hOc.rb hX65 hrc;have hO:=hOc.step hX65;have b1:=bl c;have b2:=bl f;refine gS (ZO (a:=((AP D [.clear, .app nwN (wholeB z.1)]).2:Nat)) (b:=(8:Nat)) rfl rfl (AI _ _ _ _) ?_);refine cD rfl (fun au=> ?_) fun au=> ?_
 ·have he1:(Bl D z.1).2=8:=au;have hj:=FJ hj (by have he1:=he1;unfold Bl at he1;omega);refine gS (ZN EB rfl rfl (Ac c rfl) (gS (ZN EB rfl rfl (Ac c rfl) (gS (AaX (vr (PQ gj 0) rfl) (gS (Abz (vr (.func (.func 29) #[PQ gj 0] #[]) rfl) (fun w=>Xz _ _ _ w) fun b74 av b3 be ac b4=> ?_)))))));have hX:DkX wb w g gj H D av H64 ((AP D [.clear, .app nwN (wholeB z.1)]).1):=(hX.keep ac);have hz:RefsOw 0 av z:=(hz.keep ac);have hO:OffJ H64 ((AP D [.clear, .app nwN (wholeB z.1)]).1).files.length gj av k:=(hO.keep ac);have hXc:=hX;have hj:=eb ac hj;have hjc:=hj;have hzc:=hz;have c:=eb ac c;have hb9c:=c;have f:=eb ac f;have hb27c:=f;refine gS (ZR KQ rfl rfl ?_);refine(Jz wb _ g H64 ((AP D [.clear, .app nwN (wholeB z.1)]).1) hXc.g gj z n t l hjc hlo b74 [.func (.func 29) #[PQ gj 0] #[]] [.clear] be (jas1 (show JaAt _ _ _ _ _ (.clear)from rfl)) (m+300) (hB.jdo _ hbs1) (by simp only[AdJ,AdQ];omega) (by intro a ha;simp only[Ad5,Aes,or_false]at ha;intro s b e;rcases ha with rfl <;> cases e)).mono ?_;rintro e b5 ⟨H80,rfl,hX81,hj82⟩;refine⟨_,rfl,?_⟩;have hX:=hXc.trans hX81;have hj:=hj82;have hz:=hzc.chgX hX81 hXc.g hjc;have c:=hX81.box hXc.g hjc hb9c (by decide) (by decide) (by decide) (by decide) (by decide);have f:=hX81.box hXc.g hjc hb27c (by decide) (by decide) (by decide) (by decide) (by decide);have b6:=bl c;have b7:=bl f;refine gS (ZO (a:=((AP ((AP D [.clear, .app nwN (wholeB z.1)]).1) [.clear]).2:Nat)) (b:=(0:Nat)) rfl rfl (AX _ _ _ _) ?_);refine cD rfl (fun aw=> ?_) fun aw=> ?_
  ·have he2:(AP (Bl D z.1).1 [.clear]).2≠0:=aw;refine Az rfl (vr (NI ((AP ((AP D [.clear, .app nwN (wholeB z.1)]).1) [.clear]).2)) rfl) ?_;have hV:=PT (J:=⟨z.1,n,t,l⟩) he1 he2;exact⟨H80,by rw[hV] <;> rfl,by rw[hV];exact hX,by rw[hV];exact⟨hj,hz,rfl⟩⟩
  have he2:¬(AP (Bl D z.1).1 [.clear]).2≠0:=aw;have hj:=FJ hj (by have he2:=he2;unfold Bl at he2;omega);refine Az rfl (vr (NI 8) rfl) ?_;have hV:=OZ (J:=⟨z.1,n,t,l⟩) he1 he2;exact⟨H80,by rw[hV] <;> rfl,by rw[hV];exact hX,by rw[hV];exact⟨hj,hz,rfl⟩⟩
 have he1:¬(Bl D z.1).2=8:=au;refine gS (ZO (a:=((AP D [.clear, .app nwN (wholeB z.1)]).2:Nat)) (b:=(0:Nat)) rfl rfl (AX _ _ _ _) ?_);refine cD rfl (fun ax=> ?_) fun ax=> ?_
 ·have he2:(Bl D z.1).2≠0:=ax;refine Az rfl (vr (NI ((AP D [.clear, .app nwN (wholeB z.1)]).2)) rfl) ?_;have hV:=RN (J:=⟨z.1,n,t,l⟩) he1 he2;exact⟨H64,by rw[hV] <;> rfl,by rw[hV];exact hX,by rw[hV];exact⟨hj,hz,rfl⟩⟩
 have he2:¬(Bl D z.1).2≠0:=ax;have hj:=FJ hj (by have he2:=he2;unfold Bl at he2;omega);refine gS (ZN EB rfl rfl (Ac c rfl) (gS (Aac (vs:= #[PQ h 0]) (by simp only[AdH,AdK,AdO];exact congrArg Ad2 (FP (vr (PQ h 0) rfl))) (gS (Aac (vs:= #[PQ h 0]) (by simp only[AdH,AdK,AdO];exact congrArg Ad2 (FP (vr (PQ h 0) rfl))) (gS (Aac (vs:= #[PQ h 0]) (by simp only[AdH,AdK,AdO];exact congrArg Ad2 (FP (vr (PQ h 0) rfl))) (gS (Acn (vr (.func (.func 79) #[] #[PQ h 0]) rfl) (vr (.func (.func 80) #[] #[PQ h 0]) rfl) (vr (.func (.func 82) #[] #[PQ h 0]) rfl) (fun w=>XA _ _ _ _ _ _ _ _ _ w) fun b93 ay b8 bf u b9=> ?_)))))))));have hX:DkX wb w g gj H D ay H64 ((AP D [.clear, .app nwN (wholeB z.1)]).1):=(hX.keep u);have hz:RefsOw 0 ay z:=(hz.keep u);have hO:OffJ H64 ((AP D [.clear, .app nwN (wholeB z.1)]).1).files.length gj ay k:=(hO.keep u);have hXc:=hX;have hj:=eb u hj;have hjc:=hj;have hzc:=hz;have c:=eb u c;have hb9c:=c;have f:=eb u f;have hb27c:=f;have hOc:=hO;have j:=j.keep u;have hrc:=j;refine gS (ZR KQ rfl rfl ?_);refine(Jz wb _ g H64 ((AP D [.clear, .app nwN (wholeB z.1)]).1) hXc.g gj z n t l hjc hlo b93 [.func (.func 79) #[] #[PQ h 0], .func (.func 80) #[] #[PQ h 0], .func (.func 82) #[] #[PQ h 0]] [.sync nwN, .move, .sync jrN] bf (Zv (show JaAt _ _ _ _ _ (.sync nwN)from⟨_,h,rfl, .inl ⟨rfl,rfl⟩,c⟩) (show JaAt _ _ _ _ _ (.move)from⟨h,rfl,c⟩) (show JaAt _ _ _ _ _ (.sync jrN)from⟨_,h,rfl, .inr ⟨rfl, .inl rfl⟩,c⟩)) (m+300) (hB.jdo _ hbs1) (by simp only[AdJ,AdQ];omega) (by intro a ha;simp only[Ad5,Aes,or_false]at ha;intro s b e;rcases ha with rfl | rfl | rfl <;> cases e)).mono ?_;rintro e ca ⟨H99,rfl,hX100,hj101⟩;refine⟨_,rfl,?_⟩;have hX:=hXc.trans hX100;have hj:=hj101;have hz:=hzc.chgX hX100 hXc.g hjc;have c:=hX100.box hXc.g hjc hb9c (by decide) (by decide) (by decide) (by decide) (by decide);have f:=hX100.box hXc.g hjc hb27c (by decide) (by decide) (by decide) (by decide) (by decide);have j:=hOc.rb hX100 hrc;have hO:=hOc.step hX100;have cb:=bl c;have cc:=bl f;refine gS (ZO (a:=((AP ((AP D [.clear, .app nwN (wholeB z.1)]).1) [.sync nwN, .move, .sync jrN]).2:Nat)) (b:=(0:Nat)) rfl rfl (AI _ _ _ _) ?_);refine cD rfl (fun az=> ?_) fun az=> ?_
 ·have he3:¬(DI (Bl D z.1).1).2≠0:=fun q=>q az;have hj:=FJ hj (by have he3:=he3;unfold DI Bl at he3;omega);refine Ev [0,1,2,3,4,5,6,7,8,9] [6,9] [] [1] fun a0 x=> ?_;have hX:DkX wb w g gj H D a0 H99 ((AP ((AP D [.clear, .app nwN (wholeB z.1)]).1) [.sync nwN, .move, .sync jrN]).1):=(hX.keep x);have hz:RefsOw 0 a0 z:=(hz.keep x);have hO:OffJ H99 ((AP ((AP D [.clear, .app nwN (wholeB z.1)]).1) [.sync nwN, .move, .sync jrN]).1).files.length gj a0 k:=(hO.keep x);have hj:=eb x hj;have c:=eb x c;have f:=eb x f;have j:=j.keep x;refine Qa c ?_;refine ys (ZN EB rfl rfl (Ac c rfl) zz) (yf (fun _ ⟨c,_⟩=>ZN EB rfl rfl (Ac c rfl) zz) (ys (ZN Hv rfl rfl (Ac f rfl) zz) (ys (Aae Hv (Aaf j rfl) zz) (ys (AcA rfl zz) (ys (Acy RM rfl zz) (yI (ZS (i:=37) (v:=NI ((wholeB z.1:Ai1).length)) rfl rfl hj (by rw[GX];decide) DR rfl rfl fun ah a8 ai cd=> ?_)))))));have hX:DkX wb w g gj H D ah H99 ((AP ((AP D [.clear, .app nwN (wholeB z.1)]).1) [.sync nwN, .move, .sync jrN]).1):=AcX hX ai hj (.inr rfl) hlo (by decide) (by decide) (by decide) (by decide) (by decide) (by decide);have hz:RefsOw 0 ah z:=AcI hz ai hj (by decide) (by decide);have hO:OffJ H99 ((AP ((AP D [.clear, .app nwN (wholeB z.1)]).1) [.sync nwN, .move, .sync jrN]).1).files.length gj ah k:=Adi hO ai;clear hj;have hj:ah.heap[gj]? =some (.cells (BP g z ((wholeB z.1:Ai1).length) t l).toArray 84 (0,0)):=AG a8 (OW ((wholeB z.1:Ai1).length));clear a8;have ce:=bl hj;have c:=kb ai c (by omega);refine⟨⟨c,trivial⟩,?_⟩;refine ys (AcA rfl zz) (ys (Acy RQ rfl zz) (yD rfl (ZS (i:=38) (v:= .bool (false)) rfl rfl hj (by rw[GX];decide) Vu rfl rfl fun aj a9 a1 cf=> ?_)));have hX:DkX wb w g gj H D aj H99 ((AP ((AP D [.clear, .app nwN (wholeB z.1)]).1) [.sync nwN, .move, .sync jrN]).1):=AcX hX a1 hj (.inr rfl) hlo (by decide) (by decide) (by decide) (by decide) (by decide) (by decide);have hz:RefsOw 0 aj z:=AcI hz a1 hj (by decide) (by decide);have hO:OffJ H99 ((AP ((AP D [.clear, .app nwN (wholeB z.1)]).1) [.sync nwN, .move, .sync jrN]).1).files.length gj aj k:=Adi hO a1;clear hj;have hj:aj.heap[gj]? =some (.cells (BP g z ((wholeB z.1:Ai1).length) false l).toArray 84 (0,0)):=AG a9 (TZ false);clear a9;have cg:=bl hj;refine Az rfl (vr (NI ((AP ((AP D [.clear, .app nwN (wholeB z.1)]).1) [.sync nwN, .move, .sync jrN]).2)) rfl) ?_;have hV:=PU (J:=⟨z.1,n,t,l⟩) he1 he2 he3;exact⟨H99,by rw[hV];exact congrArg (fun e=>Ending.returned (NI e)) (Decidable.not_not.1 he3),by rw[hV];exact hX,by rw[hV];exact⟨hj,hz,rfl⟩⟩
 have he3:(DI (Bl D z.1).1).2≠0:=az;refine Az rfl (vr (NI ((AP ((AP D [.clear, .app nwN (wholeB z.1)]).1) [.sync nwN, .move, .sync jrN]).2)) rfl) ?_;have hV:=RO (J:=⟨z.1,n,t,l⟩) he1 he2 he3;exact⟨H99,by rw[hV] <;> rfl,by rw[hV];exact hX,by rw[hV];exact⟨hj,hz,rfl⟩⟩
theorem Na(wb w:Ads)(g:Nat)(H:Dk)(D:Ak)(hD:DkG wb w g H D)(gj:Nat)(z:Af)(n:Nat)(t l:Bool)(hj:w.heap[gj]? =some (.cells (BP g z n t l).toArray 84 (0,0)))(hlo:wb.heap.size<=gj)(hz:RefsOw 0 w z)(hR:AA z.1=true)(m:Nat)(hB:DBd m D)(hm:m<=98000)(r:Ak × Jn × Nat)(hr:AH D ⟨z.1,n,t,l⟩=r):
  Calls Adt 32 #[PQ gj 0] w fun e w' =>∃H',e = .returned (NI r.2.2)/\DkX wb w g gj H D w' H' r.1/\JnAt w' gj g r.2.1 z:=by
 subst hr;exact M9 wb w g H D hD gj z n t l hj hlo hz hR m hB hm
section
variable {D : Ak} {J : Jn} {us : List AC} {note : Bs} {r : Ak × Jn × Nat}
theorem O1(h:J.lost=true):Bw D J us note=(D,J,19):=if_pos h
theorem IC(h:J.lost=false)(h2:(Ag J.refs us note).1≠0):Bw D J us note=(D,J,(Ag J.refs us note).1):=(if_neg (by rw[h];decide)).trans (if_pos h2)
theorem JD(h:J.lost=false)(h2:¬(Ag J.refs us note).1≠0)(h3:(J.torn||decide (8192<J.size))=true)(hr:AH D J=r)(h4:(decide (r.2.2≠0)&&(J.torn||decide (r.2.2≠8)))=true):Bw D J us note=r:=by
 simp only[AdX,AeH,decide_eq_true_eq]at h3 h4;unfold Bw;rw[if_neg (by rw[h];decide),if_neg h2,if_pos h3,hr,if_pos h4]
theorem Kr(h:J.lost=false)(h2:¬(Ag J.refs us note).1≠0)(h3:(J.torn||decide (8192<J.size))=true)(hr:AH D J=r)(h4:(decide (r.2.2≠0)&&(J.torn||decide (r.2.2≠8)))=false):Bw D J us note=Fw r.1 r.2.1 (Ag J.refs us note).2 (recB 84 (tranB us note)):=by
 simp only[AeH,decide_eq_true_eq]at h3;unfold Bw;rw[if_neg (by rw[h];decide),if_neg h2,if_pos h3,hr,if_neg (fun q=>by
  have:(decide (r.2.2≠0)&&(J.torn||decide (r.2.2≠8)))=true:=by simp only[AdX,AeH,decide_eq_true_eq];exact q
  rw[h4]at this;cases this)]
theorem Hp(h:J.lost=false)(h2:¬(Ag J.refs us note).1≠0)(h3:(J.torn||decide (8192<J.size))=false):Bw D J us note=Fw D J (Ag J.refs us note).2 (recB 84 (tranB us note)):=by
 simp only[Bool.or_eq_false_iff,decide_eq_false_iff_not]at h3;unfold Bw;rw[if_neg (by rw[h];decide),if_neg h2,if_neg (fun q=>q.elim (fun q=>by rw[h3.1]at q;cases q) h3.2)]
theorem V0{x:Au}{b:Bs}(h:¬(Eg D b).2=0):Fw D J x b=((Eg D b).1,Gu J (Eg D b).2,(Eg D b).2):=if_pos h
theorem Qu{x:Au}{b:Bs}(h:(Eg D b).2=0):Fw D J x b=((Eg D b).1,⟨x,J.size+b.length,J.torn,J.lost⟩,0):=if_neg fun q=>q h
theorem PV(hR:AA J.refs=true):(AH D J).2.1.size<=J.size\/(AH D J).2.1.size<=40010:=by
 unfold AH;split
 ·unfold LE;split <;> exact .inl (Adw _)
 ·split
  ·exact .inl (Adw _)
  ·unfold OH;split
   ·exact .inl (Adw _)
   ·exact .inr (D4 hR)
end
theorem DBd.jrenew{m:Nat}{D:Ak}{J:Jn}(h:DBd m D)(hR:AA J.refs=true):DBd (m+900) (AH D J).1:=by
 have hw:=D4 hR;have h1:DBd (m+300) (Bl D J.refs).1:=h.jdo [.clear, .app nwN (wholeB J.refs)] fun a ha s b e=>by
  simp only[Ad5,Aes,or_false]at ha;rcases ha with rfl | rfl <;> cases e
  omega
 unfold AH;split
 ·have h2:DBd (m+450) (AP (Bl D J.refs).1 [.clear]).1:=h1.jdo [.clear] fun a ha s b e=>by
   simp only[Ad5,Aes,or_false]at ha;subst ha;cases e
  unfold LE;split <;> exact h2.mono (by omega)
 ·split
  ·exact h1.mono (by omega)
  ·have h2:DBd (m+750) (DI (Bl D J.refs).1).1:=h1.jdo [.sync nwN, .move, .sync jrN] fun a ha s b e=>by
    simp only[Ad5,Aes,or_false]at ha;rcases ha with rfl | rfl | rfl <;> cases e
   unfold OH;split <;> exact h2.mono (by omega)
theorem RG.chgJ{α:Type}{k:Nat}{enc:α->List Adr}{w w' :Ads}{v:Adr}{l:List α}{B:Nat->Prop}(h:RG k enc w v l)(hc:Chg B w w')(hB:l= []\/∀i,v.ownBlock=some i->¬B i):RG k enc w' v l:=by
 obtain⟨h0,h1,ao,cap,rfl,h2,h3,h4,h5⟩:=h;refine⟨h0,h1,ao,cap,rfl,h2,h3,h4,fun a ha j u hu=> ?_⟩;have hl:=h5 a ha j u hu;have hlt:=World.block_lt_of_cell? w _ hl;rcases hB with rfl | hB
 ·simp at hu
 ·have hn:¬B (a.add j).block:=hB _ (by rw[ha];obtain⟨a1,a2,a3⟩:=a;simp only[Aec,Addr.add];split <;> rfl);have hb:=hc.blk _ hlt hn;unfold World.cell? at hl ⊢;rw[hb];exact hl
structure UpsAt (b : Nat) (H : Dk) (n gj : Nat) (w : Ads) (v : Adr) (l : List AC) : Prop where
 rg:RG 66 updC w v l
 off:l= []\/∀i,v.ownBlock=some i->i<b/\¬B7 H n i/\i≠gj
section
variable {wb w w' : Ads} {b g gj n x : Nat} {H H' : Dk} {D D' : Ak} {v : Adr} {l : List AC}
theorem UpsAt.keep(h:UpsAt b H n gj w v l)(k:Ext w w'):UpsAt b H n gj w' v l:=⟨h.rg.keep k,h.off⟩
theorem UpsAt.set(h:UpsAt b H n gj w v l)(k:w.grownBy w' (some x))(hx:b<=x\/x=gj):UpsAt b H n gj w' v l:=
 ⟨h.rg.chgJ (B:=fun i=>i=x) (Aap k fun i e=> .inl (Option.some.inj e).symm) (h.off.imp id fun q i hi (e:i=x)=>hx.elim (fun hx=>by have:=(q i hi).1;omega) fun hx=>(q i hi).2.2 (e.trans hx)),h.off⟩
theorem UpsAt.step(h:UpsAt b H D.files.length gj w v l)(hb:b<=w.heap.size)(hX:DkX wb w g gj H D w' H' D'):UpsAt b H' D'.files.length gj w' v l:=
 ⟨h.rg.chgJ hX.chg (h.off.imp id fun q i hi r=>r.elim (q i hi).2.1 (q i hi).2.2),h.off.imp id fun q i hi=>⟨(q i hi).1,fun r=>(hX.foot i r).elim (q i hi).2.1 fun r=>by have:=(q i hi).1;omega,(q i hi).2.2⟩⟩
end
theorem RR{b:Bs}{s t:List AK × Nat}(h:CR b s=some t):t.1.length=s.1.length+1:=by
 unfold CR at h;cases hn:Gn b s.2 with
 | none=>rw[hn]at h;cases h
 | some x=>rw[hn]at h;cases h;simp
theorem RS:Plain Adt 180:=fun _ _=>by kernel_rfl
theorem RT:Plain Adt 178:=fun _ _=>by kernel_rfl
theorem RU:Plain Adt 179:=fun _ _=>by kernel_rfl
theorem ND(z0:Ai1)(z1:Cl)(w:Ads):(Aew 94 #[(0,St z0),(1,AB z1.1)]).run Adt w = .ok (.agg (St (z0) :: (Adv z1.1)).toArray) w:=by
 obtain⟨z1,k1⟩:=z1;obtain⟨a1_0,a1_1,a1_2,a1_3,a1_4,a1_5,a1_6,a1_7,a1_8,a1_9,a1_10,a1_11,a1_12,a1_13,a1_14,a1_15,a1_16,a1_17,a1_18,a1_19,a1_20,a1_21,a1_22,a1_23,a1_24,a1_25,a1_26,a1_27,a1_28,a1_29,a1_30,a1_31,rfl⟩:=K5 k1;exact L6 _ _ _ _ _ _ _ _ _ _ _ _ _ _ _ _ _ _ _ _ _ _ _ _ _ _ _ _ _ _ _ _ _ w
theorem Uk:∀(cs:Array Adr),cs.size=33->∀w:Ads,(Ad0 31 1 #[(0, .agg cs)]).run Adt w = .ok (.slice (some ⟨w.heap.size,0,none⟩) 1 1) (w.alloc (.cells cs 94))
 | ⟨c0 :: c1 :: c2 :: c3 :: c4 :: c5 :: c6 :: c7 :: c8 :: c9 :: c10 :: c11 :: c12 :: c13 :: c14 :: c15 :: c16 :: c17 :: c18 :: c19 :: c20 :: c21 :: c22 :: c23 :: c24 :: c25 :: c26 :: c27 :: c28 :: c29 :: c30 :: c31 :: c32 :: []⟩,_,w=>S4 c0 c1 c2 c3 c4 c5 c6 c7 c8 c9 c10 c11 c12 c13 c14 c15 c16 c17 c18 c19 c20 c21 c22 c23 c24 c25 c26 c27 c28 c29 c30 c31 c32 w
theorem Nb{w0 w:Ads}{r:Nat}{v:Adr}{b:Bs}{i:Nat}(c:Ext w0 w)(hb:w.heap[r]? =some (.cells (B0 (AY v b (i))).toArray 216 (0,0)))(hr:RB w0 v b)(lr:w0.heap.size<=r)(hi:i<=b.length)(hl:b.length<=4611686018427387904):
  Calls Adt 177 #[PQ r 0] w fun e w' =>(∃x,e = .returned x/\∃u l j,F7 b i=some (l,j)/\u=x/\OG w.heap.size 94 33 nmdC w' u l/\w'.heap[r]? =some (.cells (B0 (AY v b (j))).toArray 216 (0,0))/\j<=b.length/\w.grownBy w' (some r))\/∃ch,e = .panicked ch/\F7 b i=none/\ch= [Do]/\w.grownBy w' (some r):=by
 have hsz0:=c.size;have hapr:b= []\/OB v r:=by
   rcases b with _ | ⟨b0,b1⟩
   ·exact .inl rfl
   ·exact .inr fun e=>by have:=RB.lt hr (by simp) e;omega
 have hlr:=(bl hb);have hgr:=AdZ w (some r);refine gG (args:= [PQ r 0]) Tryz.func177 rfl 19 rfl rfl ?_;have hE:=Acz w;have hrow0:OG w.heap.size 94 33 nmdC w (AdI none 0 0) ([]:List AK):=AcO _ _ _ _ _;have aj:=AcE hrow0 hb (by decide);refine gP (AaZ RS rfl rfl ?_);refine Ao (Kl _ r v b i hb (hr.keep c) hapr hi hl 64) ?_ ?_;rotate_left
 ·rintro ch w7 ⟨hPx,rfl,hgx⟩;refine Aq ?_;exact .inr ⟨_,rfl,Vc hPx,rfl,Aa hgr hgx (fun _ e=> .inl e)⟩
 rintro v_ w9 ⟨n,j,hP,rfl,ab,p⟩;have hgr:w.grownBy w9 (some r):=Aa hgr p (fun _ e=> .inl e);clear hb;have hb:=ab;clear ab;have hle_j:=(JV hi hP).1;have aw:=bl hb;have hnl:=(JV hi hP).2.1;have c:=Ad c p (Adu (Adw _) lr);have hrow0:=AcC hrow0 p aj;refine gL (fun(ρ:Aj) (wz:Ads)=>∃k:Nat,∃j0:Nat,∃o:List AK,∃vo:Adr,ρ 0=(PQ r 0:Adr)/\ρ 5=(NI n:Adr)/\ρ 6=(NI k:Adr)/\ρ 2=(vo:Adr)/\w.grownBy wz (some r)/\Ext w0 wz/\wz.heap[r]? =some (.cells (B0 (AY v b (j0))).toArray 216 (0,0))/\OG w.heap.size 94 33 (nmdC) wz vo (o)/\(k<=n)/\(j0<=b.length)/\(Cn (CR b) k ([],j)=some (o,j0))/\True) (fun ρ _=>n-(intOf (ρ 6)).toNat) ⟨0,j,[],(AdI none 0 0),rfl,rfl,rfl,rfl,hgr,c,hb,Gr hrow0 (rfl),AdN _,hle_j,rfl,trivial⟩ ?_;clear hrow0;clear hb;clear hgr c;rintro al ax ⟨k,j0,o,vo,q,T5,y,T2,hgr,c,hb,hr_vo,hk,hj0,hit,-⟩;have q6:=y;refine gS (ZO (a:=(k:Nat)) (b:=(n:Nat)) y T5 (Bg _ _ _ _) ?_);refine cD rfl (fun ac=> ?_) fun ac=> ?_
 ·have hlt:k<n:=ac;have hol:o.length=k:=by have:=JS (f:=CR b) (fun s t h=>RR h) k hit;simpa using this
  have am:=AcE hr_vo hb (by decide);refine gP (ZX RT q ?_);refine Ao (Ha _ r v b j0 hb (hr.keep c) hapr hj0 hl) ?_ ?_;rotate_left
  ·rintro ch ay ⟨hPx,rfl,hgx⟩;refine Aq ?_;exact .inr ⟨_,rfl,Tv hP hlt hit (Y5 hPx),rfl,Aa hgr hgx (fun _ e=> .inl e)⟩
  rintro v_ an ⟨d1,j1,hP1,rfl,ad,z⟩;have hgr:w.grownBy an (some r):=Aa hgr z (fun _ e=> .inl e);clear hb;have hb:=ad;clear ad;have hle_j1:=(txtP_le hP1).1;have az:=bl hb;have hr_vo:=AcC hr_vo z am;have ao:=AcE hr_vo hb (by decide);have c:=Ad c z (Adu (Adw _) lr);refine gP (ZX RU q ?_);refine Ao (JU _ r v b j1 hb (hr.keep c) hapr hle_j1 hl) ?_ ?_;rotate_left
  ·rintro ch a0 ⟨hPx,rfl,hgx⟩;refine Aq ?_;exact .inr ⟨_,rfl,Tv hP hlt hit (Y6 hP1 hPx),rfl,Aa hgr hgx (fun _ e=> .inl e)⟩
  rintro v_ ap ⟨d2,j2,hP2,rfl,ae,aa⟩;have hgr:w.grownBy ap (some r):=Aa hgr aa (fun _ e=> .inl e);clear hb;have hb:=ae;clear ae;have hle_j2:=HP hP2;have a1:=bl hb;refine gS (AaC (vr (St (d1)) rfl) (vr (AB d2.1) rfl) (fun w=>ND d1 d2 w) (gS (AaM (a:=(⟨d1,d2⟩:AK)) (enc:=nmdC) (vr (.agg (nmdC (⟨d1,d2⟩:AK)).toArray) rfl) (BA _) Uk fun aq af ag m=> ?_)));have hgr:w.grownBy af (some r):=Aa hgr m.grown (fun _ e=>by cases e);have hr_vo:=AcC hr_vo aa ao;have hr_vo:=hr_vo.keep m;have hb:=eb m hb;have ar:=AcE hr_vo hb (by decide);refine gS (Aak _ _ w.heap.size _ 48 Fb wr30_ig94.choose_spec.1 wr30_ig94.choose_spec.2 Fb (o) ([(⟨d1,d2⟩:AK)]) (AaJ hr_vo T2) (ZU ag (vr aq rfl)) (fun _ _=>Ec) (by simp only[AdJ,AdQ];omega) (by simp only[AdJ,AdQ];omega) hgr.size fun ah ai au g=> ?_);have g:Grew af ai vo ah:= .eqv T2 g;have hgr:w.grownBy ai (some r):=Aa hgr g.by_ (fun _ e=> .inr (hr_vo.2.lt _ e).1);have c:=Ad c aa (Adu (Adw _) lr);have c:=c.trans m;have c:=Bz c g hr_vo.2 hsz0;have hb:=A0 hb g ar;clear ag;clear hr_vo;refine gS (ZV (xv:=NI k) (yv:=NI 1) y rfl rfl (AF _ _ _ (by omega)) (gK (Aem ⟨k+1,j2,o++ [⟨d1,d2⟩],ah,q,T5,rfl,rfl,hgr,c,hb,Gr au (rfl),by omega,hle_j2,W8 hit (WH hP1 hP2),trivial⟩ ?_)));show n-(intOf (NI ((k)+(1)))).toNat<n-(intOf (al 6)).toNat;rw[q6];simp only[intOf,AdV];omega
 have hkn:k=n:=by omega
 subst hkn;have hN:F7 b i=some (o,j0):=(Ov hP).trans hit;refine Az rfl T2 ?_;exact .inl ⟨_,rfl,_,o,j0,hN,rfl,hr_vo,hb,hj0,hgr⟩
theorem RV{b:Bs}{s t:List Ba × Nat}(h:CS b s=some t):t.1.length=s.1.length+1:=by
 unfold CS at h;cases hn:Dr b s.2 with
 | none=>rw[hn]at h;cases h
 | some x=>rw[hn]at h;cases h;simp
theorem LQ:Plain Adt 177:=fun _ _=>by kernel_rfl
theorem RW:Plain Adt 181:=fun _ _=>by kernel_rfl
theorem Ul:EM Adt 97 entC:=⟨⟨_,(Mw).choose_spec⟩,fun x=>AQ (CZ x) Ll⟩
theorem Um:∀(cs:Array Adr),cs.size=67->∀w:Ads,(Ad0 34 1 #[(0, .agg cs)]).run Adt w = .ok (.slice (some ⟨w.heap.size,0,none⟩) 1 1) (w.alloc (.cells cs 97))
 | ⟨c0 :: c1 :: c2 :: c3 :: c4 :: c5 :: c6 :: c7 :: c8 :: c9 :: c10 :: c11 :: c12 :: c13 :: c14 :: c15 :: c16 :: c17 :: c18 :: c19 :: c20 :: c21 :: c22 :: c23 :: c24 :: c25 :: c26 :: c27 :: c28 :: c29 :: c30 :: c31 :: c32 :: c33 :: c34 :: c35 :: c36 :: c37 :: c38 :: c39 :: c40 :: c41 :: c42 :: c43 :: c44 :: c45 :: c46 :: c47 :: c48 :: c49 :: c50 :: c51 :: c52 :: c53 :: c54 :: c55 :: c56 :: c57 :: c58 :: c59 :: c60 :: c61 :: c62 :: c63 :: c64 :: c65 :: c66 :: []⟩,_,w=>Tm c0 c1 c2 c3 c4 c5 c6 c7 c8 c9 c10 c11 c12 c13 c14 c15 c16 c17 c18 c19 c20 c21 c22 c23 c24 c25 c26 c27 c28 c29 c30 c31 c32 c33 c34 c35 c36 c37 c38 c39 c40 c41 c42 c43 c44 c45 c46 c47 c48 c49 c50 c51 c52 c53 c54 c55 c56 c57 c58 c59 c60 c61 c62 c63 c64 c65 c66 w
theorem JE:EM Adt 36 refsC:=⟨⟨_,(MD).choose_spec⟩,fun x=>AQ (An x) Lr⟩
set_option maxHeartbeats 3200000
theorem Un{w0 w:Ads}{r:Nat}{v:Adr}{b:Bs}(c:Ext w0 w)(hb:w.heap[r]? =some (.cells (B0 (AY v b (0))).toArray 216 (0,0)))(hr:RB w0 v b)(lr:w0.heap.size<=r)(hl:b.length<=4611686018427387904):
  Calls Adt 150 #[PQ r 0] w fun e w' =>(∃x,e = .returned x/\∃X:Af,CT b=some X.1/\x = .agg (refsC X).toArray/\RefsOw w0.heap.size w' X/\Ext w0 w')\/∃ch,e = .panicked ch/\CT b=none/\ch= [Do]/\Ext w0 w' :=by
 have el:=c.size;have hlr:=(bl hb);have hapr:b= []\/OB v r:=by
   rcases b with _ | ⟨b0,b1⟩
   ·exact .inl rfl
   ·exact .inr fun e=>by have:=RB.lt hr (by simp) e;omega
 refine gG (args:= [PQ r 0]) Tryz.func150 rfl 63 rfl rfl ?_;have hE:=Acz w;refine gS (AcH S6 fun n2 w3 cb be ba em=> ?_);have en:=hE.size;have cc:=c.size;have o:=be;clear be;have eo:n2<w3.heap.size:=by omega
 refine gS (AcH S6 fun ad cd bf bg bb ep=> ?_);have hE:=hE.trans ba;have c:=c.trans ba;have eq:=hE.size;have ax:=c.size;have q:=bg;clear bg;have er:ad<cd.heap.size:=by omega
 have c:=c.trans bb;have hz_:=c.size;have es:=AO (bl hb) cb;have hb:=eb ba hb;have et:=AO (bl hb) bf;have hb:=eb bb hb;refine gP (ZX LQ rfl ?_);refine Ao (Nb c hb hr lr (AdN _) hl) ?_ ?_;rotate_left
 ·rintro ch eu ⟨hPx,rfl,hgx⟩;refine Aq ?_;exact .inr ⟨_,rfl,by unfold CT;simp only[hPx,AdP,Aev],rfl,Ad c hgx lr⟩
 rintro v_ ew ⟨u1,l1,i1,y,rfl,g,hbq1,hle_i1,hgq1⟩;clear hE;clear hb;have hb:=hbq1;clear hbq1;have ex:=bl hb;have g:=AcM g hz_;refine gS (Acy PD rfl ?_);have q:=kb hgq1 q (by omega);have ce:=AcE g q (by decide);refine gS (ZS (i:=0) (v:=u1) rfl rfl q (by rw[An];decide) Lt (AcD (ZQ g)).1 (AcD (ZQ g)).2 fun cf bh a7 ey=> ?_);clear q;have q:cf.heap[ad]? =some (.cells (refsC ((⟨l1,[],[],zid,[]⟩,⟨u1,(AdI none 0 0),(AdI none 0 0)⟩):Af)).toArray 36 (0,0)):=AG bh (HE ((⟨[],[],[],zid,[]⟩,⟨.slice none 0 0, .slice none 0 0, .slice none 0 0⟩):Af) u1 (l1));clear bh;have ez:=bl q;have hb:=kb a7 hb (by omega);have g:=AcC g a7 ce;have cg:=AcE g hb (by decide);have c:=Ad c hgq1 (Adu (Adw _) lr);have c:=Ad c a7 (Adu ax (by omega));have hz_:=c.size;refine gP (ZX LQ rfl ?_);refine Ao (Nb c hb hr lr hle_i1 hl) ?_ ?_;rotate_left
 ·rintro ch e0 ⟨hPx,rfl,hgx⟩;refine Aq ?_;exact .inr ⟨_,rfl,by unfold CT;simp only[y,hPx,AdP,Aev],rfl,Ad c hgx lr⟩
 rintro v_ e1 ⟨u,l2,i2,aa,rfl,l,hbq2,hle_i2,hgq2⟩;clear hb;have hb:=hbq2;clear hbq2;have e2:=bl hb;have l:=AcM l hz_;refine gS (Acy PE rfl ?_);have g:=AcC g hgq2 cg;have q:=kb hgq2 q (by omega);have ci:=AcE g q (by decide);have cj:=AcE l q (by decide);refine gS (ZS (i:=1) (v:=u) rfl rfl q (by rw[An];decide) Lt (AcD (ZQ l)).1 (AcD (ZQ l)).2 fun ck bi ay e3=> ?_);clear q;have q:ck.heap[ad]? =some (.cells (refsC ((⟨l1,l2,[],zid,[]⟩,⟨u1,u,(AdI none 0 0)⟩):Af)).toArray 36 (0,0)):=AG bi (HF ((⟨l1,[],[],zid,[]⟩,⟨u1,(AdI none 0 0),(AdI none 0 0)⟩):Af) u (l2));clear bi;have e4:=bl q;have g:=AcC g ay ci;have hb:=kb ay hb (by omega);have cl:=AcE g hb (by decide);have l:=AcC l ay cj;have cm:=AcE l hb (by decide);have c:=Ad c hgq2 (Adu (Adw _) lr);have c:=Ad c ay (Adu ax (by omega));refine gP (ZX RT rfl ?_);refine Ao (Ha _ r v b i2 hb (hr.keep c) hapr hle_i2 hl) ?_ ?_;rotate_left
 ·rintro ch e5 ⟨hPx,rfl,hgx⟩;refine Aq ?_;exact .inr ⟨_,rfl,by unfold CT;simp only[y,aa,hPx,AdP,Aev],rfl,Ad c hgx lr⟩
 rintro v_ e6 ⟨d3,i3,hP3,rfl,bj,az⟩;clear hb;have hb:=bj;clear bj;have hle_i3:=(txtP_le hP3).1;have e7:=bl hb;refine gS (Acy Hh rfl ?_);have g:=AcC g az cl;have q:=kb az q (by omega);have cn:=AcE g q (by decide);have l:=AcC l az cm;have co:=AcE l q (by decide);refine gS (ZS (i:=2) (v:=St (d3)) rfl rfl q (by rw[An];decide) Ta rfl rfl fun cp bk a0 e8=> ?_);clear q;have q:cp.heap[ad]? =some (.cells (refsC ((⟨l1,l2,d3,zid,[]⟩,⟨u1,u,(AdI none 0 0)⟩):Af)).toArray 36 (0,0)):=AG bk (L1 ((⟨l1,l2,[],zid,[]⟩,⟨u1,u,(AdI none 0 0)⟩):Af) d3);clear bk;have e9:=bl q;have g:=AcC g a0 cn;have hb:=kb a0 hb (by omega);have cq:=AcE g hb (by decide);have l:=AcC l a0 co;have cr:=AcE l hb (by decide);have c:=Ad c az (Adu (Adw _) lr);have c:=Ad c a0 (Adu ax (by omega));refine gP (ZX RU rfl ?_);refine Ao (JU _ r v b i3 hb (hr.keep c) hapr hle_i3 hl) ?_ ?_;rotate_left
 ·rintro ch fa ⟨hPx,rfl,hgx⟩;refine Aq ?_;exact .inr ⟨_,rfl,by unfold CT;simp only[y,aa,hP3,hPx,AdP,Aev],rfl,Ad c hgx lr⟩
 rintro v_ fb ⟨d4,i4,hP4,rfl,bm,a1⟩;clear hb;have hb:=bm;clear bm;have hle_i4:=HP hP4;have fc:=bl hb;refine gS (Acy Ka rfl ?_);have g:=AcC g a1 cq;have q:=kb a1 q (by omega);have cs:=AcE g q (by decide);have l:=AcC l a1 cr;have ct:=AcE l q (by decide);refine gS (Aao (a:=E9 ((⟨l1,l2,d3,zid,[]⟩,⟨u1,u,(AdI none 0 0)⟩):Af)) (m:=Adv zid.1) (z:=Gx ((⟨l1,l2,d3,zid,[]⟩,⟨u1,u,(AdI none 0 0)⟩):Af)) (cells:=Adv d4.1) rfl rfl (Cx ((⟨l1,l2,d3,zid,[]⟩,⟨u1,u,(AdI none 0 0)⟩):Af)▸q) (CH ((⟨l1,l2,d3,zid,[]⟩,⟨u1,u,(AdI none 0 0)⟩):Af)) (by rw[AdG,AdG,zid.2,d4.2]) (by rw[AdG,d4.2];exact Sz) (Ay _) fun cu bn a2 fd=> ?_);clear q;have q:cu.heap[ad]? =some (.cells (refsC ((⟨l1,l2,d3,d4,[]⟩,⟨u1,u,(AdI none 0 0)⟩):Af)).toArray 36 (0,0)):=AG bn (L2 ((⟨l1,l2,d3,zid,[]⟩,⟨u1,u,(AdI none 0 0)⟩):Af) d4);clear bn;have fe:=bl q;have g:=AcC g a2 cs;have hb:=kb a2 hb (by omega);have cv:=AcE g hb (by decide);have l:=AcC l a2 ct;have cw:=AcE l hb (by decide);have c:=Ad c a1 (Adu (Adw _) lr);have c:=Ad c a2 (Adu ax (by omega));refine gP (AaZ RS rfl rfl ?_);refine Ao (Kl _ r v b i4 hb (hr.keep c) hapr hle_i4 hl 64) ?_ ?_;rotate_left
 ·rintro ch ff ⟨hPx,rfl,hgx⟩;refine Aq ?_;exact .inr ⟨_,rfl,by unfold CT;simp only[y,aa,hP3,hP4,Vd hPx,AdP,Aev],rfl,Ad c hgx lr⟩
 rintro v_ fg ⟨n,j,hP,rfl,bo,a3⟩;clear hb;have hb:=bo;clear bo;have hle_j:=(JV hle_i4 hP).1;have fh:=bl hb;have hnl:=(JV hle_i4 hP).2.1;have fi:=AO (bl o) bf;have o:=eb bb o;have o:=kb hgq1 o (by omega);have o:=kb a7 o (by omega);have o:=kb hgq2 o (by omega);have o:=kb ay o (by omega);have o:=kb az o (by omega);have o:=kb a0 o (by omega);have o:=kb a1 o (by omega);have o:=kb a2 o (by omega);have o:=kb a3 o (by omega);have c:=Ad c a3 (Adu (Adw _) lr);have g:=AcC g a3 cv;have l:=AcC l a3 cw;have q:=kb a3 q (by omega);refine gL (fun(ρ:Aj) (wz:Ads)=>∃k:Nat,∃j0:Nat,∃lo:List Ba,∃vl:Adr,ρ 0=(PQ r 0:Adr)/\ρ 2=(PQ n2 0:Adr)/\ρ 3=(PQ ad 0:Adr)/\ρ 18=(NI n:Adr)/\ρ 19=(NI k:Adr)/\Ext w0 wz/\wz.heap[n2]? =some (.cells (refsC ((⟨[],[],[],zid,[]⟩,⟨.slice none 0 0, .slice none 0 0, .slice none 0 0⟩):Af)).toArray 36 (0,0))/\OG w0.heap.size 94 33 nmdC wz u1 l1/\OG w0.heap.size 94 33 nmdC wz u l2/\wz.heap[r]? =some (.cells (B0 (AY v b (j0))).toArray 216 (0,0))/\wz.heap[ad]? =some (.cells (refsC ((⟨l1,l2,d3,d4,lo⟩,⟨u1,u,vl⟩):Af)).toArray 36 (0,0))/\OG w0.heap.size 97 67 entC wz vl lo/\(k<=n)/\(j0<=b.length)/\(Cn (CS b) k ([],j)=some (lo,j0))/\True) (fun ρ _=>n-(intOf (ρ 19)).toNat) ⟨0,j,[],(AdI none 0 0),rfl,rfl,rfl,rfl,rfl,c,o,g,l,hb,q,AcO _ _ _ _ _,AdN _,hle_j,rfl,trivial⟩ ?_;clear q;clear hb;clear c o g l;rintro cx fj ⟨k,j0,lo,vl,T0,T2,T3,bp,bc,c,o,g,l,hb,hbo,hol,hk,hj0,hit,-⟩;have q19:=bc;have hlg3:=(bl hbo);refine gS (ZO (a:=(k:Nat)) (b:=(n:Nat)) bc bp (Bg _ _ _ _) ?_);refine cD rfl (fun bq=> ?_) fun bq=> ?_
 ·have hlt:k<n:=bq;have hol_:lo.length=k:=by have:=JS (f:=CS b) (fun s t h=>RV h) k hit;simpa using this
  refine gS (AcH SM fun af cy bd br ag fk=> ?_);have a4:=c.size;have au:OB vl af:=Cf hol.2 (by omega);have p:=br;clear br;have fl:af<cy.heap.size:=by omega
  have fm:=AO (bl hb) bd;have hb:=eb ag hb;have g:=g.keep ag;have cz:=AcE g hb (by decide);have l:=l.keep ag;have c0:=AcE l hb (by decide);have hol:=hol.keep ag;have c1:=AcE hol hb (by decide);have c:=c.trans ag;refine gP (ZX RW T0 ?_);refine Ao (Tu _ r v b j0 hb (hr.keep c) hapr hj0 hl) ?_ ?_;rotate_left
  ·rintro ch fn ⟨hPx,rfl,hgx⟩;refine Aq ?_;exact .inr ⟨_,rfl,by unfold CT;simp only[y,aa,hP3,hP4,Jp hP hlt hit (show Dr b j0=none by unfold Dr;simp only[hPx,AdP,Aev]),AdP,Aev],rfl,Ad c hgx lr⟩
  rintro v_ fo ⟨d5,i5,hP5,rfl,bs,ah⟩;clear hb;have hb:=bs;clear bs;have hle_i5:=Va hP5;have fp:=bl hb;refine gS (Acy Kb rfl (gS (Acy PF rfl ?_)));have g:=AcC g ah cz;have p:=kb ah p (by omega);have c2:=AcE g p (by decide);have l:=AcC l ah c0;have c3:=AcE l p (by decide);refine gS (ZS (i:=0) (v:=B8 (d5)) rfl rfl p (by rw[CZ];decide) X8 rfl rfl fun c4 bt ai fq=> ?_);clear p;have p:c4.heap[af]? =some (.cells (entC (⟨d5,[],zid,zid,[]⟩:Ba)).toArray 97 (0,0)):=AG bt (X1 (⟨0,[],zid,zid,[]⟩:Ba) d5);clear bt;have fr:=bl p;have g:=AcC g ai c2;have hb:=kb ai hb (by omega);have c5:=AcE g hb (by decide);have l:=AcC l ai c3;have c6:=AcE l hb (by decide);have hol:=AcC hol ah c1;have hol:=AcC hol ai au;have c7:=AcE hol hb (by decide);have c:=Ad c ah (Adu (Adw _) lr);have c:=Ad c ai (Adu a4 (by omega));refine gP (ZX RT T0 ?_);refine Ao (Ha _ r v b i5 hb (hr.keep c) hapr hle_i5 hl) ?_ ?_;rotate_left
  ·rintro ch fs ⟨hPx,rfl,hgx⟩;refine Aq ?_;exact .inr ⟨_,rfl,by unfold CT;simp only[y,aa,hP3,hP4,Jp hP hlt hit (show Dr b j0=none by unfold Dr;simp only[hP5,hPx,AdP,Aev]),AdP,Aev],rfl,Ad c hgx lr⟩
  rintro v_ ft ⟨d6,i6,hP6,rfl,bu,aj⟩;clear hb;have hb:=bu;clear bu;have hle_i6:=(txtP_le hP6).1;have fu:=bl hb;refine gS (Acy Kb rfl (gS (Acy PH rfl ?_)));have g:=AcC g aj c5;have p:=kb aj p (by omega);have c8:=AcE g p (by decide);have l:=AcC l aj c6;have c9:=AcE l p (by decide);refine gS (ZS (i:=1) (v:=St (d6)) rfl rfl p (by rw[CZ];decide) Ta rfl rfl fun da bv ak fv=> ?_);clear p;have p:da.heap[af]? =some (.cells (entC (⟨d5,d6,zid,zid,[]⟩:Ba)).toArray 97 (0,0)):=AG bv (X3 (⟨d5,[],zid,zid,[]⟩:Ba) d6);clear bv;have fw:=bl p;have g:=AcC g ak c8;have hb:=kb ak hb (by omega);have db:=AcE g hb (by decide);have l:=AcC l ak c9;have dc:=AcE l hb (by decide);have hol:=AcC hol aj c7;have hol:=AcC hol ak au;have dd:=AcE hol hb (by decide);have c:=Ad c aj (Adu (Adw _) lr);have c:=Ad c ak (Adu a4 (by omega));refine gP (ZX RU T0 ?_);refine Ao (JU _ r v b i6 hb (hr.keep c) hapr hle_i6 hl) ?_ ?_;rotate_left
  ·rintro ch fx ⟨hPx,rfl,hgx⟩;refine Aq ?_;exact .inr ⟨_,rfl,by unfold CT;simp only[y,aa,hP3,hP4,Jp hP hlt hit (show Dr b j0=none by unfold Dr;simp only[hP5,hP6,hPx,AdP,Aev]),AdP,Aev],rfl,Ad c hgx lr⟩
  rintro v_ fy ⟨d7,i7,hP7,rfl,bw,al⟩;clear hb;have hb:=bw;clear bw;have hle_i7:=HP hP7;have fz:=bl hb;refine gS (Acy Kb rfl (gS (Acy Kc rfl ?_)));have g:=AcC g al db;have p:=kb al p (by omega);have de:=AcE g p (by decide);have l:=AcC l al dc;have df:=AcE l p (by decide);refine gS (Aao (a:=Hz (⟨d5,d6,zid,zid,[]⟩:Ba)) (m:=Adv zid.1) (z:=K8 (⟨d5,d6,zid,zid,[]⟩:Ba)) (cells:=Adv d7.1) rfl rfl (NV (⟨d5,d6,zid,zid,[]⟩:Ba)▸p) (Sq (⟨d5,d6,zid,zid,[]⟩:Ba)) (by rw[AdG,AdG,zid.2,d7.2]) (by rw[AdG,d7.2];exact Sz) (Ay _) fun dg bx am f0=> ?_);clear p;have p:dg.heap[af]? =some (.cells (entC (⟨d5,d6,d7,zid,[]⟩:Ba)).toArray 97 (0,0)):=AG bx (X4 (⟨d5,d6,zid,zid,[]⟩:Ba) d7);clear bx;have f1:=bl p;have g:=AcC g am de;have hb:=kb am hb (by omega);have dh:=AcE g hb (by decide);have l:=AcC l am df;have di:=AcE l hb (by decide);have hol:=AcC hol al dd;have hol:=AcC hol am au;have dj:=AcE hol hb (by decide);have c:=Ad c al (Adu (Adw _) lr);have c:=Ad c am (Adu a4 (by omega));refine gP (ZX RU T0 ?_);refine Ao (JU _ r v b i7 hb (hr.keep c) hapr hle_i7 hl) ?_ ?_;rotate_left
  ·rintro ch f2 ⟨hPx,rfl,hgx⟩;refine Aq ?_;exact .inr ⟨_,rfl,by unfold CT;simp only[y,aa,hP3,hP4,Jp hP hlt hit (show Dr b j0=none by unfold Dr;simp only[hP5,hP6,hP7,hPx,AdP,Aev]),AdP,Aev],rfl,Ad c hgx lr⟩
  rintro v_ f3 ⟨d8,i8,hP8,rfl,bz,an⟩;clear hb;have hb:=bz;clear bz;have hle_i8:=HP hP8;have f4:=bl hb;refine gS (Acy Kb rfl (gS (Acy Kd rfl ?_)));have g:=AcC g an dh;have p:=kb an p (by omega);have dk:=AcE g p (by decide);have l:=AcC l an di;have dl:=AcE l p (by decide);refine gS (Aao (a:=HA (⟨d5,d6,d7,zid,[]⟩:Ba)) (m:=Adv zid.1) (z:=K9 (⟨d5,d6,d7,zid,[]⟩:Ba)) (cells:=Adv d8.1) rfl rfl (NW (⟨d5,d6,d7,zid,[]⟩:Ba)▸p) (Sr (⟨d5,d6,d7,zid,[]⟩:Ba)) (by rw[AdG,AdG,zid.2,d8.2]) (by rw[AdG,d8.2];exact Sz) (Ay _) fun dm b2 ao f5=> ?_);clear p;have p:dm.heap[af]? =some (.cells (entC (⟨d5,d6,d7,d8,[]⟩:Ba)).toArray 97 (0,0)):=AG b2 (X5 (⟨d5,d6,d7,zid,[]⟩:Ba) d8);clear b2;have f6:=bl p;have g:=AcC g ao dk;have hb:=kb ao hb (by omega);have dn:=AcE g hb (by decide);have l:=AcC l ao dl;have dp:=AcE l hb (by decide);have hol:=AcC hol an dj;have hol:=AcC hol ao au;have dq:=AcE hol hb (by decide);have c:=Ad c an (Adu (Adw _) lr);have c:=Ad c ao (Adu a4 (by omega));refine gP (ZX RT T0 ?_);refine Ao (Ha _ r v b i8 hb (hr.keep c) hapr hle_i8 hl) ?_ ?_;rotate_left
  ·rintro ch f7 ⟨hPx,rfl,hgx⟩;refine Aq ?_;exact .inr ⟨_,rfl,by unfold CT;simp only[y,aa,hP3,hP4,Jp hP hlt hit (show Dr b j0=none by unfold Dr;simp only[hP5,hP6,hP7,hP8,hPx,AdP,Aev]),AdP,Aev],rfl,Ad c hgx lr⟩
  rintro v_ f8 ⟨d9,i9,hP9,rfl,b3,ap⟩;clear hb;have hb:=b3;clear b3;have hle_i9:=(txtP_le hP9).1;have f9:=bl hb;refine gS (Acy PG rfl ?_);have g:=AcC g ap dn;have p:=kb ap p (by omega);have dr:=AcE g p (by decide);have l:=AcC l ap dp;have ds:=AcE l p (by decide);refine gS (ZS (i:=66) (v:=St (d9)) rfl rfl p (by rw[CZ];decide) Ta rfl rfl fun dt b4 aq ga=> ?_);clear p;have p:dt.heap[af]? =some (.cells (entC (⟨d5,d6,d7,d8,d9⟩:Ba)).toArray 97 (0,0)):=AG b4 (X6 (⟨d5,d6,d7,d8,[]⟩:Ba) d9);clear b4;have gb:=bl p;have gc:=AO (bl hbo) bd;have hbo:=eb ag hbo;have hbo:=kb ah hbo (by omega);have hbo:=kb ai hbo (by omega);have hbo:=kb aj hbo (by omega);have hbo:=kb ak hbo (by omega);have hbo:=kb al hbo (by omega);have hbo:=kb am hbo (by omega);have hbo:=kb an hbo (by omega);have hbo:=kb ao hbo (by omega);have hbo:=kb ap hbo (by omega);have hbo:=kb aq hbo (by omega);refine gS (Acy J9 T3 (gS (ZN F4 rfl rfl (Ac hbo (Bv ((⟨l1,l2,d3,d4,lo⟩,⟨u1,u,vl⟩):Af))) (gS (ZY Ul rfl p (gS (AaM (a:=(⟨d5,d6,d7,d8,d9⟩:Ba)) (enc:=entC) (vr (.agg (entC (⟨d5,d6,d7,d8,d9⟩:Ba)).toArray) rfl) (CZ _) Um fun du dv b5 ae=> ?_)))))));have gd:=AO (bl o) bd;have o:=eb ag o;have o:=kb ah o (by omega);have o:=kb ai o (by omega);have o:=kb aj o (by omega);have o:=kb ak o (by omega);have o:=kb al o (by omega);have o:=kb am o (by omega);have o:=kb an o (by omega);have o:=kb ao o (by omega);have o:=kb ap o (by omega);have o:=kb aq o (by omega);have o:=eb ae o;have hol:=AcC hol ap dq;have hol:=AcC hol aq au;have hol:=hol.keep ae;have g:=AcC g aq dr;have g:=g.keep ae;have l:=AcC l aq ds;have l:=l.keep ae;have hbo:=eb ae hbo;have hb:=kb aq hb (by omega);have hb:=eb ae hb;have dw:=AcE hol o (by decide);have dx:=Adb hol g (by decide);have dy:=Adb hol l (by decide);have dz:=AcE hol hbo (by decide);have d0:=AcE hol hb (by decide);have c:=Ad c ap (Adu (Adw _) lr);have c:=Ad c aq (Adu a4 (by omega));have c:=c.trans ae;refine gS (Aak _ _ w0.heap.size _ 104 F4 wr30_ig97.choose_spec.1 wr30_ig97.choose_spec.2 F4 (lo) ([(⟨d5,d6,d7,d8,d9⟩:Ba)]) (AaJ hol (vr vl rfl)) (ZU b5 (vr du rfl)) (fun _ _=>Gw) (by simp only[AdJ,AdQ];omega) (by simp only[AdJ,AdQ];omega) c.size fun a5 d1 av ac=> ?_);have ac:Grew dv d1 vl a5:=ac;have p:=eb ae p;have c:=Bz c ac hol.2 (Adw _);have o:=A0 o ac dw;have g:=HJ g ac dx;have l:=HJ l ac dy;have hbo:=A0 hbo ac dz;have hb:=A0 hb ac d0;have p:=A0 p ac au;clear b5;clear hol;refine gS (Acy J9 T3 ?_);have d2:=AcE g hbo (by decide);have ea:=AcE l hbo (by decide);have ec:=AcE av hbo (by decide);refine gS (ZS (i:=35) (v:=a5) rfl rfl hbo (by rw[An];decide) Im (AcD (ZQ av)).1 (AcD (ZQ av)).2 fun ed b6 aw ge=> ?_);clear hbo;have hbo:ed.heap[ad]? =some (.cells (refsC ((⟨l1,l2,d3,d4,(lo)++ [(⟨d5,d6,d7,d8,d9⟩:Ba)]⟩,⟨u1,u,a5⟩):Af)).toArray 36 (0,0)):=AG b6 (Gy ((⟨l1,l2,d3,d4,lo⟩,⟨u1,u,vl⟩):Af) a5 ((lo)++ [(⟨d5,d6,d7,d8,d9⟩:Ba)]));clear b6;have gf:=bl hbo;have c:=Ad c aw (Adu ax (by omega));have o:=kb aw o (by omega);have g:=AcC g aw d2;have l:=AcC l aw ea;have hb:=kb aw hb (by omega);have av:=AcC av aw ec;refine gS (ZV (xv:=NI k) (yv:=NI 1) bc rfl rfl (AF _ _ _ (by omega)) (gK (Aem ⟨k+1,i9,lo++ [⟨d5,d6,d7,d8,d9⟩],a5,T0,T2,T3,bp,rfl,c,o,g,l,hb,hbo,av,by omega,hle_i9,W9 hit (show Dr b j0=some (⟨d5,d6,d7,d8,d9⟩,i9) by unfold Dr;simp only[hP5,hP6,hP7,hP8,hP9,AdP]),trivial⟩ ?_)));show n-(intOf (NI ((k)+(1)))).toNat<n-(intOf (cx 19)).toNat;rw[q19];simp only[intOf,AdV];omega
 have hkn:k=n:=by omega
 have hN:HQ b i4=some (lo,j0):=(Ow hP).trans (hkn▸hit);have hMl:DM (⟨l1,l2,d3,d4,lo⟩:Au):=Ve y aa hP3 hN;by_cases hj:j0=b.length
 ·refine gM0 [0,1,2,3,4,5,6,7,8,9,10,11,12,13,14] [12,14] [] fun gg ar=> ?_;have c:=c.trans ar;have g:=g.keep ar;have l:=l.keep ar;have hb:=eb ar hb;have hbo:=eb ar hbo;have hol:=hol.keep ar;refine ys (AcA T0 zz) (ys (Acy AV rfl zz) (ys (ZN Oa rfl rfl (Ac hb (B9 (AY v b (j0)))) zz) (ys (AcA T0 zz) (ys (Acy BN rfl zz) (ys (ZN Hv rfl rfl (Ac hb (Cr (AY v b (j0)))) zz) (ys (Aae Hv (Aaf (hr.keep c) rfl) zz) (ys (ZO (a:=(j0:Nat)) (b:=(b.length:Nat)) rfl rfl (AI _ _ _ _) zz) (kT (hj) (ys (ZY JE T3 hbo zz) (yC (ZP Ti rfl ((Ii _ ((⟨l1,l2,d3,d4,lo⟩,⟨u1,u,vl⟩):Af) ⟨ZQ g,ZQ l,ZQ hol⟩ hMl).mono ?_))))))))))));rintro e gh ⟨rfl,a8⟩;refine⟨_,rfl,?_⟩;refine ys (Z1 rfl rfl zz) (Qb (ZX Cu rfl ?_));refine Ao (Ci _ (AA ((⟨l1,l2,d3,d4,lo⟩,⟨u1,u,vl⟩):Af).1)) ?_ ?_;rotate_left
  ·have hb:=eb a8 hb;rintro ch gi ⟨rfl,hb,hx⟩;refine Aq ?_;have c:=c.trans a8;exact .inr ⟨_,rfl,by unfold CT;simp only[y,aa,hP3,hP4,hN,AdP];exact if_neg fun h=>Bool.noConfusion (h.2.symm.trans hb),rfl,c.trans hx⟩
  rintro v_ gj ⟨rfl,ee,b7⟩;have hZ1:=a8.trans b7;have hbo:=eb hZ1 hbo;refine gS (ZY JE T3 hbo ?_);have o:=eb ((ar.trans a8).trans b7) o;have g:=g.keep hZ1;have ef:=AcE g o (by decide);have l:=l.keep hZ1;have eg:=AcE l o (by decide);have hol:=hol.keep hZ1;have eh:=AcE hol o (by decide);refine gS (Z0 JE T2 (vr (.agg (refsC ((⟨l1,l2,d3,d4,lo⟩,⟨u1,u,vl⟩):Af)).toArray) rfl) o (AS (AcD (ZQ g)).2 (AcD (ZQ l)).2 (AcD (ZQ hol)).2) fun ei b8 a9 gk=> ?_);clear o;have o:ei.heap[n2]? =some (.cells (refsC ((⟨l1,l2,d3,d4,lo⟩,⟨u1,u,vl⟩):Af)).toArray 36 (0,0)):=b8;clear b8;have gl:=bl o;refine IN rfl (AcQ T2 o (MD).choose_spec rfl (AQ (An _) Lr)) ?_;have c:=c.trans hZ1;have c:=Ad c a9 (Adu cc (by omega));have g:=AcC g a9 ef;have l:=AcC l a9 eg;have hol:=AcC hol a9 eh;exact .inl ⟨_,rfl,((⟨l1,l2,d3,d4,lo⟩,⟨u1,u,vl⟩):Af),by unfold CT;simp only[y,aa,hP3,hP4,hN,AdP];exact if_pos ⟨hj,ee⟩,rfl,⟨g,l,hol⟩,c⟩
 refine gM0 [0,1,2,3,4,5,6,7,8,9,10,11,12,13,14] [12,14] [] fun gm b9=> ?_;have c:=c.trans b9;have hb:=eb b9 hb;refine ys (AcA T0 zz) (ys (Acy AV rfl zz) (ys (ZN Oa rfl rfl (Ac hb (B9 (AY v b (j0)))) zz) (ys (AcA T0 zz) (ys (Acy BN rfl zz) (ys (ZN Hv rfl rfl (Ac hb (Cr (AY v b (j0)))) zz) (ys (Aae Hv (Aaf (hr.keep c) rfl) zz) (ys (ZO (a:=(j0:Nat)) (b:=(b.length:Nat)) rfl rfl (AI _ _ _ _) zz) (kF (hj) (ys (Z4 rfl rfl zz) (Qb (ZX Cu rfl ?_)))))))))));refine Ao (Ci _ (false)) ?_ ?_;rotate_left
 ·rintro ch gn ⟨rfl,hb,hx⟩;refine Aq ?_;exact .inr ⟨_,rfl,by unfold CT;simp only[y,aa,hP3,hP4,hN,AdP];exact if_neg fun h=>hj h.1,rfl,c.trans hx⟩
 rintro v_ go ⟨rfl,ej,gp⟩;cases ej
structure FitsD (n : Nat) (D : List Deferred) (ρ : Aj) (a : Act) : Prop where
 size:a.tmps.size=n
 defers:a.defers=D
 get:∀t,a.tmps.getD t undef=ρ t
theorem FitsD.fits{n:Nat}{D:List Deferred}{ρ:Aj}{a:Act}(h:FitsD n D ρ a):Fits n ρ { a with defers:= [] } :=⟨h.size,rfl,h.get⟩
theorem AbB{n:Nat}{ρ:Aj}{a:Act}(h:Fits n ρ a):FitsD n [] ρ a:=⟨h.size,h.defers,h.get⟩
theorem FitsD.toFits{n:Nat}{ρ:Aj}{a:Act}(h:FitsD n [] ρ a):Fits n ρ a:=⟨h.size,h.defers,h.get⟩
theorem FitsD.eval{n:Nat}{D:List Deferred}{ρ:Aj}{a:Act}(h:FitsD n D ρ a):a.eval=Ab ρ:=by
 funext x
 cases x with
 | tmp t=>exact h.get t
 | _=>rfl
theorem FitsD.put{n:Nat}{D:List Deferred}{ρ:Aj}{a:Act}(h:FitsD n D ρ a)(d:Option Tmp)(hd:∀t,d=some t->t<n)(v:Adr):FitsD n D (updO ρ d v) (a.put d v):=by
 have hf:=h.fits.put d hd v;cases d with
 | none=>exact h
 | some d=>exact⟨hf.size,h.defers,hf.get⟩
def Nc(P:AdM)(n:Nat)(D:List Deferred)(c:Code)(QQ:Exit->Act->Ads->Prop)(ρ:Aj)(w:Ads):Prop:=∀a,FitsD n D ρ a->c.wp P QQ a w
def JF(P:AdM)(ops:Array Oper)(n:Nat)(D:List Deferred)(QQ:Exit->Act->Ads->Prop)(l:List Oper)(ρ:Aj)(w:Ads):Prop:=∀a,FitsD n D ρ a->wpList P ops QQ l a w
section
variable {P : AdM} {n : Nat} {D : List Deferred} {QQ : Exit -> Act -> Ads -> Prop} {ρ : Aj} {w : Ads}
theorem Nd{x y:Code}(QR:Bi)(hq:∀e ρ a w,e ≠ .normal->Fits n ρ a->QR e ρ w->QQ e a w)(h:∀K:Aj->Ads->Prop,(∀ρ w,Nc P n [] y QQ ρ w->K ρ w)->Cm P n x (EE K QR) ρ w):Nc P n [] (.seq x y) QQ ρ w:=fun a ha=>
 wp_seq (wp_mono (h (fun ρ w=>Nc P n [] y QQ ρ w) (fun _ _ h=>h) a ha.toFits) fun e a' w' ⟨ρ',hf,hQ⟩=>by
  cases e with
  | normal=>exact hQ a' (AbB hf)
  | exit _=>exact hq _ ρ' a' w' (by simp) hf hQ
  | goto _=>exact hq _ ρ' a' w' (by simp) hf hQ
  | ret=>exact hq _ ρ' a' w' (by simp) hf hQ
  | panic _=>exact hq _ ρ' a' w' (by simp) hf hQ
  | outgrown=>exact hq _ ρ' a' w' (by simp) hf hQ)
theorem GY{id:Nat}{l:List Oper}{y:Code}(h:JF P l.toArray n D (Exit.then (y.wp P QQ) QQ) l ρ w):Nc P n D (.seq (.region id l.toArray false) y) QQ ρ w:=fun a ha=>wp_seq (wp_region_lit (h a ha))
theorem XB(h:∀a,FitsD n D ρ a->QQ .ret a w):Nc P n D .ret QQ ρ w:=fun a ha=>wp_ret (h a ha)
theorem KR{ops:Array Oper}{y:Code}(I:Aj->Prop)(hI:I ρ)(h:∀ρ',I ρ' ->Nc P n D y QQ ρ' w):JF P ops n D (Exit.then (y.wp P QQ) QQ) [] ρ w:=fun a ha=>h ρ hI a ha
theorem LR{ops:Array Oper}{rest:List Oper}{dst:Option Tmp}{op:Op}{ty:Ady}{pos:String}{af:Array Edge}(hd:(match dst with | some d=>Ae5 d n | none=>true)=true) 
  (h:Yp P (fun v w' =>JF P ops n D QQ rest (updO ρ dst v) w') (fun ch w' =>∀a,FitsD n D ρ a->QQ (.panic ch) a w') ((execOp (Ab ρ) ⟨dst,op,ty,pos,af,none⟩).run P w)):JF P ops n D QQ (⟨dst,op,ty,pos,af,none⟩ :: rest) ρ w:=by
 intro a ha;have hdn:∀t,dst=some t->t<n:=fun t ht=>by subst ht;exact AdD hd
 refine wpList_plain rfl fun K hK=> ?_;unfold Oper.wp Oper.upon;rw[ha.eval];have hput:=fun v=>ha.put dst hdn v
 revert h
 generalize (execOp (Ab ρ) ⟨dst,op,ty,pos,af,none⟩).run P w=r
 intro h
 match r,h with
 | .ok (.value v) w',h=>exact hK _ _ (h _ (hput v))
 | .ok .skip w',h=>exact hK _ _ (h _ (hput undef))
 | .halt (.panic v) w',h=>exact h a ha
 | .ok (.enter f args) w',h=>
  refine Calls.mono h ?_;intro e w'' hx
  match e,hx with
  | .returned v,hx=>exact hK _ _ (hx _ (hput v))
  | .panicked ch,hx=>exact hx a ha
theorem EC{ops:Array Oper}{rest:List Oper}{dst:Option Tmp}{op:Op}{ty:Ady}{pos:String}{af:Array Edge}(hd:(match dst with | some d=>Ae5 d n | none=>true)=true) 
  (h:Yk P (fun v w' =>JF P ops n D QQ rest (updO ρ dst v) w') ((execOp (Ab ρ) ⟨dst,op,ty,pos,af,none⟩).run P w)):JF P ops n D QQ (⟨dst,op,ty,pos,af,none⟩ :: rest) ρ w:=
 LR hd (Yp.ofK h)
theorem LS{ops:Array Oper}{rest:List Oper}{x:AdC}{ty:Ady}{pos:String}{af:Array Edge}{fv:Fn}{first cap:Array Adr}(hx:Ab ρ x = .func fv first cap) 
  (hr:(execOp (Ab ρ) ⟨none, .defer ⟨.value x,#[],#[]⟩,ty,pos,af,none⟩).run P w = .ok (.defer ⟨.fn fv cap,first⟩) w)
  (h:JF P ops n (⟨.fn fv cap,first⟩ :: D) QQ rest ρ w):JF P ops n D QQ (⟨none, .defer ⟨.value x,#[],#[]⟩,ty,pos,af,none⟩ :: rest) ρ w:=by
 intro a ha;refine wpList_plain rfl fun K hK=> ?_;unfold Oper.wp Oper.upon;rw[ha.eval,hr];refine hK _ _ (h _ ⟨ha.size,?_,ha.get⟩);show _ :: a.defers=_;rw[ha.defers]
theorem Ks{fn:Func}{R:Ending->Ads->Prop}:∀e ρ a w,e ≠ .normal->Fits n ρ a->Du P fn R e ρ w->bodyPostD P fn R e a w:=fun e ρ a w he ha h=>by
 cases e with
 | normal=>exact absurd rfl he
 | ret=>
  show Leaves P fn a.tmps R a.defers .returning w;rw[ha.defers];exact h a.tmps ha.get
 | panic ch=>
  show Leaves P fn a.tmps R a.defers (.panicking ch) w;rw[ha.defers];exact h
 | exit _=>exact h.elim
 | goto _=>exact h.elim
 | outgrown=>exact h.elim
theorem JG{f:FuncId}{fn:Func}{c:Code}{args:List Adr}{R:Ending->Ads->Prop}(hf:P.funcs[f]? =some fn)(hb:fn.body=some c)(m:Nat)(hm:fn.ntmps=m)(hn:args.length<=m) 
  (h:∀ρ,Begun args ρ->Nc P m [] c (bodyPostD P fn R) ρ w):Calls P f args.toArray w R:=by
 subst hm;refine calls_of_wp_defers hf hb ?_;have hget:∀t,(args.toArray++Afc (fn.ntmps-args.toArray.size) undef).getD t undef=args.getD t undef:=fun t=>by
  simp only[Ad8,Adz,AgT,Ad6,Aeh];by_cases ht:t<args.length
  ·rw[if_pos ht]
  ·rw[if_neg ht,AeX (by omega),Afm];split <;> rfl
 refine h (fun t=>args.getD t undef) ⟨fun _=>rfl⟩ _ ⟨?_,rfl,hget⟩;simp;omega
end
section
variable {P : AdM} {n : Nat}
theorem Uo{c:Code}{QF:Bi}{Q:Exit->Act->Ads->Prop}{ρ:Aj}{a:Act}{w:Ads}(h:Cm P n c QF ρ w)(ha:Fits n ρ a)(hq:∀e ρ' a' w',Fits n ρ' a' ->QF e ρ' w' ->Q e a' w'):c.wp P Q a w:=
 wp_mono (h a ha) fun e a' w' ⟨ρ',hf,hQ⟩=>hq e ρ' a' w' hf hQ
def Bb:FrameMode->Adr × FrameMode
 | .panicking ({ v,recovered:=false,goexit:=false } :: older)=>(v, .panicking ({ v,recovered:=true } :: older))
 | u=>(.nilIface,u)
theorem PW(c₀:Frame)(cs:List Frame)(u:FrameMode)(hu:c₀.mode=u)(K:Adr->List Frame->Prop)(h:K (Bb u).1 ({ c₀ with mode:=(Bb u).2 } :: cs)):
  match recoverD (c₀ :: cs)with
  | some (v,cs')=>K v cs'
  | none=>K .nilIface (c₀ :: cs):=by
 subst hu;obtain⟨cf,ct,ctodo,cd,cm,ck,cr⟩:=c₀
 match cm,h with
 | .run,h=>exact h
 | .returning,h=>exact h
 | .panicking [],h=>exact h
 | .panicking ({ v,recovered:=true,goexit:=g } :: older),h=>exact h
 | .panicking ({ v,recovered:=false,goexit:=true } :: older),h=>exact h
 | .panicking ({ v,recovered:=false,goexit:=false } :: older),h=>exact h
theorem EK{f:FuncId}{fn:Func}{c:Code}{args:List Adr}{u:FrameMode}{w:Ads}{R:Ending->Ads->Prop}{id:Nat}{d0 d1:Tmp}{ty0 ty1:Ady}{p0 p1:String}{af0 af1:Array Edge} 
  (hf:P.funcs[f]? =some fn) (hb:fn.body=some (.seq (.region id #[⟨some d0, .call ⟨.builtin .recover,#[],#[]⟩,ty0,p0,af0,none⟩,⟨some d1, .assign (.tmp d0),ty1,p1,af1,none⟩] false) c)) (m:Nat) (hm:fn.ntmps=m) (hn:args.length<=m) (h0:Ae5 d0 m=true) (h1:Ae5 d1 m=true)
  (h:∀b,Begun args b->Cm P m c (Du P fn R) (updO (updO b (some d0) (Bb u).1) (some d1) (Bb u).1) w):
  CallsD P f args.toArray u w fun e u' w' =>u' =(Bb u).2/\R e w' :=by
 subst hm;refine callsD_of_wpS hf hb fun c₀ cs hu=> ?_;have hget:∀t,(args.toArray++Afc (fn.ntmps-args.toArray.size) undef).getD t undef=args.getD t undef:=fun t=>by
  simp only[Ad8,Adz,AgT,Ad6,Aeh];by_cases ht:t<args.length
  ·rw[if_pos ht]
  ·rw[if_neg ht,AeX (by omega),Afm];split <;> rfl
 have hF:Fits fn.ntmps (fun t=>args.getD t undef) { tmps:=args.toArray++Afc (fn.ntmps-args.toArray.size) undef,defers:= [] } :=⟨by simp;omega,rfl,hget⟩
 generalize ({ tmps:=args.toArray++Afc (fn.ntmps-args.toArray.size) undef,defers:= [] } :Act)=a at hF ⊢
 have hd0:∀t,some d0=some t->t<fn.ntmps:=fun t ht=>by cases ht;exact AdD h0
 have hd1:∀t,some d1=some t->t<fn.ntmps:=fun t ht=>by cases ht;exact AdD h1
 have hF1:=hF.put (some d0) hd0 (Bb u).1;have hF2:=hF1.put (some d1) hd1 (Bb u).1
 apply wpS_seq
 apply wpS_region
 have g:(execOp a.eval (⟨some d0, .call ⟨.builtin .recover,#[],#[]⟩,ty0,p0,af0,none⟩:Oper)).run P w = .ok .recover w:=by
  simp[go_sem]
 have hkey:∀(v:Adr) (cs' :List Frame),v=(Bb u).1->cs' = { c₀ with mode:=(Bb u).2 } :: cs->wpOpsS P #[⟨some d0, .call ⟨.builtin .recover,#[],#[]⟩,ty0,p0,af0,none⟩,⟨some d1, .assign (.tmp d0),ty1,p1,af1,none⟩] (Exit.thenS (c.wpS P (bodyPostS P fn c₀ cs fun e u' w' =>u' =(Bb u).2/\R e w')) (bodyPostS P fn c₀ cs fun e u' w' =>u' =(Bb u).2/\R e w')) [1] (a.put (some d0) v) cs' w:=by
  rintro v cs' rfl rfl;have hv:(a.put (some d0) (Bb u).1).eval (.tmp d0)=(Bb u).1:=by
   rw[hF1.eval];show(bif Nat.beq d0 d0 then _ else _)=_;rw[Nat.beq_refl];rfl
  have i:(execOp (a.put (some d0) (Bb u).1).eval (⟨some d1, .assign (.tmp d0),ty1,p1,af1,none⟩:Oper)).run P w = .ok (.value (Bb u).1) w:=by
   simp[execOp,hv]
  simp only[wpOpsS,Aeh,List.getElem?_cons_succ,Af8,Region.wanted,i,Oper.upon,if_true];refine wpS_of_wp (Uo (h _ ⟨fun _=>rfl⟩) hF2 fun e ρ' a' w' hf' hQ=> ?_);cases e with
  | normal=>obtain⟨v,hv,hR⟩:=hQ a'.tmps hf'.get;exact⟨hf'.defers,_,rfl,v,hv,rfl,hR⟩
  | ret=>obtain⟨v,hv,hR⟩:=hQ a'.tmps hf'.get;exact⟨hf'.defers,_,rfl,v,hv,rfl,hR⟩
  | panic ch=>exact⟨hf'.defers,_,rfl,rfl,hQ⟩
  | exit _=>exact hQ.elim
  | goto _=>exact hQ.elim
  | outgrown=>exact hQ.elim
 show wpOpsS P _ _ [0,1] a (c₀ :: cs) w;unfold wpOpsS;simp only[Aeh,Af8,Region.wanted,if_true,g];exact PW c₀ cs u hu (fun v cs' =>wpOpsS P _ _ [1] (a.put (some d0) v) cs' w) (hkey _ _ rfl rfl)
end
section
variable {P : AdM} {K : Adr -> Ads -> Prop} {ρ : Aj} {w : Ads} {d : Option Tmp} {ty : Ady} {pos : String} {af : Array Edge} {gd : Option (Nat × Bool)} {t ty2 : Ady}
theorem Aa5{x:AdC}{u:Ady}{v:Adr}{fs}(hu:P.underlying u=some (.struct fs))(hx:Ab ρ x = .iface u v)(hk:K (.tuple #[v, .bool true]) w):Yk P K ((execOp (Ab ρ) ⟨d, .typeAssert x t u true,ty,pos,af,gd⟩).run P w):=by
 refine AcG (v:= .tuple #[v, .bool true]) (w' :=w) ?_ hk;unfold execOp;simp[Instr.typeAssert,hx,run_underlying hu,Aek]
theorem Abb{x:AdC}(he:(Op.equal t .nilIface .nilIface).run P w = .ok true w)(hx:Ab ρ x = .nilIface)(hk:K (.bool false) w):Yk P K ((execOp (Ab ρ) ⟨d, .binOp .neq t x (.const .nilIface) ty2,ty,pos,af,gd⟩).run P w):=by
 have hy:Ab ρ (.const .nilIface) = .nilIface:=rfl;refine AcG (v:= .bool false) (w' :=w) ?_ hk;unfold execOp;simp only[hx,hy];simp[eqGuard,Go.binOp,he,Aek]
theorem Abc{x:AdC}{u:Ady}{v:Adr}(he:(Op.equal t (.iface u v) .nilIface).run P w = .ok false w)(hx:Ab ρ x = .iface u v)(hk:K (.bool true) w):Yk P K ((execOp (Ab ρ) ⟨d, .binOp .neq t x (.const .nilIface) ty2,ty,pos,af,gd⟩).run P w):=by
 have hy:Ab ρ (.const .nilIface) = .nilIface:=rfl;refine AcG (v:= .bool true) (w' :=w) ?_ hk;unfold execOp;simp only[hx,hy];simp[eqGuard,Go.binOp,he,Aek]
theorem Qv{x:AdC}{fv:Fn}{first cap:Array Adr}(hx:Ab ρ x = .func fv first cap):(execOp (Ab ρ) ⟨none, .defer ⟨.value x,#[],#[]⟩,ty,pos,af,none⟩).run P w = .ok (.defer ⟨.fn fv cap,first⟩) w:=by
 unfold execOp;simp[resolve,hx,Deferred.ofValue]
theorem Aau{p:Tmp}{ty:Ady}{g:Nat}{t:Ady}{v:Adr}{fr:Nat × Nat}{d:TypeDesc}(hp:ρ p = .pointer (some ⟨g,0,none⟩))(hg:w.heap[g]? =some (.cells ([v]).toArray t fr)) 
  (hu:P.underlying ty=some d) (hd:(match d with | .struct _ | .array _ _=>false | _=>true)=true):ResF P ρ w (.cell p ty) v:=by
 refine⟨_,hp,?_⟩;have hc:w.cell? ⟨g,0,none⟩=some v:=Ac hg rfl;have hagg:(isAgg ty).run P w = .ok false w:=by
  unfold isAgg;cases d <;> first | (simp at hd;done) | simp[run_underlying hu,Aek]
 simp[loadVar,hagg,hc]
theorem Fz{fn:Func}{tmps:Array Adr}{R:Ending->Ads->Prop}(rs:List ResultVar)(hrs:fn.results=rs.toArray)(vs:List Adr)(v:Adr)(hv:IZ vs=v)(ht:∀t,tmps.getD t undef=ρ t)(h:Ht P ρ w rs vs)(hR:R (.returned v) w):Leaves P fn tmps R [] .returning w:=
 ⟨_,H7 hrs ht h,by rw[hv];exact hR⟩
end
set_option maxHeartbeats 1600000
theorem XC(w:Ads):(Op.equal 20 .nilIface .nilIface).run Adt w = .ok true w:=by kernel_rfl
theorem V2(u:Ady)(v:Adr)(w:Ads):(Op.equal 20 (.iface u v) .nilIface).run Adt w = .ok false w:=by kernel_rfl
theorem RX{d:Option Tmp}{ty:Ady}{pos:String}{af:Array Edge}{gd:Option (Nat × Bool)}(σ:AdC->Adr)(w:Ads):(execOp σ ⟨d, .alloc 212,ty,pos,af,gd⟩).run Adt w = .ok (.value (PQ w.heap.size 0)) (w.alloc (.cells (([]:List Adr)).toArray 212)):=by kernel_rfl
theorem RY:(Tryz.prog.info? 28).map (·.size)=some 1:=by kernel_rfl
theorem NE(b2 b3:Nat)(w:Ads):CallsD Adt 149 #[PQ b2 0,PQ b3 0] (.returning) w fun e u' w' =>u' =(Bb (.returning)).2/\(e = .returned (.tuple #[])/\Ext w w'):=by
 have hE:=Acz w;refine EK (u:= .returning) (args:= [PQ b2 0,PQ b3 0]) Tryz.func149 rfl 17 rfl (AdD rfl) rfl rfl (R:=fun e w' =>e = .returned (.tuple #[])/\Ext w w') ?_;intro ρz hb;have a:(updO (updO ρz (some 5) (Bb (.returning)).1) (some 2) (Bb (.returning)).1) 0=(PQ b2 0:Adr):=hb.get 0;have T1:(updO (updO ρz (some 5) (Bb (.returning)).1) (some 2) (Bb (.returning)).1) 1=(PQ b3 0:Adr):=hb.get 1;have T2:(updO (updO ρz (some 5) (Bb (.returning)).1) (some 2) (Bb (.returning)).1) 2=(.nilIface:Adr):=rfl
 generalize updO (updO ρz (some 5) (Bb (.returning)).1) (some 2) (Bb (.returning)).1=c at a T1 T2 ⊢
 clear hb;refine sk fun f b=>(wt (oM rfl (oS rfl (Abb (XC _) T2 (oZ (tN (b _ _ (El (vr (.bool (false)) rfl) (GF (G3 (fn:=Tryz.f149) [] rfl [] (.tuple #[]) rfl trivial ?_))))))))));exact⟨rfl,hE⟩
theorem NF(w0:Ads)(b2 b3:Nat)(X2:Af)(p:Adr)(w:Ads)(h0:Ext w0 w)(l2:w0.heap.size<=b2)(l3:w0.heap.size<=b3)(hne:b2≠b3)(h2:w.heap[b2]? =some (.cells (refsC X2).toArray 36 (0,0)))(h3:w.heap[b3]? =some (.cells ([p]).toArray 28 (0,0))):CallsD Adt 149 #[PQ b2 0,PQ b3 0] (.panicking [Do]) w fun e u' w' =>u' =(Bb (.panicking [Do])).2/\(e = .returned (.tuple #[])/\w'.heap[b2]? =some (.cells (refsC ((⟨[],[],[],zid,[]⟩,⟨.slice none 0 0, .slice none 0 0, .slice none 0 0⟩):Af)).toArray 36 (0,0))/\w'.heap[b3]? =some (.cells ([NI 6]).toArray 28 (0,0))/\Ext w0 w'):=by
 have hl2_:=(bl h2);have hl3_:=(bl h3);refine EK (u:= .panicking [Do]) (args:= [PQ b2 0,PQ b3 0]) Tryz.func149 rfl 17 rfl (AdD rfl) rfl rfl (R:=fun e w' =>e = .returned (.tuple #[])/\w'.heap[b2]? =some (.cells (refsC ((⟨[],[],[],zid,[]⟩,⟨.slice none 0 0, .slice none 0 0, .slice none 0 0⟩):Af)).toArray 36 (0,0))/\w'.heap[b3]? =some (.cells ([NI 6]).toArray 28 (0,0))/\Ext w0 w') ?_;intro ρz hb;have h:(updO (updO ρz (some 5) (Bb (.panicking [Do])).1) (some 2) (Bb (.panicking [Do])).1) 0=(PQ b2 0:Adr):=hb.get 0;have T1:(updO (updO ρz (some 5) (Bb (.panicking [Do])).1) (some 2) (Bb (.panicking [Do])).1) 1=(PQ b3 0:Adr):=hb.get 1;have T2:(updO (updO ρz (some 5) (Bb (.panicking [Do])).1) (some 2) (Bb (.panicking [Do])).1) 2=((.iface 212 (.agg #[])):Adr):=rfl
 generalize updO (updO ρz (some 5) (Bb (.panicking [Do])).1) (some 2) (Bb (.panicking [Do])).1=aa at h T1 T2 ⊢
 clear hb;refine sk fun K1 q=>(wt (oM rfl (oS rfl (Abc (V2 _ _ _) T2 (oZ (tN (q _ _ (GG (vr (.bool (true)) rfl) (sk fun K2 r=>(sk fun K3 s=>(wt (oM rfl (oS rfl (Aa5 (Rp).choose_spec T2 (oM rfl (oS rfl (AcB (vs:= [.agg (([]:List Adr)).toArray, .bool (true)]) (vr (.tuple #[.agg (([]:List Adr)).toArray, .bool (true)]) rfl) (show _=some (.agg (([]:List Adr)).toArray:Adr)from rfl) (oS rfl (AcB (vs:= [.agg (([]:List Adr)).toArray, .bool (true)]) (vr (.tuple #[.agg (([]:List Adr)).toArray, .bool (true)]) rfl) (show _=some (.bool (true):Adr)from rfl) (oS rfl (AcH RX fun j t k l b ae=> ?_)))))))))))))))))))));have x:=h0.size;have af:=AO (bl h2) k;have ag:=AO (bl h3) k;have h0:=h0.trans b;have h2:=eb b h2;have h3:=eb b h3;have a:=l;clear l;have ah:j<t.heap.size:=by omega
 refine oS rfl (Z7 (vr (PQ j 0) rfl) (vr (.agg (([]:List Adr)).toArray) rfl) a (rfl) ((show(Tryz.prog.info? 212).map (·.size)=some 0 from by kernel_rfl)) ((by intro u hu;cases hu)) fun ai m c aj=> ?_);have h0:=Ad h0 c (Adu x (by omega));have h2:=kb c h2 (by omega);have h3:=kb c h3 (by omega);clear a;have a:=m;clear m;have ak:=bl a;refine oA rfl (oZ (tN (s _ _ (sk fun al y=>(wt (oM rfl (oS rfl (Z2 (vr (.bool (true)) rfl) (oZ (tN (y _ _ (El (vr (.bool (false)) rfl) (GF (tN (r _ _ (wt (oS rfl (Ac1 (v:= .agg (refsC ((⟨[],[],[],zid,[]⟩,⟨.slice none 0 0, .slice none 0 0, .slice none 0 0⟩):Af)).toArray) (by kernel_rfl) (oS rfl (Z7 h (vr (.agg (refsC ((⟨[],[],[],zid,[]⟩,⟨.slice none 0 0, .slice none 0 0, .slice none 0 0⟩):Af)).toArray) rfl) h2 (by simp only[Ad6,An]) (AQ (An _) Lr) (AS rfl rfl rfl) fun z n f am=> ?_))))))))))))))))))));have h0:=Ad h0 f (Adu (Adw _) (by omega));have h3:=kb f h3 (by omega);have a:=kb f a (by omega);clear h2;have h2:z.heap[b2]? =some (.cells (refsC ((⟨[],[],[],zid,[]⟩,⟨.slice none 0 0, .slice none 0 0, .slice none 0 0⟩):Af)).toArray 36 (0,0)):=n;clear n;have an:=bl h2;refine oS rfl (ZS (i:=0) (v:=NI 6) T1 (vr (NI 6) rfl) h3 (AdD rfl) RY rfl rfl fun ao o g ap=> ?_);have h0:=Ad h0 g (Adu (Adw _) (by omega));have a:=kb g a (by omega);have h2:=kb g h2 (by omega);clear h3;have h3:=o;clear o;have aq:=bl h3;refine oZ (G3 (fn:=Tryz.f149) [] rfl [] (.tuple #[]) rfl trivial ?_);exact⟨rfl,h2,h3,h0⟩
theorem OG.setE{α:Type}{n k g:Nat}{t:Ady}{enc:α->List Adr}{w w' :Ads}{v:Adr}{l:List α}(h:OG n t k enc w v l)(hg:w.grownBy w' (some g))(hl:g<n):OG n t k enc w' v l:=
 h.kept hg fun e=>by have:=(h.2.lt g e).1;omega
theorem RefsOw.set{w w' :Ads}{X:Af}{n g:Nat}(h:RefsOw n w X)(hg:w.grownBy w' (some g))(hl:g<n):RefsOw n w' X:=⟨h.br.setE hg hl,h.tg.setE hg hl,h.lg.setE hg hl⟩
theorem AbJ{w:Ads}{X:Af}{n:Nat}(h:RefsOw n w X):RefsAt w X:=⟨ZQ h.br,ZQ h.tg,ZQ h.lg⟩
def XD(w:Ads)(X:Af)(c:Nat):Option Au->Prop
 | some m=>c=0/\X.1=m/\RefsAt w X/\RefsOw 0 w X
 | none=>c=6/\X=((⟨[],[],[],zid,[]⟩,⟨.slice none 0 0, .slice none 0 0, .slice none 0 0⟩):Af)
theorem Uq{d:Option Tmp}{ty:Ady}{pos:String}{af:Array Edge}{gd:Option (Nat × Bool)}(σ:AdC->Adr)(w:Ads):(execOp σ ⟨d, .alloc 28,ty,pos,af,gd⟩).run Adt w = .ok (.value (PQ w.heap.size 0)) (w.alloc (.cells ([NI 0]).toArray 28)):=by kernel_rfl
theorem NG{z0:Adr}(h0:∃ao n c,z0 = .slice ao n c)(w:Ads):(Aew 216 #[(0,z0)]).run Adt w = .ok (.agg #[z0, .int .i64 0]) w:=by obtain⟨_,_,_,rfl⟩:=h0;kernel_rfl
theorem O2{z0:Adr}(h0:∃ao n c,z0 = .slice ao n c)(w:Ads):(Aew 216 #[(0,z0)]).run Adt w = .ok (.agg (z0 :: (.int .i64 (0) :: ([]))).toArray) w:=by
 exact NG h0 w
theorem RZ:Plain Adt 150:=fun _ _=>by kernel_rfl
theorem Nf:Tryz.prog.underlying 28=some (.int .i64):=by kernel_rfl
theorem PX(w:Ads)(v:Adr)(b:Bs)(hr:RB w v b)(hl:b.length<=4611686018427387904):
  Calls Adt 123 #[v] w fun e w' =>∃x,e = .returned x/\∃X c,x = .tuple #[.agg (refsC X).toArray,NI c]/\XD w' X c (CT b)/\Ext w w' :=by
 refine JG (args:= [v]) Tryz.func123 rfl 9 rfl (AdD rfl) ?_;intro ah hb;have k:ah 0=(v:Adr):=hb.get 0;clear hb;have hE:=Acz w;refine Nd _ Ks fun K1 ai=>(wt (oS rfl (AcH S6 fun a p ar t aj au=> ?_)));have hE:=hE.trans aj;have l:=t;clear t;have av:a<p.heap.size:=by omega
 refine oS rfl (AcH Uq fun g m ak u y aw=> ?_);have al:=hE.size;have ax:=AO (bl l) ak;have hE:=hE.trans y;have l:=eb y l;have n:=u;clear u;have ay:g<m.heap.size:=by omega
 refine Zm [(0,v),(2,PQ a 0),(3,PQ g 0)] ⟨k,rfl,rfl,trivial⟩ fun az ⟨k,T2,T3,_⟩=> ?_;have hrA:RB m v b:=(hr.keep hE);have z:=l;have aa:=n;have hEA:=hE;have q:=Acz m;have a0:=hE.size;refine tN (ai _ _ (GY (EC rfl (Aac (vs:= #[PQ a 0,PQ g 0]) (by simp only[AdH,AdK,AdO];exact congrArg Ad2 (Cj T2 T3)) (LS (vr (.func (.func 149) #[] #[PQ a 0,PQ g 0]) rfl) (Qv (vr (.func (.func 149) #[] #[PQ a 0,PQ g 0]) rfl)) (KR (fun ρ=>ρ 0=(v:Adr)/\ρ 2=(PQ a 0:Adr)/\ρ 3=(PQ g 0:Adr)/\True) ⟨k,T2,T3,trivial⟩ fun a1 ⟨k,T2,T3,_⟩=>(GY (EC rfl (AcF k (EC rfl (AaS (vr v rfl) (fun w=>O2 (RB.slice (hr.keep hE)) w) (EC rfl (AcP (vr (.agg (B0 ((⟨b,0⟩,⟨v⟩):DL)).toArray) rfl) fun ab am ac ad o a2=> ?_)))))))))))));have a3:=AO (bl l) ac;have a4:=AO (bl n) ac;have hE:=hE.trans o;have l:=eb o l;have n:=eb o n;have q:=q.trans o;have an:=ad;clear ad;have a5:ab<am.heap.size:=by omega
 refine LR rfl (ZX RZ (vr (PQ ab 0) rfl) ?_);refine Ao (Un q an hrA (by omega) hl) ?_ ?_;rotate_left
 ·
  rintro ch a6 ⟨hP,rfl,hx⟩;intro a_ ha_;show Leaves _ _ a_.tmps _ a_.defers (.panicking _) _;rw[ha_.defers];refine leaves_cons (f:=149) (args:= #[PQ a 0,PQ g 0]) (by simp) (by simp[go_sem]) ((NF w a g _ _ _ (hEA.trans hx) (by omega) (by omega) (by omega) (eb hx z) (eb hx aa)).mono ?_);rintro e u' p ⟨rfl,rfl,h,j,ao⟩;exact Fz (ρ:=_) _ rfl [.agg (refsC ((⟨[],[],[],zid,[]⟩,⟨.slice none 0 0, .slice none 0 0, .slice none 0 0⟩):Af)).toArray,NI 6] (.tuple #[.agg (refsC ((⟨[],[],[],zid,[]⟩,⟨.slice none 0 0, .slice none 0 0, .slice none 0 0⟩):Af)).toArray,NI 6]) rfl ha_.get ⟨AcQ (T2) h (MD).choose_spec rfl (AQ (An _) Lr),Aau (T3) j Nf rfl,trivial⟩ ⟨_,rfl,_,_,rfl,by rw[hP];exact⟨rfl,rfl⟩,ao⟩
 rintro v_ a7 ⟨X,hP,rfl,hX,hx⟩;have hE:=hEA.trans hx;have h:=eb hx z;have j:=eb hx aa;have a8:=hx.size;have hmt:=ZQ hX.br;have hmg:=ZQ hX.tg;have hml:=ZQ hX.lg;have a9:=(bl h);have ba:=(bl j);have hzA:=hEA.size;refine EC rfl (Z7 T2 (vr (.agg (refsC X).toArray) rfl) h (by simp only[Ad6,An]) (AQ (An _) Lr) (AS (AcD hmt).2 (AcD hmg).2 (AcD hml).2) fun ae af r bb=> ?_);have hE:=Ad hE r (Adu (Adw _) (by omega));have j:=kb r j (by omega);have hX:RefsOw m.heap.size ae X:=RefsOw.set hX r (by omega);clear hmt;clear hmg;clear hml;clear h;have h:ae.heap[a]? =some (.cells (refsC X).toArray 36 (0,0)):=af;clear af;have bc:=bl h;refine EC rfl (ZS (i:=0) (v:=NI 0) T3 (vr (NI 0) rfl) j (AdD rfl) RY rfl rfl fun ap ag s bd=> ?_);have hE:=Ad hE s (Adu al (by omega));have hX:RefsOw m.heap.size ap X:=RefsOw.set hX s (by omega);have h:=kb s h (by omega);clear j;have j:=ag;clear ag;have be:=bl j;refine KR (fun ρ=>ρ 0=(v:Adr)/\ρ 2=(PQ a 0:Adr)/\ρ 3=(PQ g 0:Adr)/\True) ⟨k,T2,T3,trivial⟩ fun bf ⟨k,T2,T3,_⟩=>(XB fun a_ ha_=> ?_);show Leaves _ _ a_.tmps _ a_.defers .returning _;rw[ha_.defers];refine leaves_cons (f:=149) (args:= #[PQ a 0,PQ g 0]) (by simp) (by simp[go_sem]) ((NE a g _).mono ?_);rintro e u' p ⟨rfl,rfl,hxi⟩;exact Fz (ρ:=_) _ rfl [.agg (refsC X).toArray,NI 0] (.tuple #[.agg (refsC X).toArray,NI 0]) rfl ha_.get ⟨AcQ (T2) (eb hxi h) (MD).choose_spec rfl (AQ (An _) Lr),Aau (T3) (eb hxi j) Nf rfl,trivial⟩ ⟨_,rfl,_,_,rfl,by rw[hP];exact⟨rfl,rfl,(AbJ hX).keep hxi,(RefsOw.zero hX).keep hxi⟩,hE.trans hxi⟩
section
variable {was : Au} {b : Bs}
theorem YK(h:¬0<b.length):BT was b=none:=if_neg h
theorem O3(h:0<b.length)(h1:(b.getD 0 0).toNat=83):BT was b=CT (b.drop 1):=(if_pos h).trans (if_pos h1)
theorem XE(h:0<b.length)(h1:¬(b.getD 0 0).toNat=83)(h2:¬(b.getD 0 0).toNat=84):BT was b=none:=(if_pos h).trans ((if_neg h1).trans (if_neg h2))
theorem FK(h:0<b.length)(h1:¬(b.getD 0 0).toNat=83)(h2:(b.getD 0 0).toNat=84):BT was b=(CE b 1 b.length (De b) []).bind fun x=>EY was b x.1 x.2:=(if_pos h).trans ((if_neg h1).trans (if_pos h2))
theorem XF(h:CQ b 1=none):CE b 1 b.length (De b) []=none:=by unfold CE;rw[h];rfl
theorem XG{n j:Nat}(h:CQ b 1=some (n,j))(hn:¬n<=b.length):CE b 1 b.length (De b) []=none:=by unfold CE;rw[h];exact if_neg hn
theorem Qw{n j:Nat}(h:CQ b 1=some (n,j))(hn:n<=b.length):CE b 1 b.length (De b) []=Cn (De b) n ([],j):=by unfold CE;rw[h];exact if_pos hn
theorem YL{j n k j' :Nat}{o:List AC}(hk:k<n)(hit:Cn (De b) k ([],j)=some (o,j'))(hx:F8 b j' =none):Cn (De b) n ([],j)=none:=by
 refine Io (j:=k+1) ?_ n hk;rw[FG hit];unfold De;rw[hx];rfl
theorem XH{j k j' j2:Nat}{o:List AC}{x:AC}(hit:Cn (De b) k ([],j)=some (o,j'))(hx:F8 b j' =some (x,j2)):Cn (De b) (k+1) ([],j)=some (o++ [x],j2):=by
 rw[FG hit];unfold De;rw[hx];rfl
theorem Ur{i n:Nat}{x:AC}(h:F8 b i=some (x,n)):i+66<=n/\n<=b.length/\x.name.length<=256:=by
 unfold F8 at h;simp only[Aff]at h;obtain⟨⟨k,j1⟩,h1,⟨s,j2⟩,h2,⟨o,j3⟩,h3,⟨q,j4⟩,h4,h5⟩:=h;cases h5;have a:=Fd h2;have c:=(txtP_le h2).2;have f1:j1=i+1:=by
  unfold DY at h1;split at h1
  ·cases h1;rfl
  ·cases h1
 have f3:j3=j2+32:=by
  unfold DQ at h3;split at h3
  ·cases h3;rfl
  ·cases h3
 have f4:j4=j3+32/\j3+32<=b.length:=by
  unfold DQ at h4;split at h4
  ·cases h4;exact⟨rfl,by assumption⟩
  ·cases h4
 simp only at a c f1 f3 f4 ⊢;omega
theorem O4{j:Nat}:∀ {k:Nat} {o:List AC} {j' :Nat},Cn (De b) k ([],j)=some (o,j')->j<=b.length->o.length=k/\j+66*k<=j' /\j' <=b.length/\∀u∈o,u.name.length<=256
 | 0,o,j',h,hj=>by cases h;exact⟨rfl,by omega,hj,fun u hu=>by cases hu⟩
 | k+1,o,j',h,hj=>by
  obtain⟨u,h1,h2⟩:=Ip h;obtain⟨q1,q2,q3,q4⟩:=O4 (o:=u.1) (j' :=u.2) h1 hj;unfold De at h2;cases hd:F8 b u.2 with
  | none=>rw[hd]at h2;cases h2
  | some x=>
   rw[hd]at h2;cases h2;have q5:=Ur (x:=x.1) (n:=x.2) hd;refine⟨by rw[Adx,q1];rfl,by omega,q5.2.1,fun y hy=> ?_⟩;rcases Aed.1 hy with hy | hy
   ·exact q4 y hy
   ·rw[Aeb.1 hy];exact q5.2.2
theorem tj_text{l:List AC}{i:Nat}(h:A5 b i 256=none):EY was b l i=none:=by unfold EY;rw[h];rfl
theorem YM{l:List AC}{i n:Nat}{s:Bs}(h:A5 b i 256=some (s,n))(hn:¬n=b.length):EY was b l i=none:=by unfold EY;rw[h];exact if_neg hn
theorem YN{l:List AC}{i n:Nat}{s:Bs}(h:A5 b i 256=some (s,n))(hn:n=b.length)(ha:¬(Ag was l s).1=0):EY was b l i=none:=by unfold EY;rw[h];exact(if_pos hn).trans (if_neg ha)
theorem Zj{l:List AC}{i n:Nat}{s:Bs}(h:A5 b i 256=some (s,n))(hn:n=b.length)(ha:(Ag was l s).1=0):EY was b l i=some (Ag was l s).2:=by unfold EY;rw[h];exact(if_pos hn).trans (if_pos ha)
theorem IP{r:Au}(h:BT was b=some r):AA r=true:=by
 unfold BT at h;split at h
 ·split at h
  ·exact(Tw h).1
  ·split at h
   ·obtain⟨x,-,h2⟩:=Aff.1 h;unfold EY at h2;obtain⟨t,-,h3⟩:=Aff.1 h2;split at h3
    ·split at h3
     ·rename_i h4
      cases h3;exact Ke h4
     ·cases h3
    ·cases h3
   ·cases h
 ·cases h
end
def DecJ(m:Au)(c:Nat):Option Au->Prop
 | some n=>c=0/\m=n
 | none=>c=6
theorem DecJ.ok{m:Au}{c:Nat}{o:Option Au}(h:DecJ m c o)(hc:c=0):o=some m:=by
 cases o with
 | none=>have h:c=6:=h;omega
 | some n=>rw[h.2]
theorem DecJ.bad{m:Au}{c:Nat}{o:Option Au}(h:DecJ m c o)(hc:¬c=0):o=none:=by
 cases o with
 | none=>rfl
 | some n=>exact absurd h.1 hc
theorem PY(w:Ads)(v:Adr)(b:Bs)(hr:RB w v b)(hl:b.length<=4611686018427387904):
  Calls Adt 123 #[v] w fun e w' =>∃X c,e = .returned (.tuple #[.agg (refsC X).toArray,NI c])/\RefsOw 0 w' X/\DecJ X.1 c (CT b)/\Ext w w' :=
 (PX w v b hr hl).mono fun e w' h=>by
  obtain⟨x,rfl,X,c,rfl,h1,h2⟩:=h;refine⟨X,c,rfl,?_,?_,h2⟩
  ·cases hd:CT b with
   | none=>rw[hd]at h1;rw[h1.2];exact⟨AcO _ _ _ _ _,AcO _ _ _ _ _,AcO _ _ _ _ _⟩
   | some m=>rw[hd]at h1;exact h1.2.2.2
  ·cases hd:CT b with
   | none=>rw[hd]at h1;exact h1.1
   | some m=>rw[hd]at h1;exact⟨h1.1,h1.2.1⟩
end Go.Proofs.YtbbbblinjomajaaGreatDoor
