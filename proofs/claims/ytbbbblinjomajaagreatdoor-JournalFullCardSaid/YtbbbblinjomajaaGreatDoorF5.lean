/- Part 5 of what stands behind these statements: laws and walks of the functions that are reached. Conditions: those that each theorem names. -/
import Derived.Test.YtbbbblinjomajaaGreatDoorF4
set_option linter.unusedVariables false
set_option linter.unusedSimpArgs false
namespace Go.Proofs.YtbbbblinjomajaaGreatDoor
open _root_.Nat renaming le_refl->AcI,le_trans->AcG,le_add_right->Aey,zero_le->AcZ,le_of_ble_eq_true->AcP,lt_of_lt_of_le->Ad3,blt->Aeh
open _root_.List renaming take_length->Aeg,take_append_of_le_length->Afx,take_of_length_le->Adj,getD_eq_getElem?_getD->AcL,getElem?_append_left->Ad1,getElem?_append_right->AdO,mem_map_of_mem->AeR,mem_map->AdC,getElem?_eq_getElem->AcQ,mem_cons_self->AdT,mem_cons_of_mem->AdR,map_toArray->AcT,map_cons->AcX,map_nil->Ac2,length_append->AcJ,append_assoc->Ac7,mem_append->Adt,mem_singleton->Adn,length_cons->AcV,length_nil->Ac1,toArray->Adf,append_toArray->Adu,cons_append->Ade,nil_append->Adm,mem_cons->Adl,not_mem_nil->AdJ,size_toArray->Adi,getElem?_toArray->Ads,getElem?_eq_none->Ad8,getElem?_cons_zero->Afk
open _root_.Go renaming World->AcE,Value->AcD,TypeId->AcK,Program->AcY,Operand->AcO
open _root_.Go.Proofs.Tryz renaming prog->AcF
open _root_.Go.Instr renaming buildSlice->Adc,build->AdI,index->Ahk
open _root_.Go.Sem renaming run_bind->AcN,run_pure->AcR
open _root_.Go.Result renaming andThen_ok->AcM,andThen->Adw
open _root_.And renaming intro->AdF
open _root_.Int renaming toNat_natCast->Ac8
open _root_.Bool renaming or_false->Agx,and_eq_true->Ada,or_eq_true->AdU
open _root_.Go.Lib renaming uvarint->Ac6,byteCells->AcH,byteCells_length->AcS
open _root_.Go.World.grownBy renaming refl->Adb
open _root_.Go.Value renaming slice->AcU,ownBlock->Adp
open _root_.Option renaming bind_some->Ac0,bind_none->AdH,bind_eq_some_iff->Aer
open _root_.Array renaming replicate->Aeo,getD_eq_getD_getElem?->Adk,getElem?_append->Af5,getElem?_replicate->Aex
open Go.RowKit
def jc(D:Al):Bs:=match lookD D.now jrN with
 | some k=>(Aq D k).1
 | none=> []
def dirM(D:Al)(m:Nat):Bc:=(D.acts.take m).foldl turnD D.kept
def H9(D:Al):Option Nat->Bs->Prop
 | some k,c=>∃n,(Aq D k).2<=n/\n<=(Aq D k).1.length/\c=(Aq D k).1.take n
 | none,c=>c= []
def CC(D:Al)(c:Bs):Prop:=∃m,m<=D.acts.length/\H9 D (lookD (dirM D m) jrN) c
def Safe(P:Bs->Prop)(D:Al):Prop:=∀c,CC D c->P c
structure JOk (D : Al) : Prop where
 ok:DOk D
 now:dirM D D.acts.length=D.now
 inj:InjD D.now
 nm:∀m,∀e∈dirM D m,e.1=jrN\/e.1=nwN
theorem JOk.nmn{D:Al}(h:JOk D):∀e∈D.now,e.1=jrN\/e.1=nwN:=by
 have:=h.nm D.acts.length
 rwa [h.now]at this
structure EqD (D D' : Al) : Prop where
 files:D'.files=D.files
 now:D'.now=D.now
 kept:D'.kept=D.kept
 acts:D'.acts=D.acts
 quota:D'.quota=D.quota
section
variable {D D' : Al} {P : Bs -> Prop}
theorem EqD.jc(h:EqD D D'):jc D' =jc D:=by unfold Go.Proofs.YtbbbblinjomajaaGreatDoor.jc Aq;rw[h.now,h.files]
theorem EqD.cc(h:EqD D D')(c:Bs):CC D' c↔CC D c:=by
 have h1:∀m,dirM D' m=dirM D m:=fun m=>by unfold dirM;rw[h.acts,h.kept]
 have h2:∀o c,H9 D' o c=H9 D o c:=fun o c=>by
  cases o with
  | none=>rfl
  | some k=>show(∃n,_)=∃n,_;unfold Aq;rw[h.files]
 unfold CC;rw[h.acts];simp only[h1,h2]
theorem EqD.ok(h:EqD D D')(hj:JOk D):JOk D' :=by
 refine⟨⟨?_,?_,?_,?_⟩,?_,?_,?_⟩
 ·rw[h.files,h.now];exact hj.ok.now
 ·rw[h.files,h.kept];exact hj.ok.kept
 ·rw[h.files,h.acts];exact hj.ok.acts
 ·rw[h.files];exact hj.ok.syn
 ·unfold dirM;rw[h.acts,h.kept,h.now];exact hj.now
 ·rw[h.now];exact hj.inj
 ·unfold dirM;rw[h.acts,h.kept];exact hj.nm
theorem EqD.safe(h:EqD D D')(hs:Safe P D):Safe P D' :=fun c hc=>hs c ((h.cc c).1 hc)
theorem EqD.used(h:EqD D D'):usedD D' =usedD D:=by unfold usedD Aq;rw[h.now,h.files]
theorem WT(D:Al):EqD D (B0 D).1:=by
 obtain⟨h1,h2,h3,h4,h5,h6⟩:=En D;exact⟨h1,h2,h3,h4,h5⟩
theorem Tk(hd:D.down=false):((B0 D).2=true/\(B0 D).1.down=true/\D.arm≠0)\/((B0 D).2=false/\(B0 D).1.down=false/\(D.arm=0->(B0 D).1.arm=0)):=by
 unfold B0;by_cases h:D.arm=0
 ·rw[if_pos h];exact .inr ⟨rfl,hd,fun _=>h⟩
 ·rw[if_neg h];by_cases h1:D.arm-1=0
  ·rw[decide_eq_true h1];exact .inl ⟨rfl,rfl,h⟩
  ·rw[decide_eq_false h1];exact .inr ⟨rfl,rfl,fun q=>absurd q h⟩
theorem WU(h:JOk D)(m:Nat):DirOk D.files.length (dirM D m):=h.ok.kept.fold fun a ha=>h.ok.acts a ((List.take_sublist _ _).subset ha)
theorem K5:jrN≠nwN:=by decide
theorem Gf(h:lookD D.now jrN=none):jc D= []:=by unfold jc;rw[h]
theorem Eo{k:Nat}(h:lookD D.now jrN=some k):jc D=(Aq D k).1:=by unfold jc;rw[h]
theorem Aa7(h:JOk D):CC D (jc D):=by
 refine⟨D.acts.length,AcI _,?_⟩;rw[h.now];cases hl:lookD D.now jrN with
 | none=>exact Gf hl
 | some k=>exact⟨_,h.ok.sync_le k,AcI _,by rw[Eo hl,Aeg]⟩
theorem FB(a:BQ){m:Nat}(hm:m<=D.acts.length):dirM (turnedD D a) m=dirM D m:=by
 unfold dirM turnedD;simp only;rw[Afx hm]
theorem EX(h:JOk D)(a:BQ):dirM (turnedD D a) (D.acts.length+1)=turnD D.now a:=by
 have hn:=h.now;unfold dirM at hn ⊢;unfold turnedD;simp only;rw[Aeg]at hn;rw[Adj (by simp),List.foldl_append,hn];rfl
theorem Tl(h:JOk D){a:BQ}(ha:lookD (turnD D.now a) jrN=lookD D.now jrN){c:Bs}(hc:CC (turnedD D a) c):CC D c:=by
 obtain⟨m,hm,hk⟩:=hc;have hm:m<=D.acts.length+1:=by unfold turnedD at hm;simpa using hm
 by_cases hl:m<=D.acts.length
 ·rw[FB a hl]at hk;exact⟨m,hl,hk⟩
 ·obtain rfl:m=D.acts.length+1:=by omega
  rw[EX h a,ha]at hk;exact⟨D.acts.length,AcI _,by rw[h.now];exact hk⟩
theorem Mq(h:JOk D){a:BQ}(hn:∀e∈turnD D.now a,e.1=jrN\/e.1=nwN):∀m,∀e∈dirM (turnedD D a) m,e.1=jrN\/e.1=nwN:=fun m=>by
 by_cases hl:m<=D.acts.length
 ·rw[FB a hl];exact h.nm m
 ·have e:dirM (turnedD D a) m=dirM (turnedD D a) (D.acts.length+1):=by
   unfold dirM;rw[Adj (by unfold turnedD;simp;omega),Adj (by unfold turnedD;simp)]
  rw[e,EX h a];exact hn
theorem Mr(h:JOk D){a:BQ}(ha:ActOk D.files.length a)(hi:InjD (turnD D.now a))(hn:∀e∈turnD D.now a,e.1=jrN\/e.1=nwN):JOk (turnedD D a):=by
 refine⟨h.ok.turned ha,?_,hi,Mq h hn⟩;have e:(turnedD D a).acts.length=D.acts.length+1:=by unfold turnedD;simp
 rw[e,EX h a];rfl
theorem Ms(a:BQ):jc (turnedD D a)=match lookD (turnD D.now a) jrN with
 | some k=>(Aq D k).1
 | none=> []:=rfl
theorem T1(h:JOk D){k:Nat}(hk:lookD D.now nwN=some k):JOk (turnedD D ⟨nwN,[],k⟩)/\jc (turnedD D ⟨nwN,[],k⟩)=jc D/\lookD (turnedD D ⟨nwN,[],k⟩).now nwN=none/\∀c,CC (turnedD D ⟨nwN,[],k⟩) c->CC D c:=by
 have e:lookD (turnD D.now ⟨nwN,[],k⟩) jrN=lookD D.now jrN:=(look_turn _ _ _).trans ((if_pos rfl).trans (if_neg K5));refine⟨Mr h ⟨(h.ok.now.look hk).1,fun q=>absurd rfl q,show nwN.length<=80 by decide⟩ (h.inj.turn _ fun q=>absurd rfl q) fun x hx=> ?_,?_,?_,fun c hc=>Tl h e hc⟩
 ·rcases Gw hx with q | ⟨q,-⟩
  ·exact h.nmn x q
  ·exact absurd rfl q
 ·rw[Ms,e];rfl
 ·exact(look_turn D.now ⟨nwN,[],k⟩ nwN).trans ((if_pos rfl).trans (if_pos rfl))
theorem T4(h:JOk D){k:Nat}(hk:lookD D.now nwN=some k)(hs:(Aq D k).2=(Aq D k).1.length):JOk (turnedD D ⟨nwN,jrN,k⟩)/\jc (turnedD D ⟨nwN,jrN,k⟩)=(Aq D k).1/\lookD (turnedD D ⟨nwN,jrN,k⟩).now nwN=none/\(∃j,lookD (turnedD D ⟨nwN,jrN,k⟩).now jrN=some j)/\∀c,CC (turnedD D ⟨nwN,jrN,k⟩) c->CC D c\/c=(Aq D k).1:=by
 have e:lookD (turnD D.now ⟨nwN,jrN,k⟩) jrN=some k:=(look_turn _ _ _).trans ((if_neg (show ¬jrN.length=0 by decide)).trans (if_pos rfl));refine⟨Mr h ⟨(h.ok.now.look hk).1,fun _=>show Bn jrN=true by decide,show nwN.length<=80 by decide⟩ (h.inj.turn _ fun _ x hx q=> ?_) fun x hx=> ?_,?_,?_,⟨k,e⟩,fun c hc=> ?_⟩
 ·have q:x.2=k:=q;exact congrArg Prod.fst (h.inj.eq hx (EL hk) q)
 ·rcases Gw hx with q | ⟨-,q⟩
  ·exact h.nmn x q
  ·rw[q];exact .inl rfl
 ·rw[Ms,e]
 ·exact(look_turn D.now ⟨nwN,jrN,k⟩ nwN).trans ((if_neg (show ¬jrN.length=0 by decide)).trans ((if_neg (show ¬nwN=jrN from fun q=>K5 q.symm)).trans (if_pos rfl)))
 ·obtain⟨m,hm,hc⟩:=hc;have hm:m<=D.acts.length+1:=by unfold turnedD at hm;simpa using hm
  by_cases hl:m<=D.acts.length
  ·rw[FB _ hl]at hc;exact .inl ⟨m,hl,hc⟩
  ·obtain rfl:m=D.acts.length+1:=by omega
   rw[EX h _,e]at hc;obtain⟨n,h1,h2,h3⟩:=hc;have h1:(Aq D k).2<=n:=h1;have h2:n<=(Aq D k).1.length:=h2;have h3:c=(Aq D k).1.take n:=h3;refine .inr ?_;rw[h3,Adj (by omega)]
theorem K6{b:Bs × Nat}{k:Nat}(hk:k<D.files.length):(D.files++ [b]).getD k ([],0)=Aq D k:=by
 unfold Aq;rw[AcL,Ad1 hk,<-AcL]
theorem G1{b:Bs × Nat}:(D.files++ [b]).getD D.files.length ([],0)=b:=by
 rw[AcL,AdO (AcI _),Nat.sub_self];rfl
theorem LB(h:JOk D){s:Bs}(hs:s=jrN\/s=nwN)(b:Bs)(hn:lookD D.now s=none):Bg D s b = { turnedD D ⟨[],s,D.files.length⟩with files:=D.files++ [(b,0)] } /\ JOk (Bg D s b)/\∀t,lookD (Bg D s b).now t=if t=s then some D.files.length else lookD D.now t:=by
 have hm:Bn s=true:=by rcases hs with rfl | rfl <;> decide
 have hl:¬s.length=0:=by have:=(BR hm).1;omega
 have e:Bg D s b = { turnedD D ⟨[],s,D.files.length⟩with files:=D.files++ [(b,0)] } :=by unfold Bg;rw[hn]
 have hln:∀t,lookD (turnD D.now ⟨[],s,D.files.length⟩) t=if t=s then some D.files.length else lookD D.now t:=fun t=>by
  rw[look_turn,if_neg hl];split
  ·rfl
  ·split
   ·rename_i q;have q:t= []:=q;rw[q,h.ok.now.noEmpty]
   ·rfl
 refine⟨e,⟨h.ok.add b hm,?_,h.inj.add h.ok s b,?_⟩,fun t=>by rw[e];exact hln t⟩
 ·rw[e];show dirM (turnedD D ⟨[],s,D.files.length⟩) (turnedD D ⟨[],s,D.files.length⟩).acts.length=_;have a:(turnedD D ⟨[],s,D.files.length⟩).acts.length=D.acts.length+1:=by unfold turnedD;simp
  rw[a,EX h];rfl
 ·rw[e];refine Mq h fun x hx=> ?_;rcases Gw hx with q | ⟨-,q⟩
  ·exact h.nmn x q
  ·rw[q];exact hs
theorem PO(h:JOk D){s:Bs}(hs:s=jrN\/s=nwN)(b:Bs)(hn:lookD D.now s=none){c:Bs}(hc:CC (Bg D s b) c):CC D c\/(s=jrN/\∃n,c=b.take n):=by
 obtain⟨e,-,hln⟩:=LB h hs b hn;obtain⟨m,hm,hc⟩:=hc;rw[e]at hm hc hln;have hm:m<=D.acts.length+1:=by unfold turnedD at hm;simpa using hm
 have hcut:∀ {o:Option Nat},(∀k,o=some k->k<D.files.length)->H9 { turnedD D ⟨[],s,D.files.length⟩with files:=D.files++ [(b,0)] } o c->H9 D o c:=fun {o} ho q=>by
  cases o with
  | none=>exact q
  | some k=>
   obtain⟨n,q1,q2,q3⟩:=q;have g:Aq { turnedD D ⟨[],s,D.files.length⟩with files:=D.files++ [(b,0)] } k=Aq D k:=K6 (ho k rfl);rw[g]at q1 q2 q3;exact⟨n,q1,q2,q3⟩
 by_cases hl:m<=D.acts.length
 ·have a:dirM { turnedD D ⟨[],s,D.files.length⟩with files:=D.files++ [(b,0)] } m=dirM D m:=FB _ hl;rw[a]at hc;exact .inl ⟨m,hl,hcut (fun k hk=>((WU h m).look hk).1) hc⟩
 ·obtain rfl:m=D.acts.length+1:=by omega
  have a:dirM { turnedD D ⟨[],s,D.files.length⟩with files:=D.files++ [(b,0)] } (D.acts.length+1)=turnD D.now ⟨[],s,D.files.length⟩:=EX h _;rw[a]at hc;have f:=hln jrN;have f:lookD (turnD D.now ⟨[],s,D.files.length⟩) jrN=if jrN=s then some D.files.length else lookD D.now jrN:=f;rw[f]at hc;by_cases q:jrN=s
  ·rw[if_pos q]at hc;obtain⟨n,-,-,q3⟩:=hc;have i:Aq { turnedD D ⟨[],s,D.files.length⟩with files:=D.files++ [(b,0)] } D.files.length=(b,0):=G1;rw[i]at q3;exact .inr ⟨q.symm,n,q3⟩
  ·rw[if_neg q]at hc;exact .inl ⟨D.acts.length,AcI _,by rw[h.now];exact hcut (fun k hk=>(h.ok.now.look hk).1) hc⟩
theorem T2(h:JOk D)(b:Bs)(hn:lookD D.now nwN=none):JOk (Bg D nwN b)/\jc (Bg D nwN b)=jc D/\lookD (Bg D nwN b).now nwN=some D.files.length/\Aq (Bg D nwN b) D.files.length=(b,0)/\(∀c,CC (Bg D nwN b) c->CC D c):=by
 obtain⟨e,h1,h2⟩:=LB h (.inr rfl) b hn;refine⟨h1,?_,by rw[h2,if_pos rfl],by rw[e];exact G1,fun c hc=>(PO h (.inr rfl) b hn hc).resolve_right fun q=>K5 q.1.symm⟩;unfold jc;rw[h2,if_neg K5];cases hl:lookD D.now jrN with
 | none=>rfl
 | some k=>
  simp only;rw[e];exact congrArg Prod.fst (K6 (h.ok.now.look hl).1)
def Fh(D:Al)(k:Nat):Al:= { D with files:=D.files.set k ((Aq D k).1,(Aq D k).1.length),kept:=D.now,acts:= [] }
theorem GB(D:Al)(k j:Nat):(Aq (Fh D k) j).1=(Aq D j).1/\((Aq (Fh D k) j).2=(Aq D j).2\/j=k)/\(k<D.files.length->(Aq (Fh D k) k).2=(Aq D k).1.length):=by
 by_cases hk:k<D.files.length
 ·by_cases e:k=j
  ·subst e;have a:Aq (Fh D k) k=((Aq D k).1,(Aq D k).1.length):=G0 hk;rw[a];exact⟨rfl, .inr rfl,fun _=>rfl⟩
  ·have a:Aq (Fh D k) j=Aq D j:=JM e;have b:Aq (Fh D k) k=((Aq D k).1,(Aq D k).1.length):=G0 hk;rw[a,b];exact⟨rfl, .inl rfl,fun _=>rfl⟩
 ·have a:(Fh D k).files=D.files:=by unfold Fh;exact List.set_eq_of_length_le (by omega)
  unfold Aq;rw[a];exact⟨rfl, .inl rfl,fun q=>absurd q hk⟩
theorem T3(h:JOk D){k:Nat}(hk:k<D.files.length):JOk (Fh D k)/\jc (Fh D k)=jc D/\(Aq (Fh D k) k).1=(Aq D k).1/\(Aq (Fh D k) k).2=(Aq D k).1.length/\(∀c,CC (Fh D k) c->CC D c)/\(lookD D.now jrN=some k->∀c,CC (Fh D k) c->c=jc D):=by
 refine⟨⟨h.ok.synced k,rfl,h.inj,fun m e he=>h.nmn e (by cases m <;> exact he)⟩,?_,(GB D k k).1,(GB D k k).2.2 hk,fun c hc=> ?_,fun hj c hc=> ?_⟩
 ·unfold jc;show(match lookD D.now jrN with | some j=>(Aq (Fh D k) j).1 | none=> [])=_;cases lookD D.now jrN with
  | none=>rfl
  | some j=>exact(GB D k j).1
 ·obtain⟨m,hm,hc⟩:=hc;have hm:m<=0:=hm;obtain rfl:m=0:=by omega
  have hc:H9 (Fh D k) (lookD D.now jrN) c:=hc;refine⟨D.acts.length,AcI _,?_⟩;rw[h.now];cases hl:lookD D.now jrN with
  | none=>rw[hl]at hc;exact hc
  | some j=>
   rw[hl]at hc;obtain⟨n,q1,q2,q3⟩:=hc;obtain⟨f1,f2,f3⟩:=GB D k j;rw[f1]at q2 q3;refine⟨n,?_,q2,q3⟩;rcases f2 with f2 | rfl
   ·rw[f2]at q1;exact q1
   ·rw[f3 hk]at q1;exact AcG (h.ok.sync_le j) q1
 ·obtain⟨m,hm,hc⟩:=hc;have hm:m<=0:=hm;obtain rfl:m=0:=by omega
  have hc:H9 (Fh D k) (lookD D.now jrN) c:=hc;rw[hj]at hc;obtain⟨n,q1,q2,q3⟩:=hc;obtain⟨f1,f2,f3⟩:=GB D k k;rw[f1]at q2 q3;rw[f3 hk]at q1;rw[Eo hj,q3,Adj (by omega)]
theorem T5(h:JOk D)(b:Bs):JOk (Bg D jrN b)/\jc (Bg D jrN b)=jc D++b/\lookD (Bg D jrN b).now nwN=lookD D.now nwN/\(∃k,lookD (Bg D jrN b).now jrN=some k)/\∀c,CC (Bg D jrN b) c->CC D c\/∃n,c=jc D++b.take n:=by
 cases hl:lookD D.now jrN with
 | none=>
  obtain⟨e,h1,h2⟩:=LB h (.inl rfl) b hl;refine⟨h1,?_,by rw[h2,if_neg (fun q=>K5 q.symm)],⟨_,by rw[h2,if_pos rfl]⟩,fun c hc=>(PO h (.inl rfl) b hl hc).imp id fun⟨_,n,q⟩=>⟨n,by rw[Gf hl];exact q⟩⟩;rw[Gf hl,Eo (by rw[h2,if_pos rfl]),e];exact congrArg Prod.fst G1
 | some k=>
  have hk:=(h.ok.now.look hl).1;have e:Bg D jrN b = { D with files:=D.files.set k ((Aq D k).1++b,(Aq D k).2) } :=by unfold Bg;rw[hl]
  have hf:∀j,Aq (Bg D jrN b) j=if j=k then((Aq D k).1++b,(Aq D k).2)else Aq D j:=fun j=>by
   rw[e];by_cases q:j=k
   ·subst q;rw[if_pos rfl];exact G0 hk
   ·rw[if_neg q];exact JM (fun r=>q r.symm)
  have a:(Bg D jrN b).now=D.now:=by rw[e]
  refine⟨⟨h.ok.add b (by decide),?_,by rw[a];exact h.inj,by rw[e];exact h.nm⟩,?_,by rw[a],⟨k,by rw[a];exact hl⟩,fun c hc=> ?_⟩
  ·rw[e];exact h.now
  ·rw[Eo (by rw[a];exact hl),hf,if_pos rfl,Eo hl]
  ·obtain⟨m,hm,hc⟩:=hc;have hm:m<=D.acts.length:=by rw[e]at hm;exact hm
   have f:dirM (Bg D jrN b) m=dirM D m:=by rw[e];rfl
   rw[f]at hc;cases ho:lookD (dirM D m) jrN with
   | none=>rw[ho]at hc;exact .inl ⟨m,hm,by rw[ho];exact hc⟩
   | some j=>
    rw[ho]at hc;obtain⟨n,q1,q2,q3⟩:=hc;rw[hf]at q1 q2 q3;by_cases q:j=k
    ·subst q;rw[if_pos rfl]at q1 q2 q3;by_cases hn:n<=(Aq D j).1.length
     ·refine .inl ⟨m,hm,?_⟩;rw[ho];exact⟨n,q1,hn,by rw[q3];exact Afx hn⟩
     ·refine .inr ⟨n-(Aq D j).1.length,?_⟩;rw[q3,Eo hl];show((Aq D j).1++b).take n=_;rw[List.take_append,Adj (by omega)]
    ·rw[if_neg q]at q1 q2 q3;exact .inl ⟨m,hm,by rw[ho];exact⟨n,q1,q2,q3⟩⟩
theorem Mt{l:Bc}(hs:Dr l){s:Bs}:(∀ {k},lookD l s=some k->∃i,∃hi:i<l.length,l[i]=(s,k)/\lookD (CX l) s=some i)/\(lookD l s=none->lookD (CX l) s=none):=by
 refine⟨fun {k} h=> ?_,fun h=> ?_⟩
 ·obtain⟨i,hi,he⟩:=List.mem_iff_getElem.1 (EL h);refine⟨i,hi,he,Hr (Mj hs) (e:=(s,i)) ?_⟩;unfold CX;rw[List.mem_mapIdx];exact⟨i,hi,by rw[he]⟩
 ·rw[FN]at h ⊢;intro e he q;have h1:e.1∈(CX l).map Prod.fst:=AeR he;rw[Gy]at h1;obtain⟨x,hx,hxe⟩:=AdC.1 h1;exact h x hx (hxe.trans q)
theorem U8(h:JOk D)(l:List Int):JOk (Bo D l)/\CC D (jc (Bo D l))/\∀c,CC (Bo D l) c->c=jc (Bo D l):=by
 have hL:AG D l=dirM D (Bz l 0 (D.acts.length+1)):=rfl;have hm:Bz l 0 (D.acts.length+1)<=D.acts.length:=by have:=H4 l 0 (n:=D.acts.length+1) (by omega);omega
 have hok:=h.ok.crash l;have hj:JOk (Bo D l):=⟨hok,rfl,InjD.num _,fun m e he=>by
  have he:e∈CX (AG D l):=by cases m <;> exact he
  have h1:e.1∈(CX (AG D l)).map Prod.fst:=AeR he;rw[Gy]at h1;obtain⟨x,hx,hxe⟩:=AdC.1 h1;rw[<-hxe];exact h.nm _ x hx⟩
 have hs:Dr (AG D l):=(h.ok.left l).sort;have hcut:∀i k,∀hi:i<(AG D l).length,(AG D l)[i]=(jrN,k)->Aq (Bo D l) i=Fb D l i k:=fun i k hi he=>by
  show((AG D l).mapIdx fun i e=>Fb D l i e.2).getD i ([],0)=_;rw[AcL,List.getElem?_mapIdx,AcQ hi,he];rfl
 cases hl:lookD (AG D l) jrN with
 | none=>
  have hn:lookD (Bo D l).now jrN=none:=(Mt hs).2 hl;refine⟨hj,⟨_,hm,?_⟩,fun c hc=> ?_⟩
  ·rw[<-hL,hl];exact Gf hn
  ·obtain⟨m,hm0,hc⟩:=hc;have hm0:m<=0:=hm0;obtain rfl:m=0:=by omega
   have hc:H9 (Bo D l) (lookD (Bo D l).now jrN) c:=hc;rw[hn]at hc;rw[Gf hn];exact hc
 | some k=>
  obtain⟨i,hi,he,hn⟩:=(Mt hs).1 hl;have hn:lookD (Bo D l).now jrN=some i:=hn;have hf:=hcut i k hi he;have hcl:=Gx h.ok l i k;refine⟨hj,⟨_,hm,?_⟩,fun c hc=> ?_⟩
  ·rw[<-hL,hl];exact⟨(Fb D l i k).2,Aey _ _,hcl.2,by rw[Eo hn,hf];rfl⟩
  ·obtain⟨m,hm0,hc⟩:=hc;have hm0:m<=0:=hm0;obtain rfl:m=0:=by omega
   have hc:H9 (Bo D l) (lookD (Bo D l).now jrN) c:=hc;rw[hn]at hc;obtain⟨n,q1,q2,q3⟩:=hc;rw[hf]at q1 q2 q3;rw[Eo hn,hf,q3,Adj (by omega)]
end
structure Up (D D' : Al) : Prop where
 down:D'.down=false
 ok:JOk D'
 arm:D.arm=0->D'.arm=0
 quota:D'.quota=D.quota
theorem Up.trans{D D1 D2:Al}(h:Up D D1)(k:Up D1 D2):Up D D2:=⟨k.down,k.ok,fun q=>k.arm (h.arm q),k.quota.trans h.quota⟩
def Res(D:Al)(P:Bs->Prop)(r:Al × Nat)(Q8 Q0:Al->Prop):Prop:=
 (r.2=9/\r.1.down=true/\D.arm≠0/\JOk r.1/\Safe P r.1)\/(r.2=8/\Q8 r.1)\/(r.2=0/\Up D r.1/\Safe P r.1/\Q0 r.1)
section
variable {D D1 : Al} {P : Bs -> Prop} {Q8 Q0 R8 R0 : Al -> Prop}
theorem Res.cons{a:JA}{l:List JA}(h:Res D P (BC D a) Q8 Q0)(h8:∀E,Q8 E->R8 E)(h0:∀D1,Up D D1->Safe P D1->Q0 D1->Res D1 P (AN D1 l) R8 R0):Res D P (AN D (a :: l)) R8 R0:=by
 rw[EM];rcases h with ⟨h1,h2⟩ | ⟨h1,h2⟩ | ⟨h1,h2,h3,h4⟩
 ·rw[if_pos (by omega)];exact .inl ⟨h1,h2⟩
 ·rw[if_pos (by omega)];exact .inr (.inl ⟨h1,h8 _ h2⟩)
 ·rw[if_neg (fun q=>q h1)];rcases h0 _ h2 h3 h4 with ⟨k1,k2,k3,k4⟩ | k | ⟨k1,k2,k3⟩
  ·exact .inl ⟨k1,k2,fun q=>k3 (h2.arm q),k4⟩
  ·exact .inr (.inl k)
  ·exact .inr (.inr ⟨k1,h2.trans k2,k3⟩)
theorem Res.nil(h:Up D D)(hs:Safe P D)(h0:R0 D):Res D P (AN D []) R8 R0:= .inr (.inr ⟨rfl,h,hs,h0⟩)
theorem Res.mono{r:Al × Nat}(h:Res D P r Q8 Q0)(h8:∀E,Q8 E->R8 E)(h0:∀E,Up D E->Safe P E->Q0 E->R0 E):Res D P r R8 R0:=by
 rcases h with h | ⟨h1,h2⟩ | ⟨h1,h2,h3,h4⟩
 ·exact .inl h
 ·exact .inr (.inl ⟨h1,h8 _ h2⟩)
 ·exact .inr (.inr ⟨h1,h2,h3,h0 _ h2 h3 h4⟩)
theorem Res.one{a:JA}(h:Res D P (BC D a) Q8 Q0):Res D P (AN D [a]) Q8 Q0:=h.cons (fun _ q=>q) fun D1 h1 h2 h3=>Res.nil ⟨h1.down,h1.ok,id,rfl⟩ h2 h3
theorem Aai{f:Al->Al}(hd:D.down=false)(hj:JOk D)(hs:Safe P D)(hf:∀E,EqD D E->E.down=false->(D.arm=0->E.arm=0)->E.refused=D.refused->Up D (f E)/\Safe P (f E)/\Q0 (f E)):Res D P (Dx D f) Q8 Q0:=by
 have he:=WT D;unfold Dx;rcases Tk hd with ⟨h1,h2,h3⟩ | ⟨h1,h2,h3⟩
 ·rw[if_pos h1];exact .inl ⟨rfl,h2,h3,he.ok hj,he.safe hs⟩
 ·rw[if_neg (by rw[h1];decide)];exact .inr (.inr ⟨rfl,hf _ he h2 h3 (En D).2.2.2.2.2⟩)
theorem Jm{s t:Bs}{k:Nat}(hd:D.down=false)(hs:Bn s=true)(ht:Bn t=true)(hk:lookD D.now s=some k):Fa D s t = .ok k:=by
 unfold Fa;rw[if_neg (by rw[IX hd hs ht];exact fun q=>q rfl),hk]
theorem Mu{s t:Bs}(hd:D.down=false)(hs:Bn s=true)(ht:Bn t=true)(hk:lookD D.now s=none):Fa D s t = .error 4:=by
 unfold Fa;rw[if_neg (by rw[IX hd hs ht];exact fun q=>q rfl),hk]
theorem Up.refl(hd:D.down=false)(hj:JOk D):Up D D:=⟨hd,hj,id,rfl⟩
theorem Ia(hd:D.down=false)(hn:lookD D.now nwN=none):BC D .clear=(D,0):=by
 have h:BF D nwN=(D,4):=by unfold BF;rw[Mu hd (by decide) (by decide) hn]
 show(if(BF D nwN).2=4 then((BF D nwN).1,0)else BF D nwN)=_;rw[h];rfl
theorem A1(hd:D.down=false)(hj:JOk D)(hs:Safe P D):Res D P (BC D .clear) (fun _=>False) fun E=>jc E=jc D/\lookD E.now nwN=none/\E.refused=D.refused:=by
 cases hn:lookD D.now nwN with
 | none=>
  rw[Ia hd hn];exact .inr (.inr ⟨rfl,Up.refl hd hj,hs,rfl,hn,rfl⟩)
 | some k=>
  have h:BF D nwN=Dx D fun d=>turnedD d ⟨nwN,[],k⟩:=by unfold BF;rw[Jm hd (by decide) (by decide) hn]
  have hr:Res D P (BF D nwN) (fun _=>False) fun E=>jc E=jc D/\lookD E.now nwN=none/\E.refused=D.refused:=by
   rw[h];refine Aai hd hj hs fun E he hE ha hr=> ?_;obtain⟨t1,t2,t3,t4⟩:=T1 (he.ok hj) (k:=k) (by rw[he.now];exact hn);exact⟨⟨hE,t1,ha,he.quota⟩,fun c hc=>hs c ((he.cc c).1 (t4 c hc)),t2.trans he.jc,t3,hr⟩
  have hne:(BF D nwN).2≠4:=by
   rcases hr with ⟨q,_⟩ | ⟨q,_⟩ | ⟨q,_⟩ <;> omega
  have e:BC D .clear=BF D nwN:=if_neg hne;rw[e];exact hr
theorem K7{s b:Bs}(hd:D.down=false)(hj:JOk D)(hs:Safe P D)(hm:Bn s=true)(hq:∀E,EqD D E->E.down=false->(D.arm=0->E.arm=0)->E.refused=D.refused->Up D (Bg E s b)/\Safe P (Bg E s b)/\Q0 (Bg E s b)):
  Res D P (BV D s b) (fun E=>E = { D with refused:=D.refused+1 } /\ D.quota<usedD D+b.length) Q0:=by
 unfold BV;rw[if_neg (by rw[IX hd hm hm];exact fun q=>q rfl)];split
 ·rename_i h;exact .inr (.inl ⟨rfl,rfl,h⟩)
 ·exact Aai (f:=fun E=>Bg E s b) hd hj hs hq
theorem A2{b:Bs}(hd:D.down=false)(hj:JOk D)(hs:Safe P D)(hn:lookD D.now nwN=none):Res D P (BC D (.app nwN b)) (fun E=>E = { D with refused:=D.refused+1 } /\ D.quota<usedD D+b.length) fun E=>jc E=jc D/\(∃k,lookD E.now nwN=some k/\k<E.files.length/\Aq E k=(b,0))/\E.refused=D.refused:=
 K7 hd hj hs (by decide) fun E he hE ha hr=>by
  obtain⟨t1,t2,t3,t4,t5⟩:=T2 (he.ok hj) b (by rw[he.now];exact hn);have ha2:=PN E nwN b;refine⟨⟨ha2.2.trans hE,t1,fun q=>ha2.1.trans (ha q),?_⟩,fun c hc=>hs c ((he.cc c).1 (t5 c hc)),t2.trans he.jc,⟨_,t3,(t1.ok.now.look t3).1,t4⟩,?_⟩
  ·rw[<-he.quota];unfold Bg;split <;> rfl
  ·rw[<-hr];unfold Bg;split <;> rfl
theorem A3{s:Bs}{k:Nat}(hm:Bn s=true)(hd:D.down=false)(hj:JOk D)(hs:Safe P D)(hk:lookD D.now s=some k)(Q:Bs->Prop)(hQ:s=jrN->Q (jc D)):Res D P (BC D (.sync s)) (fun _=>False) fun E=>jc E=jc D/\E.now=D.now/\(Aq E k).1=(Aq D k).1/\(Aq E k).2=(Aq D k).1.length/\E.refused=D.refused/\(s=jrN->Safe Q E):=by
 have h:Ch D s=Dx D fun d=>Fh d k:=by unfold Ch;rw[Jm hd hm hm hk];rfl
 show Res D P (Ch D s) _ _;rw[h];refine Aai hd hj hs fun E he hE ha hr=> ?_;have a:lookD E.now s=some k:=by rw[he.now];exact hk
 obtain⟨t1,t2,t3,t4,t5,t6⟩:=T3 (he.ok hj) ((he.ok hj).ok.now.look a).1;have hf:Aq E k=Aq D k:=by unfold Aq;rw[he.files]
 rw[hf]at t3 t4;refine⟨⟨hE,t1,ha,he.quota⟩,fun c hc=>hs c ((he.cc c).1 (t5 c hc)),t2.trans he.jc,he.now,t3,t4,hr,fun e c hc=> ?_⟩;subst e;rw[t6 a c hc,he.jc];exact hQ rfl
theorem A4{b:Bs}{k:Nat}(hd:D.down=false)(hj:JOk D)(hs:Safe P D)(hk:lookD D.now nwN=some k)(hf:Aq D k=(b,b.length))(hb:P b):Res D P (BC D .move) (fun _=>False) fun E=>jc E=b/\lookD E.now nwN=none/\(∃j,lookD E.now jrN=some j)/\E.refused=D.refused:=by
 have h:Dh D nwN jrN=Dx D fun d=>turnedD d ⟨nwN,jrN,k⟩:=by unfold Dh;rw[Jm hd (by decide) (by decide) hk]
 show Res D P (Dh D nwN jrN) _ _;rw[h];refine Aai hd hj hs fun E he hE ha hr=> ?_;have hfE:Aq E k=(b,b.length):=by unfold Aq;rw[he.files];exact hf
 obtain⟨t1,t2,t3,t4,t5⟩:=T4 (he.ok hj) (k:=k) (by rw[he.now];exact hk) (by rw[hfE]);rw[hfE]at t2 t5;exact⟨⟨hE,t1,ha,he.quota⟩,fun c hc=>(t5 c hc).elim (fun q=>hs c ((he.cc c).1 q)) fun q=>q▸hb,t2,t3,t4,hr⟩
theorem A6{b:Bs}(hd:D.down=false)(hj:JOk D)(hs:Safe P D)(hp:∀n,P (jc D++b.take n)):Res D P (BC D (.app jrN b)) (fun E=>E = { D with refused:=D.refused+1 } /\ D.quota<usedD D+b.length) fun E=>jc E=jc D++b/\lookD E.now nwN=lookD D.now nwN/\(∃k,lookD E.now jrN=some k)/\E.refused=D.refused:=
 K7 hd hj hs (by decide) fun E he hE ha hr=>by
  obtain⟨t1,t2,t3,t4,t5⟩:=T5 (he.ok hj) b;have ha2:=PN E jrN b;rw[he.jc]at t2 t5;refine⟨⟨ha2.2.trans hE,t1,fun q=>ha2.1.trans (ha q),?_⟩,fun c hc=>(t5 c hc).elim (fun q=>hs c ((he.cc c).1 q)) fun⟨n,q⟩=>q▸hp n,t2,by rw[t3,he.now],t4,?_⟩
  ·rw[<-he.quota];unfold Bg;split <;> rfl
  ·rw[<-hr];unfold Bg;split <;> rfl
theorem U9{r:Ar}(hd:D.down=false)(hj:JOk D)(hs:Safe P D):Res D P (Bi D r) (fun E=>Up D E/\Safe P E/\jc E=jc D/\lookD E.now nwN=none/\E.refused=D.refused+1/\E.quota<usedD E+(wholeB r).length) fun E=>jc E=jc D/\(∃k,lookD E.now nwN=some k/\k<E.files.length/\Aq E k=(wholeB r,0))/\E.refused=D.refused:=
 (A1 hd hj hs).cons (fun _ q=>q.elim) fun D1 u1 s1 ⟨q1,q2,q3⟩=>(Res.one (A2 (b:=wholeB r) u1.down u1.ok s1 q2)).mono (fun E ⟨e,h⟩=>by
  have he:EqD D1 E:=by subst e;exact⟨rfl,rfl,rfl,rfl,rfl⟩
  refine⟨⟨by rw[e];exact u1.down,he.ok u1.ok,fun q=>by rw[e];exact u1.arm q,he.quota.trans u1.quota⟩,he.safe s1,he.jc.trans q1,by rw[he.now];exact q2,by rw[e];show D1.refused+1=_;rw[q3],?_⟩;rw[he.used,he.quota];exact h) fun E u s ⟨k1,k2,k3⟩=>⟨k1.trans q1,k2,k3.trans q3⟩
theorem Tm{b:Bs}{k:Nat}(hd:D.down=false)(hj:JOk D)(hs:Safe P D)(hk:lookD D.now nwN=some k)(hf:Aq D k=(b,0))(hb:P b)(Q:Bs->Prop)(hQ:Q b):Res D P (Ds D) (fun _=>False) fun E=>jc E=b/\lookD E.now nwN=none/\E.refused=D.refused/\Safe Q E:=
 (A3 (by decide) hd hj hs hk (fun _=>True) fun _=>trivial).cons (fun _ q=>q.elim) fun D1 u1 s1 ⟨q1,q2,q3,q4,q5,_⟩=>by
  have hf1:Aq D1 k=(b,b.length):=by
   rw[hf]at q3 q4;exact Prod.ext q3 q4
  refine(A4 u1.down u1.ok s1 (by rw[q2];exact hk) hf1 hb).cons (fun _ q=>q.elim) fun D2 a s2 ⟨r1,r2,⟨j,r3⟩,r4⟩=> ?_;exact(Res.one (A3 (by decide) a.down a.ok s2 r3 Q fun _=>by rw[r1];exact hQ)).mono (fun _ q=>q) fun E u s ⟨t1,t2,t3,t4,t5,t6⟩=>⟨t1.trans r1,by rw[t2];exact r2,(t5.trans r4).trans q5,t6 rfl⟩
theorem Oa{b:Bs}(hd:D.down=false)(hj:JOk D)(hs:Safe P D)(hp:∀n,P (jc D++b.take n))(Q:Bs->Prop)(hQ:Q (jc D++b)):Res D P (DV D b) (fun E=>E = { D with refused:=D.refused+1 } /\ D.quota<usedD D+b.length) fun E=>jc E=jc D++b/\lookD E.now nwN=lookD D.now nwN/\E.refused=D.refused/\Safe Q E:=
 (A6 hd hj hs hp).cons (fun _ q=>q) fun D1 u1 s1 ⟨q1,q2,⟨k,q3⟩,q4⟩=>(Res.one (A3 (by decide) u1.down u1.ok s1 q3 Q fun _=>by rw[q1];exact hQ)).mono (fun _ q=>q.elim) fun E u s ⟨t1,t2,t3,t4,t5,t6⟩=>⟨t1.trans q1,by rw[t2];exact q2,t5.trans q4,t6 rfl⟩
end
structure XY (D : Al) (J : Jn) (P : Bs -> Prop) (r : Al × Jn × Nat) : Prop where
 out:(r.2.2=9/\r.1.down=true/\D.arm≠0/\JOk r.1/\Safe P r.1/\r.2.1=F9 J 9) \/
  (r.2.2=8/\Up D r.1/\Safe P r.1/\jc r.1=jc D/\lookD r.1.now nwN=none/\r.1.refused=D.refused+1/\r.2.1=J/\r.1.quota<usedD r.1+(wholeB J.refs).length) \/
  (r.2.2=0/\Up D r.1/\Safe P r.1/\jc r.1=wholeB J.refs/\lookD r.1.now nwN=none/\r.1.refused=D.refused/\r.2.1=⟨J.refs,(wholeB J.refs).length,false,J.lost⟩)
theorem Q5{D:Al}{J:Jn}{P:Bs->Prop}(hd:D.down=false)(hj:JOk D)(hs:Safe P D)(hb:P (wholeB J.refs)):XY D J P (AL D J):=by
 refine⟨?_⟩;unfold AL;rcases U9 (r:=J.refs) hd hj hs with ⟨h1,h2,h3,h4,h5⟩ | ⟨h1,h2,h3,h4,h5,h6,h7⟩ | ⟨h1,h2,h3,h4,⟨k,h5,h6,h7⟩,h8⟩
 ·rw[if_neg (by omega),if_pos (by omega)];exact .inl ⟨h1,h2,h3,h4,h5,by rw[h1]⟩
 ·rw[if_pos h1];have hc:AN (Bi D J.refs).1 [.clear]=((Bi D J.refs).1,0):=by rw[EM,Ia h2.down h5];rfl
  unfold M7;rw[hc];exact .inr (.inl ⟨rfl,h2,h3,h4,h5,h6,rfl,h7⟩)
 ·rw[if_neg (by omega),if_neg (by omega)];unfold QN;rcases Tm h2.down h2.ok h3 h5 h7 hb (fun _=>True) trivial with ⟨k1,k2,k3,k4,k5⟩ | ⟨_,k⟩ | ⟨k1,k2,k3,k4,k5,k6,k7⟩
  ·rw[if_pos (by omega)];exact .inl ⟨k1,k2,fun q=>k3 (h2.arm q),k4,k5,by rw[k1]⟩
  ·exact k.elim
  ·rw[if_neg (by omega)];exact .inr (.inr ⟨rfl,h2.trans k2,k3,k4,k5,k6.trans h8,rfl⟩)
theorem PP{D:Al}(h:JOk D)(hn:lookD D.now nwN=none):usedD D=(jc D).length:=by
 have hall:∀e∈D.now,e.1=jrN:=fun e he=>(h.nmn e he).resolve_right fun q=>by
  have:=Hr h.ok.now.sort he;rw[q,hn]at this;cases this
 have hs:=h.ok.now.sort;unfold usedD jc
 match hl:D.now,hs,hall with
 | [],_,_=>rfl
 | [e],_,ha=>
  have he:=ha e AdT;rw[Cj,if_pos he];simp
 | e :: f :: l,hs,ha=>
  have h1:=ha e AdT;have h2:=ha f (AdR _ AdT);have h3:=(List.pairwise_cons.1 hs).1 f AdT;rw[h1,h2,FM]at h3;cases h3
section
variable {base : Nat} {w w' wb : AcE} {g : Nat} {H H' : Dk} {D D' : Al}
structure DkW (wb w : AcE) (g : Nat) (H : Dk) (D : Al) (w' : AcE) (H' : Dk) (D' : Al) : Prop where
 g:DkG wb w' g H' D'
 chg:Chg (BS H D.files.length) w w'
 foot:∀i,BS H' D'.files.length i->BS H D.files.length i\/w.heap.size<=i
theorem DkG.stepW(h:DkG wb w g H D)(k:DkT wb.heap.size w H D w' H' D'):DkW wb w g H D w' H' D' :=⟨h.step k,k.chg,k.foot⟩
theorem DkG.appendW(h:DkG wb w g H D)(s:Aib)(vb:AcD)(b:Aib)(hrb:RB w vb b)(hoff:b= []\/∀i,vb.ownBlock=some i->¬BS H D.files.length i)(hbl:b.length<1099511627776)(hL:EB D):
  Calls AcF 44 #[PQ g 0,St s,vb] w fun e w' =>∃H',e = .returned (NI (BV D s b).2)/\DkW wb w g H D w' H' (BV D s b).1:=by
 rw[<-h.hg];exact(Ta wb w h.ext H D h.st s vb b hrb hoff hbl hL).mono fun e w' ⟨H',he,hT⟩=>⟨H',he,by rw[h.hg];exact h.stepW hT⟩
theorem DkG.syncW(h:DkG wb w g H D)(s:Aib)(hL:EB D):
  Calls AcF 46 #[PQ g 0,St s] w fun e w' =>∃H',e = .returned (NI (Ch D s).2)/\DkW wb w g H D w' H' (Ch D s).1:=by
 rw[<-h.hg];exact(WL wb w h.ext H D h.st s hL).mono fun e w' ⟨H',he,hT⟩=>⟨H',he,by rw[h.hg];exact h.stepW hT⟩
theorem DkG.moveW(h:DkG wb w g H D)(s t:Aib)(hL:EB D):
  Calls AcF 81 #[PQ g 0,St s,St t] w fun e w' =>∃H',e = .returned (NI (Dh D s t).2)/\DkW wb w g H D w' H' (Dh D s t).1:=by
 rw[<-h.hg];exact(WM wb w h.ext H D h.st s t hL).mono fun e w' ⟨H',he,hT⟩=>⟨H',he,by rw[h.hg];exact h.stepW hT⟩
theorem DkG.dropW(h:DkG wb w g H D)(s:Aib)(hL:EB D):
  Calls AcF 72 #[PQ g 0,St s] w fun e w' =>∃H',e = .returned (NI (BF D s).2)/\DkW wb w g H D w' H' (BF D s).1:=by
 rw[<-h.hg];exact(WN wb w h.ext H D h.st s hL).mono fun e w' ⟨H',he,hT⟩=>⟨H',he,by rw[h.hg];exact h.stepW hT⟩
theorem DkG.crashW(h:DkG wb w g H D)(vf:AcD)(fs:List Int)(hrf:RG 1 Mk w vf fs)(hL:EB D):
  Calls AcF 21 #[PQ g 0,vf] w fun e w' =>∃H',e = .returned (.tuple #[])/\DkW wb w g H D w' H' (Bo D fs):=by
 rw[<-h.hg];exact(U7 wb w h.ext H D h.st vf fs hrf hL).mono fun e w' ⟨H',he,hT⟩=>⟨H',he,by rw[h.hg];exact h.stepW hT⟩
theorem ActAt.setT{F:Nat->Nat}{v:AcD}{a:BQ}{g:Nat}{cs:Array AcD}{t:AcK}{fr:Nat × Nat}(h:ActAt w F v a)(hc:Chg (fun i=>i=g) w w')(hb:w.heap[g]? =some (.cells cs t fr))(h1:t≠112)(h2:t≠9):ActAt w' F v a:=by
 have k:∀ {b:Nat} {cs' :Array AcD} {t' :AcK} {fr' :Nat × Nat},w.heap[b]? =some (.cells cs' t' fr')->t' ≠t->w'.heap[b]? =some (.cells cs' t' fr'):=fun e hne=>(hc.blk _ (bl e) fun q=>by rw[q,hb]at e;cases e;exact hne rfl).trans e;rcases h with ⟨bf,bn,e,q1,q2,q3,q4⟩ | ⟨hm,bs,bf,bn,e,q1,q2,q3,q4⟩ | ⟨bn,e,q1,q2⟩
 ·exact .inl ⟨bf,bn,e,k q1 (Ne.symm h1),k q2 (Ne.symm h2),q3,q4⟩
 ·exact .inr (.inl ⟨hm,bs,bf,bn,e,k q1 (Ne.symm h2),k q2 (Ne.symm h1),k q3 (Ne.symm h2),q4⟩)
 ·exact .inr (.inr ⟨bn,e,k q1 (Ne.symm h2),q2⟩)
theorem DkS.setT(h:DkS base w H D){g:Nat}{cs:Array AcD}{t:AcK}{fr:Nat × Nat}(hg:w.grownBy w' (some g))(hb:w.heap[g]? =some (.cells cs t fr))(h1:t≠82)(h2:t≠120)(h3:t≠5)(h4:t≠113)(h5:t≠112)(h6:t≠9):DkS base w' H D:=by
 have hc:Chg (fun i=>i=g) w w' :=ZH hg fun i e=> .inl (Option.some.inj e).symm;have hB:∀i,BS H D.files.length i->¬i=g:=fun i q e=>h.offT hb h1 h2 h3 h4 (e▸q);obtain⟨vs,hv⟩:=h.acts;exact⟨(hc.blk _ (bl h.blk) (hB _ (.inl rfl))).trans h.blk,h.now.chg hc (hB _ (.inr (.inl rfl))),h.kept.chg hc (hB _ (.inr (.inr (.inl rfl)))),h.ne,
  ⟨vs,C0 hc hv.row (fun i hi=>hB i (.inr (.inr (.inr (.inl hi))))),hv.len,fun i hi=>(hv.at_ i hi).setT hc hb h5 h6⟩,
  h.files.chg hc (fun k hk=>⟨hB _ (.inr (.inr (.inr (.inr ⟨k,hk, .inl rfl⟩)))),fun i hi=>hB i (.inr (.inr (.inr (.inr ⟨k,hk, .inr hi⟩))))⟩),h.ok,h.lo⟩
theorem DkG.setT(h:DkG wb w g H D){b:Nat}{cs:Array AcD}{t:AcK}{fr:Nat × Nat}(hg:w.grownBy w' (some b))(hb:w.heap[b]? =some (.cells cs t fr))(hw:wb.heap.size<=b)(h1:t≠82)(h2:t≠120)(h3:t≠5)(h4:t≠113)(h5:t≠112)(h6:t≠9):DkG wb w' g H D:=
 ⟨(show Chg (fun i=>i=b) w w' from ZH hg fun i e=> .inl (Option.some.inj e).symm).ext h.ext (fun i q=>by have q:i=b:=q;omega),h.st.setT hg hb h1 h2 h3 h4 h5 h6,h.hg⟩
end
section
variable {P : AcY} {K : AcD -> AcE -> Prop} {ρ : Aj} {w : AcE} {d : Option Tmp} {ty : AcK} {pos : String} {af : Array Edge} {gd : Option (Nat × Bool)}
theorem AbH{f:FuncId}(hp:Plain P f){c:AcO}{args:Array AcO}{at_:Array AcK}{bd caps:Array AcD}(hc:Ab ρ c = .func (.func f) bd caps)(vs:Array AcD)(hv:bd++args.map (Ab ρ)++caps=vs) 
  (h:Calls P f vs w fun e w' =>∃v,e = .returned v/\K v w'):Yk P K ((execOp (Ab ρ) ⟨d, .call ⟨.value c,args,at_⟩,ty,pos,af,gd⟩).run P w):=by
 subst hv;refine Yk.enter (f:=f) (args:=bd++args.map (Ab ρ)++caps) (w' :=w) ?_ h;unfold execOp;simp[resolve,hc,Deferred.ofValue,invoke,hp _ w]
theorem AbK{f:FuncId}{c:AcO}{v u:AcD}{bd caps:Array AcD}{R:Dk->AcE->Prop}{at_:Array AcK}(hp:Plain P f)(hc:Ab ρ c=v)(hve:v = .func (.func f) bd caps) 
  (h:Calls P f (bd++caps) w fun e w' =>∃H',e = .returned u/\R H' w') (hk:∀H' w',R H' w' ->K u w'):Yk P K ((execOp (Ab ρ) ⟨d, .call ⟨.value c,#[],at_⟩,ty,pos,af,gd⟩).run P w):=
 AbH hp (hc.trans hve) _ (by simp) (h.mono fun e w' ⟨H',q1,q2⟩=>⟨_,q1,hk H' w' q2⟩)
theorem Aac{f:Fn}{x:AcO}{v:AcD}(hx:Ab ρ x=v)(hk:K (.func f #[v] #[]) w):Yk P K ((execOp (Ab ρ) ⟨d, .makeFunc f #[x] #[],ty,pos,af,gd⟩).run P w):=by
 refine Ace (v:= .func f #[v] #[]) ?_ hk;unfold execOp;simp[hx,Instr.makeFunc]
theorem AbC{t e:AcK}(ht:P.underlying t=some (.slice e))(he:∀w' :AcE,(sizeOf e).run P w' = .ok 1 w'){x y:AcO}{b i n c:Nat}{kd:IntKind}(hx:Ab ρ x = .slice (some ⟨b,0,none⟩) n c)(hy:Ab ρ y = .int kd (i:Int))(hi:i<n)(hk:K (.pointer (some ⟨b,i,none⟩)) w):Yk P K ((execOp (Ab ρ) ⟨d, .indexAddr t x y,ty,pos,af,gd⟩).run P w):=
 Aa1 ht he hx hy hi (by rw[Nat.zero_add];exact hk)
theorem AaQ{t e:AcK}{x0:AcO}{a:AcD}(h0:Ab ρ x0=a)(hr:∀w:AcE,(Adc t 1 #[(0,a)]).run P w = .ok (.slice (some ⟨w.heap.size,0,none⟩) 1 1) (w.alloc (.cells #[a] e))) 
  (hk:∀n w',w.heap.size=n->w'.heap[n]? =some (.cells ([a]).toArray e (0,0))->Ext w w' ->w'.heap.size=n+1->K (.slice (some ⟨n,0,none⟩) 1 1) w'):Yk P K ((execOp (Ab ρ) ⟨d, .buildSlice t 1 #[(0,x0)],ty,pos,af,gd⟩).run P w):=by
 have hr' :(execOp (Ab ρ) ⟨d, .buildSlice t 1 #[(0,x0)],ty,pos,af,gd⟩).run P w = .ok (.value (.slice (some ⟨w.heap.size,0,none⟩) 1 1)) (w.alloc (.cells #[a] e)):=by
  unfold execOp;simp only[AcT,AcX,Ac2,h0,AcN,hr,AcM,AcR]
 rw[hr'];exact hk _ _ rfl (heap_alloc_new w _) ((Below.refl _ _).alloc (AcI _) _) (by simp)
theorem AaR{t e:AcK}{x0 x1:AcO}{a b:AcD}(h0:Ab ρ x0=a)(h1:Ab ρ x1=b)(hr:∀w:AcE,(Adc t 2 #[(0,a),(1,b)]).run P w = .ok (.slice (some ⟨w.heap.size,0,none⟩) 2 2) (w.alloc (.cells #[a,b] e))) 
  (hk:∀n w',w.heap.size=n->w'.heap[n]? =some (.cells ([a,b]).toArray e (0,0))->Ext w w' ->w'.heap.size=n+1->K (.slice (some ⟨n,0,none⟩) 2 2) w'):Yk P K ((execOp (Ab ρ) ⟨d, .buildSlice t 2 #[(0,x0),(1,x1)],ty,pos,af,gd⟩).run P w):=by
 have hr' :(execOp (Ab ρ) ⟨d, .buildSlice t 2 #[(0,x0),(1,x1)],ty,pos,af,gd⟩).run P w = .ok (.value (.slice (some ⟨w.heap.size,0,none⟩) 2 2)) (w.alloc (.cells #[a,b] e)):=by
  unfold execOp;simp only[AcT,AcX,Ac2,h0,h1,AcN,hr,AcM,AcR]
 rw[hr'];exact hk _ _ rfl (heap_alloc_new w _) ((Below.refl _ _).alloc (AcI _) _) (by simp)
theorem AbD{t e:AcK}{x0 x1 x2:AcO}{a b c:AcD}(h0:Ab ρ x0=a)(h1:Ab ρ x1=b)(h2:Ab ρ x2=c)(hr:∀w:AcE,(Adc t 3 #[(0,a),(1,b),(2,c)]).run P w = .ok (.slice (some ⟨w.heap.size,0,none⟩) 3 3) (w.alloc (.cells #[a,b,c] e))) 
  (hk:∀n w',w.heap.size=n->w'.heap[n]? =some (.cells ([a,b,c]).toArray e (0,0))->Ext w w' ->w'.heap.size=n+1->K (.slice (some ⟨n,0,none⟩) 3 3) w'):Yk P K ((execOp (Ab ρ) ⟨d, .buildSlice t 3 #[(0,x0),(1,x1),(2,x2)],ty,pos,af,gd⟩).run P w):=by
 have hr' :(execOp (Ab ρ) ⟨d, .buildSlice t 3 #[(0,x0),(1,x1),(2,x2)],ty,pos,af,gd⟩).run P w = .ok (.value (.slice (some ⟨w.heap.size,0,none⟩) 3 3)) (w.alloc (.cells #[a,b,c] e)):=by
  unfold execOp;simp only[AcT,AcX,Ac2,h0,h1,h2,AcN,hr,AcM,AcR]
 rw[hr'];exact hk _ _ rfl (heap_alloc_new w _) ((Below.refl _ _).alloc (AcI _) _) (by simp)
end
def BH(g:Nat)(z:Af)(n:Nat)(t l:Bool):List AcD:= [PQ g 0]++refsC z++ [NI n, .bool t, .bool l]
section
variable {g : Nat} {z : Af} {n : Nat} {t l : Bool}
theorem GC:(BH g z n t l).length=40:=by unfold BH;rw[AcJ,AcJ,An];rfl
theorem J6:(BH g z n t l)[0]? =some (PQ g 0):=rfl
theorem Q6(k:Nat):(BH g z n t l)[37+k]? = [NI n, .bool t, .bool l][k]? :=by
 unfold BH;rw[AdO (by rw[AcJ,An];simp),AcJ,An]
 congr 1
 simp
theorem Q7:(BH g z n t l)[37]? =some (NI n):=Q6 0
theorem Q9:(BH g z n t l)[38]? =some (.bool t):=Q6 1
theorem Ra:(BH g z n t l)[39]? =some (.bool l):=Q6 2
theorem Ob(k:Nat)(v:AcD):(BH g z n t l).set (37+k) v= [PQ g 0]++refsC z++ [NI n, .bool t, .bool l].set k v:=by
 unfold BH;rw[List.set_append_right _ _ (by rw[AcJ,An];simp),AcJ,An]
 congr 2
 simp
theorem Oc(m:Nat):(BH g z n t l).set 37 (NI m)=BH g z m t l:=Ob 0 _
theorem Tn(b:Bool):(BH g z n t l).set 38 (.bool b)=BH g z n b l:=Ob 1 _
theorem To(b:Bool):(BH g z n t l).set 39 (.bool b)=BH g z n t b:=Ob 2 _
theorem Abi{w:AcE}{gj:Nat}{ty:AcK}{fr:Nat × Nat}{v:AcD}(hb:w.heap[gj]? =some (.cells (BH g z n t l).toArray ty fr))(hv:v=PQ gj 1):PR (refsC z) v w:=⟨gj,1,hv,fun j u hu=>by
 refine Ac hb ?_;have hj:=(List.getElem?_eq_some_iff.1 hu).1;unfold BH;rw[Ac7,AdO (by simp),Ad1 (by simp;omega)]
 simpa using hu⟩
end
section
variable {wb w w' w2 : AcE} {g gj : Nat} {H H' H2 : Dk} {D D' D2 : Al}
theorem DkW.off(hW:DkW wb w g H D w' H' D'){v:AcD}{b:Aib}(hr:RB w v b)(ho:b= []\/∀i,v.ownBlock=some i->¬BS H D.files.length i):b= []\/∀i,v.ownBlock=some i->¬BS H' D'.files.length i:=by
 rcases ho with h0 | ho
 ·exact .inl h0
 ·by_cases hb:b= []
  ·exact .inl hb
  ·refine .inr fun i hi q=> ?_;rcases hW.foot i q with q | q
   ·exact ho i hi q
   ·have:=RB.lt hr (List.length_pos_iff.2 hb) hi;omega
theorem DkW.ofExt(h:DkG wb w g H D)(k:Ext w w'):DkW wb w g H D w' H D:=⟨h.keep k,Acj k,fun _ q=> .inl q⟩
abbrev Ack:=@DkW.ofExt
theorem DkW.trans(h:DkW wb w g H D w' H' D')(k:DkW wb w' g H' D' w2 H2 D2):DkW wb w g H D w2 H2 D2:=
 ⟨k.g,h.chg.trans k.chg h.foot,fun i q=>(k.foot i q).elim (h.foot i) fun r=> .inr (AcG h.chg.size r)⟩
def Y1(H:Dk)(n gj:Nat)(k:Nat):Prop:=BS H n k\/k=gj
structure DkX (wb w : AcE) (g gj : Nat) (H : Dk) (D : Al) (w' : AcE) (H' : Dk) (D' : Al) : Prop where
 g:DkG wb w' g H' D'
 chg:Chg (Y1 H D.files.length gj) w w'
 foot:∀i,BS H' D'.files.length i->BS H D.files.length i\/w.heap.size<=i
theorem Chg.monoJ{B C:Nat->Prop}(h:Chg B w w')(hB:∀k,B k->C k):Chg C w w' :=⟨h.os,h.tape,h.output,h.size,fun k hk hn=>h.blk k hk fun q=>hn (hB k q)⟩
theorem DkX.ofW(h:DkW wb w g H D w' H' D'):DkX wb w g gj H D w' H' D' :=⟨h.g,h.chg.monoJ fun k q=> .inl q,h.foot⟩
theorem DkX.ofExt(h:DkG wb w g H D)(k:Ext w w'):DkX wb w g gj H D w' H D:= .ofW (.ofExt h k)
theorem DkX.keep(h:DkX wb w g gj H D w' H' D')(k:Ext w' w2):DkX wb w g gj H D w2 H' D' :=⟨h.g.keep k,h.chg.keep k,h.foot⟩
theorem DkX.trans(h:DkX wb w g gj H D w' H' D')(k:DkX wb w' g gj H' D' w2 H2 D2):DkX wb w g gj H D w2 H2 D2:=
 ⟨k.g,h.chg.trans k.chg fun i q=>q.elim (fun q=>(h.foot i q).imp .inl id) fun q=> .inl (.inr q),fun i q=>(k.foot i q).elim (h.foot i) fun r=> .inr (AcG h.chg.size r)⟩
theorem DkX.setT(h:DkX wb w g gj H D w' H' D'){b:Nat}{cs:Array AcD}{t:AcK}{fr:Nat × Nat}(hg:w'.grownBy w2 (some b))(hb:w'.heap[b]? =some (.cells cs t fr))(hw:w.heap.size<=b\/b=gj)(hwb:wb.heap.size<=b)(h1:t≠82)(h2:t≠120)(h3:t≠5)(h4:t≠113)(h5:t≠112)(h6:t≠9):DkX wb w g gj H D w2 H' D' :=
 ⟨h.g.setT hg hb hwb h1 h2 h3 h4 h5 h6,Acd h.chg hg (hw.elim .inr fun q=> .inl (.inr q)),h.foot⟩
abbrev Ab9:=@DkX.setT
theorem RefsOw.chg{b:Nat}{z:Af}(h:RefsOw b w z)(hD:DkG wb w g H D)(hc:Chg (BS H D.files.length) w w'):RefsOw b w' z:=
 ⟨hD.og hc h.br (by decide) (by decide) (by decide) (by decide),hD.og hc h.tg (by decide) (by decide) (by decide) (by decide),hD.og hc h.lg (by decide) (by decide) (by decide) (by decide)⟩
abbrev Ach:=@RefsOw.chg
theorem OG.setT{α:Type}{b k x:Nat}{t ty:AcK}{enc:α->List AcD}{v:AcD}{l:List α}{cs:Array AcD}{fr:Nat × Nat}(h:OG b t k enc w v l)(hg:w.grownBy w' (some x))(hb:w.heap[x]? =some (.cells cs ty fr))(hne:t≠ty):OG b t k enc w' v l:=h.kept hg (h.off hb hne)
theorem RefsOw.setT{b x:Nat}{z:Af}{ty:AcK}{cs:Array AcD}{fr:Nat × Nat}(h:RefsOw b w z)(hg:w.grownBy w' (some x))(hb:w.heap[x]? =some (.cells cs ty fr))(h1:94≠ty)(h2:97≠ty):RefsOw b w' z:=
 ⟨h.br.setT hg hb h1,h.tg.setT hg hb h1,h.lg.setT hg hb h2⟩
abbrev AbW:=@RefsOw.setT
structure JnAt (w : AcE) (gj g : Nat) (J : Jn) (z : Af) : Prop where
 blk:w.heap[gj]? =some (.cells (BH g z J.size J.torn J.lost).toArray 84 (0,0))
 rf:RefsOw 0 w z
 eq:z.1=J.refs
theorem JnAt.keep{J:Jn}{z:Af}(h:JnAt w gj g J z)(k:Ext w w'):JnAt w' gj g J z:=⟨ZP k h.blk,h.rf.keep k,h.eq⟩
theorem JnAt.chg{J:Jn}{z:Af}(h:JnAt w gj g J z){g2:Nat}(hD:DkG wb w g2 H D)(hc:Chg (BS H D.files.length) w w'):JnAt w' gj g J z:=
 ⟨hD.box hc h.blk (by decide) (by decide) (by decide) (by decide),h.rf.chg hD hc,h.eq⟩
def JaAt(w:AcE)(gj:Nat)(H:Dk)(n:Nat)(v:AcD):JA->Prop
 | .clear=>v = .func (.func 29) #[PQ gj 0] #[]
 | .app s b=>∃f bj bb vb,v = .func (.func f) #[] #[PQ bj 0,PQ bb 0]/\((s=nwN/\f=78)\/(s=jrN/\f=43))/\w.heap[bj]? =some (.cells ([PQ gj 0]).toArray 27 (0,0))/\w.heap[bb]? =some (.cells ([vb]).toArray 43 (0,0))/\RB w vb b/\(b= []\/∀i,vb.ownBlock=some i->¬BS H n i)/\b.length<=45000
 | .sync s=>∃f bj,v = .func (.func f) #[] #[PQ bj 0]/\((s=nwN/\f=79)\/(s=jrN/\(f=82\/f=45)))/\w.heap[bj]? =some (.cells ([PQ gj 0]).toArray 27 (0,0))
 | .move=>∃bj,v = .func (.func 80) #[] #[PQ bj 0]/\w.heap[bj]? =some (.cells ([PQ gj 0]).toArray 27 (0,0))
theorem JaAt.step(hD:DkG wb w g H D)(hW:DkW wb w g H D w' H' D'){v:AcD}{a:JA}(h:JaAt w gj H D.files.length v a):JaAt w' gj H' D'.files.length v a:=by
 have bx:∀ {x:Nat} {cs:Array AcD} {t:AcK},w.heap[x]? =some (.cells cs t (0,0))->t=27\/t=43->w'.heap[x]? =some (.cells cs t (0,0)):=fun e ht=>by
  rcases ht with rfl | rfl <;> exact hD.box hW.chg e (by decide) (by decide) (by decide) (by decide)
 cases a with
 | clear=>exact h
 | app s b=>
  obtain⟨f,bj,bb,vb,e,q,h1,h2,h3,h4,h5⟩:=h;exact⟨f,bj,bb,vb,e,q,bx h1 (.inl rfl),bx h2 (.inr rfl),h3.chg hW.chg h4,hW.off h3 h4,h5⟩
 | sync s=>
  obtain⟨f,bj,e,q,h1⟩:=h;exact⟨f,bj,e,q,bx h1 (.inl rfl)⟩
 | move=>
  obtain⟨bj,e,h1⟩:=h;exact⟨bj,e,bx h1 (.inl rfl)⟩
theorem JaAt.ext{n:Nat}{v:AcD}{a:JA}(h:JaAt w gj H n v a)(k:Ext w w'):JaAt w' gj H n v a:=by
 cases a with
 | clear=>exact h
 | app s b=>
  obtain⟨f,bj,bb,vb,e,q,h1,h2,h3,h4,h5⟩:=h;exact⟨f,bj,bb,vb,e,q,ZP k h1,ZP k h2,h3.keep k,h4,h5⟩
 | sync s=>
  obtain⟨f,bj,e,q,h1⟩:=h;exact⟨f,bj,e,q,ZP k h1⟩
 | move=>
  obtain⟨bj,e,h1⟩:=h;exact⟨bj,e,ZP k h1⟩
structure JasAt (w : AcE) (gj : Nat) (H : Dk) (n : Nat) (vs : List AcD) (ac : List JA) : Prop where
 len:vs.length=ac.length
 at_:∀i,i<ac.length->JaAt w gj H n (vs.getD i undef) (ac.getD i .clear)
theorem JasAt.keep{n:Nat}{vs:List AcD}{ac:List JA}(h:JasAt w gj H n vs ac)(k:Ext w w'):JasAt w' gj H n vs ac:=⟨h.len,fun i hi=>(h.at_ i hi).ext k⟩
theorem JasAt.step{vs:List AcD}{ac:List JA}(h:JasAt w gj H D.files.length vs ac)(hD:DkG wb w g H D)(hW:DkW wb w g H D w' H' D'):JasAt w' gj H' D'.files.length vs ac:=⟨h.len,fun i hi=>(h.at_ i hi).step hD hW⟩
theorem jas1{n:Nat}{v:AcD}{a:JA}(h:JaAt w gj H n v a):JasAt w gj H n [v] [a]:=⟨rfl,fun i hi=>by
 have:i=0:=by simp at hi;omega
 subst this;exact h⟩
theorem XZ{n:Nat}{v b:AcD}{a a2:JA}(h:JaAt w gj H n v a)(h2:JaAt w gj H n b a2):JasAt w gj H n [v,b] [a,a2]:=⟨rfl,fun i hi=>by
 match i,hi with
 | 0,_=>exact h
 | 1,_=>exact h2⟩
theorem YM{n:Nat}{v b c:AcD}{a a2 a3:JA}(h:JaAt w gj H n v a)(h2:JaAt w gj H n b a2)(h3:JaAt w gj H n c a3):JasAt w gj H n [v,b,c] [a,a2,a3]:=⟨rfl,fun i hi=>by
 match i,hi with
 | 0,_=>exact h
 | 1,_=>exact h2
 | 2,_=>exact h3⟩
end
section
variable {n : Nat} {D : Al}
theorem DBd.addK{n k:Nat}{D:Al}(h:DBd n D)(s:Aib){b:Aib}(hk:1<=k)(hb:b.length<=300*k):DBd (n+k) (Bg D s b):=by
 unfold Bg;split
 ·rename_i j _
  refine⟨h.quota,AcG h.refused (Aey _ _),h.arm,AcG h.acts (Aey _ _),AcG h.now (Aey _ _),fun x hx=> ?_⟩;rcases List.mem_or_eq_of_mem_set hx with hx | rfl
  ·have:=h.files x hx;omega
  ·have:=h.file j;show((Aq D j).1++b).length<=_;rw[AcJ];omega
 ·have h1:=(h.turned ⟨[],s,D.files.length⟩).mono (show n+1<=n+k by omega);refine⟨h1.quota,h1.refused,h1.arm,h1.acts,h1.now,fun x hx=> ?_⟩;rcases Adt.1 hx with hx | hx
  ·have:=h.files x hx;omega
  ·rw[Adn.1 hx];show b.length<=_;omega
theorem DBd.appendK{n k:Nat}{D:Al}(h:DBd n D)(s:Aib){b:Aib}(hk:1<=k)(hb:b.length<=300*k):DBd (n+k) (BV D s b).1:=by
 unfold BV;split
 ·exact h.mono (Aey _ _)
 ·split
  ·have h2:=h.mono (Aey n k);have:=h.refused;exact⟨h2.quota,by show D.refused+1<=_;omega,h2.arm,h2.acts,h2.now,h2.files⟩
  ·split
   ·exact h.armed.mono (Aey _ _)
   ·exact h.armed.addK s hk hb
theorem DBd.jact{n:Nat}{D:Al}(h:DBd n D):∀(a:JA),(∀s b,a = .app s b->b.length<=45000)->DBd (n+150) (BC D a).1
 | .clear,_=>by
  show DBd (n+150) (if(BF D nwN).2=4 then((BF D nwN).1,0)else BF D nwN).1;split
  ·exact DBd.mono (n:=n+1) (h.drop nwN) (by omega)
  ·exact DBd.mono (n:=n+1) (h.drop nwN) (by omega)
 | .app s b,hb=>h.appendK s (by omega) (hb s b rfl)
 | .sync s,_=>(h.sync s).mono (by omega)
 | .move,_=>(h.move _ _).mono (by omega)
theorem DBd.jdo:∀(l:List JA) {n:Nat} {D:Al},DBd n D->(∀a∈l,∀s b,a = .app s b->b.length<=45000)->DBd (n+150*l.length) (AN D l).1
 | [],n,D,h,_=>h
 | a :: r,n,D,h,hb=>by
  have h1:=h.jact a (hb a AdT);rw[EM];split
  ·exact h1.mono (by rw[AcV];omega)
  ·exact(DBd.jdo r h1 fun x hx=>hb x (AdR _ hx)).mono (by rw[AcV];omega)
end
set_option maxRecDepth 100000
theorem IY{l:List JA}{i:Nat}(h:i<l.length):l.drop i=l.getD i .clear :: l.drop (i+1):=by
 rw[AcL,AcQ h];simp
theorem Ef:Tryz.prog.underlying 27=some (.pointer 84):=by kernel_rfl
theorem DL:AC AcF 84 0 0:=fun b o w=>by simp[go_sem]
theorem Od:Plain AcF 44:=fun _ _=>by kernel_rfl
theorem J7:Plain AcF 46:=fun _ _=>by kernel_rfl
theorem Va:Plain AcF 81:=fun _ _=>by kernel_rfl
theorem Vb:Plain AcF 72:=fun _ _=>by kernel_rfl
theorem Fc:AC AcF 84 4 39:=fun b o w=>by simp[go_sem]
theorem Rb:AC AcF 84 2 37:=fun b o w=>by simp[go_sem]
theorem Mv:Tryz.prog.underlying 141=some (.slice 50):=by kernel_rfl
theorem Vc:∀w' :AcE,(sizeOf 50).run AcF w' = .ok 1 w' :=fun _=>by kernel_rfl
theorem Vd:Tryz.prog.underlying 50=some (.func #[] #[28] false):=by kernel_rfl
set_option maxHeartbeats 1600000
theorem Ve(wb w:AcE)(g:Nat)(H:Dk)(D:Al)(hD:DkG wb w g H D)(gj:Nat)(z:Af)(n:Nat)(t l:Bool)(hj:w.heap[gj]? =some (.cells (BH g z n t l).toArray 84 (0,0)))(bj:Nat)(hbj:w.heap[bj]? =some (.cells ([PQ gj 0]).toArray 27 (0,0)))(bb:Nat)(vb:AcD)(b:Aib)(hbb:w.heap[bb]? =some (.cells ([vb]).toArray 43 (0,0)))(hr:RB w vb b)(hoff:b= []\/∀i,vb.ownBlock=some i->¬BS H D.files.length i)(hbl:b.length<=45000)(hL:EB D):
  Calls AcF 78 #[PQ bj 0,PQ bb 0] w fun e w' =>∃H',e = .returned (NI (BV D nwN b).2)/\DkW wb w g H D w' H' ((BV D nwN b).1):=by
 refine gG (args:= [PQ bj 0,PQ bb 0]) Tryz.func78 rfl 9 rfl rfl ?_;have hE:=AbN w;refine gM0 [0,1,2,3,4,5,6] [5] [] fun c a=> ?_;have hj:=eb a hj;have hbj:=eb a hbj;have hbb:=eb a hbb;have hE:=hE.trans a;refine ys (Y6 Ef rfl rfl (Ac hbj rfl) zz) (ys (AbO rfl zz) (ys (AbM DL rfl zz) (ys (Y6 UO rfl rfl (Ac hj J6) zz) (ys (Y6 G8 rfl rfl (Ac hbb rfl) zz) (yC (Zi Od rfl rfl rfl ((((hD.keep hE)).appendW nwN vb b (hr.keep hE) hoff (by omega) hL).mono ?_)))))));rintro e f ⟨H2,rfl,hW⟩;refine⟨_,rfl,?_⟩;have hW:=(Ack hD hE).trans hW;refine AE rfl (vr (NI ((BV D nwN b).2)) rfl) ?_;exact⟨H2,rfl,hW⟩
theorem Vf(wb w:AcE)(g:Nat)(H:Dk)(D:Al)(hD:DkG wb w g H D)(gj:Nat)(z:Af)(n:Nat)(t l:Bool)(hj:w.heap[gj]? =some (.cells (BH g z n t l).toArray 84 (0,0)))(bj:Nat)(hbj:w.heap[bj]? =some (.cells ([PQ gj 0]).toArray 27 (0,0)))(bb:Nat)(vb:AcD)(b:Aib)(hbb:w.heap[bb]? =some (.cells ([vb]).toArray 43 (0,0)))(hr:RB w vb b)(hoff:b= []\/∀i,vb.ownBlock=some i->¬BS H D.files.length i)(hbl:b.length<=45000)(hL:EB D):
  Calls AcF 43 #[PQ bj 0,PQ bb 0] w fun e w' =>∃H',e = .returned (NI (BV D jrN b).2)/\DkW wb w g H D w' H' ((BV D jrN b).1):=by
 refine gG (args:= [PQ bj 0,PQ bb 0]) Tryz.func43 rfl 9 rfl rfl ?_;have hE:=AbN w;refine gM0 [0,1,2,3,4,5,6] [5] [] fun c a=> ?_;have hj:=eb a hj;have hbj:=eb a hbj;have hbb:=eb a hbb;have hE:=hE.trans a;refine ys (Y6 Ef rfl rfl (Ac hbj rfl) zz) (ys (AbO rfl zz) (ys (AbM DL rfl zz) (ys (Y6 UO rfl rfl (Ac hj J6) zz) (ys (Y6 G8 rfl rfl (Ac hbb rfl) zz) (yC (Zi Od rfl rfl rfl ((((hD.keep hE)).appendW jrN vb b (hr.keep hE) hoff (by omega) hL).mono ?_)))))));rintro e f ⟨H2,rfl,hW⟩;refine⟨_,rfl,?_⟩;have hW:=(Ack hD hE).trans hW;refine AE rfl (vr (NI ((BV D jrN b).2)) rfl) ?_;exact⟨H2,rfl,hW⟩
theorem Vg(wb w:AcE)(g:Nat)(H:Dk)(D:Al)(hD:DkG wb w g H D)(gj:Nat)(z:Af)(n:Nat)(t l:Bool)(hj:w.heap[gj]? =some (.cells (BH g z n t l).toArray 84 (0,0)))(bj:Nat)(hbj:w.heap[bj]? =some (.cells ([PQ gj 0]).toArray 27 (0,0)))(hL:EB D):
  Calls AcF 79 #[PQ bj 0] w fun e w' =>∃H',e = .returned (NI (Ch D nwN).2)/\DkW wb w g H D w' H' ((Ch D nwN).1):=by
 refine gG (args:= [PQ bj 0]) Tryz.func79 rfl 7 rfl rfl ?_;have hE:=AbN w;refine gS (Y6 Ef rfl rfl (Ac hbj rfl) (gS (AbO rfl (gS (AbM DL rfl (gS (Y6 UO rfl rfl (Ac hj J6) (gS (Zb J7 rfl rfl ((((hD.keep hE)).syncW nwN hL).mono ?_))))))))));rintro e a ⟨H2,rfl,hW⟩;refine⟨_,rfl,?_⟩;have hW:=(Ack hD hE).trans hW;refine AE rfl (vr (NI ((Ch D nwN).2)) rfl) ?_;exact⟨H2,rfl,hW⟩
theorem Vh(wb w:AcE)(g:Nat)(H:Dk)(D:Al)(hD:DkG wb w g H D)(gj:Nat)(z:Af)(n:Nat)(t l:Bool)(hj:w.heap[gj]? =some (.cells (BH g z n t l).toArray 84 (0,0)))(bj:Nat)(hbj:w.heap[bj]? =some (.cells ([PQ gj 0]).toArray 27 (0,0)))(hL:EB D):
  Calls AcF 80 #[PQ bj 0] w fun e w' =>∃H',e = .returned (NI (Dh D nwN jrN).2)/\DkW wb w g H D w' H' ((Dh D nwN jrN).1):=by
 refine gG (args:= [PQ bj 0]) Tryz.func80 rfl 7 rfl rfl ?_;have hE:=AbN w;refine gS (Y6 Ef rfl rfl (Ac hbj rfl) (gS (AbO rfl (gS (AbM DL rfl (gS (Y6 UO rfl rfl (Ac hj J6) (gS (Zi Va rfl rfl rfl ((((hD.keep hE)).moveW nwN jrN hL).mono ?_))))))))));rintro e a ⟨H2,rfl,hW⟩;refine⟨_,rfl,?_⟩;have hW:=(Ack hD hE).trans hW;refine AE rfl (vr (NI ((Dh D nwN jrN).2)) rfl) ?_;exact⟨H2,rfl,hW⟩
theorem Vi(wb w:AcE)(g:Nat)(H:Dk)(D:Al)(hD:DkG wb w g H D)(gj:Nat)(z:Af)(n:Nat)(t l:Bool)(hj:w.heap[gj]? =some (.cells (BH g z n t l).toArray 84 (0,0)))(bj:Nat)(hbj:w.heap[bj]? =some (.cells ([PQ gj 0]).toArray 27 (0,0)))(hL:EB D):
  Calls AcF 82 #[PQ bj 0] w fun e w' =>∃H',e = .returned (NI (Ch D jrN).2)/\DkW wb w g H D w' H' ((Ch D jrN).1):=by
 refine gG (args:= [PQ bj 0]) Tryz.func82 rfl 7 rfl rfl ?_;have hE:=AbN w;refine gS (Y6 Ef rfl rfl (Ac hbj rfl) (gS (AbO rfl (gS (AbM DL rfl (gS (Y6 UO rfl rfl (Ac hj J6) (gS (Zb J7 rfl rfl ((((hD.keep hE)).syncW jrN hL).mono ?_))))))))));rintro e a ⟨H2,rfl,hW⟩;refine⟨_,rfl,?_⟩;have hW:=(Ack hD hE).trans hW;refine AE rfl (vr (NI ((Ch D jrN).2)) rfl) ?_;exact⟨H2,rfl,hW⟩
theorem Vj(wb w:AcE)(g:Nat)(H:Dk)(D:Al)(hD:DkG wb w g H D)(gj:Nat)(z:Af)(n:Nat)(t l:Bool)(hj:w.heap[gj]? =some (.cells (BH g z n t l).toArray 84 (0,0)))(bj:Nat)(hbj:w.heap[bj]? =some (.cells ([PQ gj 0]).toArray 27 (0,0)))(hL:EB D):
  Calls AcF 45 #[PQ bj 0] w fun e w' =>∃H',e = .returned (NI (Ch D jrN).2)/\DkW wb w g H D w' H' ((Ch D jrN).1):=by
 refine gG (args:= [PQ bj 0]) Tryz.func45 rfl 7 rfl rfl ?_;have hE:=AbN w;refine gS (Y6 Ef rfl rfl (Ac hbj rfl) (gS (AbO rfl (gS (AbM DL rfl (gS (Y6 UO rfl rfl (Ac hj J6) (gS (Zb J7 rfl rfl ((((hD.keep hE)).syncW jrN hL).mono ?_))))))))));rintro e a ⟨H2,rfl,hW⟩;refine⟨_,rfl,?_⟩;have hW:=(Ack hD hE).trans hW;refine AE rfl (vr (NI ((Ch D jrN).2)) rfl) ?_;exact⟨H2,rfl,hW⟩
theorem Tp(wb w:AcE)(g:Nat)(H:Dk)(D:Al)(hD:DkG wb w g H D)(gj:Nat)(z:Af)(n:Nat)(t l:Bool)(hj:w.heap[gj]? =some (.cells (BH g z n t l).toArray 84 (0,0)))(hL:EB D):
  Calls AcF 29 #[PQ gj 0] w fun e w' =>∃H',e = .returned (NI (BC D .clear).2)/\DkW wb w g H D w' H' ((BC D .clear).1):=by
 refine gG (args:= [PQ gj 0]) Tryz.func29 rfl 12 rfl rfl ?_;have hE:=AbN w;refine gS (AbO rfl (gS (AbM DL rfl (gS (Y6 UO rfl rfl (Ac hj J6) (gS (Zb Vb rfl rfl ((((hD.keep hE)).dropW nwN hL).mono ?_))))))));rintro e f ⟨H2,rfl,hW⟩;refine⟨_,rfl,?_⟩;have hW:=(Ack hD hE).trans hW;refine gS (Y7 (a:=((BF D nwN).2:Nat)) (b:=(4:Nat)) rfl rfl (AX _ _ _ _) ?_);refine cD rfl (fun c=> ?_) fun c=> ?_
 ·have hV:BC D .clear=BF D nwN:=if_neg c;refine AE rfl (vr (NI ((BF D nwN).2)) rfl) ?_;exact⟨H2,by rw[hV],by rw[hV];exact hW⟩
 have hV:BC D .clear=((BF D nwN).1,0):=if_pos (Decidable.not_not.1 c);refine AE rfl (vr (NI 0) rfl) ?_;exact⟨H2,by rw[hV],by rw[hV];exact hW⟩
theorem WV(wb w:AcE)(g:Nat)(H:Dk)(D:Al)(hD:DkG wb w g H D)(gj:Nat)(z:Af)(n:Nat)(t l:Bool)(hj:w.heap[gj]? =some (.cells (BH g z n t l).toArray 84 (0,0)))(hL:EB D){v:AcD}{a:JA}(h:JaAt w gj H D.files.length v a):
  ∃f bd caps,v = .func (.func f) bd caps/\Plain AcF f/\Calls AcF f (bd++caps) w fun e w' =>∃H',e = .returned (NI (BC D a).2)/\DkW wb w g H D w' H' ((BC D a).1):=by
 cases a with
 | clear=>exact⟨_,_,_,h,fun _ _=>by kernel_rfl,Tp wb w g H D hD gj z n t l hj hL⟩
 | app s b=>
  obtain⟨f,bj,bb,vb,e,⟨rfl,rfl⟩ | ⟨rfl,rfl⟩,h1,h2,h3,h4,h5⟩:=h
  ·exact⟨_,_,_,e,fun _ _=>by kernel_rfl,Ve wb w g H D hD gj z n t l hj bj h1 bb vb b h2 h3 h4 h5 hL⟩
  ·exact⟨_,_,_,e,fun _ _=>by kernel_rfl,Vf wb w g H D hD gj z n t l hj bj h1 bb vb b h2 h3 h4 h5 hL⟩
 | sync s=>
  obtain⟨f,bj,e,⟨rfl,rfl⟩ | ⟨rfl,rfl | rfl⟩,h1⟩:=h
  ·exact⟨_,_,_,e,fun _ _=>by kernel_rfl,Vg wb w g H D hD gj z n t l hj bj h1 hL⟩
  ·exact⟨_,_,_,e,fun _ _=>by kernel_rfl,Vi wb w g H D hD gj z n t l hj bj h1 hL⟩
  ·exact⟨_,_,_,e,fun _ _=>by kernel_rfl,Vj wb w g H D hD gj z n t l hj bj h1 hL⟩
 | move=>
  obtain⟨bj,e,h1⟩:=h;exact⟨_,_,_,e,fun _ _=>by kernel_rfl,Vh wb w g H D hD gj z n t l hj bj h1 hL⟩
theorem K8(w:AcE)(g:Nat)(gj:Nat)(z:Af)(n:Nat)(t l:Bool)(hj:w.heap[gj]? =some (.cells (BH g z n t l).toArray 84 (0,0))):
  Calls AcF 40 #[PQ gj 0] w fun e w' =>e = .returned (NI (if l=true then 19 else 0))/\Ext w w' :=by
 refine gG (args:= [PQ gj 0]) Tryz.func40 rfl 9 rfl rfl ?_;have hE:=AbN w;refine gS (ZJ Ef rfl (kB (rfl) (cF rfl (gS (AbO rfl (gS (AbM Fc rfl (gS (Y6 Um rfl rfl (Ac hj Ra) ?_)))))))));refine cB (l) rfl (fun a=> ?_) fun a=> ?_
 ·refine AE rfl (vr (NI 19) rfl) ?_;exact⟨by rw[show l=true from a];rfl,hE⟩
 refine AE rfl (vr (NI 0) rfl) ?_;exact⟨by rw[show l=false from a];rfl,hE⟩
theorem Tq(w:AcE)(g:Nat)(gj:Nat)(z:Af)(n:Nat)(t l:Bool)(hj:w.heap[gj]? =some (.cells (BH g z n t l).toArray 84 (0,0))):
  Calls AcF 18 #[PQ gj 0] w fun e w' =>e = .returned (NI n)/\Ext w w' :=by
 refine gG (args:= [PQ gj 0]) Tryz.func18 rfl 9 rfl rfl ?_;have hE:=AbN w;refine gS (ZJ Ef rfl (kB (rfl) (cF rfl (gS (AbO rfl (gS (AbM Rb rfl (gS (Y6 Nw rfl rfl (Ac hj Q7) (AE rfl (vr (NI n) rfl) ?_))))))))));exact⟨rfl,hE⟩
theorem IZ(wb w:AcE)(g:Nat)(H:Dk)(D:Al)(hD:DkG wb w g H D)(gj:Nat)(z:Af)(n:Nat)(t l:Bool)(hj:w.heap[gj]? =some (.cells (BH g z n t l).toArray 84 (0,0)))(hlo:wb.heap.size<=gj)(rb:Nat)(vs:List AcD)(ac:List JA)(hrb:w.heap[rb]? =some (.cells vs.toArray 50 (0,0)))(o:JasAt w gj H D.files.length vs ac)(m:Nat)(hB:DBd m D)(hm:m+150*ac.length<=99000)(hbs:∀a∈ac,∀s b,a = .app s b->b.length<=45000):
  Calls AcF 28 #[PQ gj 0, .slice (some ⟨rb,0,none⟩) vs.length vs.length] w fun e w' =>∃H',e = .returned (NI (AN D ac).2)/\DkX wb w g gj H D w' H' (AN D ac).1/\w'.heap[gj]? =some (.cells (BH g z n t (l||decide ((AN D ac).2=9))).toArray 84 (0,0)):=by
 have hal:=o.len;have hvm:vs.length<=maxLen:=by simp only[maxLen];omega
 refine gG (args:= [PQ gj 0, .slice (some ⟨rb,0,none⟩) vs.length vs.length]) Tryz.func28 rfl 31 rfl rfl ?_;have hE:=AbN w;refine gS (Aan Mv rfl (gL (fun(ρ:Aj) (wz:AcE)=>∃i:Nat,∃Hi:Dk,∃Di:Al,ρ 0=(PQ gj 0:AcD)/\ρ 1=(.slice (some ⟨rb,0,none⟩) vs.length vs.length:AcD)/\ρ 8=(.slice (some ⟨rb,0,none⟩) vs.length vs.length:AcD)/\ρ 9=(NI vs.length:AcD)/\ρ 10=(NI i:AcD)/\wz.heap[rb]? =some (.cells vs.toArray 50 (0,0))/\wz.heap[gj]? =some (.cells (BH g z n t l).toArray 84 (0,0))/\DkW wb w g H D wz Hi Di/\JasAt wz gj Hi Di.files.length vs ac/\(i<=ac.length)/\(AN D ac=AN Di (ac.drop i))/\(DBd (m+150*i) Di)/\True) (fun ρ _=>ac.length-(intOf (ρ 10)).toNat) ⟨0,H,D,rfl,rfl,rfl,rfl,rfl,hrb,hj,Ack hD hE,o.keep hE,AcZ _,rfl,hB,trivial⟩ ?_));clear hE;clear hrb hj;rintro ab w5 ⟨i,Hi,Di,c,T1,p,q,f,hrb,hj,hW,hA,hi,hq,hBi,-⟩;have q10:=f;refine gS (Y7 (a:=(i:Nat)) (b:=(vs.length:Nat)) f q (Bf _ _ _ _) ?_);refine cD rfl (fun k=> ?_) fun k=> ?_
 ·have hlt:i<ac.length:=by have h:=k;rw[hal]at h;exact h
  have hcell:vs[i]? =some (vs.getD i undef):=by rw[AcL,AcQ (by rw[hal];exact hlt)];rfl
  refine gS (AbC (i:=i) Mv Vc p f (by rw[hal];exact hlt) (gS (Y6 Vd rfl rfl (Ac hrb hcell) ?_)));obtain⟨fi,bi,ci,hvi,hpl,hcl⟩:=WV wb w5 g Hi Di hW.g gj z n t l hj (hBi.lt (by omega)) (hA.at_ i hlt);refine gS (AbK hpl rfl hvi hcl fun H2 r hW2=> ?_);have hW3:=hW.trans hW2;have hrb:=hW.g.box hW2.chg hrb (by decide) (by decide) (by decide) (by decide);have hj:=hW.g.box hW2.chg hj (by decide) (by decide) (by decide) (by decide);have ae:=hA.step hW.g hW2;refine gS (Y7 (a:=((BC Di (ac.getD i .clear)).2:Nat)) (b:=(0:Nat)) rfl rfl (AX _ _ _ _) ?_);refine cD rfl (fun j=> ?_) fun j=> ?_
  ·have hjo:=hj;cases l
   ·have hX:DkX wb w g gj H D r H2 (BC Di (ac.getD i .clear)).1:= .ofW hW3;refine gS (AbO c (gS (AbM Fc rfl (gS (Y6 Um rfl rfl (Ac hj Ra) (gS (Y7 (a:=((BC Di (ac.getD i .clear)).2:Nat)) (b:=(9:Nat)) rfl rfl (AK _ _ _ _) (gS (Zo rfl rfl (gS (AbO c (gS (AbM Fc rfl (gS (Za (i:=39) (v:= .bool (decide (((BC Di (ac.getD i .clear)).2:Nat)=(9)))) rfl rfl hj (by rw[GC];decide) UV rfl rfl fun u x af ai=> ?_)))))))))))))));have hX:DkX wb w g gj H D u H2 (BC Di (ac.getD i .clear)).1:=Ab9 hX af hj (.inr rfl) hlo (by decide) (by decide) (by decide) (by decide) (by decide) (by decide);clear hj;have hj:u.heap[gj]? =some (.cells (BH g z n t (decide (((BC Di (ac.getD i .clear)).2:Nat)=(9)))).toArray 84 (0,0)):=Az x (To (decide (((BC Di (ac.getD i .clear)).2:Nat)=(9))));clear x;have aj:=bl hj;refine AE rfl (vr (NI ((BC Di (ac.getD i .clear)).2)) rfl) ?_;have hV:AN D ac=BC Di (ac.getD i .clear):=by rw[hq,IY hlt,EM,if_pos j]
    exact⟨H2,by rw[hV],by rw[hV];exact hX,by rw[hV];exact hj⟩
   have hX:DkX wb w g gj H D r H2 (BC Di (ac.getD i .clear)).1:= .ofW hW3;refine gS (AbO c (gS (AbM Fc rfl (gS (Y6 Um rfl rfl (Ac hj Ra) (gS (Zy rfl rfl (gS (AbO c (gS (AbM Fc rfl (gS (Za (i:=39) (v:= .bool (true)) rfl rfl hj (by rw[GC];decide) UV rfl rfl fun y aa ag ak=> ?_)))))))))))));have hX:DkX wb w g gj H D y H2 (BC Di (ac.getD i .clear)).1:=Ab9 hX ag hj (.inr rfl) hlo (by decide) (by decide) (by decide) (by decide) (by decide) (by decide);clear hj;have hj:y.heap[gj]? =some (.cells (BH g z n t true).toArray 84 (0,0)):=Az aa (To true);clear aa;have al:=bl hj;refine AE rfl (vr (NI ((BC Di (ac.getD i .clear)).2)) rfl) ?_;have hV:AN D ac=BC Di (ac.getD i .clear):=by rw[hq,IY hlt,EM,if_pos j]
   exact⟨H2,by rw[hV],by rw[hV];exact hX,by rw[hV];exact hj⟩
  have hst:¬(BC Di (ac.getD i .clear)).2≠0:=j;have hq3:AN D ac=AN (BC Di (ac.getD i .clear)).1 (ac.drop (i+1)):=by rw[hq,IY hlt,EM,if_neg hst]
  have ah:=hBi.jact (ac.getD i .clear) (hbs _ (Cd .clear hlt));refine gS (Ze (xv:=NI i) (yv:=NI 1) f rfl rfl (AD _ _ _ (by omega)) (gK (AdF ⟨i+1,H2,(BC Di (ac.getD i .clear)).1,c,T1,p,q,rfl,hrb,hj,hW3,ae,by omega,hq3,ah,trivial⟩ ?_)));show ac.length-(intOf (NI ((i)+(1)))).toNat<ac.length-(intOf (ab 10)).toNat;rw[q10];simp only[intOf,Ac8];omega
 refine AE rfl (vr (NI 0) rfl) ?_;have hie:i=ac.length:=by have h:=k;rw[hal]at h;omega
 have hV:AN D ac=(Di,0):=by rw[hq,hie,List.drop_length];rfl
 exact⟨Hi,by rw[hV],by rw[hV];exact .ofW hW,by rw[hV,show decide ((Di,0).2=9)=false from rfl,Agx];exact hj⟩
theorem Tr:Plain AcF 56:=fun _ _=>by kernel_rfl
theorem Ts:Plain AcF 58:=fun _ _=>by kernel_rfl
theorem Tt:Plain AcF 60:=fun _ _=>by kernel_rfl
theorem I0(w0 w:AcE)(h:Ext w0 w)(gb:Nat)(hgb:w0.heap.size<=gb)(vb:AcD)(l:Bs)(hb:w.heap[gb]? =some (.cells ([vb]).toArray 43 (0,0)))(hr:RB w vb l)(n:Nat)(hl:l.length+64<=140737488355328)(hn:n<=9223372036854775807):
  Calls AcF 55 #[NI n,PQ gb 0] w fun e w' =>∃v',e = .returned (.tuple #[])/\w'.heap[gb]? =some (.cells ([v']).toArray 43 (0,0))/\w'.ownsRow w.heap.size 5 1 v' (l++Ac6 n).length (AcH (l++Ac6 n))/\w.grownBy w' (some gb):=by
 have hgl:=(bl hb);have hgr:=Adb w (some gb);refine gG (args:= [NI n,PQ gb 0]) Tryz.func55 rfl 9 rfl rfl ?_;have hE:=AbN w;refine gS (Y6 G8 rfl rfl (Ac hb rfl) (gS (Zb Tr rfl rfl ((Pv _ vb (l) (hr.keep hE) (by omega) n (by omega)).mono ?_))));rintro e j ⟨b,rfl,c⟩;refine⟨_,rfl,?_⟩;have o:=hE.size;have p:=h.size;have k:OB b gb:=Be c.own (bl hb);have hgr:w.grownBy j (some gb):=Aa hgr c.ext.grown (fun _ e=>by cases e);have a:=c.own;have hb:=eb c.ext hb;refine gS (AbP (vs:= [b,NI 0]) rfl rfl (gS (AbP (vs:= [b,NI 0]) rfl rfl (gS (Za (i:=0) (v:=b) rfl rfl hb (AcP rfl) Mo (CD a).1 (CD a).2 fun m f g q=> ?_)))));have hgr:w.grownBy m (some gb):=Aa hgr g (fun _ e=> .inl e);clear hE;clear hb;have hb:=f;clear f;have r:=bl hb;refine Gm rfl ?_;have a:=EI a g k;exact⟨_,rfl,hb,AI a (by omega),hgr⟩
theorem FR(w0 w:AcE)(h:Ext w0 w)(gb:Nat)(hgb:w0.heap.size<=gb)(vb:AcD)(l:Bs)(hb:w.heap[gb]? =some (.cells ([vb]).toArray 43 (0,0)))(hr:RB w vb l)(s:Bs)(hl:l.length+s.length+64<=140737488355328):
  Calls AcF 57 #[St s,PQ gb 0] w fun e w' =>∃v',e = .returned (.tuple #[])/\w'.heap[gb]? =some (.cells ([v']).toArray 43 (0,0))/\w'.ownsRow w.heap.size 5 1 v' (l++AF s).length (AcH (l++AF s))/\w.grownBy w' (some gb):=by
 have hgl:=(bl hb);have hgr:=Adb w (some gb);refine gG (args:= [St (s),PQ gb 0]) Tryz.func57 rfl 6 rfl rfl ?_;have hE:=AbN w;refine gS (Y6 G8 rfl rfl (Ac hb rfl) (gS (Zb Ts rfl rfl ((HM _ vb (l) (hr.keep hE) s (by omega)).mono ?_))));rintro e j ⟨c,rfl,b⟩;refine⟨_,rfl,?_⟩;have n:=hE.size;have o:=h.size;have k:OB c gb:=Be b.own (bl hb);have hgr:w.grownBy j (some gb):=Aa hgr b.ext.grown (fun _ e=>by cases e);have a:=b.own;have hb:=eb b.ext hb;refine gS (Za (i:=0) (v:=c) rfl rfl hb (AcP rfl) Mo (CD a).1 (CD a).2 fun m f g p=> ?_);have hgr:w.grownBy m (some gb):=Aa hgr g (fun _ e=> .inl e);clear hE;clear hb;have hb:=f;clear f;have q:=bl hb;refine Gm rfl ?_;have a:=EI a g k;exact⟨_,rfl,hb,AI a (by omega),hgr⟩
theorem FS(w0 w:AcE)(b:Ext w0 w)(gb:Nat)(hgb:w0.heap.size<=gb)(vb:AcD)(l:Bs)(hb:w.heap[gb]? =some (.cells ([vb]).toArray 43 (0,0)))(hr:RB w vb l)(id:B7)(hl:l.length+64<=140737488355328):
  Calls AcF 59 #[AB id.1,PQ gb 0] w fun e w' =>∃v',e = .returned (.tuple #[])/\w'.heap[gb]? =some (.cells ([v']).toArray 43 (0,0))/\w'.ownsRow w.heap.size 5 1 v' (l++id.1).length (AcH (l++id.1))/\w.grownBy w' (some gb):=by
 have hgl:=(bl hb);have hgr:=Adb w (some gb);refine gG (args:= [AB id.1,PQ gb 0]) Tryz.func59 rfl 6 rfl rfl ?_;have hE:=AbN w;refine gS (Ab3 (vr (AB id.1) rfl) fun n g o h c t=> ?_);have u:=hE.size;have x:=b.size;have hgr:w.grownBy g (some gb):=Aa hgr c.grown (fun _ e=>by cases e);have p:=h;clear h;have y:n<g.heap.size:=by omega
 have z:=AR (bl hb) o;have hb:=eb c hb;have hE:=hE.trans c;refine gS (Y6 G8 rfl rfl (Ac hb rfl) (gS (ZC rfl p VZ rfl (by exact As id.2) (gS (Zb Tt rfl rfl ((IN _ vb (l) (hr.keep hE) (by omega) id).mono ?_))))));rintro e q ⟨j,rfl,f⟩;refine⟨_,rfl,?_⟩;have b:=b.trans c;have aa:=hE.size;have ab:=b.size;have r:OB j gb:=Be f.own (bl hb);have hgr:w.grownBy q (some gb):=Aa hgr f.ext.grown (fun _ e=>by cases e);have a:=f.own;have hb:=eb f.ext hb;refine gS (Za (i:=0) (v:=j) rfl rfl hb (AcP rfl) Mo (CD a).1 (CD a).2 fun s k m ac=> ?_);have hgr:w.grownBy s (some gb):=Aa hgr m (fun _ e=> .inl e);clear hE;clear hb;have hb:=k;clear k;have ad:=bl hb;refine Gm rfl ?_;have a:=EI a m r;exact⟨_,rfl,hb,AI a (by omega),hgr⟩
section
variable {P : AcY} {K : AcD -> AcE -> Prop} {ρ : Aj} {w : AcE} {d : Option Tmp} {ty : AcK} {pos : String} {af : Array Edge} {gd : Option (Nat × Bool)}
theorem AbL{src dst:AcK}{x:AcO}{a b:AcD}(hx:Ab ρ x=a)(hr:∀w:AcE,(convert src dst a).run P w = .ok b w)(hk:K b w):Yk P K ((execOp (Ab ρ) ⟨d, .convert src dst x,ty,pos,af,gd⟩).run P w):=by
 refine AbU (v:=b) (w' :=w) ?_ hk;unfold execOp;simp only[hx,AcN,hr,AcM,AcR]
end
theorem Vk{k:UInt8}(hk:k=83\/k=84)(w:AcE):(convert 5 9 (B8 k)).run AcF w = .ok (St [k]) w:=by
 rcases hk with rfl | rfl <;> kernel_rfl
theorem Oe{l:List Aw}(hu:∀u∈l,u.name.length<=256)(hl:l.length<=1000)(i:Nat):((l.take i).flatMap Cl).length<=330000:=by
 have h1:=Ed (f:=Cl) (c:=330) (l:=l.take i) fun u hm=>NW (hu u (List.mem_of_mem_take hm));have h2:(l.take i).length<=l.length:=by rw[List.length_take];omega
 omega
theorem Vl:Ew AcF 77 updC:=⟨⟨_,(Sy).choose_spec⟩,fun x=>AO (CE x) Qz⟩
theorem Tu(z:Int)(w:AcE):(Adc 43 1 #[(0, .int .u8 z)]).run AcF w = .ok (.slice (some ⟨w.heap.size,0,none⟩) 1 1) (w.alloc (.cells #[.int .u8 z] 5)):=by kernel_rfl
theorem K9(w:AcE)(k:UInt8)(hk:k=83\/k=84)(v:AcD)(b:Bs)(hr:RB w v b)(hl:b.length<=4611686018427):
  Calls AcF 41 #[B8 k,v] w fun e w' =>∃v',e = .returned v' /\w'.ownsRow w.heap.size 5 1 v' (recB k b).length (AcH (recB k b))/\Ext w w' :=by
 refine gG (args:= [B8 (k),v]) Tryz.func41 rfl 11 rfl rfl ?_;have hE:=AbN w;refine gS (AbL rfl (Vk hk) (gS (Abm G8 u5 EK (Zx (hr.keep hE) rfl) (gS (Aby (l:=([k]:Aib)) (m:=b) rfl rfl (by simp only[AcJ,AcV,Ac1];omega) (gS (Zb Ts rfl rfl ((HM _ (AcU none 0 0) [] (RB.nil _) ((([k]:Aib):Aib)++b) (by simp only[AcJ,AcV,Ac1];omega)).mono ?_))))))));rintro e g ⟨a,rfl,c⟩;refine⟨_,rfl,?_⟩;have f:=c.own;refine AE rfl (vr a rfl) ?_;have hE:=hE.trans c.ext;exact⟨a,rfl,f,hE⟩
theorem La(w:AcE)(lv:AcD)(l:List Aw)(hr:RG 66 updC w lv l)(hl:l.length<=1000)(hu:∀u∈l,u.name.length<=256)(note:Bs)(hn:note.length<=256):
  Calls AcF 42 #[lv,St note] w fun e w' =>∃v',e = .returned v' /\w'.ownsRow w.heap.size 5 1 v' (tranB l note).length (AcH (tranB l note))/\Ext w w' :=by
 refine gG (args:= [lv,St (note)]) Tryz.func42 rfl 40 rfl rfl ?_;have hE:=AbN w;refine gS (Zh Mc (Zf (hr.keep hE) rfl) ?_);have hsp_:=hE.size;refine gS (Zb Tr rfl rfl ((Pv _ (.slice none 0 0) [] (RB.nil _) (by decide) l.length (by omega)).mono ?_));rintro e w5 ⟨t,rfl,z⟩;refine⟨_,rfl,?_⟩;have p:=z.own;have p:=AI p hsp_;have hE:=hE.trans z.ext;refine gS (AbP (vs:= [t,NI 0]) rfl rfl (gS (AbP (vs:= [t,NI 0]) rfl rfl (gS (Zh Mc (Zf (hr.keep hE) rfl) (gL (fun(ρ:Aj) (wz:AcE)=>∃i:Nat,∃r5:AcD,ρ 0=(lv:AcD)/\ρ 1=(St (note):AcD)/\ρ 4=((AcU none 0 0):AcD)/\ρ 15=(lv:AcD)/\ρ 16=(NI l.length:AcD)/\ρ 17=(NI i:AcD)/\ρ 5=(r5:AcD)/\Ext w wz/\wz.ownsRow w.heap.size 5 1 r5 (Ac6 l.length++(l.take i).flatMap Cl:Aib).length (AcH (Ac6 l.length++(l.take i).flatMap Cl))/\(i<=l.length)/\True) (fun ρ _=>l.length-(intOf (ρ 17)).toNat) ⟨0,t,rfl,rfl,rfl,rfl,rfl,rfl,rfl,hE,DN p (by simp),AcZ _,trivial⟩ ?_))))));clear p;clear hE;rintro ao ap ⟨i,r5,T0,T1,T4,aa,ab,q,T5,hE,hr_r5,hi,-⟩;have q17:=q;refine gS (Y7 (a:=(i:Nat)) (b:=(l.length:Nat)) q ab (Bf _ _ _ _) ?_);refine cD rfl (fun ac=> ?_) fun ac=> ?_
 ·have hlt:i<l.length:=ac;have hnm:=hu _ (Cd Ay hlt);have htl:=BM hnm (by omega);have hfl:=Oe hu hl i;have hul:=BX (n:=l.length) (by omega);have hol:(l.getD i Ay).old.1.length=32:=(l.getD i Ay).old.2;have hnl:(l.getD i Ay).new.1.length=32:=(l.getD i Ay).new.2;have ba:(updC (l.getD (i) Ay)).length=66:=(AbX (hr.keep hE) Ay (hlt));refine gS (Zk Mc QE (by decide) Ay (Zf (hr.keep hE) aa) q (hlt) fun bb ad=>(gS (Zd (Zs ad rfl) (Sy).choose_spec rfl (by rw[CE];exact Qz) (gS (AbV SJ fun r ar bc ae au bd=> ?_)))));have f:=AbN ap;have be:=hE.size;have av:OB r5 r:=B1 hr_r5 (by omega);have c:=ae;clear ae;have bf:r<ar.heap.size:=by omega
  refine gS (Zj Vl (vr (PQ r 0) rfl) (vr (.agg (updC (l.getD (i) Ay)).toArray) rfl) c (G9) fun aw af ax bg=> ?_);clear c;have c:aw.heap[r]? =some (.cells (updC (l.getD (i) Ay)).toArray 77 (0,0)):=af;clear af;have bh:=bl c;clear ad;refine Fg [0,1,2,5,6,3,4,7,8] [3,4,7,8] [5] [6] fun bi ag=> ?_;have c:=eb ag c;refine RR c ?_;refine ys (AbM OY rfl zz) (ys (Y6 u5 rfl rfl (Ac c (FD (l.getD (i) Ay))) zz) (yp (AbM O2 rfl zz) (yf (fun _ ⟨c,_⟩=>Y6 EK rfl rfl (Ac c (D4 (l.getD (i) Ay))) zz) (yI (Aa2 (b:=((l.getD (i) Ay)).kind) Tu (vr (B8 (((l.getD (i) Ay)).kind)) rfl) fun ah ay k=> ?_)))));have f:=f.trans au;have f:=Ad f ax (AcG (AcI _) (by omega));have f:=f.trans ag;have hE:=hE.trans f;have bj:=hE.size;have bk:=f.size;have hr_r5:=Ab5 _ _ _ _ _ _ _ _ hr_r5 f;have az:CP r5 ah:=Kz hr_r5 k.own;have g:=k.own;have hE:=hE.trans k.ext;have hr_r5:=Ab5 _ _ _ _ _ _ _ _ hr_r5 k.ext;have c:=eb k.ext c;refine⟨⟨c,trivial⟩,?_⟩;refine yI (ZR _ _ w.heap.size (.int .u8 0) G8 P5 rfl G8 (Ac6 l.length++(l.take i).flatMap Cl) ([(((l.getD (i) Ay)).kind:UInt8)]) (G7 hr_r5 T5) (Zx (Zm g) (vr ah rfl)) (by simp only[AcJ,AcV,Ac1];omega) hE.size fun ai a0 m o=> ?_);have o:Grew ay a0 r5 ai:= .eqv T5 o;have hE:=Br hE o hr_r5 (AcI _);have c:=AW c o av;have g:=JX g o az;clear hr_r5;refine⟨⟨c,trivial⟩,?_⟩;refine yD rfl (Zb Ts rfl rfl ((HM _ ai (Ac6 l.length++(l.take i).flatMap Cl++ [(((l.getD (i) Ay)).kind:UInt8)]) (Zm m) (((l.getD (i) Ay)).name) (by simp only[AcJ,AcV,Ac1];omega)).mono ?_));rintro e bm ⟨a1,rfl,aj⟩;refine⟨_,rfl,?_⟩;have a2:=hE.size;have bn:=hE.size;have h:=aj.own;have h:=AI h a2;refine yD rfl (Ab6 rfl (Fg [0,1,2,4,5,3,6,7] [3,6,7] [4] [5] fun a3 ak=> ?_));have s:=AbN a3;have hZ1:=aj.ext.trans ak;have c:=eb hZ1 c;have h:=Ab5 _ _ _ _ _ _ _ _ h ak;refine Fm s ?_;refine ys (AbM Jw rfl zz) (ys (Zd (Ab1 c (Ev (l.getD (i) Ay)) (E2 (l.getD (i) Ay)) rfl) VZ rfl (As ((l.getD (i) Ay)).old.2) zz) (yp (AbM Jx rfl zz) (yf (fun _ ⟨hZ,_⟩=>Zd (Ab1 (eb hZ c) (C3 (l.getD (i) Ay)) (Db (l.getD (i) Ay)) rfl) VZ rfl (As ((l.getD (i) Ay)).new.2) zz) (yE (Zb Tt rfl rfl ((IN _ a1 ((Ac6 l.length++(l.take i).flatMap Cl++ [(((l.getD (i) Ay)).kind:UInt8)]:Aib)++AF (((l.getD (i) Ay)).name)) (Zm h) (by simp only[AcJ,AcV,Ac1];omega) (((l.getD (i) Ay)).old)).mono ?_))))));rintro e bo ⟨a4,rfl,j⟩;refine⟨_,rfl,?_⟩;have hE:=hE.trans hZ1;have a5:=hE.size;have g:=Ab5 _ _ _ _ _ _ _ _ g hZ1;have m:=Ab5 _ _ _ _ _ _ _ _ m hZ1;have v:=j.own;have v:=AI v a5;have s:=s.trans j.ext;refine⟨s,?_⟩;refine yD rfl (Zb Tt rfl rfl ((IN _ a4 (((Ac6 l.length++(l.take i).flatMap Cl++ [(((l.getD (i) Ay)).kind:UInt8)]:Aib)++AF (((l.getD (i) Ay)).name):Aib)++(((l.getD (i) Ay)).old).1) (Zm v) (by simp only[AcJ,AcV,Ac1];omega) (((l.getD (i) Ay)).new)).mono ?_));rintro e bp ⟨a6,rfl,al⟩;refine⟨_,rfl,?_⟩;have hE:=hE.trans j.ext;have a7:=hE.size;have c:=eb j.ext c;have g:=Ab5 _ _ _ _ _ _ _ _ g j.ext;have m:=Ab5 _ _ _ _ _ _ _ _ m j.ext;have h:=Ab5 _ _ _ _ _ _ _ _ h j.ext;have x:=al.own;have x:=AI x a7;have hE:=hE.trans al.ext;refine yD rfl (Ab6 rfl (gS (Ze (xv:=NI i) (yv:=NI 1) q rfl rfl (AD _ _ _ (by omega)) (gK (AdF ⟨i+1,a6,T0,T1,T4,aa,ab,rfl,rfl,hE,DN x (by rw[Em Ay hlt];simp only[Cl,Ac7]),by omega,trivial⟩ ?_)))));show l.length-(intOf (NI ((i)+(1)))).toNat<l.length-(intOf (ao 17)).toNat;rw[q17];simp only[intOf,Ac8];omega
 have hie:i=l.length:=by omega
 have hfl:=Oe hu hl i;have hul:=BX (n:=l.length) (by omega);refine gS (Zb Ts T5 T1 ((HM _ r5 (Ac6 l.length++(l.take i).flatMap Cl) (Zm hr_r5) note (by simp only[AcJ,AcV,Ac1];omega)).mono ?_));rintro e bq ⟨am,rfl,an⟩;refine⟨_,rfl,?_⟩;have a8:=hE.size;have br:=hE.size;have y:=an.own;have y:=AI y a8;refine AE rfl (vr am rfl) ?_;have hE:=hE.trans an.ext;exact⟨am,rfl,DN y (by rw[hie,Aeg];rfl),hE⟩
section
variable {P : AcY} {K : AcD -> AcE -> Prop} {ρ : Aj} {w : AcE} {d : Option Tmp} {ty : AcK} {pos : String} {af : Array Edge} {gd : Option (Nat × Bool)} {t : AcK}
theorem AbI{a b:AcD}(hr:∀w:AcE,(AdI t #[(0,a),(1,b)]).run P w = .ok (.agg #[a,b]) w){x y:AcO}(hx:Ab ρ x=a)(hy:Ab ρ y=b)(hk:K (.agg #[a,b]) w):
  Yk P K ((execOp (Ab ρ) ⟨d, .build t #[(0,x),(1,y)],ty,pos,af,gd⟩).run P w):=by
 refine AbU (v:= .agg #[a,b]) (w' :=w) ?_ hk;unfold execOp;simp only[AcT,AcX,Ac2,hx,hy,AcN,hr,AcM,AcR]
theorem AaC{a b c:AcD}{n:Nat}(hr:∀w:AcE,(Ahk t (.agg #[a,b]) (NI n)).run P w = .ok c w){x y:AcO}(hx:Ab ρ x = .agg #[a,b])(hy:Ab ρ y=NI n)(hk:K c w):
  Yk P K ((execOp (Ab ρ) ⟨d, .index t x y,ty,pos,af,gd⟩).run P w):=by
 refine AbU (v:=c) (w' :=w) ?_ hk;unfold execOp;simp only[hx,hy,AcN,hr,AcM,AcR]
end
theorem Tv:Ew AcF 36 refsC:=⟨⟨_,(L0).choose_spec⟩,fun x=>AO (An x) KI⟩
theorem Tw{d:Option Tmp}{ty:AcK}{pos:String}{af:Array Edge}{gd:Option (Nat × Bool)}(σ:AcO->AcD)(w:AcE):(execOp σ ⟨d, .alloc 43,ty,pos,af,gd⟩).run AcF w = .ok (.value (PQ w.heap.size 0)) (w.alloc (.cells ([(AcU none 0 0)]).toArray 43)):=by kernel_rfl
theorem WW{a b:AcD}(ha:∃o n c,a = .slice o n c)(hb:∃o n c,b = .slice o n c)(w:AcE):(AdI 127 #[(0,a),(1,b)]).run AcF w = .ok (.agg #[a,b]) w:=by
 obtain⟨_,_,_,rfl⟩:=ha;obtain⟨_,_,_,rfl⟩:=hb
 kernel_rfl
theorem Vm{a b:AcD}(ha:∃o n c,a = .slice o n c)(hb:∃o n c,b = .slice o n c)(w:AcE):(Ahk 127 (.agg #[a,b]) (NI 0)).run AcF w = .ok a w:=by
 obtain⟨_,_,_,rfl⟩:=ha;obtain⟨_,_,_,rfl⟩:=hb
 kernel_rfl
theorem Vn{a b:AcD}(ha:∃o n c,a = .slice o n c)(hb:∃o n c,b = .slice o n c)(w:AcE):(Ahk 127 (.agg #[a,b]) (NI 1)).run AcF w = .ok b w:=by
 obtain⟨_,_,_,rfl⟩:=ha;obtain⟨_,_,_,rfl⟩:=hb
 kernel_rfl
theorem I1:Plain AcF 55:=fun _ _=>by kernel_rfl
theorem Mw:Ew AcF 94 nmdC:=⟨⟨_,(LQ).choose_spec⟩,fun x=>AO (BG x) KB⟩
theorem FT:Plain AcF 57:=fun _ _=>by kernel_rfl
theorem FU:Plain AcF 59:=fun _ _=>by kernel_rfl
theorem Tx:Ew AcF 97 entC:=⟨⟨_,(LT).choose_spec⟩,fun x=>AO (C8 x) KC⟩
set_option maxHeartbeats 3200000
theorem Pc(w:AcE)(z:Af)(hm:RefsAt w z)(hL:E7 z.1):
  Calls AcF 22 #[.agg (refsC z).toArray] w fun e w' =>∃v,e = .returned (.tuple #[v,NI (if AA z.1=true then 0 else 1)])/\RB w' v (if AA z.1=true then DU z.1 else [])/\Ext w w' :=by
 have hmt:=hm.branches;have hmg:=hm.tags;have hml:=hm.log;refine gG (args:= [.agg (refsC z).toArray]) Tryz.func22 rfl 95 rfl rfl ?_;have hE:=AbN w;refine gS (Ab3 (vr (.agg (refsC z).toArray) rfl) fun l w3 d7 bq cw d8=> ?_);have f:=bq;clear bq;have d9:l<w3.heap.size:=by omega
 have hE:=hE.trans cw;refine gS (Zr Tv rfl f (gS (Y9 SH rfl ((HK _ z ⟨(hmt.keep hE),(hmg.keep hE),(hml.keep hE)⟩ hL).mono ?_))));rintro e ao ⟨rfl,a5⟩;refine⟨_,rfl,?_⟩;refine gS (Zn rfl ?_);refine cB (!(AA z.1)) rfl (fun a6=> ?_) fun a6=> ?_
 ·have hrt:AA z.1=false:=by simpa using a6
  refine DX rfl (vr (AcU none 0 0) rfl) (vr (NI 1) rfl) ?_;have hE:=hE.trans a5;exact⟨.slice none 0 0,by rw[hrt];rfl,by rw[hrt];exact RB.nil _,hE⟩
 have hrt:AA z.1=true:=by simpa using a6
 have hR:=IM hrt;have hbl_:=hR.bl;have htl_:=hR.tl;have hgl_:=hR.ll;refine gS (AbV Tw fun c br cx bs a7 ea=> ?_);have g:=AbN ao;have hE:=hE.trans a5;have q:=hE.size;have bt:=bs;clear bs;have ec:c<br.heap.size:=by omega
 have hrow0:br.ownsRow w.heap.size 5 1 (AcU none 0 0) ([]:Aib).length (AcH ([]:Aib)):=World.ownsRow_nil _ _ _ 1;have cy:Adp (AcU none 0 0)≠some l:=by simp[Adp]
 have cz:Adp (AcU none 0 0)≠some c:=by simp[Adp]
 have f:=eb a5 f;have ed:=AR (bl f) cx;have f:=eb a7 f;have hE:=hE.trans a7;have g:=g.trans a7;refine gS (Zu (vs:= #[PQ c 0]) (by simp only[AcT,AcX,Ac2];exact congrArg Adf (Fx (vr (PQ c 0) rfl))) (gS (Zu (vs:= #[PQ c 0]) (by simp only[AcT,AcX,Ac2];exact congrArg Adf (Fx (vr (PQ c 0) rfl))) (gS (Zu (vs:= #[PQ c 0]) (by simp only[AcT,AcX,Ac2];exact congrArg Adf (Fx (vr (PQ c 0) rfl))) (gS (AbM OW rfl (gS (Y6 ES rfl rfl (Ac f (C1 z)) (gS (AbM OX rfl (gS (Y6 ES rfl rfl (Ac f (Du z)) (gS (AbI (WW (Acu (hmt.keep hE)) (Acu (hmg.keep hE))) rfl rfl (gL (fun(ρ:Aj) (wz:AcE)=>∃i:Nat,∃vb_i:AcD,ρ 0=(.agg (refsC z).toArray:AcD)/\ρ 1=(PQ l 0:AcD)/\ρ 2=((AcU none 0 0):AcD)/\ρ 3=(NI 0:AcD)/\ρ 4=(PQ c 0:AcD)/\ρ 5=(.func (.func 55) #[] #[PQ c 0]:AcD)/\ρ 6=(.func (.func 57) #[] #[PQ c 0]:AcD)/\ρ 7=(.func (.func 59) #[] #[PQ c 0]:AcD)/\ρ 24=(.agg #[z.2.branches,z.2.tags]:AcD)/\ρ 25=(NI i:AcD)/\Ext w wz/\wz.heap[l]? =some (.cells (refsC z).toArray 36 (0,0))/\Ext ao wz/\wz.heap[c]? =some (.cells ([vb_i]).toArray 43 (0,0))/\wz.ownsRow w.heap.size 5 1 vb_i (lsB z.1 i:Aib).length (AcH (lsB z.1 i))/\(i<=2)/\(OB vb_i l)/\(OB vb_i c)/\True) (fun ρ _=>2-(intOf (ρ 25)).toNat) ⟨0,(AcU none 0 0),rfl,rfl,rfl,rfl,rfl,rfl,rfl,rfl,rfl,rfl,hE,f,g,bt,DN hrow0 ((V0 rfl).symm),AcZ _,cy,cz,trivial⟩ ?_))))))))))))))));clear bt;clear hrow0;clear hE f;rintro bu ee ⟨i,vb_i,s,T1,T2,T3,T4,T5,m,o,r,p,hE,f,g,hb_i,ho_i,hii,hap_n2i,hap_n16i,-⟩;have q25:=p;have hgli:=(bl hb_i);refine gS (Y7 (a:=(i:Nat)) (b:=(2:Nat)) p rfl (Bf _ _ _ _) ?_);refine cD rfl (fun c0=> ?_) fun c0=> ?_
 ·have h01:i=0\/i=1:=by omega
  have hll:=PG hR i;rcases h01 with h0 | h0
  ·have c1:=BX (n:=z.1.branches.length) (by have:=hR.bl;omega);refine gS (AaC (Vm (Acu (hmt.keep hE)) (Acu (hmg.keep hE))) r ((show _=NI i from p).trans (by rw[h0])) (gS (Zh ES (Zf (hmt.keep hE) rfl) (gS (ZA I1 (caps:= #[PQ c 0]) T5 #[NI ((z.1.branches).length),PQ c 0] (by simp only[AcT,AcX,Ac2,Adu,Ade,Adm];exact congrArg Adf (B6 rfl rfl)) ((I0 w _ hE c (by omega) vb_i (lsB z.1 i) hb_i (Zm ho_i) ((z.1.branches).length) (by(try simp only[AcJ,AcV,Ac1]);omega) (by omega)).mono ?_))))));rintro e ef ⟨a8,rfl,bv,ae,a9⟩;refine⟨_,rfl,?_⟩;have c2:OB a8 l:=Be ae (bl f);have c3:OB a8 c:=Be ae (bl hb_i);have ae:=AI ae hE.size;clear hb_i;clear ho_i;have hb_i:=bv;clear bv;have eg:=bl hb_i;have hE:=Ad hE a9 (AcG q (by omega));have f:=kb a9 f (by omega);have g:=Ad g a9 (AcG (AcI _) (by omega));refine gS (Zh ES (Zf (hmt.keep hE) rfl) (gL (fun(ρ:Aj) (wz:AcE)=>∃j:Nat,∃vb_j:AcD,ρ 0=(.agg (refsC z).toArray:AcD)/\ρ 1=(PQ l 0:AcD)/\ρ 2=((AcU none 0 0):AcD)/\ρ 3=(NI 0:AcD)/\ρ 4=(PQ c 0:AcD)/\ρ 5=(.func (.func 55) #[] #[PQ c 0]:AcD)/\ρ 6=(.func (.func 57) #[] #[PQ c 0]:AcD)/\ρ 7=(.func (.func 59) #[] #[PQ c 0]:AcD)/\ρ 9=(z.2.branches:AcD)/\ρ 24=(.agg #[z.2.branches,z.2.tags]:AcD)/\ρ 25=(NI i:AcD)/\ρ 32=(z.2.branches:AcD)/\ρ 33=(NI ((z.1.branches).length):AcD)/\ρ 34=(NI j:AcD)/\Ext w wz/\wz.heap[l]? =some (.cells (refsC z).toArray 36 (0,0))/\Ext ao wz/\wz.heap[c]? =some (.cells ([vb_j]).toArray 43 (0,0))/\wz.ownsRow w.heap.size 5 1 vb_j (((lsB z.1 i:Aib)++Ac6 ((z.1.branches).length):Aib)++(z.1.branches.take j).flatMap CL:Aib).length (AcH (((lsB z.1 i:Aib)++Ac6 ((z.1.branches).length):Aib)++(z.1.branches.take j).flatMap CL))/\(j<=z.1.branches.length)/\(OB vb_j l)/\(OB vb_j c)/\True) (fun ρ _=>z.1.branches.length-(intOf (ρ 34)).toNat) ⟨0,a8,s,T1,T2,T3,T4,T5,m,o,rfl,r,p,rfl,rfl,rfl,hE,f,g,hb_i,DN ae (by simp),AcZ _,c2,c3,trivial⟩ ?_));clear hb_i;clear ae;clear hE f g;rintro c4 c5 ⟨j,vb_j,s,T1,T2,T3,T4,T5,m,o,T9,r,p,ai,aj,t,hE,f,g,hb_j,ho_j,hij,hap_n2j,hap_n16j,-⟩;have q34:=t;have hglj:=(bl hb_j);refine gS (Y7 (a:=(j:Nat)) (b:=((z.1.branches).length:Nat)) t aj (Bf _ _ _ _) ?_);refine cD rfl (fun ak=> ?_) fun ak=> ?_
   ·have hltj:j<z.1.branches.length:=ak;have hnl:=hR.bn _ (Cd dNmd hltj);have htl:=BM hnl (by omega);have hfl:=NN hR.bl hR.bn j;have hidl:(z.1.branches.getD j dNmd).id.1.length=32:=(z.1.branches.getD j dNmd).id.2;have eh:(nmdC ((z.1.branches).getD (j) dNmd)).length=33:=(AbX (hmt.keep hE) dNmd (hltj));refine gS (Zk ES KA (by decide) dNmd (Zf (hmt.keep hE) ai) t (hltj) fun ei bw=>(gS (Zd (Zs bw rfl) (LQ).choose_spec rfl (by rw[BG];exact KB) (gS (AbV Sa fun bb c6 ej bx bz el=> ?_)))));have x:=AbN c5;have em:=hE.size;have c7:=g.size;have y:=bx;clear bx;have en:bb<c6.heap.size:=by omega
    refine gS (Zj Mw (vr (PQ bb 0) rfl) (vr (.agg (nmdC ((z.1.branches).getD (j) dNmd)).toArray) rfl) y (DR) fun c8 b0 b1 eo=> ?_);clear y;have y:c8.heap[bb]? =some (.cells (nmdC ((z.1.branches).getD (j) dNmd)).toArray 94 (0,0)):=b0;clear b0;have ep:=bl y;clear bw;have x:=x.trans bz;have x:=Ad x b1 (AcG (AcI _) (by omega));have hb_j:=eb x hb_j;have ho_j:=Ab5 _ _ _ _ _ _ _ _ ho_j x;have hE:=hE.trans x;refine gS (AbM GU rfl (gS (Y6 EK rfl rfl (Ac y (E3 ((z.1.branches).getD (j) dNmd))) (gS (ZA FT (caps:= #[PQ c 0]) m #[St ((((z.1.branches).getD (j) dNmd)).name),PQ c 0] (by simp only[AcT,AcX,Ac2,Adu,Ade,Adm];exact congrArg Adf (B6 rfl rfl)) ((FR w _ hE c (by omega) vb_j (((lsB z.1 i:Aib)++Ac6 ((z.1.branches).length):Aib)++(z.1.branches.take j).flatMap CL) hb_j (Zm ho_j) ((((z.1.branches).getD (j) dNmd)).name) (by(try simp only[AcJ,AcV,Ac1]);omega)).mono ?_))))));rintro e eq ⟨c9,rfl,b2,ap,aq⟩;refine⟨_,rfl,?_⟩;have f:=eb x f;have ap:=AI ap hE.size;clear hb_j;clear ho_j;have hb_j:=b2;clear b2;have er:=bl hb_j;have hE:=Ad hE aq (AcG q (by omega));have y:=kb aq y (by omega);refine gS (AbM OV rfl (gS (Zd (Ab1 y (He ((z.1.branches).getD (j) dNmd)) (Hf ((z.1.branches).getD (j) dNmd)) rfl) VZ rfl (As (((z.1.branches).getD (j) dNmd)).id.2) (gS (ZA FU (caps:= #[PQ c 0]) o #[AB ((((z.1.branches).getD (j) dNmd)).id.1),PQ c 0] (by simp only[AcT,AcX,Ac2,Adu,Ade,Adm];exact congrArg Adf (B6 rfl rfl)) ((FS w _ hE c (by omega) c9 ((((lsB z.1 i:Aib)++Ac6 ((z.1.branches).length):Aib)++(z.1.branches.take j).flatMap CL:Aib)++AF ((((z.1.branches).getD (j) dNmd)).name)) hb_j (Zm ap) ((((z.1.branches).getD (j) dNmd)).id) (by(try simp only[AcJ,AcV,Ac1]);omega)).mono ?_))))));rintro e es ⟨bc,rfl,b3,al,bd⟩;refine⟨_,rfl,?_⟩;have f:=kb aq f (by omega);have da:OB bc l:=Be al (bl f);have db:OB bc c:=Be al (bl hb_j);have al:=AI al hE.size;clear hb_j;clear ap;have hb_j:=b3;clear b3;have et:=bl hb_j;have g:=g.trans bz;have g:=Ad g b1 (AcG c7 (by omega));have g:=Ad g aq (AcG (AcI _) (by omega));have g:=Ad g bd (AcG (AcI _) (by omega));have hE:=Ad hE bd (AcG q (by omega));have f:=kb bd f (by omega);refine gS (Ze (xv:=NI j) (yv:=NI 1) t rfl rfl (AD _ _ _ (by omega)) (gK (AdF ⟨j+1,bc,s,T1,T2,T3,T4,T5,m,o,T9,r,p,ai,aj,rfl,hE,f,g,hb_j,DN al (by rw[Em dNmd hltj];simp only[CL,Ac7]),by omega,da,db,trivial⟩ ?_)));show z.1.branches.length-(intOf (NI ((j)+(1)))).toNat<z.1.branches.length-(intOf (c4 34)).toNat;rw[q34];simp only[intOf,Ac8];omega
   have hje:j=z.1.branches.length:=by omega
   refine gS (Ze (xv:=NI i) (yv:=NI 1) p rfl rfl (AD _ _ _ (by omega)) (gK (AdF ⟨i+1,vb_j,s,T1,T2,T3,T4,T5,m,o,r,rfl,hE,f,g,hb_j,DN ho_j (by rw[V0 h0,V2 (show i+1=1 by omega),hje,Aeg];simp[EA]),by omega,hap_n2j,hap_n16j,trivial⟩ ?_)));show 2-(intOf (NI ((i)+(1)))).toNat<2-(intOf (bu 25)).toNat;rw[q25];simp only[intOf,Ac8];omega
  have c1:=BX (n:=z.1.tags.length) (by have:=hR.tl;omega);refine gS (AaC (Vn (Acu (hmt.keep hE)) (Acu (hmg.keep hE))) r ((show _=NI i from p).trans (by rw[h0])) (gS (Zh ES (Zf (hmg.keep hE) rfl) (gS (ZA I1 (caps:= #[PQ c 0]) T5 #[NI ((z.1.tags).length),PQ c 0] (by simp only[AcT,AcX,Ac2,Adu,Ade,Adm];exact congrArg Adf (B6 rfl rfl)) ((I0 w _ hE c (by omega) vb_i (lsB z.1 i) hb_i (Zm ho_i) ((z.1.tags).length) (by(try simp only[AcJ,AcV,Ac1]);omega) (by omega)).mono ?_))))));rintro e eu ⟨be,rfl,b4,af,bf⟩;refine⟨_,rfl,?_⟩;have dc:OB be l:=Be af (bl f);have dd:OB be c:=Be af (bl hb_i);have af:=AI af hE.size;clear hb_i;clear ho_i;have hb_i:=b4;clear b4;have ew:=bl hb_i;have hE:=Ad hE bf (AcG q (by omega));have f:=kb bf f (by omega);have g:=Ad g bf (AcG (AcI _) (by omega));refine gS (Zh ES (Zf (hmg.keep hE) rfl) (gL (fun(ρ:Aj) (wz:AcE)=>∃j:Nat,∃vb_j:AcD,ρ 0=(.agg (refsC z).toArray:AcD)/\ρ 1=(PQ l 0:AcD)/\ρ 2=((AcU none 0 0):AcD)/\ρ 3=(NI 0:AcD)/\ρ 4=(PQ c 0:AcD)/\ρ 5=(.func (.func 55) #[] #[PQ c 0]:AcD)/\ρ 6=(.func (.func 57) #[] #[PQ c 0]:AcD)/\ρ 7=(.func (.func 59) #[] #[PQ c 0]:AcD)/\ρ 9=(z.2.tags:AcD)/\ρ 24=(.agg #[z.2.branches,z.2.tags]:AcD)/\ρ 25=(NI i:AcD)/\ρ 32=(z.2.tags:AcD)/\ρ 33=(NI ((z.1.tags).length):AcD)/\ρ 34=(NI j:AcD)/\Ext w wz/\wz.heap[l]? =some (.cells (refsC z).toArray 36 (0,0))/\Ext ao wz/\wz.heap[c]? =some (.cells ([vb_j]).toArray 43 (0,0))/\wz.ownsRow w.heap.size 5 1 vb_j (((lsB z.1 i:Aib)++Ac6 ((z.1.tags).length):Aib)++(z.1.tags.take j).flatMap CL:Aib).length (AcH (((lsB z.1 i:Aib)++Ac6 ((z.1.tags).length):Aib)++(z.1.tags.take j).flatMap CL))/\(j<=z.1.tags.length)/\(OB vb_j l)/\(OB vb_j c)/\True) (fun ρ _=>z.1.tags.length-(intOf (ρ 34)).toNat) ⟨0,be,s,T1,T2,T3,T4,T5,m,o,rfl,r,p,rfl,rfl,rfl,hE,f,g,hb_i,DN af (by simp),AcZ _,dc,dd,trivial⟩ ?_));clear hb_i;clear af;clear hE f g;rintro de df ⟨j,vb_j,s,T1,T2,T3,T4,T5,m,o,T9,r,p,ai,aj,t,hE,f,g,hb_j,ho_j,hij,hap_n2j,hap_n16j,-⟩;have q34:=t;have hglj:=(bl hb_j);refine gS (Y7 (a:=(j:Nat)) (b:=((z.1.tags).length:Nat)) t aj (Bf _ _ _ _) ?_);refine cD rfl (fun ak=> ?_) fun ak=> ?_
  ·have hltj:j<z.1.tags.length:=ak;have hnl:=hR.tn _ (Cd dNmd hltj);have htl:=BM hnl (by omega);have hfl:=NN hR.tl hR.tn j;have hidl:(z.1.tags.getD j dNmd).id.1.length=32:=(z.1.tags.getD j dNmd).id.2;have ex:(nmdC ((z.1.tags).getD (j) dNmd)).length=33:=(AbX (hmg.keep hE) dNmd (hltj));refine gS (Zk ES KA (by decide) dNmd (Zf (hmg.keep hE) ai) t (hltj) fun ey b5=>(gS (Zd (Zs b5 rfl) (LQ).choose_spec rfl (by rw[BG];exact KB) (gS (AbV Sa fun bg dg ez b6 b7 e0=> ?_)))));have aa:=AbN df;have e1:=hE.size;have dh:=g.size;have ab:=b6;clear b6;have e2:bg<dg.heap.size:=by omega
   refine gS (Zj Mw (vr (PQ bg 0) rfl) (vr (.agg (nmdC ((z.1.tags).getD (j) dNmd)).toArray) rfl) ab (DR) fun di b8 b9 e3=> ?_);clear ab;have ab:di.heap[bg]? =some (.cells (nmdC ((z.1.tags).getD (j) dNmd)).toArray 94 (0,0)):=b8;clear b8;have e4:=bl ab;clear b5;have aa:=aa.trans b7;have aa:=Ad aa b9 (AcG (AcI _) (by omega));have hb_j:=eb aa hb_j;have ho_j:=Ab5 _ _ _ _ _ _ _ _ ho_j aa;have hE:=hE.trans aa;refine gS (AbM GU rfl (gS (Y6 EK rfl rfl (Ac ab (E3 ((z.1.tags).getD (j) dNmd))) (gS (ZA FT (caps:= #[PQ c 0]) m #[St ((((z.1.tags).getD (j) dNmd)).name),PQ c 0] (by simp only[AcT,AcX,Ac2,Adu,Ade,Adm];exact congrArg Adf (B6 rfl rfl)) ((FR w _ hE c (by omega) vb_j (((lsB z.1 i:Aib)++Ac6 ((z.1.tags).length):Aib)++(z.1.tags.take j).flatMap CL) hb_j (Zm ho_j) ((((z.1.tags).getD (j) dNmd)).name) (by(try simp only[AcJ,AcV,Ac1]);omega)).mono ?_))))));rintro e e5 ⟨dj,rfl,ca,ar,au⟩;refine⟨_,rfl,?_⟩;have f:=eb aa f;have ar:=AI ar hE.size;clear hb_j;clear ho_j;have hb_j:=ca;clear ca;have e6:=bl hb_j;have hE:=Ad hE au (AcG q (by omega));have ab:=kb au ab (by omega);refine gS (AbM OV rfl (gS (Zd (Ab1 ab (He ((z.1.tags).getD (j) dNmd)) (Hf ((z.1.tags).getD (j) dNmd)) rfl) VZ rfl (As (((z.1.tags).getD (j) dNmd)).id.2) (gS (ZA FU (caps:= #[PQ c 0]) o #[AB ((((z.1.tags).getD (j) dNmd)).id.1),PQ c 0] (by simp only[AcT,AcX,Ac2,Adu,Ade,Adm];exact congrArg Adf (B6 rfl rfl)) ((FS w _ hE c (by omega) dj ((((lsB z.1 i:Aib)++Ac6 ((z.1.tags).length):Aib)++(z.1.tags.take j).flatMap CL:Aib)++AF ((((z.1.tags).getD (j) dNmd)).name)) hb_j (Zm ar) ((((z.1.tags).getD (j) dNmd)).id) (by(try simp only[AcJ,AcV,Ac1]);omega)).mono ?_))))));rintro e e7 ⟨bh,rfl,cb,am,bi⟩;refine⟨_,rfl,?_⟩;have f:=kb au f (by omega);have dk:OB bh l:=Be am (bl f);have dl:OB bh c:=Be am (bl hb_j);have am:=AI am hE.size;clear hb_j;clear ar;have hb_j:=cb;clear cb;have e8:=bl hb_j;have g:=g.trans b7;have g:=Ad g b9 (AcG dh (by omega));have g:=Ad g au (AcG (AcI _) (by omega));have g:=Ad g bi (AcG (AcI _) (by omega));have hE:=Ad hE bi (AcG q (by omega));have f:=kb bi f (by omega);refine gS (Ze (xv:=NI j) (yv:=NI 1) t rfl rfl (AD _ _ _ (by omega)) (gK (AdF ⟨j+1,bh,s,T1,T2,T3,T4,T5,m,o,T9,r,p,ai,aj,rfl,hE,f,g,hb_j,DN am (by rw[Em dNmd hltj];simp only[CL,Ac7]),by omega,dk,dl,trivial⟩ ?_)));show z.1.tags.length-(intOf (NI ((j)+(1)))).toNat<z.1.tags.length-(intOf (de 34)).toNat;rw[q34];simp only[intOf,Ac8];omega
  have hje:j=z.1.tags.length:=by omega
  refine gS (Ze (xv:=NI i) (yv:=NI 1) p rfl rfl (AD _ _ _ (by omega)) (gK (AdF ⟨i+1,vb_j,s,T1,T2,T3,T4,T5,m,o,r,rfl,hE,f,g,hb_j,DN ho_j (by rw[V2 h0,V3 (show i+1=2 by omega),hje,Aeg];simp only[EA,Ac7]),by omega,hap_n2j,hap_n16j,trivial⟩ ?_)));show 2-(intOf (NI ((i)+(1)))).toNat<2-(intOf (bu 25)).toNat;rw[q25];simp only[intOf,Ac8];omega
 have hie:i=2:=by omega
 have hll:=PG hR i;have hhd:=hR.hd;have htl:=BM hhd (by omega);have hul:=BX (n:=z.1.log.length) (by have:=hR.ll;omega);have hal:z.1.at_.1.length=32:=z.1.at_.2;refine gS (AbM GV T1 (gS (Y6 EK rfl rfl (Ac f (EP z)) (gS (ZA FT (caps:= #[PQ c 0]) m #[St (z.1.head),PQ c 0] (by simp only[AcT,AcX,Ac2,Adu,Ade,Adm];exact congrArg Adf (B6 rfl rfl)) ((FR w _ hE c (by omega) vb_i (lsB z.1 i) hb_i (Zm ho_i) z.1.head (by(try simp only[AcJ,AcV,Ac1]);omega)).mono ?_))))));rintro e e9 ⟨dm,rfl,cc,av,cd⟩;refine⟨_,rfl,?_⟩;have av:=AI av hE.size;clear hb_i;clear ho_i;have hb_i:=cc;clear cc;have fa:=bl hb_i;have hE:=Ad hE cd (AcG q (by omega));have f:=kb cd f (by omega);refine gS (AbM Ju T1 (gS (Zd (Ab1 f (DS z) (Ej z) rfl) VZ rfl (As z.1.at_.2) (gS (ZA FU (caps:= #[PQ c 0]) o #[AB z.1.at_.1,PQ c 0] (by simp only[AcT,AcX,Ac2,Adu,Ade,Adm];exact congrArg Adf (B6 rfl rfl)) ((FS w _ hE c (by omega) dm ((lsB z.1 i:Aib)++AF z.1.head) hb_i (Zm av) z.1.at_ (by(try simp only[AcJ,AcV,Ac1]);omega)).mono ?_))))));rintro e fb ⟨dn,rfl,ce,aw,cf⟩;refine⟨_,rfl,?_⟩;have aw:=AI aw hE.size;clear hb_i;clear av;have hb_i:=ce;clear ce;have fc:=bl hb_i;have hE:=Ad hE cf (AcG q (by omega));have f:=kb cf f (by omega);refine gS (AbM Jt T1 (gS (Y6 FG rfl rfl (Ac f (B2 z)) (gS (Zh FG (Zf (hml.keep hE) rfl) (gS (ZA I1 (caps:= #[PQ c 0]) T5 #[NI ((z.1.log).length),PQ c 0] (by simp only[AcT,AcX,Ac2,Adu,Ade,Adm];exact congrArg Adf (B6 rfl rfl)) ((I0 w _ hE c (by omega) dn (((lsB z.1 i:Aib)++AF z.1.head:Aib)++z.1.at_.1) hb_i (Zm aw) ((z.1.log).length) (by(try simp only[AcJ,AcV,Ac1]);omega) (by omega)).mono ?_))))))));rintro e fd ⟨bj,rfl,cg,ag,ch⟩;refine⟨_,rfl,?_⟩;have dp:OB bj l:=Be ag (bl f);have dq:OB bj c:=Be ag (bl hb_i);have ag:=AI ag hE.size;clear hb_i;clear aw;have hb_i:=cg;clear cg;have fe:=bl hb_i;have hE:=Ad hE ch (AcG q (by omega));have f:=kb ch f (by omega);refine gS (AbM Jt T1 (gS (Y6 FG rfl rfl (Ac f (B2 z)) (gS (Zh FG (Zf (hml.keep hE) rfl) (gL (fun(ρ:Aj) (wz:AcE)=>∃k:Nat,∃vb_k:AcD,ρ 0=(.agg (refsC z).toArray:AcD)/\ρ 1=(PQ l 0:AcD)/\ρ 2=((AcU none 0 0):AcD)/\ρ 3=(NI 0:AcD)/\ρ 4=(PQ c 0:AcD)/\ρ 5=(.func (.func 55) #[] #[PQ c 0]:AcD)/\ρ 6=(.func (.func 57) #[] #[PQ c 0]:AcD)/\ρ 7=(.func (.func 59) #[] #[PQ c 0]:AcD)/\ρ 24=(.agg #[z.2.branches,z.2.tags]:AcD)/\ρ 25=(NI i:AcD)/\ρ 62=(z.2.log:AcD)/\ρ 63=(NI ((z.1.log).length):AcD)/\ρ 64=(NI k:AcD)/\Ext w wz/\wz.heap[l]? =some (.cells (refsC z).toArray 36 (0,0))/\wz.heap[c]? =some (.cells ([vb_k]).toArray 43 (0,0))/\wz.ownsRow w.heap.size 5 1 vb_k (((((lsB z.1 i:Aib)++AF z.1.head:Aib)++z.1.at_.1:Aib)++Ac6 ((z.1.log).length):Aib)++(z.1.log.take k).flatMap Cp:Aib).length (AcH (((((lsB z.1 i:Aib)++AF z.1.head:Aib)++z.1.at_.1:Aib)++Ac6 ((z.1.log).length):Aib)++(z.1.log.take k).flatMap Cp))/\(k<=z.1.log.length)/\(OB vb_k l)/\(OB vb_k c)/\True) (fun ρ _=>z.1.log.length-(intOf (ρ 64)).toNat) ⟨0,bj,s,T1,T2,T3,T4,T5,m,o,r,p,rfl,rfl,rfl,hE,f,hb_i,DN ag (by simp),AcZ _,dp,dq,trivial⟩ ?_))))));clear g;clear hb_i;clear ag;clear hE f;rintro dr ds ⟨k,vb_k,s,T1,T2,T3,T4,T5,m,o,r,p,ci,cj,ax,hE,f,hb_k,ho_k,hik,hap_n2k,hap_n16k,-⟩;have q64:=ax;have hglk:=(bl hb_k);refine gS (Y7 (a:=(k:Nat)) (b:=((z.1.log).length:Nat)) ax cj (Bf _ _ _ _) ?_);refine cD rfl (fun ck=> ?_) fun ck=> ?_
 ·have hltk:k<z.1.log.length:=ck;have hnn:=hR.ln _ (Cd Au hltk);have hkn:=hnn.1;have hkm:=hnn.2;have ht1:=BM hkn (by omega);have ht2:=BM hkm (by omega);have hfl:=NO hR k;have hol:(z.1.log.getD k Au).old.1.length=32:=(z.1.log.getD k Au).old.2;have hnl:(z.1.log.getD k Au).new.1.length=32:=(z.1.log.getD k Au).new.2;have ff:(entC ((z.1.log).getD (k) Au)).length=67:=(AbX (hml.keep hE) Au (hltk));refine gS (Zk FG Qm (by decide) Au (Zf (hml.keep hE) ci) ax (hltk) fun fg cl=>(gS (Zd (Zs cl rfl) (LT).choose_spec rfl (by rw[C8];exact KC) (gS (AbV Sc fun ay dt fh cm du fi=> ?_)))));have u:=AbN ds;have fj:=hE.size;have dv:OB vb_k ay:=B1 ho_k (by omega);have h:=cm;clear cm;have fk:ay<dt.heap.size:=by omega
  refine gS (Zj Tx (vr (PQ ay 0) rfl) (vr (.agg (entC ((z.1.log).getD (k) Au)).toArray) rfl) h (Gb) fun dw cn dx fl=> ?_);clear h;have h:dw.heap[ay]? =some (.cells (entC ((z.1.log).getD (k) Au)).toArray 97 (0,0)):=cn;clear cn;have fm:=bl h;clear cl;have u:=u.trans du;have u:=Ad u dx (AcG (AcI _) (by omega));have hb_k:=eb u hb_k;refine gS (Y6 G8 rfl T4 (Ac hb_k rfl) (gS (AbM Jv rfl (gS (AbM OY rfl (gS (Y6 u5 rfl rfl (Ac h (RM ((z.1.log).getD (k) Au))) (gS (Aa2 (b:=(((z.1.log).getD (k) Au)).kind) Tu (vr (B8 ((((z.1.log).getD (k) Au)).kind)) rfl) fun co dy ad=> ?_)))))))));have hE:=hE.trans u;have fn:=hE.size;have fo:=u.size;have f:=eb u f;have ho_k:=Ab5 _ _ _ _ _ _ _ _ ho_k u;have dz:CP vb_k co:=Kz ho_k ad.own;have az:=ad.own;have hE:=hE.trans ad.ext;have ho_k:=Ab5 _ _ _ _ _ _ _ _ ho_k ad.ext;refine gS (ZR _ _ w.heap.size (.int .u8 0) G8 P5 rfl G8 (((((lsB z.1 i:Aib)++AF z.1.head:Aib)++z.1.at_.1:Aib)++Ac6 ((z.1.log).length):Aib)++(z.1.log.take k).flatMap Cp) ([((((z.1.log).getD (k) Au)).kind:UInt8)]) (G7 ho_k (vr vb_k rfl)) (Zx (Zm az) (vr co rfl)) (by(try simp only[AcJ,AcV,Ac1]);omega) hE.size fun a0 d0 ah ac=> ?_);have ac:Grew dy d0 vb_k a0:=ac;have f:=eb ad.ext f;have hb_k:=eb ad.ext hb_k;have d1:OB a0 c:=Cc ac hap_n16k (bl hb_k);have h:=eb ad.ext h;have hE:=Br hE ac ho_k (AcI _);have f:=AW f ac hap_n2k;have hb_k:=AW hb_k ac hap_n16k;have h:=AW h ac dv;have az:=JX az ac dz;clear ho_k;refine gS (Za (i:=0) (v:=a0) T4 rfl hb_k (AcP rfl) Mo (CD ah).1 (CD ah).2 fun fp cp a1 fq=> ?_);clear hb_k;have hb_k:=cp;clear cp;have fr:=bl hb_k;clear az;have hE:=Ad hE a1 (AcG q (by omega));have h:=kb a1 h (by omega);have ah:=EI ah a1 d1;refine gS (AbM Jv rfl (gS (AbM O2 rfl (gS (Y6 EK rfl rfl (Ac h (RN ((z.1.log).getD (k) Au))) (gS (ZA FT (caps:= #[PQ c 0]) m #[St ((((z.1.log).getD (k) Au)).name),PQ c 0] (by simp only[AcT,AcX,Ac2,Adu,Ade,Adm];exact congrArg Adf (B6 rfl rfl)) ((FR w _ hE c (by omega) a0 (((((lsB z.1 i:Aib)++AF z.1.head:Aib)++z.1.at_.1:Aib)++Ac6 ((z.1.log).length):Aib)++(z.1.log.take k).flatMap Cp++ [((((z.1.log).getD (k) Au)).kind:UInt8)]) hb_k (Zm ah) ((((z.1.log).getD (k) Au)).name) (by(try simp only[AcJ,AcV,Ac1]);omega)).mono ?_))))))));rintro e fs ⟨d2,rfl,cq,a2,bk⟩;refine⟨_,rfl,?_⟩;have f:=kb a1 f (by omega);have a2:=AI a2 hE.size;clear ah;clear hb_k;have hb_k:=cq;clear cq;have ft:=bl hb_k;have hE:=Ad hE bk (AcG q (by omega));have h:=kb bk h (by omega);refine gS (AbM Jv rfl (gS (AbM Jw rfl (gS (Zd (Ab1 h (Ng ((z.1.log).getD (k) Au)) (RO ((z.1.log).getD (k) Au)) rfl) VZ rfl (As (((z.1.log).getD (k) Au)).old.2) (gS (ZA FU (caps:= #[PQ c 0]) o #[AB ((((z.1.log).getD (k) Au)).old.1),PQ c 0] (by simp only[AcT,AcX,Ac2,Adu,Ade,Adm];exact congrArg Adf (B6 rfl rfl)) ((FS w _ hE c (by omega) d2 ((((((lsB z.1 i:Aib)++AF z.1.head:Aib)++z.1.at_.1:Aib)++Ac6 ((z.1.log).length):Aib)++(z.1.log.take k).flatMap Cp++ [((((z.1.log).getD (k) Au)).kind:UInt8)]:Aib)++AF ((((z.1.log).getD (k) Au)).name)) hb_k (Zm a2) ((((z.1.log).getD (k) Au)).old) (by(try simp only[AcJ,AcV,Ac1]);omega)).mono ?_))))))));rintro e fu ⟨d3,rfl,cr,a3,bm⟩;refine⟨_,rfl,?_⟩;have f:=kb bk f (by omega);have a3:=AI a3 hE.size;clear hb_k;clear a2;have hb_k:=cr;clear cr;have fv:=bl hb_k;have hE:=Ad hE bm (AcG q (by omega));have h:=kb bm h (by omega);refine gS (AbM Jv rfl (gS (AbM Jx rfl (gS (Zd (Ab1 h (Nh ((z.1.log).getD (k) Au)) (RP ((z.1.log).getD (k) Au)) rfl) VZ rfl (As (((z.1.log).getD (k) Au)).new.2) (gS (ZA FU (caps:= #[PQ c 0]) o #[AB ((((z.1.log).getD (k) Au)).new.1),PQ c 0] (by simp only[AcT,AcX,Ac2,Adu,Ade,Adm];exact congrArg Adf (B6 rfl rfl)) ((FS w _ hE c (by omega) d3 (((((((lsB z.1 i:Aib)++AF z.1.head:Aib)++z.1.at_.1:Aib)++Ac6 ((z.1.log).length):Aib)++(z.1.log.take k).flatMap Cp++ [((((z.1.log).getD (k) Au)).kind:UInt8)]:Aib)++AF ((((z.1.log).getD (k) Au)).name):Aib)++((((z.1.log).getD (k) Au)).old).1) hb_k (Zm a3) ((((z.1.log).getD (k) Au)).new) (by(try simp only[AcJ,AcV,Ac1]);omega)).mono ?_))))))));rintro e fw ⟨d4,rfl,cs,a4,bo⟩;refine⟨_,rfl,?_⟩;have f:=kb bm f (by omega);have a4:=AI a4 hE.size;clear hb_k;clear a3;have hb_k:=cs;clear cs;have fx:=bl hb_k;have hE:=Ad hE bo (AcG q (by omega));have h:=kb bo h (by omega);refine gS (AbM OZ rfl (gS (Y6 EK rfl rfl (Ac h (Ko ((z.1.log).getD (k) Au))) (gS (ZA FT (caps:= #[PQ c 0]) m #[St ((((z.1.log).getD (k) Au)).note),PQ c 0] (by simp only[AcT,AcX,Ac2,Adu,Ade,Adm];exact congrArg Adf (B6 rfl rfl)) ((FR w _ hE c (by omega) d4 ((((((((lsB z.1 i:Aib)++AF z.1.head:Aib)++z.1.at_.1:Aib)++Ac6 ((z.1.log).length):Aib)++(z.1.log.take k).flatMap Cp++ [((((z.1.log).getD (k) Au)).kind:UInt8)]:Aib)++AF ((((z.1.log).getD (k) Au)).name):Aib)++((((z.1.log).getD (k) Au)).old).1:Aib)++((((z.1.log).getD (k) Au)).new).1) hb_k (Zm a4) ((((z.1.log).getD (k) Au)).note) (by(try simp only[AcJ,AcV,Ac1]);omega)).mono ?_))))));rintro e fy ⟨bp,rfl,ct,an,cu⟩;refine⟨_,rfl,?_⟩;have f:=kb bo f (by omega);have d5:OB bp l:=Be an (bl f);have d6:OB bp c:=Be an (bl hb_k);have an:=AI an hE.size;clear hb_k;clear a4;have hb_k:=ct;clear ct;have fz:=bl hb_k;have hE:=Ad hE cu (AcG q (by omega));have f:=kb cu f (by omega);refine gS (Ze (xv:=NI k) (yv:=NI 1) ax rfl rfl (AD _ _ _ (by omega)) (gK (AdF ⟨k+1,bp,s,T1,T2,T3,T4,T5,m,o,r,p,ci,cj,rfl,hE,f,hb_k,DN an (by rw[Em Au hltk];simp only[Cp,Ac7]),by omega,d5,d6,trivial⟩ ?_)));show z.1.log.length-(intOf (NI ((k)+(1)))).toNat<z.1.log.length-(intOf (dr 64)).toNat;rw[q64];simp only[intOf,Ac8];omega
 have hke:k=z.1.log.length:=by omega
 refine gS (Y6 G8 rfl T4 (Ac hb_k rfl) (DX rfl (vr vb_k rfl) (vr (NI 0) rfl) ?_));have hen:((((lsB z.1 i:Aib)++AF z.1.head:Aib)++z.1.at_.1:Aib)++Ac6 ((z.1.log).length):Aib)++(z.1.log.take k).flatMap Cp=DU z.1:=by rw[V3 hie,hke,Aeg];simp only[DU,Ac7]
 exact⟨vb_k,by rw[hrt];rfl,by rw[hrt,if_pos rfl,<-hen];exact Zm ho_k,hE⟩
section
variable {wb w w' : AcE} {g gj : Nat} {H H' : Dk} {D D' : Al}
theorem DkX.box(hX:DkX wb w g gj H D w' H' D')(hD:DkG wb w g H D){cj:Array AcD}{fj:Nat × Nat}(hj:w.heap[gj]? =some (.cells cj 84 fj)){b:Nat}{cs:Array AcD}{t:AcK}{fr:Nat × Nat}(hb:w.heap[b]? =some (.cells cs t fr))(h1:t≠82)(h2:t≠120)(h3:t≠5)(h4:t≠113)(h5:t≠84):w'.heap[b]? =some (.cells cs t fr):=
 (hX.chg.blk b (bl hb) fun q=>q.elim (hD.st.offT hb h1 h2 h3 h4) fun e=>by
  subst e;rw[hj]at hb;cases hb;exact h5 rfl).trans hb
theorem DkX.og(hX:DkX wb w g gj H D w' H' D')(hD:DkG wb w g H D){cj:Array AcD}{fj:Nat × Nat}(hj:w.heap[gj]? =some (.cells cj 84 fj)){α:Type}{b k:Nat}{t:AcK}{enc:α->List AcD}{v:AcD}{l:List α}(hr:OG b t k enc w v l)(h1:t≠82)(h2:t≠120)(h3:t≠5)(h4:t≠113)(h5:t≠84):OG b t k enc w' v l:=by
 refine⟨hr.1,C0 hX.chg hr.2 fun i hi q=> ?_⟩;have ht:=EW hr.2 hi;rcases q with q | q
 ·rcases(hD.st.foot q).1 with ⟨es,c,e⟩ | ⟨cs,t',fr,e,ht'⟩
  ·unfold Cz at ht;rw[e]at ht;cases ht
  ·have:=Bp e;rw[this]at ht;have ht:t' =t:=by simpa using ht
   subst ht;rcases ht' with q | q | q | q
   ·exact h1 q
   ·exact h2 q
   ·exact h3 q
   ·exact h4 q
 ·subst q;rw[Bp hj]at ht;exact h5 (by simpa using ht.symm)
theorem RefsOw.chgX{b:Nat}{z:Af}(h:RefsOw b w z)(hX:DkX wb w g gj H D w' H' D')(hD:DkG wb w g H D){cj:Array AcD}{fj:Nat × Nat}(hj:w.heap[gj]? =some (.cells cj 84 fj)):RefsOw b w' z:=
 ⟨hX.og hD hj h.br (by decide) (by decide) (by decide) (by decide) (by decide),hX.og hD hj h.tg (by decide) (by decide) (by decide) (by decide) (by decide),hX.og hD hj h.lg (by decide) (by decide) (by decide) (by decide) (by decide)⟩
def OffJ(H:Dk)(n gj:Nat)(w:AcE)(v:AcD):Prop:=∀i,v.ownBlock=some i->i<w.heap.size/\¬BS H n i/\i≠gj
theorem OffJ.keep{n:Nat}{v:AcD}(h:OffJ H n gj w v)(k:Ext w w'):OffJ H n gj w' v:=fun i hi=>⟨Ad3 (h i hi).1 k.size,(h i hi).2⟩
theorem OffJ.set{n x:Nat}{v:AcD}(h:OffJ H n gj w v)(k:w.grownBy w' (some x)):OffJ H n gj w' v:=fun i hi=>⟨Ad3 (h i hi).1 k.size,(h i hi).2⟩
abbrev Acv:=@OffJ.set
theorem OffJ.step{v:AcD}(h:OffJ H D.files.length gj w v)(hX:DkX wb w g gj H D w' H' D'):OffJ H' D'.files.length gj w' v:=fun i hi=>by
 obtain⟨h1,h2,h3⟩:=h i hi;exact⟨Ad3 h1 hX.chg.size,fun q=>(hX.foot i q).elim h2 fun q=>by omega,h3⟩
theorem OffJ.rb{v:AcD}{l:Aib}(h:OffJ H D.files.length gj w v)(hX:DkX wb w g gj H D w' H' D')(hr:RB w v l):RB w' v l:=hr.chg hX.chg (.inr fun i hi q=>q.elim (h i hi).2.1 (h i hi).2.2)
theorem OffJ.new{w0:AcE}{v:AcD}{n:Nat}{xs:List AcD}{e:AcK}{s:Nat}(hD:DkG wb w0 g H D)(hr:w.ownsRow w0.heap.size e s v n xs)(hg:gj<w0.heap.size):OffJ H D.files.length gj w v:=fun i hi=>by
 have h1:=hr.lt i hi;exact⟨h1.2,fun q=>by have:=(hD.st.foot q).2.1;omega,by omega⟩
theorem OffJ.off{n:Nat}{v:AcD}(h:OffJ H n gj w v):∀i,v.ownBlock=some i->¬BS H n i:=fun i hi=>(h i hi).2.1
end
theorem Fs{w:AcE}{gj g n e:Nat}{z:Af}{t l:Bool}{ty:AcK}{fr:Nat × Nat}(h:w.heap[gj]? =some (.cells (BH g z n t (l||decide (e=9))).toArray ty fr))(he:e≠9):w.heap[gj]? =some (.cells (BH g z n t l).toArray ty fr):=by
 rw[decide_eq_false he,Agx]at h;exact h
theorem Pd(w:AcE)(z:Af)(hm:RefsAt w z)(hR:AA z.1=true):
  Calls AcF 22 #[.agg (refsC z).toArray] w fun e w' =>∃v,e = .returned (.tuple #[v,NI 0])/\RB w' v (DU z.1)/\Ext w w' :=
 (Pc w z hm (DI hR)).mono fun e w' h=>by
  obtain⟨v,rfl,h1,h2⟩:=h;rw[if_pos hR]at h1;exact⟨v,by rw[if_pos hR],h1,h2⟩
theorem Fd{r:Ar}(h:AA r=true):(wholeB r).length<=40010:=by
 have:=J1 (k:=83) (J2 h) (by omega);unfold wholeB;omega
section
variable {D : Al} {J : Jn}
theorem Pe(h:(Bi D J.refs).2=8)(h2:(AN (Bi D J.refs).1 [.clear]).2≠0):AL D J=((AN (Bi D J.refs).1 [.clear]).1,F9 J (AN (Bi D J.refs).1 [.clear]).2,(AN (Bi D J.refs).1 [.clear]).2):=(if_pos h).trans (if_pos h2)
theorem Of(h:(Bi D J.refs).2=8)(h2:¬(AN (Bi D J.refs).1 [.clear]).2≠0):AL D J=((AN (Bi D J.refs).1 [.clear]).1,J,8):=(if_pos h).trans (if_neg h2)
theorem Rc(h:¬(Bi D J.refs).2=8)(h2:(Bi D J.refs).2≠0):AL D J=((Bi D J.refs).1,F9 J (Bi D J.refs).2,(Bi D J.refs).2):=(if_neg h).trans (if_pos h2)
theorem Re(h:¬(Bi D J.refs).2=8)(h2:¬(Bi D J.refs).2≠0)(h3:(Ds (Bi D J.refs).1).2≠0):AL D J=((Ds (Bi D J.refs).1).1,F9 J (Ds (Bi D J.refs).1).2,(Ds (Bi D J.refs).1).2):=(if_neg h).trans ((if_neg h2).trans (if_pos h3))
theorem Pf(h:¬(Bi D J.refs).2=8)(h2:¬(Bi D J.refs).2≠0)(h3:¬(Ds (Bi D J.refs).1).2≠0):AL D J=((Ds (Bi D J.refs).1).1,⟨J.refs,(wholeB J.refs).length,false,J.lost⟩,0):=(if_neg h).trans ((if_neg h2).trans (if_neg h3))
end
theorem Rf:AC AcF 84 1 1:=fun b o w=>by simp[go_sem]
theorem Vo:Plain AcF 22:=fun _ _=>by kernel_rfl
theorem Vp:Plain AcF 41:=fun _ _=>by kernel_rfl
theorem WX(f0:Fn)(a0 c0:Array AcD)(f1:Fn)(a1 c1:Array AcD)(w:AcE):(Adc 141 2 #[(0, .func f0 a0 c0),(1, .func f1 a1 c1)]).run AcF w = .ok (.slice (some ⟨w.heap.size,0,none⟩) 2 2) (w.alloc (.cells #[.func f0 a0 c0, .func f1 a1 c1] 50)):=by kernel_rfl
theorem J8:Plain AcF 28:=fun _ _=>by kernel_rfl
theorem WY(f0:Fn)(a0 c0:Array AcD)(w:AcE):(Adc 141 1 #[(0, .func f0 a0 c0)]).run AcF w = .ok (.slice (some ⟨w.heap.size,0,none⟩) 1 1) (w.alloc (.cells #[.func f0 a0 c0] 50)):=by kernel_rfl
theorem WZ(f0:Fn)(a0 c0:Array AcD)(f1:Fn)(a1 c1:Array AcD)(f2:Fn)(a2 c2:Array AcD)(w:AcE):(Adc 141 3 #[(0, .func f0 a0 c0),(1, .func f1 a1 c1),(2, .func f2 a2 c2)]).run AcF w = .ok (.slice (some ⟨w.heap.size,0,none⟩) 3 3) (w.alloc (.cells #[.func f0 a0 c0, .func f1 a1 c1, .func f2 a2 c2] 50)):=by kernel_rfl
theorem Rg:AC AcF 84 3 38:=fun b o w=>by simp[go_sem]
set_option maxHeartbeats 1600000
theorem Ty(wb w:AcE)(g:Nat)(H:Dk)(D:Al)(hD:DkG wb w g H D)(gj:Nat)(z:Af)(n:Nat)(t l:Bool)(hj:w.heap[gj]? =some (.cells (BH g z n t l).toArray 84 (0,0)))(hlo:wb.heap.size<=gj)(hz:RefsOw 0 w z)(hR:AA z.1=true)(m:Nat)(hB:DBd m D)(hm:m<=98000):
  Calls AcF 32 #[PQ gj 0] w fun e w' =>∃H',e = .returned (NI (AL D ⟨z.1,n,t,l⟩).2.2)/\DkX wb w g gj H D w' H' (AL D ⟨z.1,n,t,l⟩).1/\JnAt w' gj g (AL D ⟨z.1,n,t,l⟩).2.1 z:=by
 have hX:DkX wb w g gj H D w H D:= .ofExt hD (AbN w);have hwb:=hD.ext.size;have hel:=J2 hR;have hwl:=Fd hR;have hgl:=bl hj;have hbs1:∀a∈([.clear, .app nwN (wholeB z.1)]:List JA),∀s b,a = .app s b->b.length<=45000:=by
   intro a ha;simp only[Adl,AdJ,or_false]at ha;intro s b e;rcases ha with rfl | rfl <;> cases e
   omega
 refine gG (args:= [PQ gj 0]) Tryz.func32 rfl 55 rfl rfl ?_;have hE:=AbN w;refine gS (ZM (vr (PQ gj 0) rfl) rfl fun h w3 ba a2 af bg=> ?_);have bh:=AR (bl hj) ba;have hX:DkX wb w g gj H D w3 H (D):=(hX.keep af);have hz:RefsOw 0 w3 z:=(hz.keep af);have c:=a2;clear a2;have bi:h<w3.heap.size:=by omega
 have hj:=eb af hj;refine gS (Y6 Ef rfl rfl (Ac c rfl) (gS (AbO rfl (gS (AbM Rf rfl (gS (Zd (Abi hj rfl) (L0).choose_spec rfl (by rw[An];exact KI) (gS (Y9 Vo rfl ((Pd _ z (hz).rd hR).mono ?_))))))))));rintro e al ⟨ag,rfl,am,ad⟩;refine⟨_,rfl,?_⟩;have hX:DkX wb w g gj H D al H (D):=(hX.keep ad);have hz:RefsOw 0 al z:=(hz.keep ad);refine gS (AbP (vs:= [ag,NI 0]) rfl rfl (gS (AbP (vs:= [ag,NI 0]) rfl rfl (gS (AbV Tw fun p an a3 a4 y bj=> ?_)))));have o:=AbN al;have hE:=hE.trans (af.trans ad);have bb:=hE.size;have hj:=eb ad hj;have bk:=AR (bl hj) a3;have c:=eb ad c;have bm:=AR (bl c) a3;have hX:DkX wb w g gj H D an H (D):=(hX.keep y);have hz:RefsOw 0 an z:=(hz.keep y);have f:=a4;clear a4;have bn:p<an.heap.size:=by omega
 have o:=o.trans y;refine gS (Za (i:=0) (v:=ag) rfl rfl f (AcP rfl) Mo (AcA (am.keep o)).1 (AcA (am.keep o)).2 fun a5 a6 aa bo=> ?_);have hX:DkX wb w g gj H D a5 H (D):=Ab9 hX aa f (.inl (by omega)) (by omega) (by decide) (by decide) (by decide) (by decide) (by decide) (by decide);have hz:RefsOw 0 a5 z:=AbW hz aa f (by decide) (by decide);clear f;have f:=a6;clear a6;have bp:=bl f;refine gS (Y6 G8 rfl rfl (Ac f rfl) ?_);have hE:=hE.trans y;have hE:=Ad hE aa (AcG bb (by omega));have o:=Ad o aa (AcG (AcI _) (by omega));have bq:=hE.size;have br:=o.size;have hXr:=hX;have hj:=eb y hj;have hj:=kb aa hj (by omega);have hjr:=hj;have bs:=(bl hj);have c:=eb y c;have c:=kb aa c (by omega);have bt:=(bl c);have bu:=(bl f);refine gS (Zb Vp rfl rfl ((K9 _ 83 (.inl rfl) ag (DU z.1) (am.keep o) (by omega)).mono ?_));rintro e ao ⟨k,rfl,ap,ae⟩;refine⟨_,rfl,?_⟩;have hX:DkX wb w g gj H D ao H (D):=(hX.keep ae);have hz:RefsOw 0 ao z:=(hz.keep ae);have hO:OffJ H (D).files.length gj ao k:=OffJ.new hXr.g ap (bl hjr);have j:=Zm ap;have bc:OB k p:=fun q=>by have:=(ap.lt _ q).1;omega
 have f:=eb ae f;refine gS (Za (i:=0) (v:=k) rfl rfl f (AcP rfl) Mo (AcA j).1 (AcA j).2 fun aq a7 ab bv=> ?_);have hX:DkX wb w g gj H D aq H (D):=Ab9 hX ab f (.inl (by omega)) (by omega) (by decide) (by decide) (by decide) (by decide) (by decide) (by decide);have hz:RefsOw 0 aq z:=AbW hz ab f (by decide) (by decide);have hO:OffJ H (D).files.length gj aq k:=Acv hO ab;clear f;have f:=a7;clear a7;have bw:=bl f;have c:=eb ae c;have c:=kb ab c (by omega);refine gS (Zu (vs:= #[PQ h 0,PQ p 0]) (by simp only[AcT,AcX,Ac2];exact congrArg Adf (B6 (vr (PQ h 0) rfl) (vr (PQ p 0) rfl))) (gS (Y6 Ef rfl rfl (Ac c rfl) (gS (Y6 Ef rfl rfl (Ac c rfl) (gS (Aac (vr (PQ gj 0) rfl) (gS (AaR (vr (.func (.func 29) #[PQ gj 0] #[]) rfl) (vr (.func (.func 78) #[] #[PQ h 0,PQ p 0]) rfl) (fun w=>WX _ _ _ _ _ _ w) fun b58 ar bx bd r bz=> ?_)))))))));have hX:DkX wb w g gj H D ar H (D):=(hX.keep r);have hz:RefsOw 0 ar z:=(hz.keep r);have hO:OffJ H (D).files.length gj ar k:=(hO.keep r);have hXc:=hX;have hj:=eb ae hj;have hj:=kb ab hj (by omega);have hj:=eb r hj;have hjc:=hj;have hzc:=hz;have c:=eb r c;have hb9c:=c;have f:=eb r f;have hb27c:=f;have hOc:=hO;have j:=RB.kept j ab (.inr bc);have j:=j.keep r;have hrc:=j;refine gS (Zb J8 rfl rfl ?_);refine(IZ wb _ g H D hXc.g gj z n t l hjc hlo b58 [.func (.func 29) #[PQ gj 0] #[], .func (.func 78) #[] #[PQ h 0,PQ p 0]] [.clear, .app nwN (wholeB z.1)] bd (XZ (show JaAt _ _ _ _ _ (.clear)from rfl) (show JaAt _ _ _ _ _ (.app nwN (wholeB z.1))from⟨_,h,p,k,rfl, .inl ⟨rfl,rfl⟩,c,f,j, .inr (hO).off,by omega⟩)) (m) hB (by simp only[AcV,Ac1];omega) (by intro a ha;simp only[Adl,AdJ,or_false]at ha;intro s b e;rcases ha with rfl | rfl <;> cases e;omega)).mono ?_;rintro e b0 ⟨H64,rfl,hX65,hj66⟩;refine⟨_,rfl,?_⟩;have hX:=hXc.trans hX65;have hj:=hj66;have hz:=hzc.chgX hX65 hXc.g hjc;have c:=hX65.box hXc.g hjc hb9c (by decide) (by decide) (by decide) (by decide) (by decide);have f:=hX65.box hXc.g hjc hb27c (by decide) (by decide) (by decide) (by decide) (by decide);have j:=hOc.rb hX65 hrc;have hO:=hOc.step hX65;have b1:=bl c;have b2:=bl f;refine gS (Y7 (a:=((AN D [.clear, .app nwN (wholeB z.1)]).2:Nat)) (b:=(8:Nat)) rfl rfl (AK _ _ _ _) ?_);refine cD rfl (fun au=> ?_) fun au=> ?_
 ·have he1:(Bi D z.1).2=8:=au;have hj:=Fs hj (by have he1:=he1;unfold Bi at he1;omega);refine gS (Y6 Ef rfl rfl (Ac c rfl) (gS (Y6 Ef rfl rfl (Ac c rfl) (gS (Aac (vr (PQ gj 0) rfl) (gS (AaQ (vr (.func (.func 29) #[PQ gj 0] #[]) rfl) (fun w=>WY _ _ _ w) fun b74 av b3 be ac b4=> ?_)))))));have hX:DkX wb w g gj H D av H64 ((AN D [.clear, .app nwN (wholeB z.1)]).1):=(hX.keep ac);have hz:RefsOw 0 av z:=(hz.keep ac);have hO:OffJ H64 ((AN D [.clear, .app nwN (wholeB z.1)]).1).files.length gj av k:=(hO.keep ac);have hXc:=hX;have hj:=eb ac hj;have hjc:=hj;have hzc:=hz;have c:=eb ac c;have hb9c:=c;have f:=eb ac f;have hb27c:=f;refine gS (Zb J8 rfl rfl ?_);refine(IZ wb _ g H64 ((AN D [.clear, .app nwN (wholeB z.1)]).1) hXc.g gj z n t l hjc hlo b74 [.func (.func 29) #[PQ gj 0] #[]] [.clear] be (jas1 (show JaAt _ _ _ _ _ (.clear)from rfl)) (m+300) (hB.jdo _ hbs1) (by simp only[AcV,Ac1];omega) (by intro a ha;simp only[Adl,AdJ,or_false]at ha;intro s b e;rcases ha with rfl <;> cases e)).mono ?_;rintro e b5 ⟨H80,rfl,hX81,hj82⟩;refine⟨_,rfl,?_⟩;have hX:=hXc.trans hX81;have hj:=hj82;have hz:=hzc.chgX hX81 hXc.g hjc;have c:=hX81.box hXc.g hjc hb9c (by decide) (by decide) (by decide) (by decide) (by decide);have f:=hX81.box hXc.g hjc hb27c (by decide) (by decide) (by decide) (by decide) (by decide);have b6:=bl c;have b7:=bl f;refine gS (Y7 (a:=((AN ((AN D [.clear, .app nwN (wholeB z.1)]).1) [.clear]).2:Nat)) (b:=(0:Nat)) rfl rfl (AX _ _ _ _) ?_);refine cD rfl (fun aw=> ?_) fun aw=> ?_
  ·have he2:(AN (Bi D z.1).1 [.clear]).2≠0:=aw;refine AE rfl (vr (NI ((AN ((AN D [.clear, .app nwN (wholeB z.1)]).1) [.clear]).2)) rfl) ?_;have hV:=Pe (J:=⟨z.1,n,t,l⟩) he1 he2;exact⟨H80,by rw[hV] <;> rfl,by rw[hV];exact hX,by rw[hV];exact⟨hj,hz,rfl⟩⟩
  have he2:¬(AN (Bi D z.1).1 [.clear]).2≠0:=aw;have hj:=Fs hj (by have he2:=he2;unfold Bi at he2;omega);refine AE rfl (vr (NI 8) rfl) ?_;have hV:=Of (J:=⟨z.1,n,t,l⟩) he1 he2;exact⟨H80,by rw[hV] <;> rfl,by rw[hV];exact hX,by rw[hV];exact⟨hj,hz,rfl⟩⟩
 have he1:¬(Bi D z.1).2=8:=au;refine gS (Y7 (a:=((AN D [.clear, .app nwN (wholeB z.1)]).2:Nat)) (b:=(0:Nat)) rfl rfl (AX _ _ _ _) ?_);refine cD rfl (fun ax=> ?_) fun ax=> ?_
 ·have he2:(Bi D z.1).2≠0:=ax;refine AE rfl (vr (NI ((AN D [.clear, .app nwN (wholeB z.1)]).2)) rfl) ?_;have hV:=Rc (J:=⟨z.1,n,t,l⟩) he1 he2;exact⟨H64,by rw[hV] <;> rfl,by rw[hV];exact hX,by rw[hV];exact⟨hj,hz,rfl⟩⟩
 have he2:¬(Bi D z.1).2≠0:=ax;have hj:=Fs hj (by have he2:=he2;unfold Bi at he2;omega);refine gS (Y6 Ef rfl rfl (Ac c rfl) (gS (Zu (vs:= #[PQ h 0]) (by simp only[AcT,AcX,Ac2];exact congrArg Adf (Fx (vr (PQ h 0) rfl))) (gS (Zu (vs:= #[PQ h 0]) (by simp only[AcT,AcX,Ac2];exact congrArg Adf (Fx (vr (PQ h 0) rfl))) (gS (Zu (vs:= #[PQ h 0]) (by simp only[AcT,AcX,Ac2];exact congrArg Adf (Fx (vr (PQ h 0) rfl))) (gS (AbD (vr (.func (.func 79) #[] #[PQ h 0]) rfl) (vr (.func (.func 80) #[] #[PQ h 0]) rfl) (vr (.func (.func 82) #[] #[PQ h 0]) rfl) (fun w=>WZ _ _ _ _ _ _ _ _ _ w) fun b93 ay b8 bf u b9=> ?_)))))))));have hX:DkX wb w g gj H D ay H64 ((AN D [.clear, .app nwN (wholeB z.1)]).1):=(hX.keep u);have hz:RefsOw 0 ay z:=(hz.keep u);have hO:OffJ H64 ((AN D [.clear, .app nwN (wholeB z.1)]).1).files.length gj ay k:=(hO.keep u);have hXc:=hX;have hj:=eb u hj;have hjc:=hj;have hzc:=hz;have c:=eb u c;have hb9c:=c;have f:=eb u f;have hb27c:=f;have hOc:=hO;have j:=j.keep u;have hrc:=j;refine gS (Zb J8 rfl rfl ?_);refine(IZ wb _ g H64 ((AN D [.clear, .app nwN (wholeB z.1)]).1) hXc.g gj z n t l hjc hlo b93 [.func (.func 79) #[] #[PQ h 0], .func (.func 80) #[] #[PQ h 0], .func (.func 82) #[] #[PQ h 0]] [.sync nwN, .move, .sync jrN] bf (YM (show JaAt _ _ _ _ _ (.sync nwN)from⟨_,h,rfl, .inl ⟨rfl,rfl⟩,c⟩) (show JaAt _ _ _ _ _ (.move)from⟨h,rfl,c⟩) (show JaAt _ _ _ _ _ (.sync jrN)from⟨_,h,rfl, .inr ⟨rfl, .inl rfl⟩,c⟩)) (m+300) (hB.jdo _ hbs1) (by simp only[AcV,Ac1];omega) (by intro a ha;simp only[Adl,AdJ,or_false]at ha;intro s b e;rcases ha with rfl | rfl | rfl <;> cases e)).mono ?_;rintro e ca ⟨H99,rfl,hX100,hj101⟩;refine⟨_,rfl,?_⟩;have hX:=hXc.trans hX100;have hj:=hj101;have hz:=hzc.chgX hX100 hXc.g hjc;have c:=hX100.box hXc.g hjc hb9c (by decide) (by decide) (by decide) (by decide) (by decide);have f:=hX100.box hXc.g hjc hb27c (by decide) (by decide) (by decide) (by decide) (by decide);have j:=hOc.rb hX100 hrc;have hO:=hOc.step hX100;have cb:=bl c;have cc:=bl f;refine gS (Y7 (a:=((AN ((AN D [.clear, .app nwN (wholeB z.1)]).1) [.sync nwN, .move, .sync jrN]).2:Nat)) (b:=(0:Nat)) rfl rfl (AK _ _ _ _) ?_);refine cD rfl (fun az=> ?_) fun az=> ?_
 ·have he3:¬(Ds (Bi D z.1).1).2≠0:=fun q=>q az;have hj:=Fs hj (by have he3:=he3;unfold Ds Bi at he3;omega);refine Fg [0,1,2,3,4,5,6,7,8,9] [6,9] [] [1] fun a0 x=> ?_;have hX:DkX wb w g gj H D a0 H99 ((AN ((AN D [.clear, .app nwN (wholeB z.1)]).1) [.sync nwN, .move, .sync jrN]).1):=(hX.keep x);have hz:RefsOw 0 a0 z:=(hz.keep x);have hO:OffJ H99 ((AN ((AN D [.clear, .app nwN (wholeB z.1)]).1) [.sync nwN, .move, .sync jrN]).1).files.length gj a0 k:=(hO.keep x);have hj:=eb x hj;have c:=eb x c;have f:=eb x f;have j:=j.keep x;refine RR c ?_;refine ys (Y6 Ef rfl rfl (Ac c rfl) zz) (yf (fun _ ⟨c,_⟩=>Y6 Ef rfl rfl (Ac c rfl) zz) (ys (Y6 G8 rfl rfl (Ac f rfl) zz) (ys (Zw G8 (Zx j rfl) zz) (ys (AbO rfl zz) (ys (AbM Rb rfl zz) (yI (Za (i:=37) (v:=NI ((wholeB z.1:Aib).length)) rfl rfl hj (by rw[GC];decide) DB rfl rfl fun ah a8 ai cd=> ?_)))))));have hX:DkX wb w g gj H D ah H99 ((AN ((AN D [.clear, .app nwN (wholeB z.1)]).1) [.sync nwN, .move, .sync jrN]).1):=Ab9 hX ai hj (.inr rfl) hlo (by decide) (by decide) (by decide) (by decide) (by decide) (by decide);have hz:RefsOw 0 ah z:=AbW hz ai hj (by decide) (by decide);have hO:OffJ H99 ((AN ((AN D [.clear, .app nwN (wholeB z.1)]).1) [.sync nwN, .move, .sync jrN]).1).files.length gj ah k:=Acv hO ai;clear hj;have hj:ah.heap[gj]? =some (.cells (BH g z ((wholeB z.1:Aib).length) t l).toArray 84 (0,0)):=Az a8 (Oc ((wholeB z.1:Aib).length));clear a8;have ce:=bl hj;have c:=kb ai c (by omega);refine⟨⟨c,trivial⟩,?_⟩;refine ys (AbO rfl zz) (ys (AbM Rg rfl zz) (yD rfl (Za (i:=38) (v:= .bool (false)) rfl rfl hj (by rw[GC];decide) UV rfl rfl fun aj a9 a1 cf=> ?_)));have hX:DkX wb w g gj H D aj H99 ((AN ((AN D [.clear, .app nwN (wholeB z.1)]).1) [.sync nwN, .move, .sync jrN]).1):=Ab9 hX a1 hj (.inr rfl) hlo (by decide) (by decide) (by decide) (by decide) (by decide) (by decide);have hz:RefsOw 0 aj z:=AbW hz a1 hj (by decide) (by decide);have hO:OffJ H99 ((AN ((AN D [.clear, .app nwN (wholeB z.1)]).1) [.sync nwN, .move, .sync jrN]).1).files.length gj aj k:=Acv hO a1;clear hj;have hj:aj.heap[gj]? =some (.cells (BH g z ((wholeB z.1:Aib).length) false l).toArray 84 (0,0)):=Az a9 (Tn false);clear a9;have cg:=bl hj;refine AE rfl (vr (NI ((AN ((AN D [.clear, .app nwN (wholeB z.1)]).1) [.sync nwN, .move, .sync jrN]).2)) rfl) ?_;have hV:=Pf (J:=⟨z.1,n,t,l⟩) he1 he2 he3;exact⟨H99,by rw[hV];exact congrArg (fun e=>Ending.returned (NI e)) (Decidable.not_not.1 he3),by rw[hV];exact hX,by rw[hV];exact⟨hj,hz,rfl⟩⟩
 have he3:(Ds (Bi D z.1).1).2≠0:=az;refine AE rfl (vr (NI ((AN ((AN D [.clear, .app nwN (wholeB z.1)]).1) [.sync nwN, .move, .sync jrN]).2)) rfl) ?_;have hV:=Re (J:=⟨z.1,n,t,l⟩) he1 he2 he3;exact⟨H99,by rw[hV] <;> rfl,by rw[hV];exact hX,by rw[hV];exact⟨hj,hz,rfl⟩⟩
theorem Mx(wb w:AcE)(g:Nat)(H:Dk)(D:Al)(hD:DkG wb w g H D)(gj:Nat)(z:Af)(n:Nat)(t l:Bool)(hj:w.heap[gj]? =some (.cells (BH g z n t l).toArray 84 (0,0)))(hlo:wb.heap.size<=gj)(hz:RefsOw 0 w z)(hR:AA z.1=true)(m:Nat)(hB:DBd m D)(hm:m<=98000)(r:Al × Jn × Nat)(hr:AL D ⟨z.1,n,t,l⟩=r):
  Calls AcF 32 #[PQ gj 0] w fun e w' =>∃H',e = .returned (NI r.2.2)/\DkX wb w g gj H D w' H' r.1/\JnAt w' gj g r.2.1 z:=by
 subst hr;exact Ty wb w g H D hD gj z n t l hj hlo hz hR m hB hm
section
variable {D : Al} {J : Jn} {us : List Aw} {note : Bs} {r : Al × Jn × Nat}
theorem Og(h:J.lost=true):By D J us note=(D,J,19):=if_pos h
theorem Ib(h:J.lost=false)(h2:(Ag J.refs us note).1≠0):By D J us note=(D,J,(Ag J.refs us note).1):=(if_neg (by rw[h];decide)).trans (if_pos h2)
theorem I2(h:J.lost=false)(h2:¬(Ag J.refs us note).1≠0)(h3:(J.torn||decide (8192<J.size))=true)(hr:AL D J=r)(h4:(decide (r.2.2≠0)&&(J.torn||decide (r.2.2≠8)))=true):By D J us note=r:=by
 simp only[Ada,AdU,decide_eq_true_eq]at h3 h4;unfold By;rw[if_neg (by rw[h];decide),if_neg h2,if_pos h3,hr,if_pos h4]
theorem JN(h:J.lost=false)(h2:¬(Ag J.refs us note).1≠0)(h3:(J.torn||decide (8192<J.size))=true)(hr:AL D J=r)(h4:(decide (r.2.2≠0)&&(J.torn||decide (r.2.2≠8)))=false):By D J us note=FW r.1 r.2.1 (Ag J.refs us note).2 (recB 84 (tranB us note)):=by
 simp only[AdU,decide_eq_true_eq]at h3;unfold By;rw[if_neg (by rw[h];decide),if_neg h2,if_pos h3,hr,if_neg (fun q=>by
  have:(decide (r.2.2≠0)&&(J.torn||decide (r.2.2≠8)))=true:=by simp only[Ada,AdU,decide_eq_true_eq];exact q
  rw[h4]at this;cases this)]
theorem G2(h:J.lost=false)(h2:¬(Ag J.refs us note).1≠0)(h3:(J.torn||decide (8192<J.size))=false):By D J us note=FW D J (Ag J.refs us note).2 (recB 84 (tranB us note)):=by
 simp only[Bool.or_eq_false_iff,decide_eq_false_iff_not]at h3;unfold By;rw[if_neg (by rw[h];decide),if_neg h2,if_neg (fun q=>q.elim (fun q=>by rw[h3.1]at q;cases q) h3.2)]
theorem Vq{x:Ar}{b:Bs}(h:¬(DV D b).2=0):FW D J x b=((DV D b).1,F9 J (DV D b).2,(DV D b).2):=if_pos h
theorem PS{x:Ar}{b:Bs}(h:(DV D b).2=0):FW D J x b=((DV D b).1,⟨x,J.size+b.length,J.torn,J.lost⟩,0):=if_neg fun q=>q h
theorem Pg(hR:AA J.refs=true):(AL D J).2.1.size<=J.size\/(AL D J).2.1.size<=40010:=by
 unfold AL;split
 ·unfold M7;split <;> exact .inl (AcI _)
 ·split
  ·exact .inl (AcI _)
  ·unfold QN;split
   ·exact .inl (AcI _)
   ·exact .inr (Fd hR)
end
theorem DBd.jrenew{m:Nat}{D:Al}{J:Jn}(h:DBd m D)(hR:AA J.refs=true):DBd (m+900) (AL D J).1:=by
 have hw:=Fd hR;have h1:DBd (m+300) (Bi D J.refs).1:=h.jdo [.clear, .app nwN (wholeB J.refs)] fun a ha s b e=>by
  simp only[Adl,AdJ,or_false]at ha;rcases ha with rfl | rfl <;> cases e
  omega
 unfold AL;split
 ·have h2:DBd (m+450) (AN (Bi D J.refs).1 [.clear]).1:=h1.jdo [.clear] fun a ha s b e=>by
   simp only[Adl,AdJ,or_false]at ha;subst ha;cases e
  unfold M7;split <;> exact h2.mono (by omega)
 ·split
  ·exact h1.mono (by omega)
  ·have h2:DBd (m+750) (Ds (Bi D J.refs).1).1:=h1.jdo [.sync nwN, .move, .sync jrN] fun a ha s b e=>by
    simp only[Adl,AdJ,or_false]at ha;rcases ha with rfl | rfl | rfl <;> cases e
   unfold QN;split <;> exact h2.mono (by omega)
theorem RG.chgJ{α:Type}{k:Nat}{enc:α->List AcD}{w w' :AcE}{v:AcD}{l:List α}{B:Nat->Prop}(h:RG k enc w v l)(hc:Chg B w w')(hB:l= []\/∀i,v.ownBlock=some i->¬B i):RG k enc w' v l:=by
 obtain⟨h0,h1,ao,cap,rfl,h2,h3,h4,h5⟩:=h;refine⟨h0,h1,ao,cap,rfl,h2,h3,h4,fun a ha j u hu=> ?_⟩;have hl:=h5 a ha j u hu;have hlt:=World.block_lt_of_cell? w _ hl;rcases hB with rfl | hB
 ·simp at hu
 ·have hn:¬B (a.add j).block:=hB _ (by rw[ha];obtain⟨a1,a2,a3⟩:=a;simp only[Adp,Addr.add];split <;> rfl);have hb:=hc.blk _ hlt hn;unfold World.cell? at hl ⊢;rw[hb];exact hl
structure UpsAt (b : Nat) (H : Dk) (n gj : Nat) (w : AcE) (v : AcD) (l : List Aw) : Prop where
 rg:RG 66 updC w v l
 off:l= []\/∀i,v.ownBlock=some i->i<b/\¬BS H n i/\i≠gj
section
variable {wb w w' : AcE} {b g gj n x : Nat} {H H' : Dk} {D D' : Al} {v : AcD} {l : List Aw}
theorem UpsAt.keep(h:UpsAt b H n gj w v l)(k:Ext w w'):UpsAt b H n gj w' v l:=⟨h.rg.keep k,h.off⟩
theorem UpsAt.set(h:UpsAt b H n gj w v l)(k:w.grownBy w' (some x))(hx:b<=x\/x=gj):UpsAt b H n gj w' v l:=
 ⟨h.rg.chgJ (B:=fun i=>i=x) (ZH k fun i e=> .inl (Option.some.inj e).symm) (h.off.imp id fun q i hi (e:i=x)=>hx.elim (fun hx=>by have:=(q i hi).1;omega) fun hx=>(q i hi).2.2 (e.trans hx)),h.off⟩
theorem UpsAt.step(h:UpsAt b H D.files.length gj w v l)(hb:b<=w.heap.size)(hX:DkX wb w g gj H D w' H' D'):UpsAt b H' D'.files.length gj w' v l:=
 ⟨h.rg.chgJ hX.chg (h.off.imp id fun q i hi r=>r.elim (q i hi).2.1 (q i hi).2.2),h.off.imp id fun q i hi=>⟨(q i hi).1,fun r=>(hX.foot i r).elim (q i hi).2.1 fun r=>by have:=(q i hi).1;omega,(q i hi).2.2⟩⟩
end
theorem Rh{b:Bs}{s t:List AH × Nat}(h:Cv b s=some t):t.1.length=s.1.length+1:=by
 unfold Cv at h;cases hn:F3 b s.2 with
 | none=>rw[hn]at h;cases h
 | some x=>rw[hn]at h;cases h;simp
theorem Ri:Plain AcF 180:=fun _ _=>by kernel_rfl
theorem Rj:Plain AcF 178:=fun _ _=>by kernel_rfl
theorem Rl:Plain AcF 179:=fun _ _=>by kernel_rfl
theorem MX(z0:Aib)(z1:B7)(w:AcE):(AdI 94 #[(0,St z0),(1,AB z1.1)]).run AcF w = .ok (.agg (St (z0) :: (AcH z1.1)).toArray) w:=by
 obtain⟨z1,k1⟩:=z1;obtain⟨a1_0,a1_1,a1_2,a1_3,a1_4,a1_5,a1_6,a1_7,a1_8,a1_9,a1_10,a1_11,a1_12,a1_13,a1_14,a1_15,a1_16,a1_17,a1_18,a1_19,a1_20,a1_21,a1_22,a1_23,a1_24,a1_25,a1_26,a1_27,a1_28,a1_29,a1_30,a1_31,rfl⟩:=Kj k1;exact Lq _ _ _ _ _ _ _ _ _ _ _ _ _ _ _ _ _ _ _ _ _ _ _ _ _ _ _ _ _ _ _ _ _ w
theorem Tz:∀(cs:Array AcD),cs.size=33->∀w:AcE,(Adc 31 1 #[(0, .agg cs)]).run AcF w = .ok (.slice (some ⟨w.heap.size,0,none⟩) 1 1) (w.alloc (.cells cs 94))
 | ⟨c0 :: c1 :: c2 :: c3 :: c4 :: c5 :: c6 :: c7 :: c8 :: c9 :: c10 :: c11 :: c12 :: c13 :: c14 :: c15 :: c16 :: c17 :: c18 :: c19 :: c20 :: c21 :: c22 :: c23 :: c24 :: c25 :: c26 :: c27 :: c28 :: c29 :: c30 :: c31 :: c32 :: []⟩,_,w=>Ss c0 c1 c2 c3 c4 c5 c6 c7 c8 c9 c10 c11 c12 c13 c14 c15 c16 c17 c18 c19 c20 c21 c22 c23 c24 c25 c26 c27 c28 c29 c30 c31 c32 w
theorem My{w0 w:AcE}{r:Nat}{v:AcD}{b:Bs}{i:Nat}(c:Ext w0 w)(hb:w.heap[r]? =some (.cells (BO (AU v b (i))).toArray 216 (0,0)))(hr:RB w0 v b)(lr:w0.heap.size<=r)(hi:i<=b.length)(hl:b.length<=4611686018427387904):
  Calls AcF 177 #[PQ r 0] w fun e w' =>(∃x,e = .returned x/\∃u l j,FJ b i=some (l,j)/\u=x/\OG w.heap.size 94 33 nmdC w' u l/\w'.heap[r]? =some (.cells (BO (AU v b (j))).toArray 216 (0,0))/\j<=b.length/\w.grownBy w' (some r))\/∃ch,e = .panicked ch/\FJ b i=none/\ch= [C4]/\w.grownBy w' (some r):=by
 have hsz0:=c.size;have hapr:b= []\/OB v r:=by
   rcases b with _ | ⟨b0,b1⟩
   ·exact .inl rfl
   ·exact .inr fun e=>by have:=RB.lt hr (by simp) e;omega
 have hlr:=(bl hb);have hgr:=Adb w (some r);refine gG (args:= [PQ r 0]) Tryz.func177 rfl 19 rfl rfl ?_;have hE:=AbN w;have hrow0:OG w.heap.size 94 33 nmdC w (AcU none 0 0) ([]:List AH):=AbZ _ _ _ _ _;have aj:=AbR hrow0 hb (by decide);refine gP (Aae Ri rfl rfl ?_);refine Ao (JF _ r v b i hb (hr.keep c) hapr hi hl 64) ?_ ?_;rotate_left
 ·rintro ch w7 ⟨hPx,rfl,hgx⟩;refine Ap ?_;exact .inr ⟨_,rfl,UD hPx,rfl,Aa hgr hgx (fun _ e=> .inl e)⟩
 rintro v_ w9 ⟨n,j,hP,rfl,ab,p⟩;have hgr:w.grownBy w9 (some r):=Aa hgr p (fun _ e=> .inl e);clear hb;have hb:=ab;clear ab;have hle_j:=(Jh hi hP).1;have aw:=bl hb;have hnl:=(Jh hi hP).2.1;have c:=Ad c p (AcG (AcI _) lr);have hrow0:=AbQ hrow0 p aj;refine gL (fun(ρ:Aj) (wz:AcE)=>∃k:Nat,∃j0:Nat,∃o:List AH,∃vo:AcD,ρ 0=(PQ r 0:AcD)/\ρ 5=(NI n:AcD)/\ρ 6=(NI k:AcD)/\ρ 2=(vo:AcD)/\w.grownBy wz (some r)/\Ext w0 wz/\wz.heap[r]? =some (.cells (BO (AU v b (j0))).toArray 216 (0,0))/\OG w.heap.size 94 33 (nmdC) wz vo (o)/\(k<=n)/\(j0<=b.length)/\(Cb (Cv b) k ([],j)=some (o,j0))/\True) (fun ρ _=>n-(intOf (ρ 6)).toNat) ⟨0,j,[],(AcU none 0 0),rfl,rfl,rfl,rfl,hgr,c,hb,F6 hrow0 (rfl),AcZ _,hle_j,rfl,trivial⟩ ?_;clear hrow0;clear hb;clear hgr c;rintro al ax ⟨k,j0,o,vo,q,T5,y,T2,hgr,c,hb,hr_vo,hk,hj0,hit,-⟩;have q6:=y;refine gS (Y7 (a:=(k:Nat)) (b:=(n:Nat)) y T5 (Bf _ _ _ _) ?_);refine cD rfl (fun ac=> ?_) fun ac=> ?_
 ·have hlt:k<n:=ac;have hol:o.length=k:=by have:=Je (f:=Cv b) (fun s t h=>Rh h) k hit;simpa using this
  have am:=AbR hr_vo hb (by decide);refine gP (Zg Rj q ?_);refine Ao (GP _ r v b j0 hb (hr.keep c) hapr hj0 hl) ?_ ?_;rotate_left
  ·rintro ch ay ⟨hPx,rfl,hgx⟩;refine Ap ?_;exact .inr ⟨_,rfl,ST hP hlt hit (Ym hPx),rfl,Aa hgr hgx (fun _ e=> .inl e)⟩
  rintro v_ an ⟨d1,j1,hP1,rfl,ad,z⟩;have hgr:w.grownBy an (some r):=Aa hgr z (fun _ e=> .inl e);clear hb;have hb:=ad;clear ad;have hle_j1:=(txtP_le hP1).1;have az:=bl hb;have hr_vo:=AbQ hr_vo z am;have ao:=AbR hr_vo hb (by decide);have c:=Ad c z (AcG (AcI _) lr);refine gP (Zg Rl q ?_);refine Ao (Jg _ r v b j1 hb (hr.keep c) hapr hle_j1 hl) ?_ ?_;rotate_left
  ·rintro ch a0 ⟨hPx,rfl,hgx⟩;refine Ap ?_;exact .inr ⟨_,rfl,ST hP hlt hit (Yn hP1 hPx),rfl,Aa hgr hgx (fun _ e=> .inl e)⟩
  rintro v_ ap ⟨d2,j2,hP2,rfl,ae,aa⟩;have hgr:w.grownBy ap (some r):=Aa hgr aa (fun _ e=> .inl e);clear hb;have hb:=ae;clear ae;have hle_j2:=Ho hP2;have a1:=bl hb;refine gS (ZU (vr (St (d1)) rfl) (vr (AB d2.1) rfl) (fun w=>MX d1 d2 w) (gS (Z1 (a:=(⟨d1,d2⟩:AH)) (enc:=nmdC) (vr (.agg (nmdC (⟨d1,d2⟩:AH)).toArray) rfl) (BG _) Tz fun aq af ag m=> ?_)));have hgr:w.grownBy af (some r):=Aa hgr m.grown (fun _ e=>by cases e);have hr_vo:=AbQ hr_vo aa ao;have hr_vo:=hr_vo.keep m;have hb:=eb m hb;have ar:=AbR hr_vo hb (by decide);refine gS (ZB _ _ w.heap.size _ 48 ES wr30_ig94.choose_spec.1 wr30_ig94.choose_spec.2 ES (o) ([(⟨d1,d2⟩:AH)]) (ZY hr_vo T2) (Zf ag (vr aq rfl)) (fun _ _=>DR) (by simp only[AcV,Ac1];omega) (by simp only[AcV,Ac1];omega) hgr.size fun ah ai au g=> ?_);have g:Grew af ai vo ah:= .eqv T2 g;have hgr:w.grownBy ai (some r):=Aa hgr g.by_ (fun _ e=> .inr (hr_vo.2.lt _ e).1);have c:=Ad c aa (AcG (AcI _) lr);have c:=c.trans m;have c:=Br c g hr_vo.2 hsz0;have hb:=AW hb g ar;clear ag;clear hr_vo;refine gS (Ze (xv:=NI k) (yv:=NI 1) y rfl rfl (AD _ _ _ (by omega)) (gK (AdF ⟨k+1,j2,o++ [⟨d1,d2⟩],ah,q,T5,rfl,rfl,hgr,c,hb,F6 au (rfl),by omega,hle_j2,Ww hit (V7 hP1 hP2),trivial⟩ ?_)));show n-(intOf (NI ((k)+(1)))).toNat<n-(intOf (al 6)).toNat;rw[q6];simp only[intOf,Ac8];omega
 have hkn:k=n:=by omega
 subst hkn;have hN:FJ b i=some (o,j0):=(NQ hP).trans hit;refine AE rfl T2 ?_;exact .inl ⟨_,rfl,_,o,j0,hN,rfl,hr_vo,hb,hj0,hgr⟩
theorem Rm{b:Bs}{s t:List A9 × Nat}(h:Cw b s=some t):t.1.length=s.1.length+1:=by
 unfold Cw at h;cases hn:C7 b s.2 with
 | none=>rw[hn]at h;cases h
 | some x=>rw[hn]at h;cases h;simp
theorem Lb:Plain AcF 177:=fun _ _=>by kernel_rfl
theorem Rn:Plain AcF 181:=fun _ _=>by kernel_rfl
theorem TA:Ew AcF 97 entC:=⟨⟨_,(LT).choose_spec⟩,fun x=>AO (C8 x) KC⟩
theorem TB:∀(cs:Array AcD),cs.size=67->∀w:AcE,(Adc 34 1 #[(0, .agg cs)]).run AcF w = .ok (.slice (some ⟨w.heap.size,0,none⟩) 1 1) (w.alloc (.cells cs 97))
 | ⟨c0 :: c1 :: c2 :: c3 :: c4 :: c5 :: c6 :: c7 :: c8 :: c9 :: c10 :: c11 :: c12 :: c13 :: c14 :: c15 :: c16 :: c17 :: c18 :: c19 :: c20 :: c21 :: c22 :: c23 :: c24 :: c25 :: c26 :: c27 :: c28 :: c29 :: c30 :: c31 :: c32 :: c33 :: c34 :: c35 :: c36 :: c37 :: c38 :: c39 :: c40 :: c41 :: c42 :: c43 :: c44 :: c45 :: c46 :: c47 :: c48 :: c49 :: c50 :: c51 :: c52 :: c53 :: c54 :: c55 :: c56 :: c57 :: c58 :: c59 :: c60 :: c61 :: c62 :: c63 :: c64 :: c65 :: c66 :: []⟩,_,w=>SL c0 c1 c2 c3 c4 c5 c6 c7 c8 c9 c10 c11 c12 c13 c14 c15 c16 c17 c18 c19 c20 c21 c22 c23 c24 c25 c26 c27 c28 c29 c30 c31 c32 c33 c34 c35 c36 c37 c38 c39 c40 c41 c42 c43 c44 c45 c46 c47 c48 c49 c50 c51 c52 c53 c54 c55 c56 c57 c58 c59 c60 c61 c62 c63 c64 c65 c66 w
theorem I3:Ew AcF 36 refsC:=⟨⟨_,(L0).choose_spec⟩,fun x=>AO (An x) KI⟩
set_option maxHeartbeats 3200000
theorem TC{w0 w:AcE}{r:Nat}{v:AcD}{b:Bs}(c:Ext w0 w)(hb:w.heap[r]? =some (.cells (BO (AU v b (0))).toArray 216 (0,0)))(hr:RB w0 v b)(lr:w0.heap.size<=r)(hl:b.length<=4611686018427387904):
  Calls AcF 150 #[PQ r 0] w fun e w' =>(∃x,e = .returned x/\∃X:Af,Cx b=some X.1/\x = .agg (refsC X).toArray/\RefsOw w0.heap.size w' X/\Ext w0 w')\/∃ch,e = .panicked ch/\Cx b=none/\ch= [C4]/\Ext w0 w' :=by
 have el:=c.size;have hlr:=(bl hb);have hapr:b= []\/OB v r:=by
   rcases b with _ | ⟨b0,b1⟩
   ·exact .inl rfl
   ·exact .inr fun e=>by have:=RB.lt hr (by simp) e;omega
 refine gG (args:= [PQ r 0]) Tryz.func150 rfl 63 rfl rfl ?_;have hE:=AbN w;refine gS (AbV Sv fun n2 w3 cb be ba em=> ?_);have en:=hE.size;have cc:=c.size;have o:=be;clear be;have eo:n2<w3.heap.size:=by omega
 refine gS (AbV Sv fun ad cd bf bg bb ep=> ?_);have hE:=hE.trans ba;have c:=c.trans ba;have eq:=hE.size;have ax:=c.size;have q:=bg;clear bg;have er:ad<cd.heap.size:=by omega
 have c:=c.trans bb;have hz_:=c.size;have es:=AR (bl hb) cb;have hb:=eb ba hb;have et:=AR (bl hb) bf;have hb:=eb bb hb;refine gP (Zg Lb rfl ?_);refine Ao (My c hb hr lr (AcZ _) hl) ?_ ?_;rotate_left
 ·rintro ch eu ⟨hPx,rfl,hgx⟩;refine Ap ?_;exact .inr ⟨_,rfl,by unfold Cx;simp only[hPx,Ac0,AdH],rfl,Ad c hgx lr⟩
 rintro v_ ew ⟨u1,l1,i1,y,rfl,g,hbq1,hle_i1,hgq1⟩;clear hE;clear hb;have hb:=hbq1;clear hbq1;have ex:=bl hb;have g:=AbY g hz_;refine gS (AbM OW rfl ?_);have q:=kb hgq1 q (by omega);have ce:=AbR g q (by decide);refine gS (Za (i:=0) (v:=u1) rfl rfl q (by rw[An];decide) KK (AbS (Y8 g)).1 (AbS (Y8 g)).2 fun cf bh a7 ey=> ?_);clear q;have q:cf.heap[ad]? =some (.cells (refsC ((⟨l1,[],[],zid,[]⟩,⟨u1,(AcU none 0 0),(AcU none 0 0)⟩):Af)).toArray 36 (0,0)):=Az bh (Hg ((⟨[],[],[],zid,[]⟩,⟨.slice none 0 0, .slice none 0 0, .slice none 0 0⟩):Af) u1 (l1));clear bh;have ez:=bl q;have hb:=kb a7 hb (by omega);have g:=AbQ g a7 ce;have cg:=AbR g hb (by decide);have c:=Ad c hgq1 (AcG (AcI _) lr);have c:=Ad c a7 (AcG ax (by omega));have hz_:=c.size;refine gP (Zg Lb rfl ?_);refine Ao (My c hb hr lr hle_i1 hl) ?_ ?_;rotate_left
 ·rintro ch e0 ⟨hPx,rfl,hgx⟩;refine Ap ?_;exact .inr ⟨_,rfl,by unfold Cx;simp only[y,hPx,Ac0,AdH],rfl,Ad c hgx lr⟩
 rintro v_ e1 ⟨u,l2,i2,aa,rfl,l,hbq2,hle_i2,hgq2⟩;clear hb;have hb:=hbq2;clear hbq2;have e2:=bl hb;have l:=AbY l hz_;refine gS (AbM OX rfl ?_);have g:=AbQ g hgq2 cg;have q:=kb hgq2 q (by omega);have ci:=AbR g q (by decide);have cj:=AbR l q (by decide);refine gS (Za (i:=1) (v:=u) rfl rfl q (by rw[An];decide) KK (AbS (Y8 l)).1 (AbS (Y8 l)).2 fun ck bi ay e3=> ?_);clear q;have q:ck.heap[ad]? =some (.cells (refsC ((⟨l1,l2,[],zid,[]⟩,⟨u1,u,(AcU none 0 0)⟩):Af)).toArray 36 (0,0)):=Az bi (Hh ((⟨l1,[],[],zid,[]⟩,⟨u1,(AcU none 0 0),(AcU none 0 0)⟩):Af) u (l2));clear bi;have e4:=bl q;have g:=AbQ g ay ci;have hb:=kb ay hb (by omega);have cl:=AbR g hb (by decide);have l:=AbQ l ay cj;have cm:=AbR l hb (by decide);have c:=Ad c hgq2 (AcG (AcI _) lr);have c:=Ad c ay (AcG ax (by omega));refine gP (Zg Rj rfl ?_);refine Ao (GP _ r v b i2 hb (hr.keep c) hapr hle_i2 hl) ?_ ?_;rotate_left
 ·rintro ch e5 ⟨hPx,rfl,hgx⟩;refine Ap ?_;exact .inr ⟨_,rfl,by unfold Cx;simp only[y,aa,hPx,Ac0,AdH],rfl,Ad c hgx lr⟩
 rintro v_ e6 ⟨d3,i3,hP3,rfl,bj,az⟩;clear hb;have hb:=bj;clear bj;have hle_i3:=(txtP_le hP3).1;have e7:=bl hb;refine gS (AbM GV rfl ?_);have g:=AbQ g az cl;have q:=kb az q (by omega);have cn:=AbR g q (by decide);have l:=AbQ l az cm;have co:=AbR l q (by decide);refine gS (Za (i:=2) (v:=St (d3)) rfl rfl q (by rw[An];decide) Sz rfl rfl fun cp bk a0 e8=> ?_);clear q;have q:cp.heap[ad]? =some (.cells (refsC ((⟨l1,l2,d3,zid,[]⟩,⟨u1,u,(AcU none 0 0)⟩):Af)).toArray 36 (0,0)):=Az bk (Ll ((⟨l1,l2,[],zid,[]⟩,⟨u1,u,(AcU none 0 0)⟩):Af) d3);clear bk;have e9:=bl q;have g:=AbQ g a0 cn;have hb:=kb a0 hb (by omega);have cq:=AbR g hb (by decide);have l:=AbQ l a0 co;have cr:=AbR l hb (by decide);have c:=Ad c az (AcG (AcI _) lr);have c:=Ad c a0 (AcG ax (by omega));refine gP (Zg Rl rfl ?_);refine Ao (Jg _ r v b i3 hb (hr.keep c) hapr hle_i3 hl) ?_ ?_;rotate_left
 ·rintro ch fa ⟨hPx,rfl,hgx⟩;refine Ap ?_;exact .inr ⟨_,rfl,by unfold Cx;simp only[y,aa,hP3,hPx,Ac0,AdH],rfl,Ad c hgx lr⟩
 rintro v_ fb ⟨d4,i4,hP4,rfl,bm,a1⟩;clear hb;have hb:=bm;clear bm;have hle_i4:=Ho hP4;have fc:=bl hb;refine gS (AbM Ju rfl ?_);have g:=AbQ g a1 cq;have q:=kb a1 q (by omega);have cs:=AbR g q (by decide);have l:=AbQ l a1 cr;have ct:=AbR l q (by decide);refine gS (ZG (a:=EQ ((⟨l1,l2,d3,zid,[]⟩,⟨u1,u,(AcU none 0 0)⟩):Af)) (m:=AcH zid.1) (z:=Gc ((⟨l1,l2,d3,zid,[]⟩,⟨u1,u,(AcU none 0 0)⟩):Af)) (cells:=AcH d4.1) rfl rfl (DS ((⟨l1,l2,d3,zid,[]⟩,⟨u1,u,(AcU none 0 0)⟩):Af)▸q) (Ej ((⟨l1,l2,d3,zid,[]⟩,⟨u1,u,(AcU none 0 0)⟩):Af)) (by rw[AcS,AcS,zid.2,d4.2]) (by rw[AcS,d4.2];exact RX) (Ax _) fun cu bn a2 fd=> ?_);clear q;have q:cu.heap[ad]? =some (.cells (refsC ((⟨l1,l2,d3,d4,[]⟩,⟨u1,u,(AcU none 0 0)⟩):Af)).toArray 36 (0,0)):=Az bn (Lm ((⟨l1,l2,d3,zid,[]⟩,⟨u1,u,(AcU none 0 0)⟩):Af) d4);clear bn;have fe:=bl q;have g:=AbQ g a2 cs;have hb:=kb a2 hb (by omega);have cv:=AbR g hb (by decide);have l:=AbQ l a2 ct;have cw:=AbR l hb (by decide);have c:=Ad c a1 (AcG (AcI _) lr);have c:=Ad c a2 (AcG ax (by omega));refine gP (Aae Ri rfl rfl ?_);refine Ao (JF _ r v b i4 hb (hr.keep c) hapr hle_i4 hl 64) ?_ ?_;rotate_left
 ·rintro ch ff ⟨hPx,rfl,hgx⟩;refine Ap ?_;exact .inr ⟨_,rfl,by unfold Cx;simp only[y,aa,hP3,hP4,UE hPx,Ac0,AdH],rfl,Ad c hgx lr⟩
 rintro v_ fg ⟨n,j,hP,rfl,bo,a3⟩;clear hb;have hb:=bo;clear bo;have hle_j:=(Jh hle_i4 hP).1;have fh:=bl hb;have hnl:=(Jh hle_i4 hP).2.1;have fi:=AR (bl o) bf;have o:=eb bb o;have o:=kb hgq1 o (by omega);have o:=kb a7 o (by omega);have o:=kb hgq2 o (by omega);have o:=kb ay o (by omega);have o:=kb az o (by omega);have o:=kb a0 o (by omega);have o:=kb a1 o (by omega);have o:=kb a2 o (by omega);have o:=kb a3 o (by omega);have c:=Ad c a3 (AcG (AcI _) lr);have g:=AbQ g a3 cv;have l:=AbQ l a3 cw;have q:=kb a3 q (by omega);refine gL (fun(ρ:Aj) (wz:AcE)=>∃k:Nat,∃j0:Nat,∃lo:List A9,∃vl:AcD,ρ 0=(PQ r 0:AcD)/\ρ 2=(PQ n2 0:AcD)/\ρ 3=(PQ ad 0:AcD)/\ρ 18=(NI n:AcD)/\ρ 19=(NI k:AcD)/\Ext w0 wz/\wz.heap[n2]? =some (.cells (refsC ((⟨[],[],[],zid,[]⟩,⟨.slice none 0 0, .slice none 0 0, .slice none 0 0⟩):Af)).toArray 36 (0,0))/\OG w0.heap.size 94 33 nmdC wz u1 l1/\OG w0.heap.size 94 33 nmdC wz u l2/\wz.heap[r]? =some (.cells (BO (AU v b (j0))).toArray 216 (0,0))/\wz.heap[ad]? =some (.cells (refsC ((⟨l1,l2,d3,d4,lo⟩,⟨u1,u,vl⟩):Af)).toArray 36 (0,0))/\OG w0.heap.size 97 67 entC wz vl lo/\(k<=n)/\(j0<=b.length)/\(Cb (Cw b) k ([],j)=some (lo,j0))/\True) (fun ρ _=>n-(intOf (ρ 19)).toNat) ⟨0,j,[],(AcU none 0 0),rfl,rfl,rfl,rfl,rfl,c,o,g,l,hb,q,AbZ _ _ _ _ _,AcZ _,hle_j,rfl,trivial⟩ ?_;clear q;clear hb;clear c o g l;rintro cx fj ⟨k,j0,lo,vl,T0,T2,T3,bp,bc,c,o,g,l,hb,hbo,hol,hk,hj0,hit,-⟩;have q19:=bc;have hlg3:=(bl hbo);refine gS (Y7 (a:=(k:Nat)) (b:=(n:Nat)) bc bp (Bf _ _ _ _) ?_);refine cD rfl (fun bq=> ?_) fun bq=> ?_
 ·have hlt:k<n:=bq;have hol_:lo.length=k:=by have:=Je (f:=Cw b) (fun s t h=>Rm h) k hit;simpa using this
  refine gS (AbV Sc fun af cy bd br ag fk=> ?_);have a4:=c.size;have au:OB vl af:=B1 hol.2 (by omega);have p:=br;clear br;have fl:af<cy.heap.size:=by omega
  have fm:=AR (bl hb) bd;have hb:=eb ag hb;have g:=g.keep ag;have cz:=AbR g hb (by decide);have l:=l.keep ag;have c0:=AbR l hb (by decide);have hol:=hol.keep ag;have c1:=AbR hol hb (by decide);have c:=c.trans ag;refine gP (Zg Rn T0 ?_);refine Ao (SS _ r v b j0 hb (hr.keep c) hapr hj0 hl) ?_ ?_;rotate_left
  ·rintro ch fn ⟨hPx,rfl,hgx⟩;refine Ap ?_;exact .inr ⟨_,rfl,by unfold Cx;simp only[y,aa,hP3,hP4,IP hP hlt hit (show C7 b j0=none by unfold C7;simp only[hPx,Ac0,AdH]),Ac0,AdH],rfl,Ad c hgx lr⟩
  rintro v_ fo ⟨d5,i5,hP5,rfl,bs,ah⟩;clear hb;have hb:=bs;clear bs;have hle_i5:=UB hP5;have fp:=bl hb;refine gS (AbM Jv rfl (gS (AbM OY rfl ?_)));have g:=AbQ g ah cz;have p:=kb ah p (by omega);have c2:=AbR g p (by decide);have l:=AbQ l ah c0;have c3:=AbR l p (by decide);refine gS (Za (i:=0) (v:=B8 (d5)) rfl rfl p (by rw[C8];decide) Xu rfl rfl fun c4 bt ai fq=> ?_);clear p;have p:c4.heap[af]? =some (.cells (entC (⟨d5,[],zid,zid,[]⟩:A9)).toArray 97 (0,0)):=Az bt (Xo (⟨0,[],zid,zid,[]⟩:A9) d5);clear bt;have fr:=bl p;have g:=AbQ g ai c2;have hb:=kb ai hb (by omega);have c5:=AbR g hb (by decide);have l:=AbQ l ai c3;have c6:=AbR l hb (by decide);have hol:=AbQ hol ah c1;have hol:=AbQ hol ai au;have c7:=AbR hol hb (by decide);have c:=Ad c ah (AcG (AcI _) lr);have c:=Ad c ai (AcG a4 (by omega));refine gP (Zg Rj T0 ?_);refine Ao (GP _ r v b i5 hb (hr.keep c) hapr hle_i5 hl) ?_ ?_;rotate_left
  ·rintro ch fs ⟨hPx,rfl,hgx⟩;refine Ap ?_;exact .inr ⟨_,rfl,by unfold Cx;simp only[y,aa,hP3,hP4,IP hP hlt hit (show C7 b j0=none by unfold C7;simp only[hP5,hPx,Ac0,AdH]),Ac0,AdH],rfl,Ad c hgx lr⟩
  rintro v_ ft ⟨d6,i6,hP6,rfl,bu,aj⟩;clear hb;have hb:=bu;clear bu;have hle_i6:=(txtP_le hP6).1;have fu:=bl hb;refine gS (AbM Jv rfl (gS (AbM O2 rfl ?_)));have g:=AbQ g aj c5;have p:=kb aj p (by omega);have c8:=AbR g p (by decide);have l:=AbQ l aj c6;have c9:=AbR l p (by decide);refine gS (Za (i:=1) (v:=St (d6)) rfl rfl p (by rw[C8];decide) Sz rfl rfl fun da bv ak fv=> ?_);clear p;have p:da.heap[af]? =some (.cells (entC (⟨d5,d6,zid,zid,[]⟩:A9)).toArray 97 (0,0)):=Az bv (Xp (⟨d5,[],zid,zid,[]⟩:A9) d6);clear bv;have fw:=bl p;have g:=AbQ g ak c8;have hb:=kb ak hb (by omega);have db:=AbR g hb (by decide);have l:=AbQ l ak c9;have dc:=AbR l hb (by decide);have hol:=AbQ hol aj c7;have hol:=AbQ hol ak au;have dd:=AbR hol hb (by decide);have c:=Ad c aj (AcG (AcI _) lr);have c:=Ad c ak (AcG a4 (by omega));refine gP (Zg Rl T0 ?_);refine Ao (Jg _ r v b i6 hb (hr.keep c) hapr hle_i6 hl) ?_ ?_;rotate_left
  ·rintro ch fx ⟨hPx,rfl,hgx⟩;refine Ap ?_;exact .inr ⟨_,rfl,by unfold Cx;simp only[y,aa,hP3,hP4,IP hP hlt hit (show C7 b j0=none by unfold C7;simp only[hP5,hP6,hPx,Ac0,AdH]),Ac0,AdH],rfl,Ad c hgx lr⟩
  rintro v_ fy ⟨d7,i7,hP7,rfl,bw,al⟩;clear hb;have hb:=bw;clear bw;have hle_i7:=Ho hP7;have fz:=bl hb;refine gS (AbM Jv rfl (gS (AbM Jw rfl ?_)));have g:=AbQ g al db;have p:=kb al p (by omega);have de:=AbR g p (by decide);have l:=AbQ l al dc;have df:=AbR l p (by decide);refine gS (ZG (a:=Hc (⟨d5,d6,zid,zid,[]⟩:A9)) (m:=AcH zid.1) (z:=Km (⟨d5,d6,zid,zid,[]⟩:A9)) (cells:=AcH d7.1) rfl rfl (Ng (⟨d5,d6,zid,zid,[]⟩:A9)▸p) (RO (⟨d5,d6,zid,zid,[]⟩:A9)) (by rw[AcS,AcS,zid.2,d7.2]) (by rw[AcS,d7.2];exact RX) (Ax _) fun dg bx am f0=> ?_);clear p;have p:dg.heap[af]? =some (.cells (entC (⟨d5,d6,d7,zid,[]⟩:A9)).toArray 97 (0,0)):=Az bx (Xq (⟨d5,d6,zid,zid,[]⟩:A9) d7);clear bx;have f1:=bl p;have g:=AbQ g am de;have hb:=kb am hb (by omega);have dh:=AbR g hb (by decide);have l:=AbQ l am df;have di:=AbR l hb (by decide);have hol:=AbQ hol al dd;have hol:=AbQ hol am au;have dj:=AbR hol hb (by decide);have c:=Ad c al (AcG (AcI _) lr);have c:=Ad c am (AcG a4 (by omega));refine gP (Zg Rl T0 ?_);refine Ao (Jg _ r v b i7 hb (hr.keep c) hapr hle_i7 hl) ?_ ?_;rotate_left
  ·rintro ch f2 ⟨hPx,rfl,hgx⟩;refine Ap ?_;exact .inr ⟨_,rfl,by unfold Cx;simp only[y,aa,hP3,hP4,IP hP hlt hit (show C7 b j0=none by unfold C7;simp only[hP5,hP6,hP7,hPx,Ac0,AdH]),Ac0,AdH],rfl,Ad c hgx lr⟩
  rintro v_ f3 ⟨d8,i8,hP8,rfl,bz,an⟩;clear hb;have hb:=bz;clear bz;have hle_i8:=Ho hP8;have f4:=bl hb;refine gS (AbM Jv rfl (gS (AbM Jx rfl ?_)));have g:=AbQ g an dh;have p:=kb an p (by omega);have dk:=AbR g p (by decide);have l:=AbQ l an di;have dl:=AbR l p (by decide);refine gS (ZG (a:=Hd (⟨d5,d6,d7,zid,[]⟩:A9)) (m:=AcH zid.1) (z:=Kn (⟨d5,d6,d7,zid,[]⟩:A9)) (cells:=AcH d8.1) rfl rfl (Nh (⟨d5,d6,d7,zid,[]⟩:A9)▸p) (RP (⟨d5,d6,d7,zid,[]⟩:A9)) (by rw[AcS,AcS,zid.2,d8.2]) (by rw[AcS,d8.2];exact RX) (Ax _) fun dm b2 ao f5=> ?_);clear p;have p:dm.heap[af]? =some (.cells (entC (⟨d5,d6,d7,d8,[]⟩:A9)).toArray 97 (0,0)):=Az b2 (Xr (⟨d5,d6,d7,zid,[]⟩:A9) d8);clear b2;have f6:=bl p;have g:=AbQ g ao dk;have hb:=kb ao hb (by omega);have dn:=AbR g hb (by decide);have l:=AbQ l ao dl;have dp:=AbR l hb (by decide);have hol:=AbQ hol an dj;have hol:=AbQ hol ao au;have dq:=AbR hol hb (by decide);have c:=Ad c an (AcG (AcI _) lr);have c:=Ad c ao (AcG a4 (by omega));refine gP (Zg Rj T0 ?_);refine Ao (GP _ r v b i8 hb (hr.keep c) hapr hle_i8 hl) ?_ ?_;rotate_left
  ·rintro ch f7 ⟨hPx,rfl,hgx⟩;refine Ap ?_;exact .inr ⟨_,rfl,by unfold Cx;simp only[y,aa,hP3,hP4,IP hP hlt hit (show C7 b j0=none by unfold C7;simp only[hP5,hP6,hP7,hP8,hPx,Ac0,AdH]),Ac0,AdH],rfl,Ad c hgx lr⟩
  rintro v_ f8 ⟨d9,i9,hP9,rfl,b3,ap⟩;clear hb;have hb:=b3;clear b3;have hle_i9:=(txtP_le hP9).1;have f9:=bl hb;refine gS (AbM OZ rfl ?_);have g:=AbQ g ap dn;have p:=kb ap p (by omega);have dr:=AbR g p (by decide);have l:=AbQ l ap dp;have ds:=AbR l p (by decide);refine gS (Za (i:=66) (v:=St (d9)) rfl rfl p (by rw[C8];decide) Sz rfl rfl fun dt b4 aq ga=> ?_);clear p;have p:dt.heap[af]? =some (.cells (entC (⟨d5,d6,d7,d8,d9⟩:A9)).toArray 97 (0,0)):=Az b4 (Xs (⟨d5,d6,d7,d8,[]⟩:A9) d9);clear b4;have gb:=bl p;have gc:=AR (bl hbo) bd;have hbo:=eb ag hbo;have hbo:=kb ah hbo (by omega);have hbo:=kb ai hbo (by omega);have hbo:=kb aj hbo (by omega);have hbo:=kb ak hbo (by omega);have hbo:=kb al hbo (by omega);have hbo:=kb am hbo (by omega);have hbo:=kb an hbo (by omega);have hbo:=kb ao hbo (by omega);have hbo:=kb ap hbo (by omega);have hbo:=kb aq hbo (by omega);refine gS (AbM Jt T3 (gS (Y6 FG rfl rfl (Ac hbo (B2 ((⟨l1,l2,d3,d4,lo⟩,⟨u1,u,vl⟩):Af))) (gS (Zr TA rfl p (gS (Z1 (a:=(⟨d5,d6,d7,d8,d9⟩:A9)) (enc:=entC) (vr (.agg (entC (⟨d5,d6,d7,d8,d9⟩:A9)).toArray) rfl) (C8 _) TB fun du dv b5 ae=> ?_)))))));have gd:=AR (bl o) bd;have o:=eb ag o;have o:=kb ah o (by omega);have o:=kb ai o (by omega);have o:=kb aj o (by omega);have o:=kb ak o (by omega);have o:=kb al o (by omega);have o:=kb am o (by omega);have o:=kb an o (by omega);have o:=kb ao o (by omega);have o:=kb ap o (by omega);have o:=kb aq o (by omega);have o:=eb ae o;have hol:=AbQ hol ap dq;have hol:=AbQ hol aq au;have hol:=hol.keep ae;have g:=AbQ g aq dr;have g:=g.keep ae;have l:=AbQ l aq ds;have l:=l.keep ae;have hbo:=eb ae hbo;have hb:=kb aq hb (by omega);have hb:=eb ae hb;have dw:=AbR hol o (by decide);have dx:=Acp hol g (by decide);have dy:=Acp hol l (by decide);have dz:=AbR hol hbo (by decide);have d0:=AbR hol hb (by decide);have c:=Ad c ap (AcG (AcI _) lr);have c:=Ad c aq (AcG a4 (by omega));have c:=c.trans ae;refine gS (ZB _ _ w0.heap.size _ 104 FG wr30_ig97.choose_spec.1 wr30_ig97.choose_spec.2 FG (lo) ([(⟨d5,d6,d7,d8,d9⟩:A9)]) (ZY hol (vr vl rfl)) (Zf b5 (vr du rfl)) (fun _ _=>Gb) (by simp only[AcV,Ac1];omega) (by simp only[AcV,Ac1];omega) c.size fun a5 d1 av ac=> ?_);have ac:Grew dv d1 vl a5:=ac;have p:=eb ae p;have c:=Br c ac hol.2 (AcI _);have o:=AW o ac dw;have g:=Hl g ac dx;have l:=Hl l ac dy;have hbo:=AW hbo ac dz;have hb:=AW hb ac d0;have p:=AW p ac au;clear b5;clear hol;refine gS (AbM Jt T3 ?_);have d2:=AbR g hbo (by decide);have ea:=AbR l hbo (by decide);have ec:=AbR av hbo (by decide);refine gS (Za (i:=35) (v:=a5) rfl rfl hbo (by rw[An];decide) HQ (AbS (Y8 av)).1 (AbS (Y8 av)).2 fun ed b6 aw ge=> ?_);clear hbo;have hbo:ed.heap[ad]? =some (.cells (refsC ((⟨l1,l2,d3,d4,(lo)++ [(⟨d5,d6,d7,d8,d9⟩:A9)]⟩,⟨u1,u,a5⟩):Af)).toArray 36 (0,0)):=Az b6 (Gd ((⟨l1,l2,d3,d4,lo⟩,⟨u1,u,vl⟩):Af) a5 ((lo)++ [(⟨d5,d6,d7,d8,d9⟩:A9)]));clear b6;have gf:=bl hbo;have c:=Ad c aw (AcG ax (by omega));have o:=kb aw o (by omega);have g:=AbQ g aw d2;have l:=AbQ l aw ea;have hb:=kb aw hb (by omega);have av:=AbQ av aw ec;refine gS (Ze (xv:=NI k) (yv:=NI 1) bc rfl rfl (AD _ _ _ (by omega)) (gK (AdF ⟨k+1,i9,lo++ [⟨d5,d6,d7,d8,d9⟩],a5,T0,T2,T3,bp,rfl,c,o,g,l,hb,hbo,av,by omega,hle_i9,Wx hit (show C7 b j0=some (⟨d5,d6,d7,d8,d9⟩,i9) by unfold C7;simp only[hP5,hP6,hP7,hP8,hP9,Ac0]),trivial⟩ ?_)));show n-(intOf (NI ((k)+(1)))).toNat<n-(intOf (cx 19)).toNat;rw[q19];simp only[intOf,Ac8];omega
 have hkn:k=n:=by omega
 have hN:Hp b i4=some (lo,j0):=(NR hP).trans (hkn▸hit);have hMl:E7 (⟨l1,l2,d3,d4,lo⟩:Ar):=UF y aa hP3 hN;by_cases hj:j0=b.length
 ·refine gM0 [0,1,2,3,4,5,6,7,8,9,10,11,12,13,14] [12,14] [] fun gg ar=> ?_;have c:=c.trans ar;have g:=g.keep ar;have l:=l.keep ar;have hb:=eb ar hb;have hbo:=eb ar hbo;have hol:=hol.keep ar;refine ys (AbO T0 zz) (ys (AbM AT rfl zz) (ys (Y6 Nw rfl rfl (Ac hb (BT (AU v b (j0)))) zz) (ys (AbO T0 zz) (ys (AbM BB rfl zz) (ys (Y6 G8 rfl rfl (Ac hb (Ce (AU v b (j0)))) zz) (ys (Zw G8 (Zx (hr.keep c) rfl) zz) (ys (Y7 (a:=(j0:Nat)) (b:=(b.length:Nat)) rfl rfl (AK _ _ _ _) zz) (kT (hj) (ys (Zr I3 T3 hbo zz) (yC (Y9 SH rfl ((HK _ ((⟨l1,l2,d3,d4,lo⟩,⟨u1,u,vl⟩):Af) ⟨Y8 g,Y8 l,Y8 hol⟩ hMl).mono ?_))))))))))));rintro e gh ⟨rfl,a8⟩;refine⟨_,rfl,?_⟩;refine ys (Zy rfl rfl zz) (Px (Zg Cg rfl ?_));refine Ao (B5 _ (AA ((⟨l1,l2,d3,d4,lo⟩,⟨u1,u,vl⟩):Af).1)) ?_ ?_;rotate_left
  ·have hb:=eb a8 hb;rintro ch gi ⟨rfl,hb,hx⟩;refine Ap ?_;have c:=c.trans a8;exact .inr ⟨_,rfl,by unfold Cx;simp only[y,aa,hP3,hP4,hN,Ac0];exact if_neg fun h=>Bool.noConfusion (h.2.symm.trans hb),rfl,c.trans hx⟩
  rintro v_ gj ⟨rfl,ee,b7⟩;have hZ1:=a8.trans b7;have hbo:=eb hZ1 hbo;refine gS (Zr I3 T3 hbo ?_);have o:=eb ((ar.trans a8).trans b7) o;have g:=g.keep hZ1;have ef:=AbR g o (by decide);have l:=l.keep hZ1;have eg:=AbR l o (by decide);have hol:=hol.keep hZ1;have eh:=AbR hol o (by decide);refine gS (Zj I3 T2 (vr (.agg (refsC ((⟨l1,l2,d3,d4,lo⟩,⟨u1,u,vl⟩):Af)).toArray) rfl) o (Ba (AbS (Y8 g)).2 (AbS (Y8 l)).2 (AbS (Y8 hol)).2) fun ei b8 a9 gk=> ?_);clear o;have o:ei.heap[n2]? =some (.cells (refsC ((⟨l1,l2,d3,d4,lo⟩,⟨u1,u,vl⟩):Af)).toArray 36 (0,0)):=b8;clear b8;have gl:=bl o;refine Ig rfl (Ab0 T2 o (L0).choose_spec rfl (AO (An _) KI)) ?_;have c:=c.trans hZ1;have c:=Ad c a9 (AcG cc (by omega));have g:=AbQ g a9 ef;have l:=AbQ l a9 eg;have hol:=AbQ hol a9 eh;exact .inl ⟨_,rfl,((⟨l1,l2,d3,d4,lo⟩,⟨u1,u,vl⟩):Af),by unfold Cx;simp only[y,aa,hP3,hP4,hN,Ac0];exact if_pos ⟨hj,ee⟩,rfl,⟨g,l,hol⟩,c⟩
 refine gM0 [0,1,2,3,4,5,6,7,8,9,10,11,12,13,14] [12,14] [] fun gm b9=> ?_;have c:=c.trans b9;have hb:=eb b9 hb;refine ys (AbO T0 zz) (ys (AbM AT rfl zz) (ys (Y6 Nw rfl rfl (Ac hb (BT (AU v b (j0)))) zz) (ys (AbO T0 zz) (ys (AbM BB rfl zz) (ys (Y6 G8 rfl rfl (Ac hb (Ce (AU v b (j0)))) zz) (ys (Zw G8 (Zx (hr.keep c) rfl) zz) (ys (Y7 (a:=(j0:Nat)) (b:=(b.length:Nat)) rfl rfl (AK _ _ _ _) zz) (kF (hj) (ys (Zo rfl rfl zz) (Px (Zg Cg rfl ?_)))))))))));refine Ao (B5 _ (false)) ?_ ?_;rotate_left
 ·rintro ch gn ⟨rfl,hb,hx⟩;refine Ap ?_;exact .inr ⟨_,rfl,by unfold Cx;simp only[y,aa,hP3,hP4,hN,Ac0];exact if_neg fun h=>hj h.1,rfl,c.trans hx⟩
 rintro v_ go ⟨rfl,ej,gp⟩;cases ej
structure FitsD (n : Nat) (D : List Deferred) (ρ : Aj) (a : Act) : Prop where
 size:a.tmps.size=n
 defers:a.defers=D
 get:∀t,a.tmps.getD t undef=ρ t
theorem FitsD.fits{n:Nat}{D:List Deferred}{ρ:Aj}{a:Act}(h:FitsD n D ρ a):Fits n ρ { a with defers:= [] } :=⟨h.size,rfl,h.get⟩
theorem AaS{n:Nat}{ρ:Aj}{a:Act}(h:Fits n ρ a):FitsD n [] ρ a:=⟨h.size,h.defers,h.get⟩
theorem FitsD.toFits{n:Nat}{ρ:Aj}{a:Act}(h:FitsD n [] ρ a):Fits n ρ a:=⟨h.size,h.defers,h.get⟩
theorem FitsD.eval{n:Nat}{D:List Deferred}{ρ:Aj}{a:Act}(h:FitsD n D ρ a):a.eval=Ab ρ:=by
 funext x
 cases x with
 | tmp t=>exact h.get t
 | _=>rfl
theorem FitsD.put{n:Nat}{D:List Deferred}{ρ:Aj}{a:Act}(h:FitsD n D ρ a)(d:Option Tmp)(hd:∀t,d=some t->t<n)(v:AcD):FitsD n D (updO ρ d v) (a.put d v):=by
 have hf:=h.fits.put d hd v;cases d with
 | none=>exact h
 | some d=>exact⟨hf.size,h.defers,hf.get⟩
def Mz(P:AcY)(n:Nat)(D:List Deferred)(c:Code)(QQ:Exit->Act->AcE->Prop)(ρ:Aj)(w:AcE):Prop:=∀a,FitsD n D ρ a->c.wp P QQ a w
def I4(P:AcY)(ops:Array Oper)(n:Nat)(D:List Deferred)(QQ:Exit->Act->AcE->Prop)(l:List Oper)(ρ:Aj)(w:AcE):Prop:=∀a,FitsD n D ρ a->wpList P ops QQ l a w
section
variable {P : AcY} {n : Nat} {D : List Deferred} {QQ : Exit -> Act -> AcE -> Prop} {ρ : Aj} {w : AcE}
theorem MA{x y:Code}(QR:Bd)(hq:∀e ρ a w,e ≠ .normal->Fits n ρ a->QR e ρ w->QQ e a w)(h:∀K:Aj->AcE->Prop,(∀ρ w,Mz P n [] y QQ ρ w->K ρ w)->B9 P n x (Ei K QR) ρ w):Mz P n [] (.seq x y) QQ ρ w:=fun a ha=>
 wp_seq (wp_mono (h (fun ρ w=>Mz P n [] y QQ ρ w) (fun _ _ h=>h) a ha.toFits) fun e a' w' ⟨ρ',hf,hQ⟩=>by
  cases e with
  | normal=>exact hQ a' (AaS hf)
  | exit _=>exact hq _ ρ' a' w' (by simp) hf hQ
  | goto _=>exact hq _ ρ' a' w' (by simp) hf hQ
  | ret=>exact hq _ ρ' a' w' (by simp) hf hQ
  | panic _=>exact hq _ ρ' a' w' (by simp) hf hQ
  | outgrown=>exact hq _ ρ' a' w' (by simp) hf hQ)
theorem GD{id:Nat}{l:List Oper}{y:Code}(h:I4 P l.toArray n D (Exit.then (y.wp P QQ) QQ) l ρ w):Mz P n D (.seq (.region id l.toArray false) y) QQ ρ w:=fun a ha=>wp_seq (wp_region_lit (h a ha))
theorem W0(h:∀a,FitsD n D ρ a->QQ .ret a w):Mz P n D .ret QQ ρ w:=fun a ha=>wp_ret (h a ha)
theorem J9{ops:Array Oper}{y:Code}(I:Aj->Prop)(hI:I ρ)(h:∀ρ',I ρ' ->Mz P n D y QQ ρ' w):I4 P ops n D (Exit.then (y.wp P QQ) QQ) [] ρ w:=fun a ha=>h ρ hI a ha
theorem Lc{ops:Array Oper}{rest:List Oper}{dst:Option Tmp}{op:Op}{ty:AcK}{pos:String}{af:Array Edge}(hd:(match dst with | some d=>Aeh d n | none=>true)=true) 
  (h:Yp P (fun v w' =>I4 P ops n D QQ rest (updO ρ dst v) w') (fun ch w' =>∀a,FitsD n D ρ a->QQ (.panic ch) a w') ((execOp (Ab ρ) ⟨dst,op,ty,pos,af,none⟩).run P w)):I4 P ops n D QQ (⟨dst,op,ty,pos,af,none⟩ :: rest) ρ w:=by
 intro a ha;have hdn:∀t,dst=some t->t<n:=fun t ht=>by subst ht;exact AcP hd
 refine wpList_plain rfl fun K hK=> ?_;unfold Oper.wp Oper.upon;rw[ha.eval];have hput:=fun v=>ha.put dst hdn v
 revert h
 generalize (execOp (Ab ρ) ⟨dst,op,ty,pos,af,none⟩).run P w=r
 intro h
 match r,h with
 | .ok (.value v) w',h=>exact hK _ _ (h _ (hput v))
 | .ok .skip w',h=>exact hK _ _ (h _ (hput undef))
 | .halt (.panic v) w',h=>exact h a ha
 | .ok (.enter f args) w',h=>
  refine Calls.mono h ?_;intro e w'' hx
  match e,hx with
  | .returned v,hx=>exact hK _ _ (hx _ (hput v))
  | .panicked ch,hx=>exact hx a ha
theorem Eg{ops:Array Oper}{rest:List Oper}{dst:Option Tmp}{op:Op}{ty:AcK}{pos:String}{af:Array Edge}(hd:(match dst with | some d=>Aeh d n | none=>true)=true) 
  (h:Yk P (fun v w' =>I4 P ops n D QQ rest (updO ρ dst v) w') ((execOp (Ab ρ) ⟨dst,op,ty,pos,af,none⟩).run P w)):I4 P ops n D QQ (⟨dst,op,ty,pos,af,none⟩ :: rest) ρ w:=
 Lc hd (Yp.ofK h)
theorem Ld{ops:Array Oper}{rest:List Oper}{x:AcO}{ty:AcK}{pos:String}{af:Array Edge}{fv:Fn}{first cap:Array AcD}(hx:Ab ρ x = .func fv first cap) 
  (hr:(execOp (Ab ρ) ⟨none, .defer ⟨.value x,#[],#[]⟩,ty,pos,af,none⟩).run P w = .ok (.defer ⟨.fn fv cap,first⟩) w)
  (h:I4 P ops n (⟨.fn fv cap,first⟩ :: D) QQ rest ρ w):I4 P ops n D QQ (⟨none, .defer ⟨.value x,#[],#[]⟩,ty,pos,af,none⟩ :: rest) ρ w:=by
 intro a ha;refine wpList_plain rfl fun K hK=> ?_;unfold Oper.wp Oper.upon;rw[ha.eval,hr];refine hK _ _ (h _ ⟨ha.size,?_,ha.get⟩);show _ :: a.defers=_;rw[ha.defers]
theorem JO{fn:Func}{R:Ending->AcE->Prop}:∀e ρ a w,e ≠ .normal->Fits n ρ a->Dc P fn R e ρ w->bodyPostD P fn R e a w:=fun e ρ a w he ha h=>by
 cases e with
 | normal=>exact absurd rfl he
 | ret=>
  show Leaves P fn a.tmps R a.defers .returning w;rw[ha.defers];exact h a.tmps ha.get
 | panic ch=>
  show Leaves P fn a.tmps R a.defers (.panicking ch) w;rw[ha.defers];exact h
 | exit _=>exact h.elim
 | goto _=>exact h.elim
 | outgrown=>exact h.elim
theorem I5{f:FuncId}{fn:Func}{c:Code}{args:List AcD}{R:Ending->AcE->Prop}(hf:P.funcs[f]? =some fn)(hb:fn.body=some c)(m:Nat)(hm:fn.ntmps=m)(hn:args.length<=m) 
  (h:∀ρ,Begun args ρ->Mz P m [] c (bodyPostD P fn R) ρ w):Calls P f args.toArray w R:=by
 subst hm;refine calls_of_wp_defers hf hb ?_;have hget:∀t,(args.toArray++Aeo (fn.ntmps-args.toArray.size) undef).getD t undef=args.getD t undef:=fun t=>by
  simp only[Adk,AcL,Af5,Adi,Ads];by_cases ht:t<args.length
  ·rw[if_pos ht]
  ·rw[if_neg ht,Ad8 (by omega),Aex];split <;> rfl
 refine h (fun t=>args.getD t undef) ⟨fun _=>rfl⟩ _ ⟨?_,rfl,hget⟩;simp;omega
end
section
variable {P : AcY} {n : Nat}
theorem TD{c:Code}{QF:Bd}{Q:Exit->Act->AcE->Prop}{ρ:Aj}{a:Act}{w:AcE}(h:B9 P n c QF ρ w)(ha:Fits n ρ a)(hq:∀e ρ' a' w',Fits n ρ' a' ->QF e ρ' w' ->Q e a' w'):c.wp P Q a w:=
 wp_mono (h a ha) fun e a' w' ⟨ρ',hf,hQ⟩=>hq e ρ' a' w' hf hQ
def A5:FrameMode->AcD × FrameMode
 | .panicking ({ v,recovered:=false,goexit:=false } :: older)=>(v, .panicking ({ v,recovered:=true } :: older))
 | u=>(.nilIface,u)
theorem Ph(c₀:Frame)(cs:List Frame)(u:FrameMode)(hu:c₀.mode=u)(K:AcD->List Frame->Prop)(h:K (A5 u).1 ({ c₀ with mode:=(A5 u).2 } :: cs)):
  match recoverD (c₀ :: cs)with
  | some (v,cs')=>K v cs'
  | none=>K .nilIface (c₀ :: cs):=by
 subst hu;obtain⟨cf,ct,ctodo,cd,cm,ck,cr⟩:=c₀
 match cm,h with
 | .run,h=>exact h
 | .returning,h=>exact h
 | .panicking [],h=>exact h
 | .panicking ({ v,recovered:=true,goexit:=g } :: older),h=>exact h
 | .panicking ({ v,recovered:=false,goexit:=true } :: older),h=>exact h
 | .panicking ({ v,recovered:=false,goexit:=false } :: older),h=>exact h
theorem Ep{f:FuncId}{fn:Func}{c:Code}{args:List AcD}{u:FrameMode}{w:AcE}{R:Ending->AcE->Prop}{id:Nat}{d0 d1:Tmp}{ty0 ty1:AcK}{p0 p1:String}{af0 af1:Array Edge} 
  (hf:P.funcs[f]? =some fn) (hb:fn.body=some (.seq (.region id #[⟨some d0, .call ⟨.builtin .recover,#[],#[]⟩,ty0,p0,af0,none⟩,⟨some d1, .assign (.tmp d0),ty1,p1,af1,none⟩] false) c)) (m:Nat) (hm:fn.ntmps=m) (hn:args.length<=m) (h0:Aeh d0 m=true) (h1:Aeh d1 m=true)
  (h:∀b,Begun args b->B9 P m c (Dc P fn R) (updO (updO b (some d0) (A5 u).1) (some d1) (A5 u).1) w):
  CallsD P f args.toArray u w fun e u' w' =>u' =(A5 u).2/\R e w' :=by
 subst hm;refine callsD_of_wpS hf hb fun c₀ cs hu=> ?_;have hget:∀t,(args.toArray++Aeo (fn.ntmps-args.toArray.size) undef).getD t undef=args.getD t undef:=fun t=>by
  simp only[Adk,AcL,Af5,Adi,Ads];by_cases ht:t<args.length
  ·rw[if_pos ht]
  ·rw[if_neg ht,Ad8 (by omega),Aex];split <;> rfl
 have hF:Fits fn.ntmps (fun t=>args.getD t undef) { tmps:=args.toArray++Aeo (fn.ntmps-args.toArray.size) undef,defers:= [] } :=⟨by simp;omega,rfl,hget⟩
 generalize ({ tmps:=args.toArray++Aeo (fn.ntmps-args.toArray.size) undef,defers:= [] } :Act)=a at hF ⊢
 have hd0:∀t,some d0=some t->t<fn.ntmps:=fun t ht=>by cases ht;exact AcP h0
 have hd1:∀t,some d1=some t->t<fn.ntmps:=fun t ht=>by cases ht;exact AcP h1
 have hF1:=hF.put (some d0) hd0 (A5 u).1;have hF2:=hF1.put (some d1) hd1 (A5 u).1
 apply wpS_seq
 apply wpS_region
 have g:(execOp a.eval (⟨some d0, .call ⟨.builtin .recover,#[],#[]⟩,ty0,p0,af0,none⟩:Oper)).run P w = .ok .recover w:=by
  simp[go_sem]
 have hkey:∀(v:AcD) (cs' :List Frame),v=(A5 u).1->cs' = { c₀ with mode:=(A5 u).2 } :: cs->wpOpsS P #[⟨some d0, .call ⟨.builtin .recover,#[],#[]⟩,ty0,p0,af0,none⟩,⟨some d1, .assign (.tmp d0),ty1,p1,af1,none⟩] (Exit.thenS (c.wpS P (bodyPostS P fn c₀ cs fun e u' w' =>u' =(A5 u).2/\R e w')) (bodyPostS P fn c₀ cs fun e u' w' =>u' =(A5 u).2/\R e w')) [1] (a.put (some d0) v) cs' w:=by
  rintro v cs' rfl rfl;have hv:(a.put (some d0) (A5 u).1).eval (.tmp d0)=(A5 u).1:=by
   rw[hF1.eval];show(bif Nat.beq d0 d0 then _ else _)=_;rw[Nat.beq_refl];rfl
  have i:(execOp (a.put (some d0) (A5 u).1).eval (⟨some d1, .assign (.tmp d0),ty1,p1,af1,none⟩:Oper)).run P w = .ok (.value (A5 u).1) w:=by
   simp[execOp,hv]
  simp only[wpOpsS,Ads,List.getElem?_cons_succ,Afk,Region.wanted,i,Oper.upon,if_true];refine wpS_of_wp (TD (h _ ⟨fun _=>rfl⟩) hF2 fun e ρ' a' w' hf' hQ=> ?_);cases e with
  | normal=>obtain⟨v,hv,hR⟩:=hQ a'.tmps hf'.get;exact⟨hf'.defers,_,rfl,v,hv,rfl,hR⟩
  | ret=>obtain⟨v,hv,hR⟩:=hQ a'.tmps hf'.get;exact⟨hf'.defers,_,rfl,v,hv,rfl,hR⟩
  | panic ch=>exact⟨hf'.defers,_,rfl,rfl,hQ⟩
  | exit _=>exact hQ.elim
  | goto _=>exact hQ.elim
  | outgrown=>exact hQ.elim
 show wpOpsS P _ _ [0,1] a (c₀ :: cs) w;unfold wpOpsS;simp only[Ads,Afk,Region.wanted,if_true,g];exact Ph c₀ cs u hu (fun v cs' =>wpOpsS P _ _ [1] (a.put (some d0) v) cs' w) (hkey _ _ rfl rfl)
end
section
variable {P : AcY} {K : AcD -> AcE -> Prop} {ρ : Aj} {w : AcE} {d : Option Tmp} {ty : AcK} {pos : String} {af : Array Edge} {gd : Option (Nat × Bool)} {t ty2 : AcK}
theorem Aal{x:AcO}{u:AcK}{v:AcD}{fs}(hu:P.underlying u=some (.struct fs))(hx:Ab ρ x = .iface u v)(hk:K (.tuple #[v, .bool true]) w):Yk P K ((execOp (Ab ρ) ⟨d, .typeAssert x t u true,ty,pos,af,gd⟩).run P w):=by
 refine AbU (v:= .tuple #[v, .bool true]) (w' :=w) ?_ hk;unfold execOp;simp[Instr.typeAssert,hx,run_underlying hu,Adw]
theorem Aau{x:AcO}(he:(Op.equal t .nilIface .nilIface).run P w = .ok true w)(hx:Ab ρ x = .nilIface)(hk:K (.bool false) w):Yk P K ((execOp (Ab ρ) ⟨d, .binOp .neq t x (.const .nilIface) ty2,ty,pos,af,gd⟩).run P w):=by
 have hy:Ab ρ (.const .nilIface) = .nilIface:=rfl;refine AbU (v:= .bool false) (w' :=w) ?_ hk;unfold execOp;simp only[hx,hy];simp[eqGuard,Go.binOp,he,Adw]
theorem Aav{x:AcO}{u:AcK}{v:AcD}(he:(Op.equal t (.iface u v) .nilIface).run P w = .ok false w)(hx:Ab ρ x = .iface u v)(hk:K (.bool true) w):Yk P K ((execOp (Ab ρ) ⟨d, .binOp .neq t x (.const .nilIface) ty2,ty,pos,af,gd⟩).run P w):=by
 have hy:Ab ρ (.const .nilIface) = .nilIface:=rfl;refine AbU (v:= .bool true) (w' :=w) ?_ hk;unfold execOp;simp only[hx,hy];simp[eqGuard,Go.binOp,he,Adw]
theorem PT{x:AcO}{fv:Fn}{first cap:Array AcD}(hx:Ab ρ x = .func fv first cap):(execOp (Ab ρ) ⟨none, .defer ⟨.value x,#[],#[]⟩,ty,pos,af,none⟩).run P w = .ok (.defer ⟨.fn fv cap,first⟩) w:=by
 unfold execOp;simp[resolve,hx,Deferred.ofValue]
theorem ZN{p:Tmp}{ty:AcK}{g:Nat}{t:AcK}{v:AcD}{fr:Nat × Nat}{d:TypeDesc}(hp:ρ p = .pointer (some ⟨g,0,none⟩))(hg:w.heap[g]? =some (.cells ([v]).toArray t fr)) 
  (hu:P.underlying ty=some d) (hd:(match d with | .struct _ | .array _ _=>false | _=>true)=true):ResF P ρ w (.cell p ty) v:=by
 refine⟨_,hp,?_⟩;have hc:w.cell? ⟨g,0,none⟩=some v:=Ac hg rfl;have hagg:(isAgg ty).run P w = .ok false w:=by
  unfold isAgg;cases d <;> first | (simp at hd;done) | simp[run_underlying hu,Adw]
 simp[loadVar,hagg,hc]
theorem Fe{fn:Func}{tmps:Array AcD}{R:Ending->AcE->Prop}(rs:List ResultVar)(hrs:fn.results=rs.toArray)(vs:List AcD)(v:AcD)(hv:Iq vs=v)(ht:∀t,tmps.getD t undef=ρ t)(h:G6 P ρ w rs vs)(hR:R (.returned v) w):Leaves P fn tmps R [] .returning w:=
 ⟨_,Hy hrs ht h,by rw[hv];exact hR⟩
end
set_option maxHeartbeats 1600000
theorem W1(w:AcE):(Op.equal 20 .nilIface .nilIface).run AcF w = .ok true w:=by kernel_rfl
theorem Vr(u:AcK)(v:AcD)(w:AcE):(Op.equal 20 (.iface u v) .nilIface).run AcF w = .ok false w:=by kernel_rfl
theorem Ro{d:Option Tmp}{ty:AcK}{pos:String}{af:Array Edge}{gd:Option (Nat × Bool)}(σ:AcO->AcD)(w:AcE):(execOp σ ⟨d, .alloc 212,ty,pos,af,gd⟩).run AcF w = .ok (.value (PQ w.heap.size 0)) (w.alloc (.cells (([]:List AcD)).toArray 212)):=by kernel_rfl
theorem Rp:(Tryz.prog.info? 28).map (·.size)=some 1:=by kernel_rfl
theorem MY(b2 b3:Nat)(w:AcE):CallsD AcF 149 #[PQ b2 0,PQ b3 0] (.returning) w fun e u' w' =>u' =(A5 (.returning)).2/\(e = .returned (.tuple #[])/\Ext w w'):=by
 have hE:=AbN w;refine Ep (u:= .returning) (args:= [PQ b2 0,PQ b3 0]) Tryz.func149 rfl 17 rfl (AcP rfl) rfl rfl (R:=fun e w' =>e = .returned (.tuple #[])/\Ext w w') ?_;intro ρz hb;have a:(updO (updO ρz (some 5) (A5 (.returning)).1) (some 2) (A5 (.returning)).1) 0=(PQ b2 0:AcD):=hb.get 0;have T1:(updO (updO ρz (some 5) (A5 (.returning)).1) (some 2) (A5 (.returning)).1) 1=(PQ b3 0:AcD):=hb.get 1;have T2:(updO (updO ρz (some 5) (A5 (.returning)).1) (some 2) (A5 (.returning)).1) 2=(.nilIface:AcD):=rfl
 generalize updO (updO ρz (some 5) (A5 (.returning)).1) (some 2) (A5 (.returning)).1=c at a T1 T2 ⊢
 clear hb;refine sk fun f b=>(wt (oM rfl (oS rfl (Aau (W1 _) T2 (oZ (tN (b _ _ (DZ (vr (.bool (false)) rfl) (Gk (GJ (fn:=Tryz.f149) [] rfl [] (.tuple #[]) rfl trivial ?_))))))))));exact⟨rfl,hE⟩
theorem MZ(w0:AcE)(b2 b3:Nat)(X2:Af)(p:AcD)(w:AcE)(h0:Ext w0 w)(l2:w0.heap.size<=b2)(l3:w0.heap.size<=b3)(hne:b2≠b3)(h2:w.heap[b2]? =some (.cells (refsC X2).toArray 36 (0,0)))(h3:w.heap[b3]? =some (.cells ([p]).toArray 28 (0,0))):CallsD AcF 149 #[PQ b2 0,PQ b3 0] (.panicking [C4]) w fun e u' w' =>u' =(A5 (.panicking [C4])).2/\(e = .returned (.tuple #[])/\w'.heap[b2]? =some (.cells (refsC ((⟨[],[],[],zid,[]⟩,⟨.slice none 0 0, .slice none 0 0, .slice none 0 0⟩):Af)).toArray 36 (0,0))/\w'.heap[b3]? =some (.cells ([NI 6]).toArray 28 (0,0))/\Ext w0 w'):=by
 have hl2_:=(bl h2);have hl3_:=(bl h3);refine Ep (u:= .panicking [C4]) (args:= [PQ b2 0,PQ b3 0]) Tryz.func149 rfl 17 rfl (AcP rfl) rfl rfl (R:=fun e w' =>e = .returned (.tuple #[])/\w'.heap[b2]? =some (.cells (refsC ((⟨[],[],[],zid,[]⟩,⟨.slice none 0 0, .slice none 0 0, .slice none 0 0⟩):Af)).toArray 36 (0,0))/\w'.heap[b3]? =some (.cells ([NI 6]).toArray 28 (0,0))/\Ext w0 w') ?_;intro ρz hb;have h:(updO (updO ρz (some 5) (A5 (.panicking [C4])).1) (some 2) (A5 (.panicking [C4])).1) 0=(PQ b2 0:AcD):=hb.get 0;have T1:(updO (updO ρz (some 5) (A5 (.panicking [C4])).1) (some 2) (A5 (.panicking [C4])).1) 1=(PQ b3 0:AcD):=hb.get 1;have T2:(updO (updO ρz (some 5) (A5 (.panicking [C4])).1) (some 2) (A5 (.panicking [C4])).1) 2=((.iface 212 (.agg #[])):AcD):=rfl
 generalize updO (updO ρz (some 5) (A5 (.panicking [C4])).1) (some 2) (A5 (.panicking [C4])).1=aa at h T1 T2 ⊢
 clear hb;refine sk fun K1 q=>(wt (oM rfl (oS rfl (Aav (Vr _ _ _) T2 (oZ (tN (q _ _ (Gl (vr (.bool (true)) rfl) (sk fun K2 r=>(sk fun K3 s=>(wt (oM rfl (oS rfl (Aal (QK).choose_spec T2 (oM rfl (oS rfl (AbP (vs:= [.agg (([]:List AcD)).toArray, .bool (true)]) (vr (.tuple #[.agg (([]:List AcD)).toArray, .bool (true)]) rfl) (show _=some (.agg (([]:List AcD)).toArray:AcD)from rfl) (oS rfl (AbP (vs:= [.agg (([]:List AcD)).toArray, .bool (true)]) (vr (.tuple #[.agg (([]:List AcD)).toArray, .bool (true)]) rfl) (show _=some (.bool (true):AcD)from rfl) (oS rfl (AbV Ro fun j t k l b ae=> ?_)))))))))))))))))))));have x:=h0.size;have af:=AR (bl h2) k;have ag:=AR (bl h3) k;have h0:=h0.trans b;have h2:=eb b h2;have h3:=eb b h3;have a:=l;clear l;have ah:j<t.heap.size:=by omega
 refine oS rfl (Zl (vr (PQ j 0) rfl) (vr (.agg (([]:List AcD)).toArray) rfl) a (rfl) ((show(Tryz.prog.info? 212).map (·.size)=some 0 from by kernel_rfl)) ((by intro u hu;cases hu)) fun ai m c aj=> ?_);have h0:=Ad h0 c (AcG x (by omega));have h2:=kb c h2 (by omega);have h3:=kb c h3 (by omega);clear a;have a:=m;clear m;have ak:=bl a;refine oA rfl (oZ (tN (s _ _ (sk fun al y=>(wt (oM rfl (oS rfl (Zn (vr (.bool (true)) rfl) (oZ (tN (y _ _ (DZ (vr (.bool (false)) rfl) (Gk (tN (r _ _ (wt (oS rfl (Ace (v:= .agg (refsC ((⟨[],[],[],zid,[]⟩,⟨.slice none 0 0, .slice none 0 0, .slice none 0 0⟩):Af)).toArray) (by kernel_rfl) (oS rfl (Zl h (vr (.agg (refsC ((⟨[],[],[],zid,[]⟩,⟨.slice none 0 0, .slice none 0 0, .slice none 0 0⟩):Af)).toArray) rfl) h2 (by simp only[Adi,An]) (AO (An _) KI) (Ba rfl rfl rfl) fun z n f am=> ?_))))))))))))))))))));have h0:=Ad h0 f (AcG (AcI _) (by omega));have h3:=kb f h3 (by omega);have a:=kb f a (by omega);clear h2;have h2:z.heap[b2]? =some (.cells (refsC ((⟨[],[],[],zid,[]⟩,⟨.slice none 0 0, .slice none 0 0, .slice none 0 0⟩):Af)).toArray 36 (0,0)):=n;clear n;have an:=bl h2;refine oS rfl (Za (i:=0) (v:=NI 6) T1 (vr (NI 6) rfl) h3 (AcP rfl) Rp rfl rfl fun ao o g ap=> ?_);have h0:=Ad h0 g (AcG (AcI _) (by omega));have a:=kb g a (by omega);have h2:=kb g h2 (by omega);clear h3;have h3:=o;clear o;have aq:=bl h3;refine oZ (GJ (fn:=Tryz.f149) [] rfl [] (.tuple #[]) rfl trivial ?_);exact⟨rfl,h2,h3,h0⟩
theorem OG.setE{α:Type}{n k g:Nat}{t:AcK}{enc:α->List AcD}{w w' :AcE}{v:AcD}{l:List α}(h:OG n t k enc w v l)(hg:w.grownBy w' (some g))(hl:g<n):OG n t k enc w' v l:=
 h.kept hg fun e=>by have:=(h.2.lt g e).1;omega
theorem RefsOw.set{w w' :AcE}{X:Af}{n g:Nat}(h:RefsOw n w X)(hg:w.grownBy w' (some g))(hl:g<n):RefsOw n w' X:=⟨h.br.setE hg hl,h.tg.setE hg hl,h.lg.setE hg hl⟩
theorem Aa0{w:AcE}{X:Af}{n:Nat}(h:RefsOw n w X):RefsAt w X:=⟨Y8 h.br,Y8 h.tg,Y8 h.lg⟩
def W2(w:AcE)(X:Af)(c:Nat):Option Ar->Prop
 | some m=>c=0/\X.1=m/\RefsAt w X/\RefsOw 0 w X
 | none=>c=6/\X=((⟨[],[],[],zid,[]⟩,⟨.slice none 0 0, .slice none 0 0, .slice none 0 0⟩):Af)
theorem TE{d:Option Tmp}{ty:AcK}{pos:String}{af:Array Edge}{gd:Option (Nat × Bool)}(σ:AcO->AcD)(w:AcE):(execOp σ ⟨d, .alloc 28,ty,pos,af,gd⟩).run AcF w = .ok (.value (PQ w.heap.size 0)) (w.alloc (.cells ([NI 0]).toArray 28)):=by kernel_rfl
theorem M0{z0:AcD}(h0:∃ao n c,z0 = .slice ao n c)(w:AcE):(AdI 216 #[(0,z0)]).run AcF w = .ok (.agg #[z0, .int .i64 0]) w:=by obtain⟨_,_,_,rfl⟩:=h0;kernel_rfl
theorem Oh{z0:AcD}(h0:∃ao n c,z0 = .slice ao n c)(w:AcE):(AdI 216 #[(0,z0)]).run AcF w = .ok (.agg (z0 :: (.int .i64 (0) :: ([]))).toArray) w:=by
 exact M0 h0 w
theorem Rq:Plain AcF 150:=fun _ _=>by kernel_rfl
theorem MB:Tryz.prog.underlying 28=some (.int .i64):=by kernel_rfl
theorem Pi(w:AcE)(v:AcD)(b:Bs)(hr:RB w v b)(hl:b.length<=4611686018427387904):
  Calls AcF 123 #[v] w fun e w' =>∃x,e = .returned x/\∃X c,x = .tuple #[.agg (refsC X).toArray,NI c]/\W2 w' X c (Cx b)/\Ext w w' :=by
 refine I5 (args:= [v]) Tryz.func123 rfl 9 rfl (AcP rfl) ?_;intro ah hb;have k:ah 0=(v:AcD):=hb.get 0;clear hb;have hE:=AbN w;refine MA _ JO fun K1 ai=>(wt (oS rfl (AbV Sv fun a p ar t aj au=> ?_)));have hE:=hE.trans aj;have l:=t;clear t;have av:a<p.heap.size:=by omega
 refine oS rfl (AbV TE fun g m ak u y aw=> ?_);have al:=hE.size;have ax:=AR (bl l) ak;have hE:=hE.trans y;have l:=eb y l;have n:=u;clear u;have ay:g<m.heap.size:=by omega
 refine YE [(0,v),(2,PQ a 0),(3,PQ g 0)] ⟨k,rfl,rfl,trivial⟩ fun az ⟨k,T2,T3,_⟩=> ?_;have hrA:RB m v b:=(hr.keep hE);have z:=l;have aa:=n;have hEA:=hE;have q:=AbN m;have a0:=hE.size;refine tN (ai _ _ (GD (Eg rfl (Zu (vs:= #[PQ a 0,PQ g 0]) (by simp only[AcT,AcX,Ac2];exact congrArg Adf (B6 T2 T3)) (Ld (vr (.func (.func 149) #[] #[PQ a 0,PQ g 0]) rfl) (PT (vr (.func (.func 149) #[] #[PQ a 0,PQ g 0]) rfl)) (J9 (fun ρ=>ρ 0=(v:AcD)/\ρ 2=(PQ a 0:AcD)/\ρ 3=(PQ g 0:AcD)/\True) ⟨k,T2,T3,trivial⟩ fun a1 ⟨k,T2,T3,_⟩=>(GD (Eg rfl (AbT k (Eg rfl (Z8 (vr v rfl) (fun w=>Oh (RB.slice (hr.keep hE)) w) (Eg rfl (Ab3 (vr (.agg (BO ((⟨b,0⟩,⟨v⟩):Dv)).toArray) rfl) fun ab am ac ad o a2=> ?_)))))))))))));have a3:=AR (bl l) ac;have a4:=AR (bl n) ac;have hE:=hE.trans o;have l:=eb o l;have n:=eb o n;have q:=q.trans o;have an:=ad;clear ad;have a5:ab<am.heap.size:=by omega
 refine Lc rfl (Zg Rq (vr (PQ ab 0) rfl) ?_);refine Ao (TC q an hrA (by omega) hl) ?_ ?_;rotate_left
 ·
  rintro ch a6 ⟨hP,rfl,hx⟩;intro a_ ha_;show Leaves _ _ a_.tmps _ a_.defers (.panicking _) _;rw[ha_.defers];refine leaves_cons (f:=149) (args:= #[PQ a 0,PQ g 0]) (by simp) (by simp[go_sem]) ((MZ w a g _ _ _ (hEA.trans hx) (by omega) (by omega) (by omega) (eb hx z) (eb hx aa)).mono ?_);rintro e u' p ⟨rfl,rfl,h,j,ao⟩;exact Fe (ρ:=_) _ rfl [.agg (refsC ((⟨[],[],[],zid,[]⟩,⟨.slice none 0 0, .slice none 0 0, .slice none 0 0⟩):Af)).toArray,NI 6] (.tuple #[.agg (refsC ((⟨[],[],[],zid,[]⟩,⟨.slice none 0 0, .slice none 0 0, .slice none 0 0⟩):Af)).toArray,NI 6]) rfl ha_.get ⟨Ab0 (T2) h (L0).choose_spec rfl (AO (An _) KI),ZN (T3) j MB rfl,trivial⟩ ⟨_,rfl,_,_,rfl,by rw[hP];exact⟨rfl,rfl⟩,ao⟩
 rintro v_ a7 ⟨X,hP,rfl,hX,hx⟩;have hE:=hEA.trans hx;have h:=eb hx z;have j:=eb hx aa;have a8:=hx.size;have hmt:=Y8 hX.br;have hmg:=Y8 hX.tg;have hml:=Y8 hX.lg;have a9:=(bl h);have ba:=(bl j);have hzA:=hEA.size;refine Eg rfl (Zl T2 (vr (.agg (refsC X).toArray) rfl) h (by simp only[Adi,An]) (AO (An _) KI) (Ba (AbS hmt).2 (AbS hmg).2 (AbS hml).2) fun ae af r bb=> ?_);have hE:=Ad hE r (AcG (AcI _) (by omega));have j:=kb r j (by omega);have hX:RefsOw m.heap.size ae X:=RefsOw.set hX r (by omega);clear hmt;clear hmg;clear hml;clear h;have h:ae.heap[a]? =some (.cells (refsC X).toArray 36 (0,0)):=af;clear af;have bc:=bl h;refine Eg rfl (Za (i:=0) (v:=NI 0) T3 (vr (NI 0) rfl) j (AcP rfl) Rp rfl rfl fun ap ag s bd=> ?_);have hE:=Ad hE s (AcG al (by omega));have hX:RefsOw m.heap.size ap X:=RefsOw.set hX s (by omega);have h:=kb s h (by omega);clear j;have j:=ag;clear ag;have be:=bl j;refine J9 (fun ρ=>ρ 0=(v:AcD)/\ρ 2=(PQ a 0:AcD)/\ρ 3=(PQ g 0:AcD)/\True) ⟨k,T2,T3,trivial⟩ fun bf ⟨k,T2,T3,_⟩=>(W0 fun a_ ha_=> ?_);show Leaves _ _ a_.tmps _ a_.defers .returning _;rw[ha_.defers];refine leaves_cons (f:=149) (args:= #[PQ a 0,PQ g 0]) (by simp) (by simp[go_sem]) ((MY a g _).mono ?_);rintro e u' p ⟨rfl,rfl,hxi⟩;exact Fe (ρ:=_) _ rfl [.agg (refsC X).toArray,NI 0] (.tuple #[.agg (refsC X).toArray,NI 0]) rfl ha_.get ⟨Ab0 (T2) (eb hxi h) (L0).choose_spec rfl (AO (An _) KI),ZN (T3) (eb hxi j) MB rfl,trivial⟩ ⟨_,rfl,_,_,rfl,by rw[hP];exact⟨rfl,rfl,(Aa0 hX).keep hxi,(RefsOw.zero hX).keep hxi⟩,hE.trans hxi⟩
section
variable {was : Ar} {b : Bs}
theorem X0(h:¬0<b.length):BJ was b=none:=if_neg h
theorem Oi(h:0<b.length)(h1:(b.getD 0 0).toNat=83):BJ was b=Cx (b.drop 1):=(if_pos h).trans (if_pos h1)
theorem W3(h:0<b.length)(h1:¬(b.getD 0 0).toNat=83)(h2:¬(b.getD 0 0).toNat=84):BJ was b=none:=(if_pos h).trans ((if_neg h1).trans (if_neg h2))
theorem Fu(h:0<b.length)(h1:¬(b.getD 0 0).toNat=83)(h2:(b.getD 0 0).toNat=84):BJ was b=(Cn b 1 b.length (CW b) []).bind fun x=>EF was b x.1 x.2:=(if_pos h).trans ((if_neg h1).trans (if_pos h2))
theorem W4(h:Cu b 1=none):Cn b 1 b.length (CW b) []=none:=by unfold Cn;rw[h];rfl
theorem W5{n j:Nat}(h:Cu b 1=some (n,j))(hn:¬n<=b.length):Cn b 1 b.length (CW b) []=none:=by unfold Cn;rw[h];exact if_neg hn
theorem PU{n j:Nat}(h:Cu b 1=some (n,j))(hn:n<=b.length):Cn b 1 b.length (CW b) []=Cb (CW b) n ([],j):=by unfold Cn;rw[h];exact if_pos hn
theorem X1{j n k j' :Nat}{o:List Aw}(hk:k<n)(hit:Cb (CW b) k ([],j)=some (o,j'))(hx:FK b j' =none):Cb (CW b) n ([],j)=none:=by
 refine HT (j:=k+1) ?_ n hk;rw[Fo hit];unfold CW;rw[hx];rfl
theorem W6{j k j' j2:Nat}{o:List Aw}{x:Aw}(hit:Cb (CW b) k ([],j)=some (o,j'))(hx:FK b j' =some (x,j2)):Cb (CW b) (k+1) ([],j)=some (o++ [x],j2):=by
 rw[Fo hit];unfold CW;rw[hx];rfl
theorem TF{i n:Nat}{x:Aw}(h:FK b i=some (x,n)):i+66<=n/\n<=b.length/\x.name.length<=256:=by
 unfold FK at h;simp only[Aer]at h;obtain⟨⟨k,j1⟩,h1,⟨s,j2⟩,h2,⟨o,j3⟩,h3,⟨q,j4⟩,h4,h5⟩:=h;cases h5;have a:=EV h2;have c:=(txtP_le h2).2;have f1:j1=i+1:=by
  unfold DJ at h1;split at h1
  ·cases h1;rfl
  ·cases h1
 have f3:j3=j2+32:=by
  unfold DA at h3;split at h3
  ·cases h3;rfl
  ·cases h3
 have f4:j4=j3+32/\j3+32<=b.length:=by
  unfold DA at h4;split at h4
  ·cases h4;exact⟨rfl,by assumption⟩
  ·cases h4
 simp only at a c f1 f3 f4 ⊢;omega
theorem Oj{j:Nat}:∀ {k:Nat} {o:List Aw} {j' :Nat},Cb (CW b) k ([],j)=some (o,j')->j<=b.length->o.length=k/\j+66*k<=j' /\j' <=b.length/\∀u∈o,u.name.length<=256
 | 0,o,j',h,hj=>by cases h;exact⟨rfl,by omega,hj,fun u hu=>by cases hu⟩
 | k+1,o,j',h,hj=>by
  obtain⟨u,h1,h2⟩:=HU h;obtain⟨q1,q2,q3,q4⟩:=Oj (o:=u.1) (j' :=u.2) h1 hj;unfold CW at h2;cases hd:FK b u.2 with
  | none=>rw[hd]at h2;cases h2
  | some x=>
   rw[hd]at h2;cases h2;have q5:=TF (x:=x.1) (n:=x.2) hd;refine⟨by rw[AcJ,q1];rfl,by omega,q5.2.1,fun y hy=> ?_⟩;rcases Adt.1 hy with hy | hy
   ·exact q4 y hy
   ·rw[Adn.1 hy];exact q5.2.2
theorem tj_text{l:List Aw}{i:Nat}(h:AY b i 256=none):EF was b l i=none:=by unfold EF;rw[h];rfl
theorem X3{l:List Aw}{i n:Nat}{s:Bs}(h:AY b i 256=some (s,n))(hn:¬n=b.length):EF was b l i=none:=by unfold EF;rw[h];exact if_neg hn
theorem X4{l:List Aw}{i n:Nat}{s:Bs}(h:AY b i 256=some (s,n))(hn:n=b.length)(ha:¬(Ag was l s).1=0):EF was b l i=none:=by unfold EF;rw[h];exact(if_pos hn).trans (if_neg ha)
theorem YB{l:List Aw}{i n:Nat}{s:Bs}(h:AY b i 256=some (s,n))(hn:n=b.length)(ha:(Ag was l s).1=0):EF was b l i=some (Ag was l s).2:=by unfold EF;rw[h];exact(if_pos hn).trans (if_pos ha)
theorem Ih{r:Ar}(h:BJ was b=some r):AA r=true:=by
 unfold BJ at h;split at h
 ·split at h
  ·exact(SU h).1
  ·split at h
   ·obtain⟨x,-,h2⟩:=Aer.1 h;unfold EF at h2;obtain⟨t,-,h3⟩:=Aer.1 h2;split at h3
    ·split at h3
     ·rename_i h4
      cases h3;exact O5 h4
     ·cases h3
    ·cases h3
   ·cases h
 ·cases h
end
def DecJ(m:Ar)(c:Nat):Option Ar->Prop
 | some n=>c=0/\m=n
 | none=>c=6
theorem DecJ.ok{m:Ar}{c:Nat}{o:Option Ar}(h:DecJ m c o)(hc:c=0):o=some m:=by
 cases o with
 | none=>have h:c=6:=h;omega
 | some n=>rw[h.2]
theorem DecJ.bad{m:Ar}{c:Nat}{o:Option Ar}(h:DecJ m c o)(hc:¬c=0):o=none:=by
 cases o with
 | none=>rfl
 | some n=>exact absurd h.1 hc
theorem Pj(w:AcE)(v:AcD)(b:Bs)(hr:RB w v b)(hl:b.length<=4611686018427387904):
  Calls AcF 123 #[v] w fun e w' =>∃X c,e = .returned (.tuple #[.agg (refsC X).toArray,NI c])/\RefsOw 0 w' X/\DecJ X.1 c (Cx b)/\Ext w w' :=
 (Pi w v b hr hl).mono fun e w' h=>by
  obtain⟨x,rfl,X,c,rfl,h1,h2⟩:=h;refine⟨X,c,rfl,?_,?_,h2⟩
  ·cases hd:Cx b with
   | none=>rw[hd]at h1;rw[h1.2];exact⟨AbZ _ _ _ _ _,AbZ _ _ _ _ _,AbZ _ _ _ _ _⟩
   | some m=>rw[hd]at h1;exact h1.2.2.2
  ·cases hd:Cx b with
   | none=>rw[hd]at h1;exact h1.1
   | some m=>rw[hd]at h1;exact⟨h1.1,h1.2.1⟩
end Go.Proofs.YtbbbblinjomajaaGreatDoor
