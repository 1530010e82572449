/- Part 2 of what stands behind these statements: laws and walks of the functions that are reached. Conditions: those that each theorem names. -/
import Derived.Test.YtbbbblinjomajaaGreatDoorT1
set_option linter.unusedVariables false
set_option linter.unusedSimpArgs false
namespace Go.Proofs.YtbbbblinjomajaaGreatDoor
open _root_.Go renaming World->Ads,Program->AdM,Oper->AdL,TypeId->Ady,Edge->Aej,Value->Adr,Ending->Afp,Operand->AdC,binOp->Aea,IntKind->AeI,MapEntry->AfS
open _root_.List renaming contains_iff_mem->AeM,getElem?_take->Afw,getElem?_drop->AfK,cons_append->Ad1,length_drop->AdT,take_of_length_le->Ad7,eq_nil_of_length_eq_zero->Aep,drop_eq_getElem_cons->Afk,replicate->Aey,length_replicate->Aee,length_take->AdS,drop_of_length_le->AeR,getD_eq_getElem?_getD->Adz,getElem?_eq_getElem->AdE,getElem_mem->Ae3,map_toArray->AdH,map_cons->AdK,map_nil->AdO,append_toArray->Aei,nil_append->Ad9,toArray->Ad2,mem_of_getElem?->AfA,mem_map->Aeq,mem_append->Aed,mem_singleton->Aeb,getElem?_eq_some_iff->AdR,mem_iff_getElem->AeB,mem_eraseIdx_iff_getElem->Ag0,eraseIdx_sublist->Agp,size_toArray->Ad6,flatMap_cons->Aen,mem_of_mem_drop->Agu,drop_zero->AfI,length_append->Adx,append_assoc->AdW,lt_trans->Ahk,length_nil->AdQ,mem_cons->Ad5,not_mem_nil->Aes,drop_left'->AgW,take_left'->AeJ,take_append_drop->AeK,length_cons->AdJ,flatMap_append->Ae6,length_set->AfC,takeWhile_cons->Af5
open _root_.Go.RowKit.Below renaming refl->Aeo
open _root_.Nat renaming le_of_ble_eq_true->AdD,mod_eq_of_lt->AgP,min_eq_left->Agc,le_refl->Adw,lt_of_le_of_lt->Afx,and_le_right->Afv,pow_le_pow_right->Afh,mul_comm->AhB,mul_le_mul->Ag9,min->Af9,le_of_eq->Ago,zero_le->AdN,le_trans->Adu,zero_add->Afa,add_mul->AeQ,add_sub_cancel_left->AfE,not_lt_zero->Aex,zero_mul->Af3,add_zero->AgV,mul_le_mul_right->AfU,min_def->Aib
open _root_.Option.some renaming inj->AdY,injEq->AeZ
open _root_.BitVec renaming ofNat->Af2,toNat_ofNat->AgH
open _root_.Go.Value renaming int->AfL,slice->AdI,bool->Ae8,ownBlock->Aec
open _root_.Int renaming toNat_natCast->AdV
open _root_.Go.Sem renaming run_bind->AdB,run_pure->AdF
open _root_.Go.Result renaming andThen_ok->AdA,andThen->Aek
open _root_.Go.Instr renaming next->Agt,lookup->AiJ,mapUpdate->AhX,build->Aew,buildSlice->Ad0,sliceAt->AfR
open _root_.Array renaming getElem?_eq_some_iff->Aef,length_toList->AeN,getElem?_setIfInBounds->Afo
open _root_.Option renaming map_eq_some_iff->Afr,map_some->AeT,map_none->Afq
open _root_.Go.Lib renaming uvarint->AdU,hid->Afb,byteCells->Adv,byteCells_length->AdG
open _root_.Go.Proofs.Tryz renaming prog->Adt,func121->AiI,ntmps121->Aiu,func76->Aia,ntmps76->AhC
open _root_.Go.Ending renaming returned->Ae2
open _root_.And renaming intro->Aem
open _root_.Go.MapKept renaming IsKey->AgA,run_findKey->Aiz,Stamped->AgX,run_getObj_map->Afs,run_setObj_map->Agh
open _root_.Go.Builtin renaming delete_->AhY,zeroCells->Aer,copy_->Air
open _root_.Go.Addr renaming add_lit->Ae0
open _root_.Go.Op renaming bytesLess->Ad3
open _root_.Go.Program renaming elem->AfJ
open _root_.Exists renaming elim->AeO
open Go.RowKit
inductive Fr where
 | seq (y:Code)
 | block (id:Nat)
 | scope
 | fin (K:Aj->Ads->Prop)
def Ck(P:AdM)(n:Nat)(Q:Bi):List Fr->Bi
 | []=>fun e ρ w=>match e with
  | .normal=>Q .ret ρ w
  | e=>Q e ρ w
 | .seq y :: k=>EE (Cm P n y (Ck P n Q k)) (Ck P n Q k)
 | .block id :: k=>C2 id (Ck P n Q k)
 | .scope :: k=>P6 (Ck P n Q k)
 | .fin K :: k=>EE K (Ck P n Q k)
inductive NZ where
 | code (c:Code)
 | ops (a:Array AdL) (l:List AdL)
 | pop
 | mix (l:List AdL) (cs pf fl:List Nat) (I:Ads->Prop) (r:List Nat)
inductive MK where
 | pure
 | here
 | float
inductive Tg where
 | op (a:Array AdL) (o:AdL) (r:List AdL) (k:List Fr) (ρ:Aj)
 | code (c:Code) (k:List Fr) (ρ:Aj)
 | fin (K:Aj->Ads->Prop) (k:List Fr) (ρ:Aj)
 | chain (l:List AdL) (cs pf fl:List Nat) (I:Ads->Prop) (i:Nat) (o:AdL) (r:List Nat) (k:List Fr) (ρ:Aj)
 | still (κ:MK) (l:List AdL) (cs pf fl:List Nat) (I:Ads->Prop) (i:Nat) (o:AdL) (r:List Nat) (k:List Fr) (ρ:Aj)
 | ret (ρ:Aj)
 | bad
def room(n:Nat):Option Tmp->Bool
 | some d=>Nat.blt d n
 | none=>true
def Zo:Bool->Bool->Bool
 | true,true=>true
 | false,false=>true
 | _,_=>false
def Be(n:Nat)(u:Bool):Nat->NZ->List Fr->Aj->Tg
 | 0,_,_,_=> .bad
 | f+1, .code c,k,ρ=>match c with
  | .seq x y=>Be n u f (.code x) (.seq y :: k) ρ
  | .block id x=>Be n u f (.code x) (.block id :: k) ρ
  | .scope x=>Be n u f (.code x) (.scope :: k) ρ
  | .skip=>Be n u f .pop k ρ
  | .ret=> .ret ρ
  | .exit id=>match k with
   | []=> .bad
   | .block i :: k=>cond (Nat.beq id i) (Be n u f .pop k ρ) (Be n u f (.code (.exit id)) k ρ)
   | _ :: k=>Be n u f (.code (.exit id)) k ρ
  | .region _ a d=>cond d (.code c k ρ) (Be n u f (.ops a a.toList) k ρ)
  | c=> .code c k ρ
 | f+1, .pop,k,ρ=>match k with
  | []=> .ret ρ
  | .seq y :: k=>Be n u f (.code y) k ρ
  | .fin K :: k=> .fin K k ρ
  | _ :: k=>Be n u f .pop k ρ
 | f+1, .ops a l,k,ρ=>match l with
  | []=>Be n u f .pop k ρ
  | o :: r=>cond (room n o.dst) (match o.guard with
   | some (g,want)=>cond u (match (a[g]?).bind (·.dst)with
    | some d=>match ρ d with
     | .bool b=>match Zo b want with
      | true=>match o.op with
       | .move x=>Be n u f (.ops a r) k (updO ρ o.dst (Ab ρ x))
       | .assign x=>Be n u f (.ops a r) k (updO ρ o.dst (Ab ρ x))
       | _=> .op a { o with guard:=none } r k ρ
      | false=>Be n u f (.ops a r) k (updO ρ o.dst undef)
     | _=> .op a o r k ρ
    | none=> .op a o r k ρ) (.op a o r k ρ)
   | none=>match o.op with
    | .move x=>Be n u f (.ops a r) k (updO ρ o.dst (Ab ρ x))
    | .assign x=>Be n u f (.ops a r) k (updO ρ o.dst (Ab ρ x))
    | _=> .op a o r k ρ) .bad
 | f+1, .mix l cs pf fl I r,k,ρ=>match r with
  | []=>Be n u f .pop k ρ
  | i :: r=>match l[i]? with
   | none=> .bad
   | some o=>cond (A9 l o ρ) (cond (cs.contains i) (.chain l cs pf fl I i o r k ρ) (match o.op with
    | .move x=>Be n u f (.mix l cs pf fl I r) k (updO ρ o.dst (Ab ρ x))
    | .assign x=>Be n u f (.mix l cs pf fl I r) k (updO ρ o.dst (Ab ρ x))
    | _=> .still (cond (pf.contains i) .pure (cond (fl.contains i) .float .here)) l cs pf fl I i o r k ρ))
    (Be n u f (.mix l cs pf fl I r) k (updO ρ o.dst undef))
def JK(P:AdM)(n:Nat)(Q:Bi)(k:List Fr)(ch:List PanicEntry)(w:Ads):Prop:=∀ρ,Ck P n Q k (.panic ch) ρ w
def N0(P:AdM)(n:Nat)(Q:Bi)(l:List AdL)(cs pf fl:List Nat)(I:Ads->Prop)(r:List Nat)(k:List Fr)(ρ:Aj)(w:Ads):Prop:=
 DV P l cs pf fl (JK P n Q k) (fun ρ w=>Ck P n Q k .normal ρ w) r I ρ w
def AZ(P:AdM)(n:Nat)(_:Bool)(Q:Bi)(w:Ads):Tg->Prop
 | .op a o r k ρ=>room n o.dst=true->B2 P a n (Ck P n Q k) (o :: r) ρ w
 | .code c k ρ=>Cm P n c (Ck P n Q k) ρ w
 | .fin K _ ρ=>K ρ w
 | .chain l cs pf fl I i o r k ρ=>l[i]? =some o->A9 l o ρ=true->i∈cs->N0 P n Q l cs pf fl I (i :: r) k ρ w
 | .still κ l cs pf fl I i o r k ρ=>l[i]? =some o->A9 l o ρ=true->i∉cs->(match κ with | .pure=>DF l pf i=true | .here=>DF l pf i=false/\i∉fl | .float=>DF l pf i=false/\i∈fl)->N0 P n Q l cs pf fl I (i :: r) k ρ w
 | .ret ρ=>Q .ret ρ w
 | .bad=>False
def CmdOk(P:AdM)(n:Nat)(Q:Bi)(w:Ads)(k:List Fr)(ρ:Aj):NZ->Prop
 | .code (.exit i)=>Ck P n Q k (.exit i) ρ w
 | .code c=>Cm P n c (Ck P n Q k) ρ w
 | .ops a l=>B2 P a n (Ck P n Q k) l ρ w
 | .pop=>Ck P n Q k .normal ρ w
 | .mix l cs pf fl I r=>N0 P n Q l cs pf fl I r k ρ w
section
variable {P : AdM} {n : Nat} {u : Bool} {Q : Bi} {ρ : Aj} {w : Ads} {k : List Fr}
theorem F0:∀ {d:Option Tmp},room n d=true->(match d with | some d=>Nat.blt d n | none=>true)=true
 | some _,h=>h
 | none,_=>rfl
theorem CmdOk.wp{c:Code}(h:CmdOk P n Q w k ρ (.code c)):Cm P n c (Ck P n Q k) ρ w:=by
 cases c with
 | exit i=>exact UL h
 | _=>exact h
theorem Mo{Q:Bi}{a:Array AdL}{dst:Option Tmp}{op:Op}{ty:Ady}{pos:String}{af:Array Aej}{r:List AdL}{g:Nat}{want:Bool}{d:Tmp}(hg:(a[g]?).bind (·.dst)=some d)(hv:ρ d = .bool want) 
  (h:B2 P a n Q (⟨dst,op,ty,pos,af,none⟩ :: r) ρ w):B2 P a n Q (⟨dst,op,ty,pos,af,some (g,want)⟩ :: r) ρ w:=fun c hc=>by
 have h1:=h c hc;have hw:Region.wanted ⟨dst,op,ty,pos,af,some (g,want)⟩ (yielded a c.tmps)=true:=by
  have:=IX ((hc.get d).trans hv);simp only[Region.wanted,yielded,hg];simp[this]
 unfold wpList at h1 ⊢;rw[if_pos hw];exact h1
theorem BD:∀(f:Nat) (u:Bool) (c:NZ) (k:List Fr) (ρ:Aj),AZ P n u Q w (Be n u f c k ρ)->CmdOk P n Q w k ρ c
 | 0,u,c,k,ρ,h=>h.elim
 | f+1,u, .code c,k,ρ,h=>by
  match c,h with
  | .seq x y,h=>exact P7 (BD f u (.code x) (.seq y :: k) ρ h).wp
  | .block id x,h=>exact Sj (BD f u (.code x) (.block id :: k) ρ h).wp
  | .scope x,h=>exact Sk (BD f u (.code x) (.scope :: k) ρ h).wp
  | .skip,h=>exact GF (BD f u .pop k ρ h)
  | .ret,h=>
   have:∀k,Ck P n Q k .ret ρ w=Q .ret ρ w:=fun k=>by
    induction k with
    | nil=>rfl
    | cons x k ih=>cases x <;> exact ih
   exact WR (by rw[this];exact h)
  | .exit id,h=>
   match k,h with
   | .block i :: k,h=>
    cases hb:Nat.beq id i with
    | true=>
     obtain rfl:=Nat.eq_of_beq_eq_true hb;unfold Be at h;simp only[hb,cond_true]at h;exact I2 (BD f u .pop k ρ h)
    | false=>
     unfold Be at h;simp only[hb,cond_false]at h;exact Ns hb (BD f u (.code (.exit id)) k ρ h)
   | .seq y :: k,h=>exact BD f u (.code (.exit id)) k ρ h
   | .scope :: k,h=>exact BD f u (.code (.exit id)) k ρ h
   | .fin K :: k,h=>exact BD f u (.code (.exit id)) k ρ h
  | .region id a d,h=>
   cases d with
   | true=>exact h
   | false=>exact wt (l:=a.toList) (BD f u (.ops a a.toList) k ρ h)
  | .cond ..,h=>exact h
  | .loop ..,h=>exact h
  | .rangeFunc ..,h=>exact h
  | .label ..,h=>exact h
  | .goto ..,h=>exact h
  | .refuse ..,h=>exact h
 | f+1,u, .pop,k,ρ,h=>by
  match k,h with
  | [],h=>exact h
  | .seq y :: k,h=>exact(BD f u (.code y) k ρ h).wp
  | .fin K :: k,h=>exact h
  | .block i :: k,h=>exact BD f u .pop k ρ h
  | .scope :: k,h=>exact BD f u .pop k ρ h
 | f+1,u, .ops a l,k,ρ,h=>by
  match l,h with
  | [],h=>exact oZ (BD f u .pop k ρ h)
  | o :: r,h=>
   cases hr:room n o.dst with
   | false=>unfold Be at h;simp only[hr,cond_false]at h;exact h.elim
   | true=>
    unfold Be at h;simp only[hr,cond_true]at h;obtain⟨dst,op,ty,pos,af,gd⟩:=o;cases gd with
    | some g=>
     obtain⟨g,want⟩:=g;cases u with
     | false=>exact h hr
     | true=>
      cases hg:(a[g]?).bind (·.dst)with
      | none=>simp only[hg,cond_true]at h;exact h hr
      | some d=>
       simp only[hg,cond_true]at h;cases hv:ρ d with
       | bool b=>
        simp only[hv]at h;cases hb:Zo b want with
        | true=>
         obtain rfl:b=want:=by cases b <;> cases want <;> first | rfl | cases hb
         simp only[hb]at h;refine Mo hg hv ?_;cases op with
         | move x=>exact oS (F0 hr) (AcF rfl (BD f true (.ops a r) k _ h))
         | assign x=>exact oS (F0 hr) (AcS rfl (BD f true (.ops a r) k _ h))
         | _=>exact h hr
        | false=>
         simp only[hb]at h;exact oN rfl (F0 hr) hg hv (by cases b <;> cases want <;> first | rfl | cases hb) (BD f true (.ops a r) k _ h)
       | _=>simp only[hv]at h;exact h hr
    | none=>
     cases op with
     | move x=>exact oS (F0 hr) (AcF rfl (BD f u (.ops a r) k _ h))
     | assign x=>exact oS (F0 hr) (AcS rfl (BD f u (.ops a r) k _ h))
     | _=>exact h hr
 | f+1,u, .mix l cs pf fl I r,k,ρ,h=>by
  match r,h with
  | [],h=>exact BD f u .pop k ρ h
  | i :: r,h=>
   cases ho:l[i]? with
   | none=>unfold Be at h;simp only[ho]at h;exact h.elim
   | some o=>
    unfold Be at h;simp only[ho]at h;cases hw:A9 l o ρ with
    | false=>
     simp only[hw,cond_false]at h;show DV _ _ _ _ _ _ _ _ _ _ _;unfold DV;rw[ho];simp only;rw[if_pos hw];exact BD f u (.mix l cs pf fl I r) k _ h
    | true=>
     simp only[hw,cond_true]at h;cases hc:cs.contains i with
     | true=>simp only[hc,cond_true]at h;exact h ho hw (AeM.1 hc)
     | false=>
      simp only[hc,cond_false]at h;have hc' :i∉cs:=fun x=>by rw[AeM.2 x]at hc;cases hc
      have mv:∀(v:Adr),(∀w',Yk P (fun x w'' =>x=v/\w'' =w') ((execOp (Ab ρ) o).run P w'))->AZ P n u Q w (Be n u f (.mix l cs pf fl I r) k (updO ρ o.dst v))->N0 P n Q l cs pf fl I (i :: r) k ρ w:=fun v hv h=>by
       show DV _ _ _ _ _ _ _ _ _ _ _;unfold DV;rw[ho];simp only;rw[if_neg (by rw[hw];simp),if_neg hc'];exact⟨v,fun w' _=>hv w',BD f u (.mix l cs pf fl I r) k _ h⟩
      have st:(match o.op with | .move _ | .assign _=>true | _=>false)=false->AZ P n u Q w (.still (cond (pf.contains i) .pure (cond (fl.contains i) .float .here)) l cs pf fl I i o r k ρ)->N0 P n Q l cs pf fl I (i :: r) k ρ w:=fun hm h=>by
       refine h ho hw hc' ?_;cases hp:pf.contains i with
       | true=>show DF l pf i=true;unfold DF;rw[hp];rfl
       | false=>
        have hb:DF l pf i=false:=by unfold DF;rw[hp,ho];exact hm
        cases hf:fl.contains i with
        | true=>exact⟨hb,AeM.1 hf⟩
        | false=>exact⟨hb,fun x=>by rw[AeM.2 x]at hf;cases hf⟩
      obtain⟨dst,op,ty,pos,af,gd⟩:=o;cases op with
      | move x=>exact mv _ (fun w' =>AcF rfl ⟨rfl,rfl⟩) h
      | assign x=>exact mv _ (fun w' =>AcS rfl ⟨rfl,rfl⟩) h
      | _=>exact st rfl h
theorem adv_ok{u:Bool}(f:Nat)(c:NZ)(k:List Fr)(ρ:Aj)(h:AZ P n u Q w (Be n u f c k ρ)):CmdOk P n Q w k ρ c:=BD f u c k ρ h
theorem FQ{ch:List PanicEntry}(h:Q (.panic ch) ρ w):∀k,Ck P n Q k (.panic ch) ρ w
 | []=>h
 | x :: k=>by cases x <;> exact FQ h k
theorem gM{id:Nat}{l:List AdL}(ord cs pf fl:List Nat){I:Ads->Prop}(hm:P.follows .mixedOrders=true)(hg:DD l n=true)(hb:Fk l cs pf fl ord=true)(hI:I w.drew) 
  (h:AZ P n u Q w.drew (Be n u 1000 (.mix l cs pf fl I ord) k ρ)):AZ P n u Q w (.code (.region id l.toArray true) k ρ):=fun a ha=>by
 have h0:MInv P l cs pf fl ord n (JK P n Q k) (fun ρ w=>Ck P n Q k .normal ρ w) [] ord I ρ (Array.replicate l.length false) a w.drew:=
  ⟨by simp,fun i o _ h=>absurd h Aam,ha.size,ha.defers,rfl,fun i _=>Aam,(fun i hi=>by cases hi),fun t _=>ha.get t,hI,adv_ok _ _ _ _ h⟩
 obtain⟨u',r',ρ',hp,hr⟩:=h0.place hb;exact wp_region_any hm (P9 hg hb _ _ _ _ u' r' I ρ' (by simp) hp hr)
theorem gM0{id:Nat}{l:List AdL}(ord cs pf:List Nat)(h:∀w1,Ext w w1->AZ P n u Q w1 (Be n u 1000 (.mix l cs pf [] (fun _=>True) ord) k ρ))(hm:P.follows .mixedOrders=true:=by kernel_rfl)(hg:DD l n=true:=by kernel_rfl)(hb:Fk l cs pf [] ord=true:=by kernel_rfl):AZ P n u Q w (.code (.region id l.toArray true) k ρ):=
 gM ord cs pf [] hm hg hb trivial (h _ (Aeo _ _).drew)
theorem Ev{id:Nat}{l:List AdL}(ord cs pf fl:List Nat)(h:∀w1,Ext w w1->∃I:Ads->Prop,I w1/\AZ P n u Q w1 (Be n u 1000 (.mix l cs pf fl I ord) k ρ))(hm:P.follows .mixedOrders=true:=by kernel_rfl)(hg:DD l n=true:=by kernel_rfl)(hb:Fk l cs pf fl ord=true:=by kernel_rfl):AZ P n u Q w (.code (.region id l.toArray true) k ρ):=by
 obtain⟨I,hI,h⟩:=h _ (Aeo _ _).drew;exact gM ord cs pf fl hm hg hb hI h
theorem Qa{l:List AdL}{ord cs pf fl:List Nat}{g0:Nat}{o0:Obj}(b0:w.heap[g0]? =some o0)(h:AZ P n u Q w (Be n u 1000 (.mix l cs pf fl (fun w=>w.heap[g0]? =some o0/\True) ord) k ρ)):∃I:Ads->Prop,I w/\AZ P n u Q w (Be n u 1000 (.mix l cs pf fl I ord) k ρ):=⟨(fun w=>w.heap[g0]? =some o0/\True),⟨b0,trivial⟩,h⟩
theorem Ew{l:List AdL}{ord cs pf fl:List Nat}{x0:Ads}(a:Ext x0 w)(h:AZ P n u Q w (Be n u 1000 (.mix l cs pf fl (fun w=>Ext x0 w/\True) ord) k ρ)):∃I:Ads->Prop,I w/\AZ P n u Q w (Be n u 1000 (.mix l cs pf fl I ord) k ρ):=⟨(fun w=>Ext x0 w/\True),⟨a,trivial⟩,h⟩
section
variable {l : List AdL} {cs pf fl : List Nat} {I : Ads -> Prop} {i : Nat} {o : AdL} {r : List Nat} {κ : MK}
theorem Fl{J:List PanicEntry->Ads->Prop}{K:Aj->Ads->Prop}(ho:l[i]? =some o)(hw:A9 l o ρ=true)(hc:i∈cs) 
  (h:Yp P (fun v w' =>∃I' :Ads->Prop,I' w' /\((∀x,I' x->I x)\/QJ l fl r i=true)/\DV P l cs pf fl J K r I' (updO ρ o.dst v) w') J ((execOp (Ab ρ) o).run P w)):DV P l cs pf fl J K (i :: r) I ρ w:=by
 unfold DV;rw[ho];simp only;rw[if_neg (by rw[hw];simp),if_pos hc];exact h
theorem EF{J:List PanicEntry->Ads->Prop}{K:Aj->Ads->Prop}(ho:l[i]? =some o)(hw:A9 l o ρ=true)(hc:i∉cs) 
  (v:Adr) (hv:∀w',L3 l pf fl I w i w' ->Yk P (fun x w'' =>x=v/\w'' =w') ((execOp (Ab ρ) o).run P w')) (h:DV P l cs pf fl J K r I (updO ρ o.dst v) w):DV P l cs pf fl J K (i :: r) I ρ w:=by
 unfold DV;rw[ho];simp only;rw[if_neg (by rw[hw];simp),if_neg hc];exact⟨v,hv,h⟩
theorem zz{x:Adr}{w:Ads}:x=x/\w=w:=⟨rfl,rfl⟩
theorem yC(h:Yk P (fun v w' =>AZ P n u Q w' (Be n u 1000 (.mix l cs pf [] (fun _=>True) r) k (updO ρ o.dst v))) ((execOp (Ab ρ) o).run P w)):AZ P n u Q w (.chain l cs pf [] I i o r k ρ):=fun ho hw hc=>
 Fl ho hw hc (.ofK (Ac9 h fun _ _ h=>⟨fun _=>True,trivial, .inr rfl,adv_ok _ _ _ _ h⟩))
theorem Qb{fn:Func}{R:Afp->Ads->Prop}(h:Yp P (fun v w' =>AZ P n u (Du P fn R) w' (Be n u 1000 (.mix l cs pf [] (fun _=>True) r) k (updO ρ o.dst v))) (fun ch w' =>Du P fn R (.panic ch) ρ w') ((execOp (Ab ρ) o).run P w)):AZ P n u (Du P fn R) w (.chain l cs pf [] I i o r k ρ):=fun ho hw hc=>
 Fl ho hw hc (Abr h (fun _ _ h=>⟨fun _=>True,trivial, .inr rfl,adv_ok _ _ _ _ h⟩) fun _ _ h ρ' =>FQ (Aq (ρ:=ρ') h) _)
theorem yI(h:Yk P (fun v w' =>I w' /\AZ P n u Q w' (Be n u 1000 (.mix l cs pf fl I r) k (updO ρ o.dst v))) ((execOp (Ab ρ) o).run P w)):AZ P n u Q w (.chain l cs pf fl I i o r k ρ):=fun ho hw hc=>
 Fl ho hw hc (.ofK (Ac9 h fun _ _ h=>⟨I,h.1, .inl fun _ h=>h,adv_ok _ _ _ _ h.2⟩))
theorem yE{w1:Ads}(h:Yk P (fun v w' =>Ext w1 w' /\AZ P n u Q w' (Be n u 1000 (.mix l cs pf fl (fun x=>Ext w' x/\True) r) k (updO ρ o.dst v))) ((execOp (Ab ρ) o).run P w)):AZ P n u Q w (.chain l cs pf fl (fun x=>Ext w1 x/\True) i o r k ρ):=fun ho hw hc=>
 Fl ho hw hc (.ofK (Ac9 h fun _ w' h=>⟨fun x=>Ext w' x/\True,⟨Acz _,trivial⟩, .inl fun _ e=>⟨h.1.trans e.1,trivial⟩,adv_ok _ _ _ _ h.2⟩))
theorem yD(hc:QJ l fl r i=true)(h:Yk P (fun v w' =>AZ P n u Q w' (Be n u 1000 (.mix l cs pf fl (fun _=>True) r) k (updO ρ o.dst v))) ((execOp (Ab ρ) o).run P w)):AZ P n u Q w (.chain l cs pf fl I i o r k ρ):=fun ho hw hi=>
 Fl ho hw hi (.ofK (Ac9 h fun _ _ h=>⟨fun _=>True,trivial, .inr hc,adv_ok _ _ _ _ h⟩))
theorem ys{v:Adr}(h:Yk P (fun x w'' =>x=v/\w'' =w) ((execOp (Ab ρ) o).run P w))(hn:AZ P n u Q w (Be n u 1000 (.mix l cs pf fl I r) k (updO ρ o.dst v))):AZ P n u Q w (.still .here l cs pf fl I i o r k ρ):=fun ho hw hc hf=>
 EF ho hw hc v (fun w' hw' =>by
  rcases hw' with hp | hw'
  ·rw[hf.1]at hp;cases hp
  ·rw[if_neg hf.2]at hw';subst hw';exact h) (adv_ok _ _ _ _ hn)
theorem yp{v:Adr}(h:∀ {w' :Ads},Yk P (fun x w'' =>x=v/\w'' =w') ((execOp (Ab ρ) o).run P w'))(hn:AZ P n u Q w (Be n u 1000 (.mix l cs pf fl I r) k (updO ρ o.dst v))):AZ P n u Q w (.still κ l cs pf fl I i o r k ρ):=fun ho hw hc _=>
 EF ho hw hc v (fun _ _=>h) (adv_ok _ _ _ _ hn)
theorem yf{v:Adr}(h:∀w',I w' ->Yk P (fun x w'' =>x=v/\w'' =w') ((execOp (Ab ρ) o).run P w'))(hn:AZ P n u Q w (Be n u 1000 (.mix l cs pf fl I r) k (updO ρ o.dst v))):AZ P n u Q w (.still .float l cs pf fl I i o r k ρ):=fun ho hw hc hf=>
 EF ho hw hc v (fun w' hw' =>by
  rcases hw' with hp | hw'
  ·rw[hf.1]at hp;cases hp
  ·rw[if_pos hf.2]at hw';exact h w' hw') (adv_ok _ _ _ _ hn)
theorem yA{dst:Option Tmp}{t:Ady}{x y:AdC}{ty:Ady}{pos:String}{af:Array Aej}{gd:Option (Nat × Bool)}(h:Yk P (fun v _=>AZ P n u Q w (Be n u 1000 (.mix l cs pf fl I r) k (updO ρ dst v))) ((execOp (Ab ρ) ⟨dst, .indexAddr t x y,ty,pos,af,gd⟩).run P w)):AZ P n u Q w (.still κ l cs pf fl I i ⟨dst, .indexAddr t x y,ty,pos,af,gd⟩ r k ρ):=fun ho hw hc _=>by
 obtain⟨v,hn,hv⟩:=Mn (.indexAt _ _ _) h;exact EF ho hw hc v (fun w' _=>hv w') (adv_ok _ _ _ _ hn)
theorem yS{dst:Option Tmp}{t:Ady}{x:AdC}{lo hi mx:Option AdC}{ty:Ady}{pos:String}{af:Array Aej}{gd:Option (Nat × Bool)}(h:Yk P (fun v _=>AZ P n u Q w (Be n u 1000 (.mix l cs pf fl I r) k (updO ρ dst v))) ((execOp (Ab ρ) ⟨dst, .slice t x lo hi mx,ty,pos,af,gd⟩).run P w)):AZ P n u Q w (.still κ l cs pf fl I i ⟨dst, .slice t x lo hi mx,ty,pos,af,gd⟩ r k ρ):=fun ho hw hc _=>by
 obtain⟨v,hn,hv⟩:=Mn (.sliceAt _ _ _ _ _) h;exact EF ho hw hc v (fun w' _=>hv w') (adv_ok _ _ _ _ hn)
theorem yF{dst:Option Tmp}{s:Ady}{f off m:Nat}{x:AdC}{ty:Ady}{pos:String}{af:Array Aej}{gd:Option (Nat × Bool)}{xs:List Adr}(hf:Ax P s f off)(hp:PR xs (Ab ρ x) w) 
  (hn:∀v,PR ((xs.drop off).take m) v w->AZ P n u Q w (Be n u 1000 (.mix l cs pf fl I r) k (updO ρ dst v))):AZ P n u Q w (.still κ l cs pf fl I i ⟨dst, .fieldAddr s x f,ty,pos,af,gd⟩ r k ρ):=fun ho hw hc _=>by
 obtain⟨b,o,hx,hr⟩:=hp;refine EF ho hw hc (.pointer (some ⟨b,o+off,none⟩)) (fun w' _=>Acy hf hx ⟨rfl,rfl⟩) (adv_ok _ _ _ _ (hn _ ⟨b,o+off,rfl,fun j v hv=> ?_⟩));rw[Afw]at hv;split at hv
 ·rw[AfK]at hv;have:=hr _ _ hv;rw[<-Nat.add_assoc]at this;exact this
 ·cases hv
end
theorem gS{a:Array AdL}{dst:Option Tmp}{op:Op}{ty:Ady}{pos:String}{af:Array Aej}{r:List AdL} 
  (h:Yk P (fun v w' =>AZ P n u Q w' (Be n u 1000 (.ops a r) k (updO ρ dst v))) ((execOp (Ab ρ) ⟨dst,op,ty,pos,af,none⟩).run P w)):AZ P n u Q w (.op a ⟨dst,op,ty,pos,af,none⟩ r k ρ):=fun hr=>
 oS (F0 hr) (Ac9 h fun _ _ h=>adv_ok _ _ _ _ h)
theorem gP{a:Array AdL}{dst:Option Tmp}{op:Op}{ty:Ady}{pos:String}{af:Array Aej}{r:List AdL} 
  (h:Yp P (fun v w' =>AZ P n u Q w' (Be n u 1000 (.ops a r) k (updO ρ dst v))) (fun ch w' =>Q (.panic ch) ρ w') ((execOp (Ab ρ) ⟨dst,op,ty,pos,af,none⟩).run P w)):AZ P n u Q w (.op a ⟨dst,op,ty,pos,af,none⟩ r k ρ):=fun hr=>by
 refine oP (F0 hr) ?_
 revert h
 generalize (execOp (Ab ρ) ⟨dst,op,ty,pos,af,none⟩).run P w=x
 intro h
 match x,h with
 | .ok (.value v) w',h=>exact adv_ok _ _ _ _ h
 | .ok .skip w',h=>exact adv_ok _ _ _ _ h
 | .halt (.panic v) w',h=>exact FQ h _
 | .ok (.enter f args) w',h=>
  refine Calls.mono h ?_;intro e w'' hx
  match e,hx with
  | .returned v,hx=>exact adv_ok _ _ _ _ hx
  | .panicked ch,hx=>exact FQ hx _
theorem gY{a:Array AdL}{dst:Option Tmp}{op:Op}{ty:Ady}{pos:String}{af:Array Aej}{r:List AdL}{g:Nat}{want:Bool}{d:Tmp}(hg:(a[g]?).bind (·.dst)=some d)(hv:ρ d = .bool want) 
 (h:AZ P n u Q w (Be n u 1000 (.ops a (⟨dst,op,ty,pos,af,none⟩ :: r)) k ρ)):AZ P n u Q w (.op a ⟨dst,op,ty,pos,af,some (g,want)⟩ r k ρ):=fun _=>Mo hg hv (adv_ok _ _ _ _ h)
theorem gN{a:Array AdL}{o:AdL}{r:List AdL}{g:Nat}{want b:Bool}{d:Tmp}(hgd:o.guard=some (g,want))(hg:(a[g]?).bind (·.dst)=some d)(hv:ρ d = .bool b)(hb:(b==want)=false) 
 (h:AZ P n u Q w (Be n u 1000 (.ops a r) k (updO ρ o.dst undef))):AZ P n u Q w (.op a o r k ρ):=fun hr=>oN hgd (F0 hr) hg hv hb (adv_ok _ _ _ _ h)
theorem kB{f:Nat}{c:NZ}{d:Option Tmp}{b b' :Bool}(e:b=b')(h:AZ P n u Q w (Be n u f c k (updO ρ d (.bool b')))):AZ P n u Q w (Be n u f c k (updO ρ d (.bool b))):=e▸h
theorem kT{f:Nat}{c:NZ}{d:Option Tmp}{p:Prop}[Decidable p](e:p)(h:AZ P n u Q w (Be n u f c k (updO ρ d (.bool true)))):AZ P n u Q w (Be n u f c k (updO ρ d (.bool (decide p)))):=kB (decide_eq_true e) h
theorem kF{f:Nat}{c:NZ}{d:Option Tmp}{p:Prop}[Decidable p](e:¬p)(h:AZ P n u Q w (Be n u f c k (updO ρ d (.bool false)))):AZ P n u Q w (Be n u f c k (updO ρ d (.bool (decide p)))):=kB (decide_eq_false e) h
theorem gO{a:Array AdL}{o:AdL}{r:List AdL}(h:room n o.dst=true->B2 P a n (Ck P n Q k) (o :: r) ρ w):AZ P n u Q w (.op a o r k ρ):=h
theorem At{a:Array AdL}{l:List AdL}(h:AZ P n false Q w (Be n false 1000 (.ops a l) k ρ)):B2 P a n (Ck P n Q k) l ρ w:=adv_ok _ _ _ _ h
theorem gX(h:AZ P n true Q w (Be n true 1000 .pop k ρ)):Ck P n Q k .normal ρ w:=adv_ok _ _ _ _ h
theorem ZE(h:AZ P n false Q w (Be n false 1000 .pop k ρ)):Ck P n Q k .normal ρ w:=adv_ok _ _ _ _ h
theorem gR{id:Nat}{a:Array AdL}(h:Cm P n (.region id a true) (Ck P n Q k) ρ w):AZ P n u Q w (.code (.region id a true) k ρ):=h
theorem cT{c:AdC}{x y:Code}(hc:Ab ρ c = .bool true)(h:AZ P n u Q w (Be n u 1000 (.code x) k ρ)):AZ P n u Q w (.code (.cond c x y) k ρ):=GG hc (adv_ok _ _ _ _ h).wp
theorem cF{c:AdC}{x y:Code}(hc:Ab ρ c = .bool false)(h:AZ P n u Q w (Be n u 1000 (.code y) k ρ)):AZ P n u Q w (.code (.cond c x y) k ρ):=El hc (adv_ok _ _ _ _ h).wp
theorem cD{c:AdC}{x y:Code}{p:Prop}[Decidable p](hc:Ab ρ c = .bool (decide p))(h1:p->AZ P n u Q w (Be n u 1000 (.code x) k ρ))(h2:¬p->AZ P n u Q w (Be n u 1000 (.code y) k ρ)):AZ P n u Q w (.code (.cond c x y) k ρ):=
 UM p hc (fun h=>(adv_ok _ _ _ _ (h1 h)).wp) fun h=>(adv_ok _ _ _ _ (h2 h)).wp
theorem cB{c:AdC}{x y:Code}(b:Bool)(hc:Ab ρ c = .bool b)(h1:b=true->AZ P n u Q w (Be n u 1000 (.code x) k ρ))(h2:b=false->AZ P n u Q w (Be n u 1000 (.code y) k ρ)):AZ P n u Q w (.code (.cond c x y) k ρ):=
 Si b hc (fun h=>(adv_ok _ _ _ _ (h1 h)).wp) fun h=>(adv_ok _ _ _ _ (h2 h)).wp
theorem gL{c:Code}(I:Aj->Ads->Prop)(μ:Aj->Ads->Nat)(h0:I ρ w) 
  (round:∀ρ w,I ρ w->AZ P n u Q w (Be n u 1000 (.code c) (.fin (fun ρ' w' =>I ρ' w' /\μ ρ' w' <μ ρ w) :: k) ρ)):AZ P n u Q w (.code (.loop c) k ρ):=
 UN I μ h0 fun ρ w hI=>(adv_ok _ _ _ _ (round ρ w hI)).wp
theorem gK{K:Aj->Ads->Prop}(h:K ρ w):AZ P n u Q w (.fin K k ρ):=h
def Su:Nat->List Fr->Option (Code × List Fr)
 | 0, .seq y :: k=>some (y,k)
 | d+1,_ :: k=>Su d k
 | _,_=>none
theorem gJ{a:Array AdL}{o:AdL}{r:List AdL}(I:Aj->Ads->Prop)(d:Nat){y:Code}{k2:List Fr}(_:Su d k=some (y,k2))(hJ:∀ρ w,I ρ w->AZ P n u Q w (Be n u 1000 (.code y) k2 ρ)) 
 (h:(∀ρ w,I ρ w->AZ P n u Q w (Be n u 1000 (.code y) k2 ρ))->AZ P n u Q w (.op a o r k ρ)):AZ P n u Q w (.op a o r k ρ):=h hJ
def NJ(l:List Adr):Aj:=fun t=>l.getD t undef
theorem gG{f:FuncId}{fn:Func}{c:Code}{args:List Adr}{R:Afp->Ads->Prop}(hf:P.funcs[f]? =some fn)(hb:fn.body=some c)(m:Nat)(hm:fn.ntmps=m)(hn:Nat.ble args.length m=true) 
  (h:AZ P m true (Du P fn R) w (Be m true 1000 (.code c) [] (NJ args))):Calls P f args.toArray w R:=
 I6 hf hb m hm (AdD hn) fun ρ hB=>by
  obtain rfl:ρ=NJ args:=funext hB.get;refine wpF_mono (adv_ok _ _ _ _ h).wp fun e ρ w hx=> ?_;cases e <;> exact hx
theorem F2{f:FuncId}{fn:Func}{c:Code}{args:List Adr}{R:Afp->Ads->Prop}(hf:P.funcs[f]? =some fn)(hb:fn.body=some c)(m:Nat)(hm:fn.ntmps=m)(hn:Nat.ble args.length m=true) 
  (h:AZ P m false (Du P fn R) w (Be m false 1000 (.code c) [] (NJ args))):Calls P f args.toArray w R:=
 I6 hf hb m hm (AdD hn) fun ρ hB=>by
  obtain rfl:ρ=NJ args:=funext hB.get;refine wpF_mono (adv_ok _ _ _ _ h).wp fun e ρ w hx=> ?_;cases e <;> exact hx
theorem Gm{fn:Func}{R:Afp->Ads->Prop}(hrs:fn.results = #[])(hR:R (.returned (.tuple #[])) w):AZ P n u (Du P fn R) w (.ret ρ):=Fa [] hrs [] _ rfl trivial hR
theorem Az{fn:Func}{R:Afp->Ads->Prop}{t:Tmp}{v:Adr}(hrs:fn.results = #[.tmp t])(h:ρ t=v)(hR:R (.returned v) w):AZ P n u (Du P fn R) w (.ret ρ):=Fa [.tmp t] hrs [v] v rfl ⟨h,trivial⟩ hR
theorem Ei{fn:Func}{R:Afp->Ads->Prop}{t t2:Tmp}{v x:Adr}(hrs:fn.results = #[.tmp t, .tmp t2])(h:ρ t=v)(hx:ρ t2=x)(hR:R (.returned (.tuple #[v,x])) w):AZ P n u (Du P fn R) w (.ret ρ):=Fa [.tmp t, .tmp t2] hrs [v,x] _ rfl ⟨h,hx,trivial⟩ hR
theorem Ld{fn:Func}{R:Afp->Ads->Prop}{t t2 t3:Tmp}{v x z:Adr}(hrs:fn.results = #[.tmp t, .tmp t2, .tmp t3])(h:ρ t=v)(hx:ρ t2=x)(hz:ρ t3=z)(hR:R (.returned (.tuple #[v,x,z])) w):AZ P n u (Du P fn R) w (.ret ρ):=Fa [.tmp t, .tmp t2, .tmp t3] hrs [v,x,z] _ rfl ⟨h,hx,hz,trivial⟩ hR
theorem IN{fn:Func}{R:Afp->Ads->Prop}{r:ResultVar}{v:Adr}(hrs:fn.results = #[r])(h:ResF P ρ w r v)(hR:R (.returned v) w):AZ P n u (Du P fn R) w (.ret ρ):=Fa [r] hrs [v] v rfl ⟨h,trivial⟩ hR
theorem Wy{fn:Func}{R:Afp->Ads->Prop}{r r2:ResultVar}{v x:Adr}(hrs:fn.results = #[r,r2])(h:ResF P ρ w r v)(hx:ResF P ρ w r2 x)(hR:R (.returned (.tuple #[v,x])) w):AZ P n u (Du P fn R) w (.ret ρ):=Fa [r,r2] hrs [v,x] _ rfl ⟨h,hx,trivial⟩ hR
end
structure EM {α : Type} (P : AdM) (t : Ady) (enc : α -> List Adr) : Prop where
 ty:∃fs,P.underlying t=some (.struct fs)
 sz:∀x,(P.info? t).map (·.size)=some (enc x).toArray.size
section
variable {P : AdM} {K : Adr -> Ads -> Prop} {ρ : Aj} {w : Ads} {d : Option Tmp} {ty : Ady} {pos : String} {af : Array Aej} {gd : Option (Nat × Bool)} {α : Type} {enc : α -> List Adr} {t : Ady} {p q : AdC} {g : Nat} {a b : α}
theorem ZY{fr:Nat × Nat}(hT:EM P t enc)(hx:Ab ρ p = .pointer (some ⟨g,0,none⟩))(hg:w.heap[g]? =some (.cells (enc a).toArray t fr))(hk:K (.agg (enc a).toArray) w):Yk P K ((execOp (Ab ρ) ⟨d, .load t p,ty,pos,af,gd⟩).run P w):=by
 obtain⟨fs,h⟩:=hT.ty;exact Aal hx hg h rfl (hT.sz a) hk
theorem Z0(hT:EM P t enc)(hx:Ab ρ p = .pointer (some ⟨g,0,none⟩))(hy:Ab ρ q = .agg (enc a).toArray)(hg:w.heap[g]? =some (.cells (enc b).toArray t (0,0)))(h1:∀v∈(enc a).toArray.toList,v.oneCell' =true) 
  (hk:∀w',w'.heap[g]? =some (.cells (enc a).toArray t (0,0))->w.grownBy w' (some g)->w'.heap.size=w.heap.size->K undef w'):Yk P K ((execOp (Ab ρ) ⟨d, .store t p q,ty,pos,af,gd⟩).run P w):=
 Z7 hx hy hg (AdY ((hT.sz a).symm.trans (hT.sz b))) (hT.sz a) h1 hk
end
theorem E3(n:Nat)(h:n<2147483648):IntKind.i32.wrap (n:Int)=(n:Int):=IntWalk.i32_in _ ⟨by omega,by omega⟩
theorem X7(t:Ady)(a b:Nat)(ha:a<2147483648)(hb:b<2147483648):Aea .or t (.int .i32 (a:Int)) (.int .i32 (b:Int))=pure (.int .i32 ((a|||b:Nat):Int)):=by
 unfold Aea;simp only[ne_eq,not_true_eq_false,if_false,Op.intBits,IntKind.bits,BitVec.ofInt_natCast];have h1:(Af2 32 a|||Af2 32 b).toNat=a|||b:=by
  rw[BitVec.toNat_or,AgH,AgH,AgP (by omega),AgP (by omega)]
 show pure (AfL .i32 (IntKind.i32.wrap (((Af2 32 a|||Af2 32 b).toNat:Nat):Int)))=_;rw[h1,E3 _ (Nat.or_lt_two_pow (n:=31) ha hb)]
theorem WX(t:Ady)(a:Nat)(j:AeI)(n:Nat)(hn:n<32)(h:a*2^n<2147483648):Aea .shl t (.int .i32 (a:Int)) (.int j (n:Int))=pure (.int .i32 ((a*2^n:Nat):Int)):=by
 unfold Aea;simp only[Op.shift,IntKind.bits];rw[if_neg (by omega),AdV,Agc (by omega)];have:(a:Int)*2^n=((a*2^n:Nat):Int):=by simp
 rw[this,E3 _ h]
/-! ### A string, rune by rune -/
theorem Le{w:Ads}{g p:Nat}{s:ByteArray}(h:w.heap[g]? =some (.stringIter s p)):w.iterPos g=p:=by simp[World.iterPos,h]
theorem Lf(l:Ai1):(⟨l.toArray⟩:ByteArray).size=l.length:=by show l.toArray.size=_;simp
theorem WY(s:ByteArray)(p:Nat)(h:p<s.size):1<=(Utf8.decode s p).2:=by
 by_cases hc:(s[p]'h).toNat<128
 ·rw[decode_ascii s p h hc];exact Adw 1
 ·exact(decode_high s p h (by omega)).2
section
variable {P : AdM} {K : Adr -> Ads -> Prop} {ρ : Aj} {w : Ads} {d : Option Tmp} {ty : Ady} {pos : String} {af : Array Aej} {gd : Option (Nat × Bool)}
theorem AbT{t:Ady}(ht:P.underlying t=some .string){x:AdC}{l:Ai1}(hx:Ab ρ x=St l) 
  (hk:∀n w',w.heap.size=n->w'.heap[n]? =some (.stringIter ⟨l.toArray⟩ 0)->Ext w w' ->w'.heap.size=n+1->K (.pointer (some ⟨n,0,none⟩)) w'):Yk P K ((execOp (Ab ρ) ⟨d, .range t x,ty,pos,af,gd⟩).run P w):=by
 have hr:(execOp (Ab ρ) ⟨d, .range t x,ty,pos,af,gd⟩).run P w = .ok (.value (.pointer (some ⟨w.heap.size,0,none⟩))) (w.iter ⟨l.toArray⟩ 0):=by
  unfold execOp;simp only[hx,AdB,show(Instr.range t (St l)).run P w=_ from run_range_string w t _ ht,AdA,AdF]
 rw[hr];exact hk _ _ rfl (World.iter_heap _ _ _) ((Aeo _ _).alloc (Adw _) _) (by simp[World.iter])
theorem Ab6{x:AdC}{g:Nat}{l:Ai1}{p:Nat}(hx:Ab ρ x = .pointer (some ⟨g,0,none⟩))(hg:w.heap[g]? =some (.stringIter ⟨l.toArray⟩ p))(hp:p<l.length) 
  (hk:∀q r w',p<q->w'.heap[g]? =some (.stringIter ⟨l.toArray⟩ q)->w.grownBy w' (some g)->w'.heap.size=w.heap.size->K (.tuple #[.bool true,NI p, .int .i32 ((r:Nat):Int)]) w'):Yk P K ((execOp (Ab ρ) ⟨d, .next x true,ty,pos,af,gd⟩).run P w):=by
 have hlt:p<(⟨l.toArray⟩:ByteArray).size:=by rw[Lf];exact hp
 have hr:(Agt (.pointer (some ⟨g,0,none⟩)) true ty).run P w = .ok (.tuple #[.bool true,NI p, .int .i32 ((Utf8.decode ⟨l.toArray⟩ p).1:Nat)]) { w with heap:=w.heap.setIfInBounds g (.stringIter ⟨l.toArray⟩ (p+(Utf8.decode ⟨l.toArray⟩ p).2)) } :=by
  simp only[Agt,getObj,setObj,AdB,Sem.run,hg,Aek,hlt,if_true];simp[goInt,NI]
 unfold execOp;simp only[hx,hr,AdB,AdA,AdF];have hb:=(Aef.1 hg).1;refine hk _ _ _ (Nat.lt_add_of_pos_right (WY _ _ hlt)) ?_ ⟨rfl,rfl,rfl,by simp,fun k _ hk=> ?_⟩ (by simp)
 ·simp[hb]
 ·exact Array.getElem?_setIfInBounds_ne (fun e=>hk (by rw[e]))
theorem AbU{x:AdC}{g:Nat}{l:Ai1}{p:Nat}(hx:Ab ρ x = .pointer (some ⟨g,0,none⟩))(hg:w.heap[g]? =some (.stringIter ⟨l.toArray⟩ p))(hp:¬p<l.length) 
  (hk:K (.tuple #[.bool false]) w):Yk P K ((execOp (Ab ρ) ⟨d, .next x true,ty,pos,af,gd⟩).run P w):=by
 have hlt:¬p<(⟨l.toArray⟩:ByteArray).size:=by rw[Lf];exact hp
 have hr:(Agt (.pointer (some ⟨g,0,none⟩)) true ty).run P w = .ok (.tuple #[.bool false]) w:=by
  simp[Agt,getObj,Sem.run,hg,hlt]
 unfold execOp;simp only[hx,hr,AdB,AdA,AdF];exact hk
end
/-! ### Is it a text? -/
def DG(c:UInt8):Option (Nat × Nat × Nat):=
 if c.toNat<128 then some (0,c.toNat,0)else if 192<=c.toNat/\c.toNat<224 then some (1,c.toNat&&&31,128)
 else if 224<=c.toNat/\c.toNat<240 then some (2,c.toNat&&&15,2048)else if 240<=c.toNat/\c.toNat<248 then some (3,c.toNat&&&7,65536)else none
def FR(l:Ai1)(p:Nat):Nat->Nat->Option Nat
 | 0,r=>some r
 | k+1,r=>if(l.getD p 0).toNat&&&192≠128 then none else FR l (p+1) k (r*2^6|||((l.getD p 0).toNat&&&63))
def N1(r:Nat):Bool:=(decide (0<=r)&&decide (r<=1114111))&&(decide (r<55296)||decide (57343<r))
def EO(l:Ai1)(a:Nat):Option Nat:=
 match DG (l.getD a 0)with
 | none=>none
 | some (n,r,m)=>if l.length-a<=n then none else
  match FR l (a+1) n r with
  | none=>none
  | some q=>if m<=q/\N1 q=true then some (a+n+1)else none
def YZ(o:Option (Nat × Nat × Nat)):Adr:=match o with
 | none=> .tuple #[.int .i64 (-1), .int .i32 0, .int .i32 0]
 | some (n,r,m)=> .tuple #[NI n, .int .i32 (r:Int), .int .i32 (m:Int)]
theorem Sv{l:Ai1}{p i n q:Nat}(hi:i<n)(h:(l.getD (p+i) 0).toNat&&&192≠128):FR l (p+i) (n-i) q=none:=by
 rw[show n-i=(n-i-1)+1 by omega];exact if_pos h
theorem QK{l:Ai1}{p i n q:Nat}(hi:i<n)(h:(l.getD (p+i) 0).toNat&&&192=128):FR l (p+i) (n-i) q=FR l (p+(i+1)) (n-(i+1)) (q*2^6|||((l.getD (p+i) 0).toNat&&&63)):=by
 rw[show n-i=(n-(i+1))+1 by omega];exact if_neg (fun e=>e h)
theorem Py{q i c:Nat}(h:q<2^(7+6*i)):q*2^6|||(c&&&63)<2^(7+6*(i+1)):=by
 refine Nat.or_lt_two_pow ?_ (Afx Afv ?_)
 ·rw[show 7+6*(i+1)=(7+6*i)+6 by omega,Nat.pow_add];exact Nat.mul_lt_mul_of_pos_right h (by decide)
 ·exact Nat.lt_of_lt_of_le (show 63<2^7 by decide) (Afh (by decide) (by omega))
theorem J8{q i n:Nat}(h:q<2^(7+6*i))(hi:i<n)(hn:n<=3):q*2^6<2147483648:=by
 have:2^(7+6*i)<=2^19:=Afh (by decide) (by omega);omega
theorem Wz(c:Nat):c&&&63<2147483648:=Afx Afv (by decide)
theorem Sw{l:Ai1}{a:Nat}(h:DG (l.getD a 0)=none):EO l a=none:=by unfold EO;rw[h]
theorem QL{l:Ai1}{a n r m:Nat}(h:DG (l.getD a 0)=some (n,r,m))(hs:l.length-a<=n):EO l a=none:=by unfold EO;rw[h];exact if_pos hs
theorem UP{l:Ai1}{a n r m:Nat}(h:DG (l.getD a 0)=some (n,r,m))(ht:FR l (a+1) n r=none):EO l a=none:=by
 unfold EO;rw[h];simp only[ht];exact ite_self _
theorem WZ{l:Ai1}{a n r m q:Nat}(h:DG (l.getD a 0)=some (n,r,m))(hs:¬l.length-a<=n)(ht:FR l (a+1) n r=some q):EO l a=if(decide (m<=q)&&N1 q)=true then some (a+n+1)else none:=by
 unfold EO;rw[h];simp only[ht,if_neg hs,Bool.and_eq_true,decide_eq_true_eq]
theorem L4{l:Ai1}{a b:Nat}(h:EO l a=some b):a<b/\b<=l.length:=by
 unfold EO at h;split at h
 ·cases h
 ·split at h
  ·cases h
  ·split at h
   ·cases h
   ·split at h
    ·cases h;omega
    ·cases h
def EP(l:Ai1)(a:Nat):Bool:=
 if a<l.length then
  match _h:EO l a with
  | none=>false
  | some b=>EP l b
 else true
termination_by l.length-a
decreasing_by have:=L4 (by assumption);omega
theorem KE{l:Ai1}{a:Nat}(h:¬a<l.length):EP l a=true:=by rw[EP,if_neg h]
theorem Sx{l:Ai1}{a:Nat}(ha:a<l.length)(h:EO l a=none):EP l a=false:=by
 rw[EP,if_pos ha];split
 ·rfl
 ·rename_i h2;rw[h]at h2;cases h2
theorem Mp{l:Ai1}{a b:Nat}(ha:a<l.length)(h:EO l a=some b):EP l a=EP l b:=by
 rw[EP,if_pos ha];split
 ·rename_i h2;rw[h]at h2;cases h2
 ·rename_i h2;rw[h]at h2;cases h2;rfl
def CB(l:Ai1):Bool:=decide (l.length<=256)&&EP l 0
theorem QM{c:UInt8}{n r m:Nat}(h:DG c=some (n,r,m)):n<=3/\r<2^7/\(0<n->r<2^5)/\m<=65536:=by
 have hm:c.toNat&&&31<=31/\c.toNat&&&15<=15/\c.toNat&&&7<=7:=⟨Afv,Afv,Afv⟩;unfold DG at h;split at h
 ·cases h;omega
 ·split at h
  ·cases h;omega
  ·split at h
   ·cases h;omega
   ·split at h
    ·cases h;omega
    ·cases h
def AU(k:Nat):Ai1->Option (Nat × Nat)
 | []=>none
 | c :: r=>if 128<=c.toNat then(if 8<=k then none else(AU (k+1) r).map (fun x=>(c.toNat-128+128*x.1,x.2+1)))
  else if c.toNat=0/\0<k then none else some (c.toNat,1)
theorem Id:∀(l:Ai1) (k:Nat) (x:Nat × Nat),AU k l=some x->1<=x.2/\x.2<=l.length/\x.2+k<=max 9 (k+1)
 | [],k,x,h=>by simp[AU]at h
 | c :: r,k,x,h=>by
  unfold AU at h;split at h
  ·split at h
   ·cases h
   ·obtain⟨y,hy,rfl⟩:=Afr.1 h;have:=Id r (k+1) y hy;simp;omega
  ·split at h
   ·cases h
   ·cases h;simp;omega
theorem Mq:∀(l:Ai1) (k:Nat) (x:Nat × Nat),AU k l=some x->x.1<128^x.2
 | [],k,x,h=>by simp[AU]at h
 | c :: r,k,x,h=>by
  unfold AU at h;split at h
  ·split at h
   ·cases h
   ·obtain⟨y,hy,rfl⟩:=Afr.1 h;have:=Mq r (k+1) y hy;have hc:=c.toNat_lt;simp only[Nat.pow_succ];omega
  ·split at h
   ·cases h
   ·cases h;simp;omega
theorem EG(rest:Ai1):∀(m n k:Nat),n<128^(m+1)->m+k<=8->(0<k->0<n)->AU k (AdU n++rest)=some (n,(AdU n).length)
 | m,n,k,hn,hk,h0=>by
  by_cases h:n<128
  ·rw[Lib.uvarint_small h];have:(n.toUInt8).toNat=n:=by simp[Nat.toUInt8,UInt8.toNat_ofNat'];omega
   simp only[Ad1,AU,this];rw[if_neg (by omega),if_neg (by omega)];simp
  ·have hb:((n%128+128).toUInt8).toNat=n%128+128:=by simp[Nat.toUInt8,UInt8.toNat_ofNat'];omega
   rw[Lib.uvarint_big (by omega)];simp only[Ad1,AU,hb]
   match m,hn,hk with
   | 0,hn,_=>simp at hn;omega
   | m+1,hn,hk=>
    rw[if_pos (by omega),if_neg (by omega),EG rest m (n/128) (k+1) (by rw[Nat.pow_succ]at hn;exact Nat.div_lt_of_lt_mul (by rw[AhB];exact hn)) (by omega) (fun _=>by omega)];simp;omega
theorem QN:∀w' :Ads,(sizeOf 5).run Adt w' = .ok 1 w' :=fun _=>by kernel_rfl
def ER(a:Nat):Option (Nat × Nat)->Adr
 | some x=> .tuple #[.int .i64 x.1, .int .i64 ↑(a+x.2), .int .i64 0]
 | none=> .tuple #[.int .i64 0, .int .i64 0, .int .i64 6]
theorem Ie(y k:Nat)(hy:y<128)(hk:k<=8):IntKind.u64.wrap ((y:Int)*2^(7*k))=((y*2^(7*k):Nat):Int):=by
 have h1:y*2^(7*k)<=127*2^56:=Ag9 (by omega) (Afh (by decide) (by omega));have e:((y:Int)*2^(7*k))=((y*2^(7*k):Nat):Int):=by push_cast;rfl
 rw[e];exact IntWalk.u64_in _ ⟨by omega,by omega⟩
theorem N2(out y k:Nat)(hout:out<2^(7*k))(hy:y<128)(hk:k<=8):bits .or .u64 (out:Int) ((y*2^(7*k):Nat):Int)=((out+2^(7*k)*y:Nat):Int):=by
 have h1:y*2^(7*k)<=127*2^56:=Ag9 (by omega) (Afh (by decide) (by omega));have h2:2^(7*k)<=2^56:=Afh (by decide) (by omega);have h:=(bits_nat .u64 64 (by decide) wraps_u64 out (y*2^(7*k)) (by omega) (by omega)).2;rw[h]
 congr 1
 have h3:=Nat.shiftLeft_add_eq_or_of_lt hout y;rw[Nat.shiftLeft_eq]at h3;rw[Nat.or_comm,<-h3,AhB];omega
set_option maxRecDepth 100000 in
theorem QO:∀n:Fin 128,bits .andNot .u8 ((n.val+128:Nat):Int) 128=(n.val:Int):=by decide+kernel
theorem N3(c:Nat)(h:128<=c)(h2:c<256):IntKind.u64.wrap (bits .andNot .u8 (c:Int) 128)=((c-128:Nat):Int):=by
 have h1:=QO ⟨c-128,by omega⟩;have e:c-128+128=c:=by omega
 simp only[e]at h1;rw[h1];exact IntWalk.u64_in _ ⟨by omega,by omega⟩
theorem N4(out y k:Nat)(hout:out<2^(7*k))(hy:y<128)(hk:k<=8):out+2^(7*k)*y<=9223372036854775807:=by
 have h1:2^(7*k)*y<=2^56*127:=Ag9 (Afh (by decide) (by omega)) (by omega);have h2:2^(7*k)<=2^56:=Afh (by decide) (by omega);omega
theorem Sy(a k N c:Nat)(h:N+2^(7*k)*c<=9223372036854775807):
  Ae2 (.tuple #[.int .i64 (wrap64 ((N+2^(7*k)*c:Nat):Int)), .int .i64 ((a:Int)+(k:Int)+1), .int .i64 0]) = .returned (ER a ((some (c,1)).map fun x=>(N+2^(7*k)*x.1,x.2+k))):=by
 rw[IntWalk.wrap64_in _ ⟨by omega,by omega⟩];have e:(a:Int)+(k:Int)+1=((a+(1+k):Nat):Int):=by omega
 rw[e];rfl
set_option maxRecDepth 100000 in
set_option maxHeartbeats 1000000 in
theorem HI(w:Ads)(v:Adr)(l:Ai1)(hr:RB w v l)(a:Nat)(ha:a<=l.length):
  Calls Adt 121 #[v, .int .i64 a] w fun e w' =>e = .returned (ER a (AU 0 (l.drop a)))/\w=w' :=by
 have HR:=Afb hr;obtain⟨ao,cap,rfl,h2,h3⟩:=hr.len;clear hr;have hd:decide ((a:Int)<0)=false:=by simp
 have hd2:decide (l.length<a)=false:=by simp;omega
 obtain⟨L,hL⟩:∃L,L=l.drop a:=⟨_,rfl⟩;have hLn:l.length-a=L.length:=by rw[hL,AdT]
 rw[<-hL];have HLn:=Afb hLn;have HL:=Afb hL;clear hLn hL
 go_enter AiI,Aiu
 go_wp2_with fail
 go_step3
 go_wp2_with fail
 go_step3
 go_wp2_with (refine Hs (o:=⟨some 21,_,_,_,_,_⟩) rfl _ _ (some _) none rfl Hv QN _ l rfl HR.out a l.length ha (Adw _) (.inr ⟨.i64,rfl⟩) (.inl ⟨rfl,rfl⟩) ?_)
 intro ao' c' hr';rw[Ad7 (by rw[AdT];exact Adw _)]at hr';have HR' :=Afb hr';clear hr' hd hd2;rw[<-HL.out,HLn.out]at HR';rw[HLn.out];by_cases g:L.length=0
 ·have hL0:L= []:=Aep g;have HL0:=Afb hL0;clear hL0 HR' HR;have h00:decide (0<L.length)=false:=by simp[g]
  clear g
  go_wp2_with fail
  refine wp_loop_rounds 1 ?_;rw[rounds_succ]
  go_wp2
  rw[Exit.noGoto_ret]
  all_goals (go_ret3;exact⟨by rw[HL0.out];simp[AU,ER],rfl⟩)
 obtain⟨b,off,cc,hv,hcap,hcap2,hbw,hcell⟩:=HR'.out.open_ (by omega);simp only[Value.slice.injEq,true_and]at hv;obtain⟨rfl,rfl⟩:=hv;have haL:a+L.length<=9223372036854775807:=by have:=HLn.out;omega
 clear HR' HR
 go_wp2_with fail
 go_loop [7,8,23] (fun vx vs vi=>∃k out:Nat,vi = .int .i64 k/\vs = .int .i64 ((7*k:Nat):Int)/\vx = .int .u64 out/\k<=L.length/\k<=8/\out<2^(7*k)/\AU 0 L=(AU k (L.drop k)).map (fun x=>(out+2^(7*k)*x.1,x.2+k)))
  (fun _ _ vi=>L.length-(intOf vi).toNat)
 case atStart=>exact⟨0,0,rfl,rfl,rfl,by omega,by omega,by decide,by simp⟩
 case round=>
  obtain⟨k,out,rfl,rfl,rfl,hk,f,hout,hdec⟩:=hrel;have HD:=Afb hdec;clear hdec;by_cases hkl:k<L.length
  ·have hc:=hcell k hkl;have hdrop:L.drop k=L[k] :: L.drop (k+1):=Afk hkl;have hg:L.getD k 0=L[k]:=by simp[hkl]
   rw[hg]at hc
   generalize L[k]=c at hc hdrop
   have HDr:=Afb hdrop;have i:=c.toNat_lt;clear hcell hdrop hg;have HO:=Afb hout;clear hout;by_cases h128:128<=c.toNat
   ·by_cases hk8' :k=8
    ·subst hk8'
     go_wp2
     all_goals (go_ret3;exact⟨by rw[HD.out,HDr.out];simp[AU,h128,ER],rfl⟩)
    ·have m:k<8:=by omega
     clear hk8'
     go_wp2
     go_round
     case rel=>
      have hp:2^(7*(k+1))=2^(7*k)*128:=by rw[show 7*(k+1)=7*k+7 from by omega,Nat.pow_add]
      refine⟨k+1,out+2^(7*k)*(c.toNat-128),by go_num,by go_num,?_,by omega,by omega,?_,?_⟩
      ·rw[N3 _ h128 i,Ie _ _ (by omega) (by omega),N2 _ _ _ HO.out (by omega) (by omega)]
      ·have h1:=HO.out;have h2:2^(7*k)*(c.toNat-128)<=2^(7*k)*127:=Nat.mul_le_mul_left _ (by omega);rw[hp];omega
      ·rw[HD.out,HDr.out];have:AU k (c :: L.drop (k+1))=(AU (k+1) (L.drop (k+1))).map (fun x=>(c.toNat-128+128*x.1,x.2+1)):=by
        simp only[AU];rw[if_pos h128,if_neg (by omega)]
       rw[this,Option.map_map]
       congr 1
       funext x
       simp only[Function.comp,Prod.mk.injEq];refine⟨?_,by omega⟩;rw[hp,Nat.mul_add,Nat.mul_assoc];omega
     case measure=>simp[intOf];omega
   ·have hlt:c.toNat<128:=by omega
    by_cases h0:c.toNat=0
    ·have hz:((c.toNat:Int)==0)=true:=by simp[h0]
     have HZ:=Afb h0;clear h0;by_cases h:0<k
     ·go_wp2
      all_goals (go_ret3;exact⟨by rw[HD.out,HDr.out];simp[AU,HZ.out,h,ER],rfl⟩)
     ·have j:decide (0<k)=false:=by simp;omega
      clear h;have hd:AU k (c :: L.drop (k+1))=some (c.toNat,1):=by
       simp only[AU];rw[if_neg h128,if_neg (by simp at j;omega)]
      have HD2:=Afb hd;clear hd
      go_wp2
      all_goals go_ret3
      all_goals refine⟨?_,rfl⟩
      all_goals rw[Ie _ _ hlt f,N2 _ _ _ HO.out hlt f,HD.out,HDr.out,HD2.out]
      all_goals exact Sy a k _ _ (N4 _ _ _ HO.out hlt f)
    ·have hz:((c.toNat:Int)==0)=false:=by simp[h0]
     have HZ:=Afb h0;clear h0;have hd:AU k (c :: L.drop (k+1))=some (c.toNat,1):=by
      simp only[AU];rw[if_neg h128,if_neg (by have:=HZ.out;omega)]
     have HD2:=Afb hd;clear hd
     go_wp2
     all_goals go_ret3
     all_goals refine⟨?_,rfl⟩
     all_goals rw[Ie _ _ hlt f,N2 _ _ _ HO.out hlt f,HD.out,HDr.out,HD2.out]
     all_goals exact Sy a k _ _ (N4 _ _ _ HO.out hlt f)
  ·have hkl' :k=L.length:=by omega
   go_wp2
   all_goals (go_ret3;exact⟨by rw[HD.out,hkl'];simp[AU,ER],rfl⟩)
theorem u5:Tryz.prog.underlying 5=some (.int .u8):=by kernel_rfl

theorem Zy(w:Ads)(ao:Option Addr)(n c:Nat)(a:Int)(ha:a<0\/(n:Int)<a):
  Calls Adt 121 #[.slice ao n c, .int .i64 a] w fun e w' =>e = .returned (.tuple #[.int .i64 0, .int .i64 0, .int .i64 1])/\w=w' :=by
 by_cases h0:a<0
 ·have hd:decide (a<0)=true:=by simp[h0]
  clear ha
  go_enter AiI,Aiu
  go_wp2_with fail
  go_step3
  go_wp2_with fail
  rw[Exit.noGoto_ret]
  go_ret3
  exact⟨rfl,rfl⟩
 ·have hd:decide (a<0)=false:=by simp[h0]
  have h1:(n:Int)<a:=by omega
  have hd2:decide ((n:Int)<a)=true:=by simp[h1]
  clear ha
  go_enter AiI,Aiu
  go_wp2_with fail
  go_step3
  go_wp2_with fail
  rw[Exit.noGoto_ret]
  go_ret3
  exact⟨rfl,rfl⟩
def Bp(l:Ai1)(a:Nat)(most:Int):Adr:=
 match AU 0 (l.drop a)with
 | none=> .tuple #[.string ⟨#[]⟩, .int .i64 0, .int .i64 6]
 | some x=>if most<x.1 then .tuple #[.string ⟨#[]⟩, .int .i64 0, .int .i64 2]
  else if l.length<a+x.2+x.1 then .tuple #[.string ⟨#[]⟩, .int .i64 0, .int .i64 6]
  else .tuple #[.string ⟨((l.drop (a+x.2)).take x.1).toArray⟩, .int .i64 ↑(a+x.2+x.1), .int .i64 0]
set_option maxRecDepth 100000 in
set_option maxHeartbeats 1000000 in
theorem Db(w:Ads)(v:Adr)(l:Ai1)(hr:RB w v l)(a:Nat)(ha:a<=l.length)(most:Int):
  Calls Adt 76 #[v, .int .i64 a, .int .i64 most] w fun e w' =>e = .returned (Bp l a most)/\w=w' :=by
 have HR:=Afb hr;obtain⟨ao,cap,rfl,h2,h3⟩:=hr.len;clear hr;have HG:=Afb (HI w _ l HR.out a ha);cases hL:AU 0 (l.drop a)with
 | none=>
  have hR:Bp l a most = .tuple #[.string ⟨#[]⟩, .int .i64 0, .int .i64 6]:=by unfold Bp;rw[hL]
  rw[hR];have HL:=Afb hL;clear hL hR
  go_enter Aia,AhC
  go_wp2_with fail
  refine HG.out.mono ?_;rintro e w1 ⟨rfl,rfl⟩;rw[HL.out];unfold ER
  go_wp2_with fail
  go_ret3
  exact⟨rfl,rfl⟩
 | some x=>
  obtain⟨n,m⟩:=x;have hp:=Id _ _ _ hL;have hlt:=Mq _ _ _ hL;rw[AdT]at hp;have hm9:m<=9:=by have:=hp.2.2;simp at this;exact this
  have b:n<=9223372036854775807:=by
   have h1:128^m<=128^9:=Afh (by decide) hm9;simp only at hlt;omega
  have hm1:1<=m:=hp.1;have hml:a+m<=l.length:=by have:=hp.2.1;simp at this;omega
  have HL:=Afb hL;clear hL hlt hp;by_cases hmost:most<n
  ·have hR:Bp l a most = .tuple #[.string ⟨#[]⟩, .int .i64 0, .int .i64 2]:=by unfold Bp;rw[HL.out];simp only[];rw[if_pos hmost]
   rw[hR];clear hR
   go_enter Aia,AhC
   go_wp2_with fail
   refine HG.out.mono ?_;rintro e w1 ⟨rfl,rfl⟩;rw[HL.out];unfold ER
   go_wp2_with fail
   go_ret3
   exact⟨rfl,rfl⟩
  ·by_cases hlen:l.length<a+m+n
   ·have hR:Bp l a most = .tuple #[.string ⟨#[]⟩, .int .i64 0, .int .i64 6]:=by unfold Bp;rw[HL.out];simp only[];rw[if_neg hmost,if_pos hlen]
    rw[hR];clear hR
    go_enter Aia,AhC
    go_wp2_with fail
    refine HG.out.mono ?_;rintro e w1 ⟨rfl,rfl⟩;rw[HL.out];unfold ER
    go_wp2_with fail
    go_ret3
    exact⟨rfl,rfl⟩
   ·have hR:Bp l a most = .tuple #[.string ⟨((l.drop (a+m)).take n).toArray⟩, .int .i64 ↑(a+m+n), .int .i64 0]:=by unfold Bp;rw[HL.out];simp only[];rw[if_neg hmost,if_neg hlen]
    rw[hR];clear hR
    go_enter Aia,AhC
    go_wp2_with fail
    refine HG.out.mono ?_;rintro e w1 ⟨rfl,rfl⟩;rw[HL.out];unfold ER;have hlh:a+m<=a+m+n:=Nat.le_add_right _ _;have hhl:a+m+n<=l.length:=by omega
    go_wp2_with (refine Hs (o:=⟨some 38,_,_,_,_,_⟩) rfl _ _ (some _) (some _) rfl Hv QN _ l rfl HR.out (a+m) (a+m+n) hlh hhl (.inr ⟨.i64,rfl⟩) (.inr ⟨.i64,rfl⟩) ?_)
    intro ao' c' hr';have HR' :=Afb hr';clear hr'
    go_wp2_with (refine Pu (o:=⟨some 39,_,_,_,_,_⟩) rfl _ _ _ rfl Hv u5 XW _ _ rfl HR'.out ?_)
    go_ret3
    exact⟨rfl,rfl⟩
theorem WA:Tryz.prog.underlying 33=some (.array 32 5):=by kernel_rfl
theorem Sz:(Tryz.prog.info? 33).map (·.size)=some 32:=by kernel_rfl
theorem X8:(Tryz.prog.info? 5).map (·.size)=some 1:=by kernel_rfl

def zero32:Ai1:=Aey 32 0
theorem Fm{l:Ai1}(h:l.length=32):(Adv l).toArray.size=32:=by simp[Adv,h]
theorem As{l:Ai1}(h:l.length=32):(Tryz.prog.info? 33).map (·.size)=some (Adv l).toArray.size:=by rw[Fm h];exact Sz
theorem QP:zero32.length=32:=Aee

theorem Qc(ρ:AdC->Adr)(d:Option Tmp)(ty:Ady)(pos:String)(af:Array Aej)(w:Ads):(execOp ρ ⟨d, .alloc 33,ty,pos,af,none⟩).run Adt w = .ok (.value (.pointer (some ⟨w.heap.size,0,none⟩))) (w.alloc (.cells (Adv zero32).toArray 33)):=by kernel_rfl

def DW(l:Ai1)(a:Nat):Adr:=
 if l.length-a<32 then .tuple #[.agg (Adv zero32).toArray, .int .i64 0, .int .i64 6]
 else .tuple #[.agg (Adv ((l.drop a).take 32)).toArray, .int .i64 ↑(a+32), .int .i64 0]
set_option maxRecDepth 100000 in
set_option maxHeartbeats 1000000 in
theorem If(w:Ads)(v:Adr)(l:Ai1)(hr:RB w v l)(a:Nat)(ha:a<=l.length):
  Calls Adt 183 #[v, .int .i64 a] w fun e w' =>e = .returned (DW l a)/\Ext w w' :=by
 have HR:=Afb hr;obtain⟨ao,cap,rfl,h2,h3⟩:=hr.len;clear hr;have hd:decide ((a:Int)<0)=false:=by simp
 have hd2:decide (l.length<a)=false:=by simp;omega
 by_cases hs:l.length-a<32
 ·have hR:DW l a = .tuple #[.agg (Adv zero32).toArray, .int .i64 0, .int .i64 6]:=by unfold DW;rw[if_pos hs]
  rw[hR];clear hR
  go_enter Tryz.func183,Tryz.ntmps183
  have HSI:=Afb (As QP)
  go_wp2_with (first | (refine IW (o:=⟨some 4, .alloc _,_,_,_,_⟩) rfl _ _ (Qc _ _ _ _ _ _) ?_) | (refine wpList_load_row (o:=⟨some 21,_,_,_,_,_⟩) rfl _ _ rfl w.heap.size rfl _ _ _ _ (heap_alloc_new w _) WA rfl HSI.out ?_) | (refine Gk (o:=⟨none, .store _ _ _,_,_,_,_⟩) rfl _ _ _ rfl w.heap.size rfl (Adv zero32).toArray 33 rfl (heap_alloc_new w _) HSI.out (Ay zero32) ?_))
  refine bodyPost_ret (v:= .tuple #[.agg (Adv zero32).toArray, .int .i64 0, .int .i64 6]) (IL Tryz.results183 _ _ w.heap.size 33 (Adv zero32).toArray (0,0) _ rfl (heap_alloc_new w _) WA rfl HSI.out) rfl ⟨rfl,(Aeo _ _).alloc (Adw _) _⟩
 ·have hR:DW l a = .tuple #[.agg (Adv ((l.drop a).take 32)).toArray, .int .i64 ↑(a+32), .int .i64 0]:=by unfold DW;rw[if_neg hs]
  rw[hR];clear hR
  go_enter Tryz.func183,Tryz.ntmps183
  go_wp2_with (refine IW (o:=⟨some 4, .alloc _,_,_,_,_⟩) rfl _ _ (Qc _ _ _ _ _ _) ?_)
  have hal:a+32<=l.length:=by omega
  obtain⟨w0,hw0⟩:∃w0,w0=w.alloc (.cells (Adv zero32).toArray 33):=⟨_,rfl⟩;have hbox:w0.heap[w.heap.size]? =some (.cells (Adv zero32).toArray 33 (0,0)):=by rw[hw0];exact heap_alloc_new w _
  have hsz:w0.heap.size=w.heap.size+1:=by rw[hw0];simp
  have b:Below w.heap.size w w0:=by rw[hw0];exact(Aeo _ _).alloc (Adw _) _
  rw[<-hw0];clear hw0;have c:((l.drop a).take 32).length=32:=by rw[AdS,AdT];omega
  have HL32:=Afb c;clear c hd hd2;refine LZ [4] (fun n=>if n=4 then [3]else []) (fun w' =>Below w.heap.size w0 w' /\∃cur:Array Adr,cur.size=32/\w'.heap[w.heap.size]? =some (.cells cur 33 (0,0)))
   (fun w1 w2=>w1.grownBy w2 (some w.heap.size)/\((∃cur:Array Adr,cur.size=32/\w1.heap[w.heap.size]? =some (.cells cur 33 (0,0)))->∃cur:Array Adr,cur.size=32/\w2.heap[w.heap.size]? =some (.cells cur 33 (0,0))))
   [Is (.slice (some ⟨w.heap.size,0,none⟩) 32 32),Is (.slice ao l.length cap),Is (.int .i64 a),(fun x w' =>RB w' x (l.drop a)),(fun _ w' =>w'.heap[w.heap.size]? =some (.cells (Adv ((l.drop a).take 32)).toArray 33 (0,0)))]
   (by kernel_rfl) _ _ (by kernel_rfl) (by kernel_rfl) [22,23,24,25,26] (by kernel_rfl)
   (fun w1 w2 h k=>⟨h.1.trans (k.mono (by have:=h.1.size;have:=hsz;omega)),by obtain⟨cur,h1,h2⟩:=h.2;exact⟨cur,h1,(k.block _ (Aef.1 h2).1).trans h2⟩⟩)
   (fun w1 w2 h k=>⟨h.1.grown k.1 (by have:=h.1.size;have:=hsz;omega) (fun _ e=>by cases e;exact Adw _),k.2 h.2⟩) (fun w=>⟨World.grownBy.refl _ _,fun h=>h⟩) ⟨(Aeo _ _).drew,_,Fm rfl,hbox⟩ ?hst ?hsk ?hs ?hQ
  case hst=>
   refine⟨ZW _,ZW _,ZW _,Stab.rb _,fun v w1 w2 h k=> ?_,trivial⟩;have h' :w1.heap[w.heap.size]? =_:=h;exact(k.block _ (Aef.1 h').1).trans h'
  case hsk=>
   intro n i hn hi hk hne hb;simp at hn;subst hn
   match i,hi,hk,hne,hb with
   | 0,_,_,_,_=>exact ZW _
   | 1,_,_,_,_=>exact ZW _
   | 2,_,_,_,_=>exact ZW _
   | 3,_,hk,_,_=>simp at hk
   | 4,_,_,hne,_=>simp at hne
  case hs=>
   refine⟨?_,?_,?_,?_,?_,trivial⟩
   ·refine GD rfl fun ρ w1 hC h=> ?_;have h4:ρ 4 = .pointer (some ⟨w.heap.size,0,none⟩):=h 4 (by decide);refine AcG (v:= .slice (some ⟨w.heap.size,0,none⟩) 32 32) (w' :=w1) ?_ ⟨Acz _,rfl⟩;clear h hC;simp[execOp,Ab,h4,go_sem]
   ·refine GD rfl fun ρ w1 hC h=> ?_;have h0:ρ 0 = .slice ao l.length cap:=h 0 (by decide);exact⟨Acz _,h0⟩
   ·refine GD rfl fun ρ w1 hC h=> ?_;have h0:ρ 1 = .int .i64 a:=h 1 (by decide);exact⟨Acz _,h0⟩
   ·refine GD rfl fun ρ w1 hC h=> ?_;have h23:ρ 23 = .slice ao l.length cap:=h 23 (by decide);have h24:ρ 24 = .int .i64 a:=h 24 (by decide);have f:RB w1 (Ab ρ (.tmp 23)) l:=by show RB w1 (ρ 23) l;rw[h23];exact HR.out.keep (b.trans hC.1)
    refine AbQ Hv QN f a l.length ha (Adw _) (.inr ⟨.i64,by simp[Ab,h24]⟩) (.inl ⟨rfl,rfl⟩) ?_;intro ao' c' hr';rw[Ad7 (by rw[AdT];exact Adw _)]at hr';exact⟨Acz _,hr'⟩
   ·refine GD rfl fun ρ w1 hC h=> ?_;have h22:ρ 22 = .slice (some ⟨w.heap.size,0,none⟩) 32 32:=h 22 (by decide);have h25:RB w1 (ρ 25) (l.drop a):=h 25 (by decide);obtain⟨hC1,cur,hcs,hcb⟩:=hC;have hm:Af9 (l.drop a).length 32=32:=Nat.min_eq_right (by rw[AdT];exact Nat.le_sub_of_add_le (by rw[Nat.add_comm];exact hal));have hfit:0+Af9 (l.drop a).length 32<=cur.size:=by rw[hm,hcs];exact Adw _
    refine Ach (.tmp 22) (.tmp 25) (o:=0) Hv X8 h22 h25 hcb hfit ?_;have e:(cur.toList.take 0++Adv ((l.drop a).take 32)++cur.toList.drop (0+Af9 (l.drop a).length 32)).toArray=(Adv ((l.drop a).take 32)).toArray:=by
     have hd0:cur.toList.drop (0+32)= []:=AeR (Ago (by rw[AeN,hcs]));rw[hm,hd0];simp
    rw[e];have hw:=setRow_heap w1 w.heap.size cur (Adv ((l.drop a).take 32)).toArray 33 (0,0) hcb;exact⟨⟨⟨rfl,rfl,rfl,by simp,fun k _ hk=>setRow_other w1 w.heap.size k _ (fun e=>hk (by rw[e]))⟩,fun _=>⟨_,Fm HL32.out,hw⟩⟩,hw⟩
  case hQ=>
   intro u w1 hC hE;obtain⟨-,-,-,-,h26,-⟩:=hE;have hblk:w1.heap[w.heap.size]? =some (.cells (Adv ((l.drop a).take 32)).toArray 33 (0,0)):=h26;clear h26;simp only[DU,List.foldl_cons,List.foldl_nil,List.setIfInBounds_toArray,List.set_cons_zero,List.set_cons_succ];have hsi:(Tryz.prog.info? 33).map (·.size)=some (Adv ((l.drop a).take 32)).toArray.size:=by rw[Fm HL32.out];exact Sz
   have HB:=Afb hblk;clear hblk;have HSI:=Afb hsi;clear hsi
   go_wp2_with (first | (refine wpList_load_row (o:=⟨some 27,_,_,_,_,_⟩) rfl _ _ rfl w.heap.size rfl _ _ _ _ HB.out WA rfl HSI.out ?_) | (refine Gk (o:=⟨none, .store _ _ _,_,_,_,_⟩) rfl _ _ _ rfl w.heap.size rfl (Adv ((l.drop a).take 32)).toArray 33 rfl HB.out HSI.out (Ay _) ?_))
   refine bodyPost_ret (v:= .tuple #[.agg (Adv ((l.drop a).take 32)).toArray, .int .i64 ↑(a+32), .int .i64 0]) ?_ rfl ⟨rfl,b.trans hC.1⟩;exact IL Tryz.results183 _ _ w.heap.size 33 _ (0,0) _ rfl HB.out WA rfl HSI.out
def JO(c:UInt8):Bool:=((((((decide (97<=c.toNat))&&(decide (c.toNat<=122)))||((decide (65<=c.toNat))&&(decide (c.toNat<=90))))||((decide (48<=c.toNat))&&(decide (c.toNat<=57))))||(decide (c.toNat=45)))||(decide (c.toNat=95)))||(decide (c.toNat=46))
def Ig(s:Bs):Bool:=(((decide (s.length<1)||decide (32<s.length))||decide ((s.getD 0 0).toNat=46))||decide ((s.getD 0 0).toNat=45))||decide (s= [72,69,65,68])
def Aw(s:Bs):Bool:= !Ig s&&s.all JO
theorem QS{s:Bs}(h:Ig s=true):Aw s=false:=by unfold Aw;rw[h];rfl
theorem Mr{s:Bs}(h:Ig s=false):1<=s.length/\s.length<=32:=by
 unfold Ig at h;simp only[Bool.or_eq_false_iff,decide_eq_false_iff_not]at h;omega
theorem Ex{s:Bs}(h:Aw s=true):1<=s.length/\s.length<=32:=by
 unfold Aw at h;refine Mr ?_;cases hh:Ig s with
 | false=>rfl
 | true=>rw[hh]at h;cases h
theorem SA{s:Bs}{i:Nat}(hi:i<s.length)(h:JO (s.getD i 0)=false):Aw s=false:=by
 unfold Aw;rw[Bool.and_eq_false_iff];refine .inr ?_;rw[List.all_eq_false];refine⟨s.getD i 0,?_,by rw[h];decide⟩;rw[Adz,AdE hi];exact Ae3 hi
theorem UQ{α:Type}{l:List α}{f:α->Bool}{i:Nat}(d:α)(hi:i<l.length)(h:(l.take i).all f=true)(h1:f (l.getD i d)=true):(l.take (i+1)).all f=true:=by
 rw[List.take_succ_eq_append_getElem hi,List.all_append,h];rw[Adz,AdE hi]at h1;simp only[Option.getD_some]at h1;simp[h1]
theorem SC{s:Bs}{i:Nat}(h:Ig s=false)(hi:s.length<=i)(ha:(s.take i).all JO=true):Aw s=true:=by
 unfold Aw;rw[h,Ad7 hi]at *;rw[ha];rfl
set_option maxRecDepth 100000
theorem F3:Tryz.prog.underlying 21=some (.int .i32):=by kernel_rfl
theorem E4:Tryz.prog.underlying 9=some (.string):=by kernel_rfl
theorem Lg:Plain Adt 191:=fun _ _=>by kernel_rfl
theorem QT:Plain Adt 192:=fun _ _=>by kernel_rfl
theorem QU:Plain Adt 153:=fun _ _=>by kernel_rfl
theorem Lh:Plain Adt 130:=fun _ _=>by kernel_rfl
theorem SD:Plain Adt 88:=fun _ _=>by kernel_rfl
theorem SE:Plain Adt 87:=fun _ _=>by kernel_rfl
set_option maxHeartbeats 1600000
theorem QV(w:Ads)(r:Nat):
  Calls Adt 192 #[.int .i32 (r:Int)] w fun e w' =>e = .returned (.bool (N1 r))/\Ext w w' :=by
 refine F2 (args:= [.int .i32 ((r:Nat):Int)]) Tryz.func192 rfl 17 rfl rfl ?_;have hE:=Acz w;refine gS (ZO (a:=(r:Nat)) (b:=(0:Nat)) rfl rfl (FO _ _ _ _) (gO fun _=>Ae (.int .i32 ((r:Nat):Int)) rfl rfl (gT rfl) (fun hG3=>AcF rfl ⟨rfl,rfl⟩) (At (gO fun _=>Ae (.bool (decide ((r)<=(1114111)))) rfl rfl (gT rfl) (fun hG4=>ZO (a:=((r:Nat):Int)) (b:=((1114111:Nat):Int)) (Al rfl hG4) rfl (Fj _ .i32 (r) (1114111)) ⟨rfl,rfl⟩) (At (gS (Z9 rfl (fun hA=>(Al rfl hA)) rfl fun bb5 hbb6=>(gO fun _=>Ae (.int .i32 ((r:Nat):Int)) rfl rfl (gT rfl) (fun hG7=>AcF rfl ⟨rfl,rfl⟩) (At (gO fun _=>Ae (.bool (decide ((r)<(55296)))) rfl rfl (gT rfl) (fun hG8=>ZO (a:=((r:Nat):Int)) (b:=((55296:Nat):Int)) (Al rfl hG8) rfl (Bg _ .i32 (r) (55296)) ⟨rfl,rfl⟩) (At (gO fun _=>Ae (.bool (decide ((r)<(55296)))) rfl rfl (gT rfl) (fun hG9=>AcF (Al rfl hG9) ⟨rfl,rfl⟩) (At (gO fun _=>Ae (.int .i32 ((r:Nat):Int)) rfl rfl (FB rfl) (fun hG10=>AcF rfl ⟨rfl,rfl⟩) (At (gO fun _=>Ae (.bool (decide ((57343)<(r)))) rfl rfl (FB rfl) (fun hG11=>ZO (a:=((r:Nat):Int)) (b:=((57343:Nat):Int)) (Al rfl hG11) rfl (CM _ .i32 (r) (57343)) ⟨rfl,rfl⟩) (At (gO fun _=>Er ((decide ((r)<(55296)))||(decide ((57343)<(r)))) rfl rfl (gT rfl) (fun hG12=>Aax (Al rfl hG12) rfl (fun hA=>(Al rfl (Gs hG12 (BJ hA)))) ⟨rfl,rfl⟩) fun bb13 hbb14=>At (gS (Z9 rfl (fun hA=>(Al rfl hA)) rfl fun bb15 hbb16=>(Az rfl (vr (.bool (bb15)) rfl) ?_)))))))))))))))))))));subst hbb6 hbb14 hbb16;exact⟨rfl,hE⟩
theorem N5(w:Ads)(c:UInt8):
  Calls Adt 191 #[B8 c] w fun e w' =>e = .returned (YZ (DG c))/\Ext w w' :=by
 refine F2 (args:= [B8 (c)]) Tryz.func191 rfl 40 rfl rfl ?_;have hE:=Acz w;refine gS (ZO (a:=((c).toNat:Nat)) (b:=(128:Nat)) rfl rfl (Bg _ _ _ _) ?_);refine cD rfl (fun f=> ?_) fun f=> ?_
 ·refine gS (AaG u5 F3 rfl (XV .i32 (c) (fun n hn=>E3 n (by omega))) (Ld rfl (vr (NI 0) rfl) (vr (.int .i32 (((c).toNat:Nat):Int)) rfl) (vr (.int .i32 ((0:Nat):Int)) rfl) ?_));refine⟨congrArg Ae2 ?_,hE⟩;unfold DG;rw[if_pos f];rfl
 refine gS (ZO (a:=((c).toNat:Nat)) (b:=(192:Nat)) rfl rfl (FO _ _ _ _) (gO fun _=>Ae (B8 (c)) rfl rfl (gT rfl) (fun hG6=>AcF rfl ⟨rfl,rfl⟩) (At (gO fun _=>Ae (.bool (decide (((c).toNat)<(224)))) rfl rfl (gT rfl) (fun hG7=>ZO (a:=(((c).toNat:Nat):Int)) (b:=((224:Nat):Int)) (Al rfl hG7) rfl (Bg _ .u8 ((c).toNat) (224)) ⟨rfl,rfl⟩) (At (gS (Z9 rfl (fun hA=>(Al rfl hA)) rfl fun bb8 hbb9=> ?_)))))));refine cB (bb8) rfl (fun g=> ?_) fun g=> ?_
 ·subst hbb9;refine gS (ZV (xv:= .int .u8 (((c).toNat:Nat):Int)) (yv:= .int .u8 ((31:Nat):Int)) rfl rfl rfl (I4 _ _ _ (c.toNat_lt) (by decide)) (gS (AaG u5 F3 rfl (E3 (((c).toNat)&&&(31)) (Afx Afv (by decide))) (Ld rfl (vr (NI 1) rfl) (vr (.int .i32 ((((c).toNat)&&&(31):Nat):Int)) rfl) (vr (.int .i32 ((128:Nat):Int)) rfl) ?_))));refine⟨congrArg Ae2 ?_,hE⟩;unfold DG;rw[if_neg f];rw[if_pos (by simpa using g)];rfl
 subst hbb9;refine gS (ZO (a:=((c).toNat:Nat)) (b:=(224:Nat)) rfl rfl (FO _ _ _ _) (gO fun _=>Ae (B8 (c)) rfl rfl (gT rfl) (fun hG12=>AcF rfl ⟨rfl,rfl⟩) (At (gO fun _=>Ae (.bool (decide (((c).toNat)<(240)))) rfl rfl (gT rfl) (fun hG13=>ZO (a:=(((c).toNat:Nat):Int)) (b:=((240:Nat):Int)) (Al rfl hG13) rfl (Bg _ .u8 ((c).toNat) (240)) ⟨rfl,rfl⟩) (At (gS (Z9 rfl (fun hA=>(Al rfl hA)) rfl fun bb14 hbb15=> ?_)))))));refine cB (bb14) rfl (fun h=> ?_) fun h=> ?_
 ·subst hbb15;refine gS (ZV (xv:= .int .u8 (((c).toNat:Nat):Int)) (yv:= .int .u8 ((15:Nat):Int)) rfl rfl rfl (I4 _ _ _ (c.toNat_lt) (by decide)) (gS (AaG u5 F3 rfl (E3 (((c).toNat)&&&(15)) (Afx Afv (by decide))) (Ld rfl (vr (NI 2) rfl) (vr (.int .i32 ((((c).toNat)&&&(15):Nat):Int)) rfl) (vr (.int .i32 ((2048:Nat):Int)) rfl) ?_))));refine⟨congrArg Ae2 ?_,hE⟩;unfold DG;rw[if_neg f];rw[if_neg (by simpa using g)];rw[if_pos (by simpa using h)];rfl
 subst hbb15;refine gS (ZO (a:=((c).toNat:Nat)) (b:=(240:Nat)) rfl rfl (FO _ _ _ _) (gO fun _=>Ae (B8 (c)) rfl rfl (gT rfl) (fun hG18=>AcF rfl ⟨rfl,rfl⟩) (At (gO fun _=>Ae (.bool (decide (((c).toNat)<(248)))) rfl rfl (gT rfl) (fun hG19=>ZO (a:=(((c).toNat:Nat):Int)) (b:=((248:Nat):Int)) (Al rfl hG19) rfl (Bg _ .u8 ((c).toNat) (248)) ⟨rfl,rfl⟩) (At (gS (Z9 rfl (fun hA=>(Al rfl hA)) rfl fun bb20 hbb21=> ?_)))))));refine cB (bb20) rfl (fun i=> ?_) fun i=> ?_
 ·subst hbb21;refine gS (ZV (xv:= .int .u8 (((c).toNat:Nat):Int)) (yv:= .int .u8 ((7:Nat):Int)) rfl rfl rfl (I4 _ _ _ (c.toNat_lt) (by decide)) (gS (AaG u5 F3 rfl (E3 (((c).toNat)&&&(7)) (Afx Afv (by decide))) (Ld rfl (vr (NI 3) rfl) (vr (.int .i32 ((((c).toNat)&&&(7):Nat):Int)) rfl) (vr (.int .i32 ((65536:Nat):Int)) rfl) ?_))));refine⟨congrArg Ae2 ?_,hE⟩;unfold DG;rw[if_neg f];rw[if_neg (by simpa using g)];rw[if_neg (by simpa using h)];rw[if_pos (by simpa using i)];rfl
 subst hbb21;refine Ld rfl (vr (.int .i64 (-1:Int)) rfl) (vr (.int .i32 ((0:Nat):Int)) rfl) (vr (.int .i32 ((0:Nat):Int)) rfl) ?_;refine⟨congrArg Ae2 ?_,hE⟩;unfold DG;rw[if_neg f];rw[if_neg (by simpa using g)];rw[if_neg (by simpa using h)];rw[if_neg (by simpa using i)];rfl
theorem Pz(w:Ads)(l:Bs)(a:Nat)(ha:a<l.length)(hl:l.length<=4611686018427387904):
  Calls Adt 153 #[St l,NI a] w fun e w' =>(∃r b k,e = .returned (.tuple #[.int .i32 ((r:Nat):Int),NI b, .bool k])/\EO l a=if k=true then some b else none)/\Ext w w' :=by
 refine F2 (args:= [St (l),NI a]) Tryz.func153 rfl 62 rfl rfl ?_;have hE:=Acz w;rcases hq:DG (l.getD a 0)with _ | ⟨n,r,m⟩
 ·refine gS (AaL (l:=l) (i:=a) E4 rfl rfl (ha) (gS (ZP Lg rfl (((show Calls _ _ _ _ (fun e w2=>e = .returned (.tuple #[.int .i64 ((-1):Int), .int .i32 ((0:Nat):Int), .int .i32 ((0:Nat):Int)])/\Ext w w2)from by have h:=N5 w (l.getD a 0);rw[hq]at h;exact h)).mono ?_))));rintro e w4 ⟨rfl,y⟩;refine⟨_,rfl,?_⟩;refine gS (AcB (vs:= [.int .i64 ((-1):Int), .int .i32 ((0:Nat):Int), .int .i32 ((0:Nat):Int)]) rfl rfl (gS (AcB (vs:= [.int .i64 ((-1):Int), .int .i32 ((0:Nat):Int), .int .i32 ((0:Nat):Int)]) rfl rfl (gS (AcB (vs:= [.int .i64 ((-1):Int), .int .i32 ((0:Nat):Int), .int .i32 ((0:Nat):Int)]) rfl rfl (gS (ZO rfl rfl (Wt _ .i64 ((-1):Int) ((0:Nat):Int)) (kT (by decide) (gN rfl rfl rfl rfl (gN rfl rfl rfl rfl (gN rfl rfl rfl rfl (gN rfl rfl rfl rfl (gN rfl rfl rfl rfl (gN rfl rfl rfl rfl (gS (Z1 rfl rfl (cT rfl (Ld rfl (vr (.int .i32 ((0:Nat):Int)) rfl) (vr (NI 0) rfl) (vr (.bool (false)) rfl) ?_))))))))))))))))));have hE:=hE.trans y;exact⟨⟨_,_,_,rfl,Sw hq⟩,hE⟩
 obtain⟨p,z,ad,hm⟩:=QM hq;refine gS (AaL (l:=l) (i:=a) E4 rfl rfl (ha) (gS (ZP Lg rfl (((show Calls _ _ _ _ (fun e w2=>e = .returned (.tuple #[NI n, .int .i32 ((r:Nat):Int), .int .i32 ((m:Nat):Int)])/\Ext w w2)from by have h:=N5 w (l.getD a 0);rw[hq]at h;exact h)).mono ?_))));rintro e ae ⟨rfl,s⟩;refine⟨_,rfl,?_⟩;refine gS (AcB (vs:= [NI n, .int .i32 ((r:Nat):Int), .int .i32 ((m:Nat):Int)]) rfl rfl (gS (AcB (vs:= [NI n, .int .i32 ((r:Nat):Int), .int .i32 ((m:Nat):Int)]) rfl rfl (gS (AcB (vs:= [NI n, .int .i32 ((r:Nat):Int), .int .i32 ((m:Nat):Int)]) rfl rfl (gS (ZO (a:=(n:Nat)) (b:=(0:Nat)) rfl rfl (Bg _ _ _ _) (kF (by omega) (gY rfl rfl (gY rfl rfl (gS (Aaq (l:=l) E4 rfl (gY rfl rfl (gY rfl rfl (gS (ZV (xv:=NI l.length) (yv:=NI a) rfl rfl rfl (FE _ _ _ (by omega) (by omega)) (gY rfl rfl (gY rfl rfl (gS (ZO (a:=((l.length)-(a):Nat)) (b:=(n:Nat)) rfl rfl (Fj _ _ _ _) (gS (Z4 rfl rfl ?_))))))))))))))))))))));refine cD rfl (fun g=> ?_) fun g=> ?_
 ·refine Ld rfl (vr (.int .i32 ((0:Nat):Int)) rfl) (vr (NI 0) rfl) (vr (.bool (false)) rfl) ?_;have hE:=hE.trans s;exact⟨⟨_,_,_,rfl,QL hq (of_decide_eq_true (by simpa using g))⟩,hE⟩
 have hs:¬l.length-a<=n:=fun h=>by simp[h]at g
 have hE:=hE.trans s;refine gL (fun(ρ:Aj) (wz:Ads)=>∃i:Nat,∃q:Nat,ρ 0=(St (l):Adr)/\ρ 1=(NI a:Adr)/\ρ 7=(NI n:Adr)/\ρ 9=(.int .i32 ((m:Nat):Int):Adr)/\ρ 30=(NI n:Adr)/\ρ 31=(NI i:Adr)/\ρ 8=(.int .i32 ((q:Nat):Int):Adr)/\Ext w wz/\(i<=n)/\(q<2^(7+6*i))/\(FR l (a+1) n r=FR l (a+1+i) (n-i) q)/\True) (fun ρ _=>n-(intOf (ρ 31)).toNat) ⟨0,r,rfl,rfl,rfl,rfl,rfl,rfl,rfl,hE,AdN _,z,rfl,trivial⟩ ?_;clear hE;rintro aa af ⟨i,q,t,T1,u,v,x,c,f,hE,hi,hqb,ht,-⟩;have q31:=c;refine gS (ZO (a:=(i:Nat)) (b:=(n:Nat)) c x (Bg _ _ _ _) ?_);refine cD rfl (fun j=> ?_) fun j=> ?_
 ·have hlt:i<n:=j;refine gS (ZV (xv:=NI a) (yv:=NI 1) T1 rfl rfl (AF _ _ _ (by omega)) (gS (ZV (xv:=NI ((a)+(1))) (yv:=NI i) rfl c rfl (AF _ _ _ (by omega)) (gS (AaL (l:=l) (i:=((a)+(1))+(i)) E4 t rfl (by omega) (gS (ZV (xv:= .int .u8 (((l.getD (((a)+(1))+(i)) 0).toNat:Nat):Int)) (yv:= .int .u8 ((192:Nat):Int)) rfl rfl rfl (I4 _ _ _ (UInt8.toNat_lt _) (by decide)) (gS (ZO (a:=(((l.getD (((a)+(1))+(i)) 0).toNat)&&&(192):Nat)) (b:=(128:Nat)) rfl rfl (AX _ _ _ _) ?_)))))))));refine cD rfl (fun o=> ?_) fun o=> ?_
  ·refine Ld rfl (vr (.int .i32 ((0:Nat):Int)) rfl) (vr (NI 0) rfl) (vr (.bool (false)) rfl) ?_;exact⟨⟨_,_,_,rfl,UP hq (ht.trans (Sv hlt o))⟩,hE⟩
  refine gS (ZV (xv:= .int .i32 ((q:Nat):Int)) (yv:= .int .u64 ((6:Nat):Int)) f rfl rfl (WX _ (q) _ (6) (by decide) (J8 hqb hlt p)) (gS (ZV (xv:= .int .u8 (((l.getD (((a)+(1))+(i)) 0).toNat:Nat):Int)) (yv:= .int .u8 ((63:Nat):Int)) rfl rfl rfl (I4 _ _ _ (UInt8.toNat_lt _) (by decide)) (gS (AaG u5 F3 rfl (E3 (((l.getD (((a)+(1))+(i)) 0).toNat)&&&(63)) (Wz _)) (gS (ZV (xv:= .int .i32 (((q)*2^(6):Nat):Int)) (yv:= .int .i32 ((((l.getD (((a)+(1))+(i)) 0).toNat)&&&(63):Nat):Int)) rfl rfl rfl (X7 _ ((q)*2^(6)) (((l.getD (((a)+(1))+(i)) 0).toNat)&&&(63)) (J8 hqb hlt p) (Wz _)) (gS (ZV (xv:=NI i) (yv:=NI 1) c rfl rfl (AF _ _ _ (by omega)) (gK (Aem ⟨i+1,(q*2^6|||((l.getD (a+1+i) 0).toNat&&&63)),t,T1,u,v,x,rfl,rfl,hE,by omega,Py hqb,ht.trans (QK hlt (Decidable.of_not_not o)),trivial⟩ ?_)))))))))));show n-(intOf (NI ((i)+(1)))).toNat<n-(intOf (aa 31)).toNat;rw[q31];simp only[intOf,AdV];omega
 have hni:¬i<n:=j;refine gS (ZV (xv:=NI a) (yv:=NI n) T1 u rfl (AF _ _ _ (by omega)) (gS (ZV (xv:=NI ((a)+(n))) (yv:=NI 1) rfl rfl rfl (AF _ _ _ (by omega)) (gS (ZO (a:=(q:Nat)) (b:=(m:Nat)) f v (FO _ _ _ _) (gO fun _=>Ae (.int .i32 ((q:Nat):Int)) rfl rfl (gT rfl) (fun hG27=>AcF f ⟨rfl,rfl⟩) (At (gO fun _=>Cg (.bool (N1 q)) rfl rfl (gT rfl) (fun hG28=>ZP QT (Al rfl hG28) ((QV _ q).mono (by rintro e w2 ⟨rfl,hx⟩;exact⟨_,rfl,rfl,hx⟩))) fun ag ab=>At (gS (Z9 rfl (fun hA=>(Al rfl hA)) rfl fun bb32 hbb33=>(Ld rfl f (vr (NI (((a)+(n))+(1))) rfl) (vr (.bool (bb32)) rfl) ?_)))))))))));subst hbb33;have hE:=hE.trans ab;exact⟨⟨_,_,_,rfl,WZ hq hs (ht.trans (by rw[show n-i=0 by omega];rfl))⟩,hE⟩
theorem Ms(w:Ads)(l:Bs)(hl:l.length<=4611686018427387904):
  Calls Adt 130 #[St l] w fun e w' =>(∃p,e = .returned (.tuple #[NI p,NI (if EP l 0=true then 0 else 5)]))/\Ext w w' :=by
 refine gG (args:= [St (l)]) Tryz.func130 rfl 22 rfl rfl ?_;have hE:=Acz w;refine gL (fun(ρ:Aj) (wz:Ads)=>∃p:Nat,ρ 0=(St (l):Adr)/\ρ 2=(NI p:Adr)/\Ext w wz/\(p<=l.length)/\(EP l 0=EP l p)/\True) (fun ρ _=>l.length-(intOf (ρ 2)).toNat) ⟨0,rfl,rfl,hE,AdN _,rfl,trivial⟩ ?_;clear hE;rintro i j ⟨p,c,T2,hE,hp,ht,-⟩;have q2:=T2;refine gS (Aaq (l:=l) E4 c (gS (ZO (a:=(p:Nat)) (b:=(l.length:Nat)) T2 rfl (Bg _ _ _ _) ?_)));refine cD rfl (fun f=> ?_) fun f=> ?_
 ·have hlt:p<l.length:=f;refine gS (ZR QU c T2 ((Pz _ l p hlt hl).mono ?_));rintro e m ⟨⟨r,b,k,rfl,hd⟩,h⟩;refine⟨_,rfl,?_⟩;refine gS (AcB (vs:= [.int .i32 ((r:Nat):Int),NI b, .bool (k)]) rfl rfl (gS (AcB (vs:= [.int .i32 ((r:Nat):Int),NI b, .bool (k)]) rfl rfl (gS (AcB (vs:= [.int .i32 ((r:Nat):Int),NI b, .bool (k)]) rfl rfl (gS (Z2 rfl ?_)))))));refine cB (!(k)) rfl (fun g=> ?_) fun g=> ?_
  ·have hk:k=false:=by simpa using g
   rw[hk,if_neg (by decide)]at hd;refine Ei rfl T2 (vr (NI 5) rfl) ?_;have hE:=hE.trans h;exact⟨⟨_,by rw[ht,Sx hlt hd];rfl⟩,hE⟩
  have hk:k=true:=by simpa using g
  rw[if_pos hk]at hd;have hE:=hE.trans h;refine gK (Aem ⟨b,c,rfl,hE,(L4 hd).2,ht.trans (Mp hlt hd),trivial⟩ ?_);show l.length-(intOf (NI b)).toNat<l.length-(intOf (i 2)).toNat;rw[q2];have:=L4 hd;simp only[intOf,AdV];omega
 have hlt:=f;refine Ei rfl (vr (NI 0) rfl) (vr (NI 0) rfl) ?_;exact⟨⟨_,by rw[ht,KE (show ¬p<l.length by omega)];rfl⟩,hE⟩
theorem N6(w:Ads)(r:Nat):
  Calls Adt 88 #[.int .i32 (r:Int)] w fun e w' =>e = .returned (.bool true)/\Ext w w' :=by
 refine gG (args:= [.int .i32 ((r:Nat):Int)]) Tryz.func88 rfl 3 rfl rfl ?_;have hE:=Acz w;refine Az rfl (vr (.bool (true)) rfl) ?_;exact⟨rfl,hE⟩
theorem SF(w:Ads)(l:Bs)(hl:l.length<=4611686018427387904):
  Calls Adt 87 #[St l, .func (.func 88) #[] #[]] w fun e w' =>e = .returned (.bool (EP l 0))/\Ext w w' :=by
 refine gG (args:= [St (l), .func (.func 88) #[] #[]]) Tryz.func87 rfl 25 rfl rfl ?_;have hE:=Acz w;rcases hT:EP l 0 with _ | _
 ·refine gS (ZP Lh rfl (((show Calls _ _ _ _ (fun e w2=>(∃p,e = .returned (.tuple #[NI p,NI 5]))/\Ext w w2)from by have h:=Ms w l hl;rw[hT]at h;exact h)).mono ?_));rintro e w5 ⟨⟨p0,rfl⟩,s⟩;refine⟨_,rfl,?_⟩;refine gS (AcB (vs:= [NI p0,NI 5]) rfl rfl (gS (AcB (vs:= [NI p0,NI 5]) rfl rfl (gS (ZO (a:=(5:Nat)) (b:=(0:Nat)) rfl rfl (AX _ _ _ _) (kT (by decide) (cT rfl (Az rfl (vr (.bool (false)) rfl) ?_))))))));have hE:=hE.trans s;exact⟨by first | rfl | rw[hT],hE⟩
 refine gS (ZP Lh rfl (((show Calls _ _ _ _ (fun e w2=>(∃p,e = .returned (.tuple #[NI p,NI 0]))/\Ext w w2)from by have h:=Ms w l hl;rw[hT]at h;exact h)).mono ?_));rintro e k ⟨⟨p0,rfl⟩,t⟩;refine⟨_,rfl,?_⟩;refine gS (AcB (vs:= [NI p0,NI 0]) rfl rfl (gS (AcB (vs:= [NI p0,NI 0]) rfl rfl (gS (ZO (a:=(0:Nat)) (b:=(0:Nat)) rfl rfl (AX _ _ _ _) (kF (by decide) (cF rfl (gS (AbT (l:=l) E4 rfl fun f u ae m n af=> ?_)))))))));have c:=Acz k;have hE:=hE.trans t;have v:=hE.size;have o:=m;clear m;have ag:f<u.heap.size:=by omega
 have hE:=hE.trans n;have c:=c.trans n;refine gL (fun(ρ:Aj) (wz:Ads)=>∃p:Nat,ρ 0=(St (l):Adr)/\ρ 1=(.func (.func 88) #[] #[]:Adr)/\ρ 6=(NI 0:Adr)/\ρ 15=(.bool (false):Adr)/\ρ 17=(PQ f 0:Adr)/\Ext w wz/\Ext k wz/\wz.heap[f]? =some (.stringIter ⟨l.toArray⟩ p)/\True) (fun ρ wz=>l.length-wz.iterPos f) ⟨0,rfl,rfl,rfl,rfl,rfl,hE,c,o,trivial⟩ ?_;clear o;clear hE;rintro ah x ⟨p,y,T1,z,aa,i,hE,c,hI,-⟩;have hI0:=Le hI;by_cases hlt:p<l.length
 ·refine gS (Ab6 (l:=l) (p:=p) i hI hlt fun ab g ai aj q r ak=> ?_);clear hI;have hI:=q;clear q;have al:=bl hI;refine gS (AcB (vs:= [.bool (true),NI p, .int .i32 ((g:Nat):Int)]) rfl rfl (cT rfl (gS (AcB (vs:= [.bool (true),NI p, .int .i32 ((g:Nat):Int)]) rfl rfl (gS (Aaj SD (caps:= #[]) T1 #[.int .i32 ((g:Nat):Int)] (by simp only[AdH,AdK,AdO,Aei,Ad1,Ad9];exact congrArg Ad2 (FP rfl)) ((N6 _ g).mono ?_)))))));rintro e ac ⟨rfl,j⟩;refine⟨_,rfl,?_⟩;have hE:=Ad hE r (Adu v (by omega));have hE:=hE.trans j;have c:=Ad c r (Adu (Adw _) (by omega));have c:=c.trans j;have hI:=eb j hI;refine gS (Z2 rfl (cF rfl (gK (Aem ⟨ab,y,T1,z,aa,i,hE,c,hI,trivial⟩ ?_))));show l.length-ac.iterPos f<l.length-x.iterPos f;rw[Le hI,hI0];omega
 refine gS (AbU (l:=l) (p:=p) i hI hlt (gS (AcB (vs:= [.bool (false)]) rfl rfl (cF rfl (Az rfl (vr (.bool (true)) rfl) ?_)))));exact⟨by first | rfl | rw[hT],hE⟩
theorem N7(w:Ads)(l:Bs):
  Calls Adt 35 #[St l] w fun e w' =>e = .returned (.bool (CB l))/\Ext w w' :=by
 refine F2 (args:= [St (l)]) Tryz.func35 rfl 10 rfl rfl ?_;have hE:=Acz w;refine gS (Aaq (l:=l) E4 rfl (gS (ZO (a:=(l.length:Nat)) (b:=(256:Nat)) rfl rfl (Fj _ _ _ _) (gO fun _=>Ae (St (l)) rfl rfl (gT rfl) (fun hG3=>AcF rfl ⟨rfl,rfl⟩) (At (gO fun _=>Cg (.bool (EP l 0)) rfl rfl (gT rfl) (fun hG4=>ZR SE (Al rfl hG4) rfl ((SF _ l (by first | omega | (simp only[gA,gB,gC,gD,gE]at hG4;omega))).mono (by rintro e w2 ⟨rfl,hx⟩;exact⟨_,rfl,rfl,hx⟩))) fun f c=>At (gS (Z9 rfl (fun hA=>(Al rfl hA)) rfl fun bb8 hbb9=>(Az rfl (vr (.bool (bb8)) rfl) ?_)))))))));subst hbb9;have hE:=hE.trans c;exact⟨rfl,hE⟩
open Go.WideMaps (KeyLaw)
structure KL (P : AdM) (k : Ady) (OK : Adr -> Prop) : Prop where
 check:∀(w:Ads) (em:Bool) {v:Adr},OK v->(Instr.checkKey em 10000 k v).run P w = .ok () w
 find:∀(w:Ads) {x:Adr},OK x->∀es:List AfS,(∀e∈es,OK e.key) ->
  ((Instr.findKey k x es).run P w = .ok none w/\∀e∈es,e.key≠x)\/∃j e,(Instr.findKey k x es).run P w = .ok (some (j,e.val)) w/\es[j]? =some e/\e.key=x
 stays:∀(w:Ads) {v:Adr},OK v->(Instr.keyThatStays v v).run P w = .ok v w
theorem Abs{P:AdM}{k:Ady}{d:TypeDesc}(hd:P.underlying k=some d):KL P k (AgA d):=
 ⟨fun w em _ h=>MapKept.run_checkKey hd h em 9999,fun w x h es he=>by
  rcases MapKept.findNow_spec h es 0 he with ⟨h1,h2⟩ | ⟨j,e,h1,h2,h3⟩
  ·exact .inl ⟨Aiz hd h1,h2⟩
  ·rw[Afa]at h1;exact .inr ⟨j,e,Aiz hd h1,h2,h3⟩,fun w _ h=>MapKept.run_keyThatStays h⟩
section
variable {α β : Type} (ek : α -> Adr) (ev : β -> Adr) (D : α -> Prop)
structure Y1 (G : α -> Option β) (es : List AfS) : Prop where
 keys:(es.map (·.key)).Nodup
 ent:∀e∈es,∃a y,D a/\e.key=ek a/\e.val=ev y/\G a=some y
 all:∀a y,G a=some y->D a/\∃e∈es,e.key=ek a
def MapF(w:Ads)(b:Nat)(G:α->Option β):Prop:=∃es clock,w.heap[b]? =some (.map es.toArray clock)/\Y1 ek ev D G es/\AgX es.toArray clock
end
theorem PA{es es' :List AfS}{c:Nat}(hs:es'.Sublist es)(h:AgX es.toArray c):AgX es'.toArray c:=by
 obtain⟨h1,h2,h3⟩:=h;exact⟨fun x hx=>h1 x (hs.subset hx),(hs.map _).nodup h2,(hs.map _).nodup h3⟩
def updM{α β:Type}[DecidableEq α](G:α->Option β)(a:α)(y:Option β)(c:α):Option β:=if c=a then y else G c
section
variable {α β : Type} {ek : α -> Adr} {ev : β -> Adr} {D : α -> Prop} {P : AdM} {w w' : Ads} {b : Nat} {G : α -> Option β}
theorem MapF.keep(h:MapF ek ev D w b G)(k:Ext w w'):MapF ek ev D w' b G:=by
 obtain⟨es,c,h2,h3⟩:=h;exact⟨es,c,Aay k h2,h3⟩
theorem MapF.lt(h:MapF ek ev D w b G):b<w.heap.size:=by
 obtain⟨es,c,h2,h3⟩:=h;exact(Aef.1 h2).1
theorem MapF.other{r:Option Nat}(h:MapF ek ev D w b G)(k:w.grownBy w' r)(hr:r≠some b):MapF ek ev D w' b G:=by
 have hl:=h.lt;obtain⟨es,c,h2,h3⟩:=h;exact⟨es,c,(k.block b hl (fun e=>hr e.symm)).trans h2,h3⟩
abbrev AcR:=@MapF.other
theorem Ab7{v v' :Adr}(h:MapF ek ev D w b G)(g:Grew w w' v v')(hv:v.ownBlock≠some b):MapF ek ev D w' b G:=h.other g.by_ hv
theorem Ab8(ek:α->Adr)(ev:β->Adr)(D:α->Prop)(w:Ads):MapF ek ev D (w.alloc (.map #[] 0)) w.heap.size (fun _=>none):=
 ⟨[],0,heap_alloc_new w _,⟨by simp,by simp,fun _ _ h=>by cases h⟩,MapKept.stamped_empty 0⟩
section
variable {t K E : Ady} {OK : Adr -> Prop} (L : KL P K OK) (hD : ∀ a, D a -> OK (ek a)) (hi : ∀ a c, ek a = ek c -> a = c) (ht : P.underlying t = some (.map K E))
include L hD hi ht
theorem MapF.look{z:Adr}(hz:∀u:Ads,(zeroValue E).run P u = .ok z u)(h:MapF ek ev D w b G){a:α}(ha:D a)(ok:Bool):
  (AiJ t (.map (some b)) (ek a) ok).run P w = .ok (if ok then .tuple #[(G a).elim z ev, .bool (G a).isSome]else(G a).elim z ev) w:=by
 obtain⟨es,c,hb,H,hS⟩:=h;have hkeys:∀e∈es,OK e.key:=fun e he=>by
  obtain⟨q,y,k1,k2,-⟩:=H.ent e he;rw[k2];exact hD q k1
 rcases L.find w (hD a ha) es hkeys with ⟨f1,f2⟩ | ⟨j,f,f1,f2,f3⟩
 ·have hG:G a=none:=by
   cases hG:G a with
   | none=>rfl
   | some y=>
    obtain⟨-,e,he,hek⟩:=H.all a y hG;exact absurd hek (f2 e he)
  cases ok <;> simp[AiJ,run_underlying ht,Afs hb,L.check w _ (hD a ha),f1,hz,Aek,hG]
 ·obtain⟨q,y,k1,k2,k3,k4⟩:=H.ent f (AfA f2);have:q=a:=hi _ _ (k2.symm.trans f3);subst this;cases ok <;> simp[AiJ,run_underlying ht,Afs hb,L.check w _ (hD q ha),f1,Aek,k4,k3]
variable [DecidableEq α]
omit hi in
theorem MapF.put(h:MapF ek ev D w b G){a:α}(ha:D a)(y:β):
  ∃w',(AhX t (.map (some b)) (ek a) (ev y)).run P w = .ok () w' /\MapF ek ev D w' b (updM G a (some y))/\w.grownBy w' (some b)/\w'.heap.size=w.heap.size:=by
 obtain⟨es,c,hb,H,hS⟩:=h;have hkeys:∀e∈es,OK e.key:=fun e he=>by
  obtain⟨q,y,k1,k2,-⟩:=H.ent e he;rw[k2];exact hD q k1
 have hblt:b<w.heap.size:=(Aef.1 hb).1;have hgr:∀o,w.grownBy { w with heap:=w.heap.setIfInBounds b o } (some b):=fun o=>⟨rfl,rfl,rfl,by simp,fun i _ hi=>by simp only[Afo];rw[if_neg (fun e=>hi (by rw[e]))]⟩;have hnew:∀o,({ w with heap:=w.heap.setIfInBounds b o } :Ads).heap[b]? =some o:=fun o=>by simp[hblt]
 rcases L.find w (hD a ha) es hkeys with ⟨f1,f2⟩ | ⟨j,g,f1,f2,f3⟩
 ·have hnone:∀x,G a≠some x:=fun x hx=>by
   obtain⟨-,e,he,hek⟩:=H.all a x hx;exact f2 e he hek
  refine⟨{ w with heap:=w.heap.setIfInBounds b (.map (es++ [({ key:=ek a,val:=ev y,born:=c } :AfS)]).toArray (c+1)) },?_,⟨_,_,hnew _,⟨?_,?_,?_⟩,by have:=MapKept.stamped_push hS (key:=ek a) (val:=ev y) (fun x hx=>f2 x (by simpa using hx));simpa using this⟩,hgr _,by simp⟩
  ·simp[AhX,run_underlying ht,Afs hb,L.check w false (hD a ha),f1,Agh _ hb,Aek]
  ·simp only[List.map_append,AdK,AdO];refine List.nodup_append.2 ⟨H.keys,by simp,fun x hx z hz e=> ?_⟩;obtain⟨f,he1,rfl⟩:=Aeq.1 hx;simp at hz;exact f2 f he1 (e.trans hz)
  ·intro e he;rcases Aed.1 he with h1 | h1
   ·obtain⟨q,z,k1,k2,k3,k4⟩:=H.ent e h1;refine⟨q,z,k1,k2,k3,?_⟩;unfold updM;rw[if_neg (fun f=>f2 e h1 (by rw[k2,f]))];exact k4
   ·rw[Aeb.1 h1];exact⟨a,y,ha,rfl,rfl,by unfold updM;rw[if_pos rfl]⟩
  ·intro q z hq;unfold updM at hq;split at hq
   ·rename_i f
    subst f;exact⟨ha,_,List.mem_append_right _ (Aeb.2 rfl),rfl⟩
   ·obtain⟨k1,e,he,hek⟩:=H.all q z hq;exact⟨k1,e,List.mem_append_left _ he,hek⟩
 ·obtain⟨q0,y0,k1,k2,k3,k4⟩:=H.ent g (AfA f2);have hjl:j<es.length:=(AdR.1 f2).1;have hkeq:(es.modify j fun e=> { e with key:=ek a,val:=ev y }).map (·.key)=es.map (·.key):=by
   rw[Go.ChangeMaps.modify_eq_set _ _ _ _ f2,List.map_set];exact Go.WideElems.set_self _ _ _ (by rw[List.getElem?_map,f2];simp[f3])
  have hj:es.toArray[j]? =some g:=by simpa using f2
  refine⟨{ w with heap:=w.heap.setIfInBounds b (.map (es.modify j fun e=> { e with key:=ek a,val:=ev y }).toArray c) },?_,⟨_,_,hnew _,⟨?_,?_,?_⟩,by have:=MapKept.stamped_modify hS j (fun e=> { e with key:=ek a,val:=ev y }) (fun _ _=>rfl) (fun e _ he=>by rw[hj]at he;cases he;exact f3.symm);rwa [List.modify_toArray]at this⟩,hgr _,by simp⟩
  ·simp[AhX,run_underlying ht,Afs hb,L.check w false (hD a ha),f1,f2,f3,L.stays w (hD a ha),Agh _ hb,Aek]
  ·rw[hkeq];exact H.keys
  ·intro e he;rw[Go.ChangeMaps.modify_eq_set _ _ _ _ f2]at he;obtain⟨i,hil,hie⟩:=AeB.1 he;rw[List.getElem_set]at hie;split at hie
   ·subst hie;exact⟨a,y,ha,rfl,rfl,by unfold updM;rw[if_pos rfl]⟩
   ·rename_i hne
    have hil2:i<es.length:=by simpa using hil
    obtain⟨q,z,m1,m2,m3,m4⟩:=H.ent e (hie▸Ae3 hil2);refine⟨q,z,m1,m2,m3,?_⟩;unfold updM;rw[if_neg ?_]
    ·exact m4
    ·intro f;subst f
     apply hne
     have hn:=H.keys;have k:(es.map (·.key))[j]'(by simpa using hjl)=(es.map (·.key))[i]'(by simpa using hil2):=by
      simp only[List.getElem_map];rw[hie,m2,<-f3];exact congrArg MapEntry.key (AdR.1 f2).2
     exact(List.getElem_inj hn).1 k
  ·intro q z hq;have hmem:∀x,x∈es.map (·.key)->∃e∈(es.modify j fun e=> { e with key:=ek a,val:=ev y }),e.key=x:=fun x hx=>by
    rw[<-hkeq]at hx;obtain⟨e,he,rfl⟩:=Aeq.1 hx;exact⟨e,he,rfl⟩
   unfold updM at hq;split at hq
   ·rename_i f
    subst f;exact⟨ha,hmem _ (Aeq.2 ⟨g,AfA f2,f3⟩)⟩
   ·obtain⟨k1,e,he,hek⟩:=H.all q z hq;exact⟨k1,hmem _ (Aeq.2 ⟨e,he,hek⟩)⟩
theorem MapF.del{ty:Ady}(h:MapF ek ev D w b G){a:α}(ha:D a):
  ∃w',(AhY #[t,K] ty #[.map (some b),ek a]).run P w = .ok (.tuple #[]) w' /\MapF ek ev D w' b (updM G a none)/\w.grownBy w' (some b)/\w'.heap.size=w.heap.size:=by
 obtain⟨es,c,hb,H,hS⟩:=h;have hkeys:∀e∈es,OK e.key:=fun e he=>by
  obtain⟨q,y,k1,k2,-⟩:=H.ent e he;rw[k2];exact hD q k1
 have hblt:b<w.heap.size:=(Aef.1 hb).1;have hgr:∀o,w.grownBy { w with heap:=w.heap.setIfInBounds b o } (some b):=fun o=>⟨rfl,rfl,rfl,by simp,fun i _ hi=>by simp only[Afo];rw[if_neg (fun e=>hi (by rw[e]))]⟩;have hnew:∀o,({ w with heap:=w.heap.setIfInBounds b o } :Ads).heap[b]? =some o:=fun o=>by simp[hblt]
 rcases L.find w (hD a ha) es hkeys with ⟨f1,f2⟩ | ⟨j,k,f1,f2,f3⟩
 ·have hG:G a=none:=by
   cases hG:G a with
   | none=>rfl
   | some y=>
    obtain⟨-,e,he,hek⟩:=H.all a y hG;exact absurd hek (f2 e he)
  have hU:updM G a none=G:=by
   funext x
   unfold updM;split
   ·rename_i e;rw[e,hG]
   ·rfl
  rw[hU];refine⟨{ w with heap:=w.heap.setIfInBounds b (.map es.toArray c) },?_,⟨_,_,hnew _,H,hS⟩,hgr _,by simp⟩;simp[AhY,run_underlying ht,Afs hb,L.check w _ (hD a ha),f1,Agh _ hb,Aek]
 ·have hjl:j<es.length:=(AdR.1 f2).1;have hne:∀e∈es.eraseIdx j,e.key≠ek a:=fun e he hk=>by
   obtain⟨i,hil,hie⟩:=Ag0.1 he;obtain⟨hij,hie⟩:=hie;have g:(es.map (·.key))[j]'(by simpa using hjl)=(es.map (·.key))[i]'(by simpa using hil):=by
    simp only[List.getElem_map];rw[hie,hk,<-f3];exact congrArg MapEntry.key (AdR.1 f2).2
   exact hij ((List.getElem_inj H.keys).1 g).symm
  refine⟨{ w with heap:=w.heap.setIfInBounds b (.map (es.eraseIdx j).toArray c) },?_,⟨_,_,hnew _,⟨?_,?_,?_⟩,PA (Agp _ _) hS⟩,hgr _,by simp⟩
  ·simp[AhY,run_underlying ht,Afs hb,L.check w _ (hD a ha),f1,Agh _ hb,Aek]
  ·exact H.keys.sublist ((Agp _ _).map _)
  ·intro e he;obtain⟨q,z,m1,m2,m3,m4⟩:=H.ent e ((Agp _ _).subset he);refine⟨q,z,m1,m2,m3,?_⟩;unfold updM;rw[if_neg (fun f=>hne e he (by rw[m2,f]))];exact m4
  ·intro q z hq;unfold updM at hq;split at hq
   ·cases hq
   ·rename_i hqa
    obtain⟨k1,e,he,hek⟩:=H.all q z hq;refine⟨k1,e,?_,hek⟩;obtain⟨i,hil,hie⟩:=AeB.1 he;refine Ag0.2 ⟨i,hil,fun f=> ?_,hie⟩;subst f
    apply hqa
    refine hi _ _ (hek.symm.trans ?_);rw[<-f3,<-hie];exact congrArg MapEntry.key (AdR.1 f2).2
end
end
theorem CI{a b:Nat}(h:a≠b):some a≠some b:=fun e=>h (AdY e)
def C9(u v:Adr):Prop:=∀k,u.ownBlock=some k->v.ownBlock≠some k
section
variable {N B : Nat} {r : Option Nat} {w w' w1 w0 : Ads} {e t : Ady}
theorem Nv{z n:Nat}{v:Adr}{xs:List Adr}(ho:w.ownsRow B e z v n xs)(k:w.grownBy w1 r)(ha:∀k,r=some k->v.ownBlock≠some k):w1.ownsRow B e z v n xs:=
 ho.kept k (by
  cases hv:v.ownBlock with
  | none=>exact .inl rfl
  | some g=>exact .inr (fun e=>ha g e.symm hv))
theorem Li{u v:Adr}{b:Nat}{e' :Ady}{z n z' n' :Nat}{xs ys:List Adr}(hu:w.ownsRow b e z u n xs)(hv:w'.ownsRow w.heap.size e' z' v n' ys):C9 u v:=fun k h1 h2=>by
 have:=(hu.lt k h1).2;have:=(hv.lt k h2).1;omega
theorem PB{u v v' :Adr}{b:Nat}{z n:Nat}{xs:List Adr}(gr:Grew w w' v v')(ha:C9 v u)(hu:w.ownsRow b e z u n xs):C9 v' u:=fun k h1 h2=>by
 rcases gr.fresh k h1 with h3 | h3
 ·exact ha k h3 h2
 ·have:=(hu.lt k h2).2;omega
theorem KF{v v' u:Adr}{b:Nat}{z n:Nat}{xs:List Adr}(hu:w.ownsRow b e z u n xs)(gr:Grew w w' v v')(ha:C9 v u):w'.ownsRow b e z u n xs:=Nv hu gr.by_ ha
theorem HJ{α:Type}{k b:Nat}{enc:α->List Adr}{v v' u:Adr}{l:List α}(hu:OG b e k enc w u l)(gr:Grew w w' v v')(ha:C9 v u):OG b e k enc w' u l:=⟨hu.1,KF hu.2 gr ha⟩
end
theorem SG:Plain Adt 128:=fun _ _=>by kernel_rfl
theorem SH:Plain Adt 129:=fun _ _=>by kernel_rfl
theorem UR(w:Ads)(c:UInt8):
  Calls Adt 129 #[B8 c] w fun e w' =>e = .returned (.bool (JO c))/\Ext w w' :=by
 refine F2 (args:= [B8 (c)]) Tryz.func129 rfl 37 rfl rfl ?_;have hE:=Acz w;refine gS (ZO (a:=((c).toNat:Nat)) (b:=(97:Nat)) rfl rfl (FO _ _ _ _) (gO fun _=>Ae (B8 (c)) rfl rfl (gT rfl) (fun hG3=>AcF rfl ⟨rfl,rfl⟩) (At (gO fun _=>Ae (.bool (decide (((c).toNat)<=(122)))) rfl rfl (gT rfl) (fun hG4=>ZO (a:=(((c).toNat:Nat):Int)) (b:=((122:Nat):Int)) (Al rfl hG4) rfl (Fj _ .u8 ((c).toNat) (122)) ⟨rfl,rfl⟩) (At (gS (Z9 rfl (fun hA=>(Al rfl hA)) rfl fun bb5 hbb6=>(gO fun _=>Ae (B8 (c)) rfl rfl (gF rfl) (fun hG7=>AcF rfl ⟨rfl,rfl⟩) (At (gO fun _=>Ae (.bool (decide ((65)<=((c).toNat)))) rfl rfl (gF rfl) (fun hG8=>ZO (a:=(((c).toNat:Nat):Int)) (b:=((65:Nat):Int)) (Al rfl hG8) rfl (FO _ .u8 ((c).toNat) (65)) ⟨rfl,rfl⟩) (At (gO fun _=>Ae (.bool (decide ((65)<=((c).toNat)))) rfl rfl (gF rfl) (fun hG9=>AcF (Al rfl hG9) ⟨rfl,rfl⟩) (At (gO fun _=>Ae (B8 (c)) rfl rfl (Gl rfl) (fun hG10=>AcF rfl ⟨rfl,rfl⟩) (At (gO fun _=>Ae (.bool (decide (((c).toNat)<=(90)))) rfl rfl (Gl rfl) (fun hG11=>ZO (a:=(((c).toNat:Nat):Int)) (b:=((90:Nat):Int)) (Al rfl hG11) rfl (Fj _ .u8 ((c).toNat) (90)) ⟨rfl,rfl⟩) (At (gO fun _=>Er ((decide ((65)<=((c).toNat)))&&(decide (((c).toNat)<=(90)))) rfl rfl (gF rfl) (fun hG12=>Aar (Al rfl hG12) (fun hA=>(Al rfl (Gs hG12 hA))) rfl ⟨rfl,rfl⟩) fun bb13 hbb14=>At (gS (Z6 rfl rfl (fun hA=>(Al rfl (BJ hA))) fun bb15 hbb16=>(gO fun _=>Ae (B8 (c)) rfl rfl (gF rfl) (fun hG17=>AcF rfl ⟨rfl,rfl⟩) (At (gO fun _=>Ae (.bool (decide ((48)<=((c).toNat)))) rfl rfl (gF rfl) (fun hG18=>ZO (a:=(((c).toNat:Nat):Int)) (b:=((48:Nat):Int)) (Al rfl hG18) rfl (FO _ .u8 ((c).toNat) (48)) ⟨rfl,rfl⟩) (At ?_))))))))))))))))))))))));refine gO fun _=>Ae (.bool (decide ((48)<=((c).toNat)))) rfl rfl (gF rfl) (fun hG19=>AcF (Al rfl hG19) ⟨rfl,rfl⟩) (At (gO fun _=>Ae (B8 (c)) rfl rfl (Gl rfl) (fun hG20=>AcF rfl ⟨rfl,rfl⟩) (At (gO fun _=>Ae (.bool (decide (((c).toNat)<=(57)))) rfl rfl (Gl rfl) (fun hG21=>ZO (a:=(((c).toNat:Nat):Int)) (b:=((57:Nat):Int)) (Al rfl hG21) rfl (Fj _ .u8 ((c).toNat) (57)) ⟨rfl,rfl⟩) (At (gO fun _=>Er ((decide ((48)<=((c).toNat)))&&(decide (((c).toNat)<=(57)))) rfl rfl (gF rfl) (fun hG22=>Aar (Al rfl hG22) (fun hA=>(Al rfl (Gs hG22 hA))) rfl ⟨rfl,rfl⟩) fun bb23 hbb24=>At (gS (Z6 rfl rfl (fun hA=>(Al rfl (BJ hA))) fun bb25 hbb26=>(gO fun _=>Ae (B8 (c)) rfl rfl (gF rfl) (fun hG27=>AcF rfl ⟨rfl,rfl⟩) (At (gO fun _=>Ae (.bool (decide (((c).toNat:Nat)=(45)))) rfl rfl (gF rfl) (fun hG28=>ZO (a:=(((c).toNat:Nat):Int)) (b:=((45:Nat):Int)) (Al rfl hG28) rfl (AI _ .u8 ((c).toNat) (45)) ⟨rfl,rfl⟩) (At (gS (Z6 rfl rfl (fun hA=>(Al rfl (BJ hA))) fun bb29 hbb30=>(gO fun _=>Ae (B8 (c)) rfl rfl (gF rfl) (fun hG31=>AcF rfl ⟨rfl,rfl⟩) (At (gO fun _=>Ae (.bool (decide (((c).toNat:Nat)=(95)))) rfl rfl (gF rfl) (fun hG32=>ZO (a:=(((c).toNat:Nat):Int)) (b:=((95:Nat):Int)) (Al rfl hG32) rfl (AI _ .u8 ((c).toNat) (95)) ⟨rfl,rfl⟩) (At (gS (Z6 rfl rfl (fun hA=>(Al rfl (BJ hA))) fun bb33 hbb34=>(gO fun _=>Ae (B8 (c)) rfl rfl (gF rfl) (fun hG35=>AcF rfl ⟨rfl,rfl⟩) (At (gO fun _=>Ae (.bool (decide (((c).toNat:Nat)=(46)))) rfl rfl (gF rfl) (fun hG36=>ZO (a:=(((c).toNat:Nat):Int)) (b:=((46:Nat):Int)) (Al rfl hG36) rfl (AI _ .u8 ((c).toNat) (46)) ⟨rfl,rfl⟩) (At ?_))))))))))))))))))))))));refine gS (Z6 rfl rfl (fun hA=>(Al rfl (BJ hA))) fun bb37 hbb38=>(Az rfl (vr (.bool (bb37)) rfl) ?_));subst hbb6 hbb14 hbb16 hbb24 hbb26 hbb30 hbb34 hbb38;exact⟨rfl,hE⟩
theorem W0(w:Ads)(s:Bs)(hl:s.length≠64):
  Calls Adt 128 #[St s] w fun e w' =>e = .returned (.bool false)/\Ext w w' :=by
 refine gG (args:= [St (s)]) Tryz.func128 rfl 11 rfl rfl ?_;have hE:=Acz w;refine gS (Aaq (l:=s) E4 rfl (gS (ZO (a:=(s.length:Nat)) (b:=(64:Nat)) rfl rfl (AI _ _ _ _) (kF (hl) (gS (Z4 rfl rfl (Az rfl (vr (.bool (false)) rfl) ?_)))))));exact⟨rfl,hE⟩
theorem KG(w:Ads)(s:Bs)(hs:s.length<=9223372036854775807):
  Calls Adt 84 #[St s] w fun e w' =>e = .returned (.bool (Aw s))/\Ext w w' :=by
 refine F2 (args:= [St (s)]) Tryz.func84 rfl 41 rfl rfl ?_;have hE:=Acz w;refine gS (Aaq (l:=s) E4 rfl (gS (ZO (a:=(s.length:Nat)) (b:=(1:Nat)) rfl rfl (Bg _ _ _ _) (gO fun _=>Ae (St (s)) rfl rfl (gF rfl) (fun hG4=>AcF rfl ⟨rfl,rfl⟩) (At (gO fun _=>Ae (NI s.length) rfl rfl (gF rfl) (fun hG5=>Aaq (l:=s) E4 (Al rfl hG5) ⟨rfl,rfl⟩) (At (gO fun _=>Ae (.bool (decide ((32)<(s.length)))) rfl rfl (gF rfl) (fun hG6=>ZO (a:=((s.length:Nat):Int)) (b:=((32:Nat):Int)) (Al rfl hG6) rfl (CM _ .i64 (s.length) (32)) ⟨rfl,rfl⟩) (At (gS (Z6 rfl rfl (fun hA=>(Al rfl (BJ hA))) fun bb7 hbb8=>(gO fun _=>Ae (St (s)) rfl rfl (gF rfl) (fun hG9=>AcF rfl ⟨rfl,rfl⟩) (At (gO fun _=>Ae (B8 (s.getD (0) 0)) rfl rfl (gF rfl) (fun hG10=>AaL (l:=s) (i:=0) E4 (Al rfl hG10) rfl (by first | omega | (simp only[hbb8,gA,gB,gC,gD,gE]at hG10;omega)) ⟨rfl,rfl⟩) (At (gO fun _=>Ae (.bool (decide (((s.getD (0) 0).toNat:Nat)=(46)))) rfl rfl (gF rfl) (fun hG11=>ZO (a:=(((s.getD (0) 0).toNat:Nat):Int)) (b:=((46:Nat):Int)) (Al rfl hG11) rfl (AI _ .u8 ((s.getD (0) 0).toNat) (46)) ⟨rfl,rfl⟩) (At (gS (Z6 rfl rfl (fun hA=>(Al rfl (BJ hA))) fun bb12 hbb13=>(gO fun _=>Ae (St (s)) rfl rfl (gF rfl) (fun hG14=>AcF rfl ⟨rfl,rfl⟩) (At (gO fun _=>Ae (B8 (s.getD (0) 0)) rfl rfl (gF rfl) (fun hG15=>AaL (l:=s) (i:=0) E4 (Al rfl hG15) rfl (by first | omega | (simp only[hbb8,hbb13,gA,gB,gC,gD,gE]at hG15;omega)) ⟨rfl,rfl⟩) (At (gO fun _=>Ae (.bool (decide (((s.getD (0) 0).toNat:Nat)=(45)))) rfl rfl (gF rfl) (fun hG16=>ZO (a:=(((s.getD (0) 0).toNat:Nat):Int)) (b:=((45:Nat):Int)) (Al rfl hG16) rfl (AI _ .u8 ((s.getD (0) 0).toNat) (45)) ⟨rfl,rfl⟩) (At (gS (Z6 rfl rfl (fun hA=>(Al rfl (BJ hA))) fun bb17 hbb18=> ?_)))))))))))))))))))))))))));refine gO fun _=>Ae (St (s)) rfl rfl (gF rfl) (fun hG19=>AcF rfl ⟨rfl,rfl⟩) (At (gO fun _=>Ae (.bool (decide (s=(([72,69,65,68]:Ai1):Ai1)))) rfl rfl (gF rfl) (fun hG20=>Aav (l:=s) (m:=([72,69,65,68]:Ai1)) (.inl rfl) (Al rfl hG20) rfl (decide (s=(([72,69,65,68]:Ai1):Ai1))) rfl ⟨rfl,rfl⟩) (At (gS (Z6 rfl rfl (fun hA=>(Al rfl (BJ hA))) fun bb21 hbb22=>(gO fun _=>Ae (St (s)) rfl rfl (gF rfl) (fun hG23=>AcF rfl ⟨rfl,rfl⟩) (At (gO fun _=>Cg (.bool (false)) rfl rfl (gF rfl) (fun hG24=>ZP SG (Al rfl hG24) ((W0 _ s (by first | omega | (simp only[hbb8,hbb13,hbb18,hbb22,gA,gB,gC,gD,gE]at hG24;omega))).mono (by rintro e w2 ⟨rfl,hx⟩;exact⟨_,rfl,rfl,hx⟩))) fun q h=>At (gS (Z6 rfl rfl (fun hA=>(Al rfl (BJ hA))) fun bb28 hbb29=> ?_))))))))));refine cB (bb28) rfl (fun c=> ?_) fun c=> ?_
 ·subst hbb8 hbb13 hbb18 hbb22 hbb29;rw[Bool.or_false]at c;refine Az rfl (vr (.bool (false)) rfl) ?_;have hE:=hE.trans h;exact⟨by rw[QS (s:=s) c],hE⟩
 subst hbb8 hbb13 hbb18 hbb22 hbb29;rw[Bool.or_false]at c;have hh:Ig s=false:=c;have hsl:=Mr hh;have hE:=hE.trans h;refine gS (Aaq (l:=s) E4 rfl (gL (fun(ρ:Aj) (wz:Ads)=>∃i:Nat,ρ 0=(St (s):Adr)/\ρ 31=(NI s.length:Adr)/\ρ 32=(NI i:Adr)/\Ext w wz/\(i<=s.length)/\((s.take i).all JO=true)/\True) (fun ρ _=>s.length-(intOf (ρ 32)).toNat) ⟨0,rfl,rfl,rfl,hE,AdN _,by simp,trivial⟩ ?_));clear hE;rintro o r ⟨i,j,k,f,hE,hi,ha,-⟩;have q32:=f;refine gS (ZO (a:=(i:Nat)) (b:=(s.length:Nat)) f k (Bg _ _ _ _) ?_);refine cD rfl (fun p=> ?_) fun p=> ?_
 ·refine gS (AaL (l:=s) (i:=i) E4 j f (by omega) (gS (ZP SH rfl ((UR _ (s.getD (i) 0)).mono ?_))));rintro e t ⟨rfl,n⟩;refine⟨_,rfl,?_⟩;refine gS (Z2 rfl ?_);refine cB (!(JO (s.getD (i) 0))) rfl (fun g=> ?_) fun g=> ?_
  ·refine Az rfl (vr (.bool (false)) rfl) ?_;have hE:=hE.trans n;exact⟨by rw[SA (show i<s.length by omega) (YY g)],hE⟩
  have hE:=hE.trans n;refine gS (ZV (xv:=NI i) (yv:=NI 1) f rfl rfl (AF _ _ _ (by omega)) (gK (Aem ⟨i+1,j,k,rfl,hE,by omega,UQ 0 (by omega) ha (YX g),trivial⟩ ?_)));show s.length-(intOf (NI ((i)+(1)))).toNat<s.length-(intOf (o 32)).toNat;rw[q32];simp only[intOf,AdV];omega
 refine Az rfl (vr (.bool (true)) rfl) ?_;exact⟨by rw[SC hh (by omega) ha],hE⟩
section
variable {P : AdM} {K : Adr -> Ads -> Prop} {ρ : Aj} {w : Ads} {d : Option Tmp} {ty : Ady} {pos : String} {af : Array Aej} {gd : Option (Nat × Bool)}
variable {α β : Type} {ek : α -> Adr} {ev : β -> Adr} {D : α -> Prop} {b : Nat} {G : α -> Option β}
variable {t Kt E : Ady} {OK : Adr -> Prop}
theorem Abt(L:KL P Kt OK)(hD:∀a,D a->OK (ek a))(hi:∀a c,ek a=ek c->a=c)(ht:P.underlying t=some (.map Kt E)){z:Adr}(hz:∀u:Ads,(zeroValue E).run P u = .ok z u){x y:AdC}{a:α} 
  (hm:Ab ρ x = .map (some b)) (hy:Ab ρ y=ek a) (h:MapF ek ev D w b G) (ha:D a) (hk:K ((G a).elim z ev) w):
  Yk P K ((execOp (Ab ρ) ⟨d, .lookup t x y false,ty,pos,af,gd⟩).run P w):=by
 have hrun:=h.look L hD hi ht hz ha false;refine AcG (v:=(G a).elim z ev) (w' :=w) ?_ hk;unfold execOp;simp only[hm,hy,AdB,hrun,AdA,AdF];rfl
theorem Abd[DecidableEq α](L:KL P Kt OK)(hD:∀a,D a->OK (ek a))(ht:P.underlying t=some (.map Kt E)){x y z:AdC}{a:α}{c:β} 
  (hm:Ab ρ x = .map (some b)) (hy:Ab ρ y=ek a) (hz:Ab ρ z=ev c) (h:MapF ek ev D w b G) (ha:D a) (hk:∀w',MapF ek ev D w' b (updM G a (some c))->w.grownBy w' (some b)->w'.heap.size=w.heap.size->K undef w'):
  Yk P K ((execOp (Ab ρ) ⟨d, .mapUpdate t x y z,ty,pos,af,gd⟩).run P w):=by
 obtain⟨w',hrun,h1,h2,h3⟩:=h.put L hD ht ha c;have hr:(execOp (Ab ρ) ⟨d, .mapUpdate t x y z,ty,pos,af,gd⟩).run P w = .ok .skip w' \/(execOp (Ab ρ) ⟨d, .mapUpdate t x y z,ty,pos,af,gd⟩).run P w = .ok (.value undef) w' :=by
  unfold execOp;simp only[hm,hy,hz,AdB,hrun,AdA,AdF];simp
 rcases hr with hr | hr <;> rw[hr] <;> exact hk w' h1 h2 h3
theorem AbN[DecidableEq α](L:KL P Kt OK)(hD:∀a,D a->OK (ek a))(hi:∀a c,ek a=ek c->a=c)(ht:P.underlying t=some (.map Kt E)){x y:AdC}{a:α} 
  (hm:Ab ρ x = .map (some b)) (hy:Ab ρ y=ek a) (h:MapF ek ev D w b G) (ha:D a) (hk:∀w',MapF ek ev D w' b (updM G a none)->w.grownBy w' (some b)->w'.heap.size=w.heap.size->K (.tuple #[]) w'):
  Yk P K ((execOp (Ab ρ) ⟨d, .call ⟨.builtin .delete,#[x,y],#[t,Kt]⟩,ty,pos,af,gd⟩).run P w):=by
 obtain⟨w',hrun,h1,h2,h3⟩:=h.del L hD hi ht (ty:=ty) ha;refine AcG (v:= .tuple #[]) (w' :=w') ?_ (hk w' h1 h2 h3);unfold execOp;simp only[resolve,invoke,builtin,AdB,AdF,AdA,AdH,AdK,AdO,hm,hy,hrun]
theorem AaV(ek:α->Adr)(ev:β->Adr)(D:α->Prop)(hk:∀g w',w.heap.size=g->MapF ek ev D w' g (fun _=>none)->Ext w w' ->w'.heap.size=g+1->K (.map (some g)) w'):
  Yk P K ((execOp (Ab ρ) ⟨d, .makeMap t none,ty,pos,af,gd⟩).run P w):=by
 refine AcG (v:= .map (some w.heap.size)) (w' :=w.alloc (.map #[] 0)) ?_ (hk _ _ rfl (Ab8 ek ev D w) ((Aeo _ _).alloc (Adw _) _) (by simp));unfold execOp;simp[Instr.makeMap,newObj,Aek];rfl
theorem AaI(L:KL P Kt OK)(hD:∀a,D a->OK (ek a))(hi:∀a c,ek a=ek c->a=c)(ht:P.underlying t=some (.map Kt E)){z:Adr}(hz:∀u:Ads,(zeroValue E).run P u = .ok z u){x y:AdC}{a:α}{c:β} 
  (hm:Ab ρ x = .map (some b)) (hy:Ab ρ y=ek a) (h:MapF ek ev D w b G) (ha:D a) (hG:G a=some c) (hk:K (ev c) w):Yk P K ((execOp (Ab ρ) ⟨d, .lookup t x y false,ty,pos,af,gd⟩).run P w):=
 Abt L hD hi ht hz hm hy h ha (by rw[hG];exact hk)
theorem Abj(L:KL P Kt OK)(hD:∀a,D a->OK (ek a))(hi:∀a c,ek a=ek c->a=c)(ht:P.underlying t=some (.map Kt E)){z:Adr}(hz:∀u:Ads,(zeroValue E).run P u = .ok z u){x y:AdC}{a:α} 
  (hm:Ab ρ x = .map (some b)) (hy:Ab ρ y=ek a) (h:MapF ek ev D w b G) (ha:D a) (hG:G a=none) (hk:K z w):Yk P K ((execOp (Ab ρ) ⟨d, .lookup t x y false,ty,pos,af,gd⟩).run P w):=
 Abt L hD hi ht hz hm hy h ha (by rw[hG];exact hk)
theorem Yk.build{parts:Array (Nat × AdC)}{vs:Array (Nat × Adr)}{v:Adr}(hv:(parts.map fun(i,x)=>(i,Ab ρ x))=vs)(hr:∀w:Ads,(Aew t vs).run P w = .ok v w)(hk:K v w):
  Yk P K ((execOp (Ab ρ) ⟨d, .build t parts,ty,pos,af,gd⟩).run P w):=by
 refine AcG (v:=v) (w' :=w) ?_ hk;unfold execOp;simp only[hv,hr,AdB,AdA,AdF]
theorem AaS{i0:Nat}{x0:AdC}{a v:Adr}(h0:Ab ρ x0=a)(hr:∀w:Ads,(Aew t #[(i0,a)]).run P w = .ok v w)(hk:K v w):Yk P K ((execOp (Ab ρ) ⟨d, .build t #[(i0,x0)],ty,pos,af,gd⟩).run P w):=
 Yk.build (by simp[h0]) hr hk
theorem AaC{i0 i1:Nat}{x0 x1:AdC}{a b v:Adr}(h0:Ab ρ x0=a)(h1:Ab ρ x1=b)(hr:∀w:Ads,(Aew t #[(i0,a),(i1,b)]).run P w = .ok v w)(hk:K v w):Yk P K ((execOp (Ab ρ) ⟨d, .build t #[(i0,x0),(i1,x1)],ty,pos,af,gd⟩).run P w):=
 Yk.build (by simp[h0,h1]) hr hk
theorem RG.slice{k:Nat}{enc:α->List Adr}{v:Adr}{l:List α}(h:RG k enc w v l):∃ao n c,v = .slice ao n c:=by
 obtain⟨ao,c,rfl⟩:=h.len;exact⟨ao,_,c,rfl⟩
abbrev Adh:=@RG.slice
theorem Aa9{fs}(hu:P.underlying t=some (.struct fs)){x:AdC}{v:Adr}(hx:Ab ρ x=v)(hk:K (.iface t v) w):Yk P K ((execOp (Ab ρ) ⟨d, .makeInterface t x,ty,pos,af,gd⟩).run P w):=by
 refine AcG (v:= .iface t v) (w' :=w) ?_ hk;unfold execOp;simp[Instr.makeInterface,hx,run_underlying hu,Aek]
theorem AaM{k:Nat}{enc:α->List Adr}{e:Ady}{x:AdC}{a:α}(hx:Ab ρ x = .agg (enc a).toArray)(hl:(enc a).length=k) 
  (hr:∀(cs:Array Adr),cs.size=k->∀w:Ads,(Ad0 t 1 #[(0, .agg cs)]).run P w = .ok (.slice (some ⟨w.heap.size,0,none⟩) 1 1) (w.alloc (.cells cs e)))
  (hk:∀v w',RG k enc w' v [a]->Ext w w' ->K v w'):Yk P K ((execOp (Ab ρ) ⟨d, .buildSlice t 1 #[(0,x)],ty,pos,af,gd⟩).run P w):=by
 have hE:Ext w (w.alloc (.cells (enc a).toArray e)):=(Aeo _ _).alloc (Adw _) _;refine AcG (v:= .slice (some ⟨w.heap.size,0,none⟩) 1 1) (w' :=w.alloc (.cells (enc a).toArray e)) ?_ (hk _ _ (Abi hl (heap_alloc_new w _)) hE);unfold execOp;simp only[AdH,AdK,AdO,hx,AdB,hr _ (show(enc a).toArray.size=k by rw[Ad6];exact hl),AdA,AdF]
theorem RG.elem{k:Nat}{enc:α->List Adr}{v:Adr}{l:List α}(h:RG k enc w v l)(dd:α){i:Nat}(hi:i<l.length):(enc (l.getD i dd)).length=k:=by
 refine h.1 _ ?_;rw[Adz,AdE hi];exact Ae3 hi
abbrev AcL:=@RG.elem
theorem RG.cut{k:Nat}{enc:α->List Adr}{v:Adr}{l:List α}(h:∀x∈l,(enc x).length=k){a c:Nat}(ha:a<=c)(hc:c<=l.length)(hR:Reads w k v (c-a) (((l.flatMap enc).drop (a*k)).take ((c-a)*k))):RG k enc w v ((l.drop a).take (c-a)):=by
 have hd:∀(l:List α) (n:Nat),(∀x∈l,(enc x).length=k)->(l.flatMap enc).drop (n*k)=(l.drop n).flatMap enc:=by
  intro l n
  induction n generalizing l with
  | zero=>intro _;simp
  | succ n ih=>
   intro h;cases l with
   | nil=>simp
   | cons x r=>
    have hx:=h x (by simp);rw[Aen,List.drop_succ_cons,<-ih r (fun y hy=>h y (by simp[hy])),show(n+1)*k=(enc x).length+n*k by rw[hx,AeQ];omega,List.drop_append,AeR (by omega),AfE,Ad9]
 have htk:∀(l:List α) (n:Nat),(∀x∈l,(enc x).length=k)->(l.flatMap enc).take (n*k)=(l.take n).flatMap enc:=by
  intro l n
  induction n generalizing l with
  | zero=>intro _;simp
  | succ n ih=>
   intro h;cases l with
   | nil=>simp
   | cons x r=>
    have hx:=h x (by simp);rw[Aen,List.take_succ_cons,Aen,<-ih r (fun y hy=>h y (by simp[hy])),show(n+1)*k=(enc x).length+n*k by rw[hx,AeQ];omega,List.take_append,Ad7 (by omega),AfE]
 refine⟨fun x hx=>h x (Agu (List.mem_of_mem_take hx)),?_⟩;rw[hd l a h,htk _ _ (fun x hx=>h x (Agu hx))]at hR;rw[show((l.drop a).take (c-a)).length=c-a by rw[AdS,AdT];omega];exact hR
theorem AbE{k:Nat}{enc:α->List Adr}{e:Ady}(ht:P.underlying t=some (.slice e))(he:∀w' :Ads,(sizeOf e).run P w' = .ok k w'){x lo:AdC}{v:Adr}{xs:List α}(hx:Ab ρ x=v)(h:RG k enc w v xs){kd:AeI}{l:Nat}(hlo:Ab ρ lo = .int kd (l:Int))(hl:l<=xs.length) 
  (hk:∀v',RG k enc w v' (xs.drop l)->v'.ownBlock=v.ownBlock->K v' w):Yk P K ((execOp (Ab ρ) ⟨d, .slice t x (some lo) none none,ty,pos,af,gd⟩).run P w):=by
 obtain⟨ao,c,⟨hrun,hb⟩,hR⟩:=CO ht he h.2 (some (.int kd l)) none l xs.length hl (Adw _) (.inr ⟨kd,rfl⟩) (.inl ⟨rfl,rfl⟩);have hR' :=RG.cut h.1 hl (Adw _) hR;rw[Ad7 (by rw[AdT];exact Adw _)]at hR';refine AcG (v:= .slice ao (xs.length-l) c) (w' :=w) ?_ (hk _ hR' hb);unfold execOp;simp only[hx,hlo,AeT,Afq,hrun,AdB,AdF,AdA]
theorem AbF{k:Nat}{enc:α->List Adr}{e:Ady}(ht:P.underlying t=some (.slice e))(he:∀w' :Ads,(sizeOf e).run P w' = .ok k w'){x hi:AdC}{v:Adr}{xs:List α}(hx:Ab ρ x=v)(h:RG k enc w v xs){kd:AeI}{n:Nat}(hhi:Ab ρ hi = .int kd (n:Int))(hl:n<=xs.length) 
  (hk:∀v',RG k enc w v' (xs.take n)->v'.ownBlock=v.ownBlock->K v' w):Yk P K ((execOp (Ab ρ) ⟨d, .slice t x none (some hi) none,ty,pos,af,gd⟩).run P w):=by
 obtain⟨ao,c,⟨hrun,hb⟩,hR⟩:=CO ht he h.2 none (some (.int kd n)) 0 n (AdN _) hl (.inl ⟨rfl,rfl⟩) (.inr ⟨kd,rfl⟩);have hR' :=RG.cut h.1 (AdN _) hl hR;rw[AfI,Nat.sub_zero]at hR';refine AcG (v:= .slice ao (n-0) c) (w' :=w) ?_ (hk _ hR' hb);unfold execOp;simp only[hx,hhi,AeT,Afq,hrun,AdB,AdF,AdA]
theorem ZX{f:FuncId}(hp:Plain P f){x0:AdC}{a:Adr}{at_:Array Ady}{J:List PanicEntry->Ads->Prop}(h0:Ab ρ x0=a) 
  (h:Calls P f #[a] w fun e w' =>match e with | .returned v=>K v w' | .panicked ch=>J ch w' | .outgrown=>False):Yp P K J ((execOp (Ab ρ) ⟨d, .call ⟨.value (.func f),#[x0],at_⟩,ty,pos,af,gd⟩).run P w):=
 Yp.call hp [a] (by simp[h0]) h
theorem AaZ{f:FuncId}(hp:Plain P f){x0 x1:AdC}{a b:Adr}{at_:Array Ady}{J:List PanicEntry->Ads->Prop}(h0:Ab ρ x0=a)(h1:Ab ρ x1=b) 
  (h:Calls P f #[a,b] w fun e w' =>match e with | .returned v=>K v w' | .panicked ch=>J ch w' | .outgrown=>False):Yp P K J ((execOp (Ab ρ) ⟨d, .call ⟨.value (.func f),#[x0,x1],at_⟩,ty,pos,af,gd⟩).run P w):=
 Yp.call hp [a,b] (by simp[h0,h1]) h
end
section
variable {P : AdM} {K : Adr -> Ads -> Prop} {ρ : Aj} {w : Ads} {d : Option Tmp} {ty : Ady} {pos : String} {af : Array Aej} {gd : Option (Nat × Bool)}
theorem AbV{f:FuncId}{at_:Array Ady}{x y:AdC}{a b v:Adr}(hx:Ab ρ x=a)(hy:Ab ρ y=b)(hr:(callFunc f #[a,b]).run P w = .ok (.value v) w)(hk:K v w):Yk P K ((execOp (Ab ρ) ⟨d, .call ⟨.value (.func f),#[x,y],at_⟩,ty,pos,af,gd⟩).run P w):=by
 refine AcG (v:=v) (w' :=w) ?_ hk;have hf:Ab ρ (.func f) = .func (.func f) #[] #[]:=rfl;unfold execOp;simp[resolve,hf,Deferred.ofValue,invoke,hx,hy,hr]
end
section
variable {P : AdM} {w : Ads}
theorem Acj{g:Nat}{l:Ai1}{t:Ady}{fr:Nat × Nat}(h:w.heap[g]? =some (.cells (Adv l).toArray t fr))(hl:l.length<=9223372036854775807):RB w (.slice (some ⟨g,0,none⟩) l.length l.length) l:=
 ⟨by simp[Adv],_,_,rfl,Adw _,by unfold maxLen;omega,(fun h=>by cases h),fun a ha j u hu=>by
  cases ha;rw[Ae0,Afa];exact Ac h hu⟩
theorem Ab9{g n:Nat}{l:Ai1}{t:Ady}{fr:Nat × Nat}(h:w.heap[g]? =some (.cells (Adv l).toArray t fr))(hn:l.length=n)(hl:n<=9223372036854775807):RB w (.slice (some ⟨g,0,none⟩) n n) l:=by
 subst hn;exact Acj h hl
end
def Ai(x:Cl):Bool:=decide (x.1=Aey 32 0)
theorem SI{α:Type}{l:List α}{i:Nat}(d:α)(h:i<l.length):l.drop i=l.getD i d :: l.drop (i+1):=by
 rw[Afk h,Adz,AdE h];rfl
theorem ES{l:Ai1}(h:(Adv l).length=32):l.length=32:=by rwa [AdG]at h
section
variable {P : AdM} {K : Adr -> Ads -> Prop} {ρ : Aj} {w : Ads} {d : Option Tmp} {ty : Ady} {pos : String} {af : Array Aej} {gd : Option (Nat × Bool)}
variable {α β : Type} {ek : α -> Adr} {ev : β -> Adr} {D : α -> Prop} {b : Nat} {G : α -> Option β}
variable {t Kt E : Ady} {OK : Adr -> Prop}
theorem Abe[DecidableEq α](L:KL P Kt OK)(hD:∀a,D a->OK (ek a))(ht:P.underlying t=some (.map Kt E)){x y z:AdC}{a:α}{c:β} 
  (hm:Ab ρ x = .map (some b)) (hy:Ab ρ y=ek a) (hz:Ab ρ z=ev c) (h:MapF ek ev D w b G) (ha:D a) (hk:∀w',MapF ek ev D w' b (updM G a (some c))->w.grownBy w' (some b)->w'.heap.size=w.heap.size->K undef w'):
  Yk P K ((execOp (Ab ρ) ⟨d, .insert t x y z,ty,pos,af,gd⟩).run P w):=by
 obtain⟨w',hrun,h1,h2,h3⟩:=h.put L hD ht ha c;have hr:(execOp (Ab ρ) ⟨d, .insert t x y z,ty,pos,af,gd⟩).run P w = .ok .skip w' \/(execOp (Ab ρ) ⟨d, .insert t x y z,ty,pos,af,gd⟩).run P w = .ok (.value undef) w' :=by
  unfold execOp;simp only[hm,hy,hz,AdB,hrun,AdA,AdF];simp
 rcases hr with hr | hr <;> rw[hr] <;> exact hk w' h1 h2 h3
theorem Aca{t:Ady}{i0 i1 i2:Nat}{x0 x1 x2:AdC}{a b c v:Adr}(h0:Ab ρ x0=a)(h1:Ab ρ x1=b)(h2:Ab ρ x2=c)(hr:∀w:Ads,(Aew t #[(i0,a),(i1,b),(i2,c)]).run P w = .ok v w)(hk:K v w):Yk P K ((execOp (Ab ρ) ⟨d, .build t #[(i0,x0),(i1,x1),(i2,x2)],ty,pos,af,gd⟩).run P w):=
 Yk.build (by simp[h0,h1,h2]) hr hk
end
theorem NK:KL Adt 5 (AgA (.int .u8)):=Abs (by kernel_rfl)
theorem NL:∀n:UInt8,True->AgA (.int .u8) (B8 n):=fun n _=>by first | exact⟨_,rfl⟩ | simp[AgA]
theorem X9{a b:UInt8}(h:B8 a=B8 b):a=b:=by
 injection h with _ h
 exact UInt8.toNat_inj.1 (Int.ofNat.inj h)
def nE(l:List AK)(i:Nat):Bool:=((!Aw (l.getD i dNmd).name)||Ai (l.getD i dNmd).id)||(decide (0<i)&&(!Ad3 (l.getD (i-1) dNmd).name (l.getD i dNmd).name))
open Classical in
noncomputable def Cb(l:List AK):Bool:=decide ((∀j,j<l.length->nE l j=false)/\l.length<=64)
theorem Ih{l:List AK}{i:Nat}(hi:l.length<=i)(h:∀j,j<i->nE l j=false):Cb l=decide (l.length<=64):=by
 classical
 unfold Cb;by_cases h2:l.length<=64
 ·rw[decide_eq_true h2,decide_eq_true ⟨fun j hj=>h j (by omega),h2⟩]
 ·rw[decide_eq_false h2,decide_eq_false (fun k=>h2 k.2)]
theorem QW{l:List AK}{i:Nat}(hi:i<l.length)(h:nE l i=true):Cb l=false:=by
 classical
 exact decide_eq_false (fun k=>by have:=k.1 i hi;rw[h]at this;cases this)
theorem Qd{p:Nat->Bool}{i:Nat}(h:∀j,j<i->p j=false)(h1:p i=false):∀j,j<i+1->p j=false:=fun j hj=>by
 by_cases e:j<i
 ·exact h j e
 ·obtain rfl:j=i:=by omega
  exact h1
def Ej(k:UInt8):Bool:=(decide (k.toNat=1)||decide (k.toNat=2))||decide (k.toNat=3)
def Hf(l:List Ba)(i:Nat):Bool:=((!Ej (l.getD i Ap).kind)||(!CB (l.getD i Ap).note))||decide (32<(l.getD i Ap).name.length)
noncomputable def Ja(r:Au):Bool:=((!Cb r.branches)||(!Cb r.tags))||decide (64<r.log.length)
noncomputable def HK(r:Au):Bool:=(decide (r.head≠ [])&&((!Aw r.head)||(!Ai r.at_)))||(decide (r.head= [])&&Ai r.at_)
open Classical in
noncomputable def AA(r:Au):Bool:=(!Ja r)&&((!HK r)&&decide (∀j,j<r.log.length->Hf r.log j=false))
theorem US{r:Au}(h:Ja r=true):AA r=false:=by unfold AA;rw[h];rfl
theorem UT{r:Au}(h1:Ja r=false)(h:HK r=true):AA r=false:=by unfold AA;rw[h1,h];rfl
theorem QX{r:Au}{i:Nat}(h1:Ja r=false)(h2:HK r=false)(hi:i<r.log.length)(h:Hf r.log i=true):AA r=false:=by
 classical
 unfold AA;rw[h1,h2,decide_eq_false (fun k=>by have:=k i hi;rw[h]at this;cases this)];rfl
theorem Gt{r:Au}{i:Nat}(h1:Ja r=false)(h2:HK r=false)(hi:r.log.length<=i)(h:∀j,j<i->Hf r.log j=false):AA r=true:=by
 classical
 unfold AA;rw[h1,h2,decide_eq_true (fun j hj=>h j (by omega))];rfl
structure RefsAt (w : Ads) (x : Af) : Prop where
 branches:RG 33 nmdC w x.2.branches x.1.branches
 tags:RG 33 nmdC w x.2.tags x.1.tags
 log:RG 67 entC w x.2.log x.1.log
theorem RefsAt.keep{w w' :Ads}{x:Af}(h:RefsAt w x)(k:Ext w w'):RefsAt w' x:=⟨h.branches.keep k,h.tags.keep k,h.log.keep k⟩
structure DM (r : Au) : Prop where
 branches:r.branches.length<9223372036854775807
 tags:r.tags.length<9223372036854775807
 log:r.log.length<9223372036854775807
 bn:∀u∈r.branches,u.name.length<=9223372036854775807
 tn:∀u∈r.tags,u.name.length<=9223372036854775807
 head:r.head.length<=9223372036854775807
theorem SJ:Tryz.prog.eqGuardType Tryz.prog.depth 33=false:=by kernel_rfl
theorem Fb:Tryz.prog.underlying 31=some (.slice 94):=by kernel_rfl
theorem Lj:∀w' :Ads,(sizeOf 94).run Adt w' = .ok 33 w' :=fun _=>by kernel_rfl
theorem Mt:∃fs,Tryz.prog.underlying 94=some (.struct fs):=DP (by kernel_rfl)
theorem Lk:(Tryz.prog.info? 94).map (·.size)=some 33:=by kernel_rfl
theorem SK{d:Option Tmp}{ty:Ady}{pos:String}{af:Array Aej}{gd:Option (Nat × Bool)}(σ:AdC->Adr)(w:Ads):(execOp σ ⟨d, .alloc 94,ty,pos,af,gd⟩).run Adt w = .ok (.value (PQ w.heap.size 0)) (w.alloc (.cells (nmdC (⟨[],zid⟩:AK)).toArray 94)):=by kernel_rfl
theorem SL:EM Adt 94 nmdC:=⟨⟨_,(Mt).choose_spec⟩,fun x=>AQ (BA x) Lk⟩
theorem Hg:Ax Adt 94 0 0:=fun b o w=>by simp[go_sem]
theorem Mu:Plain Adt 84:=fun _ _=>by kernel_rfl
theorem PC:Ax Adt 94 1 1:=fun b o w=>by simp[go_sem]
theorem Jb:Plain Adt 85:=fun _ _=>by kernel_rfl
theorem PD:Ax Adt 36 0 0:=fun b o w=>by simp[go_sem]
theorem Mv:Plain Adt 83:=fun _ _=>by kernel_rfl
theorem PE:Ax Adt 36 1 1:=fun b o w=>by simp[go_sem]
theorem J9:Ax Adt 36 4 35:=fun b o w=>by simp[go_sem]
theorem F4:Tryz.prog.underlying 34=some (.slice 97):=by kernel_rfl
theorem Hh:Ax Adt 36 2 2:=fun b o w=>by simp[go_sem]
theorem Ka:Ax Adt 36 3 3:=fun b o w=>by simp[go_sem]
theorem QY:∀w' :Ads,(sizeOf 97).run Adt w' = .ok 67 w' :=fun _=>by kernel_rfl
theorem Mw:∃fs,Tryz.prog.underlying 97=some (.struct fs):=DP (by kernel_rfl)
theorem Ll:(Tryz.prog.info? 97).map (·.size)=some 67:=by kernel_rfl
theorem SM{d:Option Tmp}{ty:Ady}{pos:String}{af:Array Aej}{gd:Option (Nat × Bool)}(σ:AdC->Adr)(w:Ads):(execOp σ ⟨d, .alloc 97,ty,pos,af,gd⟩).run Adt w = .ok (.value (PQ w.heap.size 0)) (w.alloc (.cells (entC (⟨0,[],zid,zid,[]⟩:Ba)).toArray 97)):=by kernel_rfl
theorem SN:EM Adt 97 entC:=⟨⟨_,(Mw).choose_spec⟩,fun x=>AQ (CZ x) Ll⟩
theorem Kb:Ax Adt 97 0 0:=fun b o w=>by simp[go_sem]
theorem PF:Ax Adt 77 0 0:=fun b o w=>by simp[go_sem]
theorem SO:Plain Adt 86:=fun _ _=>by kernel_rfl
theorem PG:Ax Adt 97 1 66:=fun b o w=>by simp[go_sem]
theorem SP:Plain Adt 35:=fun _ _=>by kernel_rfl
theorem PH:Ax Adt 77 1 1:=fun b o w=>by simp[go_sem]
theorem Ch(w:Ads)(u:Cl):
  Calls Adt 85 #[AB u.1] w fun e w' =>e = .returned (.bool (Ai u))/\Ext w w' :=by
 refine gG (args:= [AB u.1]) Tryz.func85 rfl 6 rfl rfl ?_;have hE:=Acz w;refine gS (AcP (vr (AB u.1) rfl) fun b c h a f i=> ?_);have hE:=hE.trans f;have g:=a;clear a;have j:b<c.heap.size:=by omega
 refine gS (Aal rfl g WA rfl (by exact As u.2) (gS (Ac1 (v:=AB (Aey 32 0)) (by kernel_rfl) (gS (Abo (l1:=u.1) (l2:=(Aey 32 0)) WA u5 QN SJ rfl rfl (u.2) (Aee) (Az rfl (vr (.bool (decide (u.1=(Aey 32 0)))) rfl) ?_))))));exact⟨rfl,hE⟩
theorem Mx(w:Ads)(k:UInt8):
  Calls Adt 86 #[B8 k] w fun e w' =>e = .returned (.bool (Ej k))/\Ext w w' :=by
 refine F2 (args:= [B8 (k)]) Tryz.func86 rfl 13 rfl rfl ?_;have hE:=Acz w;refine gS (ZO (a:=((k).toNat:Nat)) (b:=(1:Nat)) rfl rfl (AI _ _ _ _) (gO fun _=>Ae (B8 (k)) rfl rfl (gF rfl) (fun hG3=>AcF rfl ⟨rfl,rfl⟩) (At (gO fun _=>Ae (.bool (decide (((k).toNat:Nat)=(2)))) rfl rfl (gF rfl) (fun hG4=>ZO (a:=(((k).toNat:Nat):Int)) (b:=((2:Nat):Int)) (Al rfl hG4) rfl (AI _ .u8 ((k).toNat) (2)) ⟨rfl,rfl⟩) (At (gS (Z6 rfl rfl (fun hA=>(Al rfl (BJ hA))) fun bb5 hbb6=>(gO fun _=>Ae (B8 (k)) rfl rfl (gF rfl) (fun hG7=>AcF rfl ⟨rfl,rfl⟩) (At (gO fun _=>Ae (.bool (decide (((k).toNat:Nat)=(3)))) rfl rfl (gF rfl) (fun hG8=>ZO (a:=(((k).toNat:Nat):Int)) (b:=((3:Nat):Int)) (Al rfl hG8) rfl (AI _ .u8 ((k).toNat) (3)) ⟨rfl,rfl⟩) (At (gS (Z6 rfl rfl (fun hA=>(Al rfl (BJ hA))) fun bb9 hbb10=>(Az rfl (vr (.bool (bb9)) rfl) ?_))))))))))))));subst hbb6 hbb10;exact⟨rfl,hE⟩
theorem My(w:Ads)(v:Adr)(l:List AK)(hr:RG 33 nmdC w v l)(hll:l.length<9223372036854775807)(hln:∀u∈l,u.name.length<=9223372036854775807):
  Calls Adt 83 #[v] w fun e w' =>e = .returned (.bool (Cb l))/\Ext w w' :=by
 refine gG (args:= [v]) Tryz.func83 rfl 40 rfl rfl ?_;have hE:=Acz w;refine gS (ZZ Fb (ZU hr rfl) (gL (fun(ρ:Aj) (wz:Ads)=>∃i:Nat,ρ 0=(v:Adr)/\ρ 5=(v:Adr)/\ρ 6=(NI l.length:Adr)/\ρ 7=(NI i:Adr)/\RG 33 nmdC wz v l/\Ext w wz/\(i<=l.length)/\(∀j,j<i->nE l j=false)/\True) (fun ρ _=>l.length-(intOf (ρ 7)).toNat) ⟨0,rfl,rfl,rfl,rfl,hr,hE,AdN _,fun j hj=>absurd hj (Aex _),trivial⟩ ?_));clear hr hE;rintro af w5 ⟨i,p,T5,r,f,hr,hE,hi,hn,-⟩;have q7:=f;refine gS (ZO (a:=(i:Nat)) (b:=(l.length:Nat)) f r (Bg _ _ _ _) ?_);refine cD rfl (fun z=> ?_) fun z=> ?_
 ·have hlt:i<l.length:=z;have hnm:=hln _ (Cq dNmd hlt);have bd:(nmdC (l.getD (i) dNmd)).length=33:=(AcL hr dNmd (by omega));refine gS (Z3 Fb Lj (by decide) dNmd (ZU hr T5) f (by omega) fun be aa=>(gS (ZT (Aaa aa rfl) (Mt).choose_spec rfl (by rw[BA];exact Lk) (gS (AcH SK fun c ah bf ab ac bg=> ?_)))));have o:=Acz w5;have bh:=hE;have ai:=hE.size;have hE:=hE.trans ac;have o:=o.trans ac;have g:=ab;clear ab;have bi:c<ah.heap.size:=by omega
  refine gS (Z0 SL (vr (PQ c 0) rfl) (vr (.agg (nmdC (l.getD (i) dNmd)).toArray) rfl) g (Ec) fun aj ad ae bj=> ?_);have hE:=Ad hE ae (Adu ai (by omega));have o:=Ad o ae (Adu (Adw _) (by omega));clear g;have g:aj.heap[c]? =some (.cells (nmdC (l.getD (i) dNmd)).toArray 94 (0,0)):=ad;clear ad;have bk:=bl g;clear aa;refine gR ?_;refine E1 [Is (PQ c 0),Is (St (((l.getD (i) dNmd)).name)),Is (.bool (Aw (((l.getD (i) dNmd)).name))),Is (.bool (!(Aw (((l.getD (i) dNmd)).name)))),Is (.bool (!(Aw (((l.getD (i) dNmd)).name)))),Is (cond (!(!(Aw (((l.getD (i) dNmd)).name)))) (PQ c 1) undef),Is (cond (!(!(Aw (((l.getD (i) dNmd)).name)))) (AB (((l.getD (i) dNmd)).id.1)) undef),Is (cond (!(!(Aw (((l.getD (i) dNmd)).name)))) (.bool (Ai (((l.getD (i) dNmd)).id))) undef),Is (.bool ((!(Aw (((l.getD (i) dNmd)).name)))||(Ai (((l.getD (i) dNmd)).id)))),Is (.bool ((!(Aw (((l.getD (i) dNmd)).name)))||(Ai (((l.getD (i) dNmd)).id)))),Is (cond (!((!(Aw (((l.getD (i) dNmd)).name)))||(Ai (((l.getD (i) dNmd)).id)))) (NI i) undef),Is (cond (!((!(Aw (((l.getD (i) dNmd)).name)))||(Ai (((l.getD (i) dNmd)).id)))) (.bool (decide ((0)<(i)))) undef),Is (cond (!((!(Aw (((l.getD (i) dNmd)).name)))||(Ai (((l.getD (i) dNmd)).id)))) (.bool (decide ((0)<(i)))) undef),Is (cond ((!((!(Aw (((l.getD (i) dNmd)).name)))||(Ai (((l.getD (i) dNmd)).id))))&&(decide ((0)<(i)))) (v) undef),Is (cond ((!((!(Aw (((l.getD (i) dNmd)).name)))||(Ai (((l.getD (i) dNmd)).id))))&&(decide ((0)<(i)))) (NI i) undef),Is (cond ((!((!(Aw (((l.getD (i) dNmd)).name)))||(Ai (((l.getD (i) dNmd)).id))))&&(decide ((0)<(i)))) (NI ((i)-(1))) undef),fun x w' =>((!((!(Aw (((l.getD (i) dNmd)).name)))||(Ai (((l.getD (i) dNmd)).id))))&&(decide ((0)<(i))))=true->(fun x w' =>PR (nmdC (l.getD ((i)-(1)) dNmd)) x w') x w',fun x w' =>((!((!(Aw (((l.getD (i) dNmd)).name)))||(Ai (((l.getD (i) dNmd)).id))))&&(decide ((0)<(i))))=true->(PCell (St ((l.getD ((i)-(1)) dNmd).name))) x w',Is (cond ((!((!(Aw (((l.getD (i) dNmd)).name)))||(Ai (((l.getD (i) dNmd)).id))))&&(decide ((0)<(i)))) (St ((l.getD ((i)-(1)) dNmd).name)) undef),Is (cond ((!((!(Aw (((l.getD (i) dNmd)).name)))||(Ai (((l.getD (i) dNmd)).id))))&&(decide ((0)<(i)))) (PQ c 0) undef),Is (cond ((!((!(Aw (((l.getD (i) dNmd)).name)))||(Ai (((l.getD (i) dNmd)).id))))&&(decide ((0)<(i)))) (St (((l.getD (i) dNmd)).name)) undef),Is (cond ((!((!(Aw (((l.getD (i) dNmd)).name)))||(Ai (((l.getD (i) dNmd)).id))))&&(decide ((0)<(i)))) (.bool (!(Ad3 ((l.getD ((i)-(1)) dNmd).name) (((l.getD (i) dNmd)).name)))) undef),Is (cond (!((!(Aw (((l.getD (i) dNmd)).name)))||(Ai (((l.getD (i) dNmd)).id)))) (.bool ((decide ((0)<(i)))&&(!(Ad3 ((l.getD ((i)-(1)) dNmd).name) (((l.getD (i) dNmd)).name))))) undef),Is (.bool (((!(Aw (((l.getD (i) dNmd)).name)))||(Ai (((l.getD (i) dNmd)).id)))||((decide ((0)<(i)))&&(!(Ad3 ((l.getD ((i)-(1)) dNmd).name) (((l.getD (i) dNmd)).name))))))] (by kernel_rfl) [12,13,14,15,16,17,18,19,20,21,22,23,24,25,26,27,28,29,30,31,32,33,34,35] (by kernel_rfl) (by kernel_rfl) (XU (UK ⟨(Stab.may ((fun _ _ _ h k=>AcV h k))),(Stab.may (AaO _)),(ZA trivial)⟩)) ?ak ?hQ1004
  case ak=>
   refine⟨?_,?_,?_,?_,?_,?_,?_,?_,?_,?_,?_,?_,?_,?_,?_,?_,?_,?_,?_,?_,?_,?_,?_,?_,trivial⟩
   ·refine AE rfl fun σ w1 hC h=> ?_;have q:σ 4=PQ c 0:=(AJ (h 4 (by decide))).trans rfl;exact Acy Hg q ⟨Acz _,rfl⟩
   ·refine AE rfl fun σ w1 hC h=> ?_;have al:=AJ (h 12 (by decide));exact ZN E4 rfl al (Ac (eb hC g) (Eo (l.getD (i) dNmd))) ⟨Acz _,rfl⟩
   ·refine AE rfl fun σ w1 hC h=> ?_;have am:=AJ (h 13 (by decide));refine ZP Mu am ((KG _ (((l.getD (i) dNmd)).name) (by have:=hnm;omega)).mono ?_);rintro e w2 ⟨rfl,hx⟩;exact⟨_,rfl,hx,rfl⟩
   ·refine AE rfl fun σ w1 hC h=> ?_;have an:=AJ (h 14 (by decide));exact Z2 an ⟨Acz _,rfl⟩
   ·refine AE rfl fun σ w1 hC h=> ?_;have ao:=AJ (h 15 (by decide));exact AcF ao ⟨Acz _,rfl⟩
   ·refine Bd 4 false 16 (G:= !(!(Aw (((l.getD (i) dNmd)).name)))) rfl rfl (fun x _ (h:x = .bool (!(Aw (((l.getD (i) dNmd)).name))))=>gF h) (fun hu_ _=>BC hu_) fun hG σ w1 hC h=> ?_;have q:σ 4=PQ c 0:=(AJ (h 4 (by decide))).trans rfl;exact Acy PC q ⟨Acz _,BB hG⟩
   ·refine Bd 4 false 16 (G:= !(!(Aw (((l.getD (i) dNmd)).name)))) rfl rfl (fun x _ (h:x = .bool (!(Aw (((l.getD (i) dNmd)).name))))=>gF h) (fun hu_ _=>BC hu_) fun hG σ w1 hC h=> ?_;have ap:=AJ (h 17 (by decide));exact ZT (AcN (eb hC g) (FY (l.getD (i) dNmd)) (FZ (l.getD (i) dNmd)) (Al ap hG)) WA rfl (As ((l.getD (i) dNmd)).id.2) ⟨Acz _,BB hG⟩
   ·refine Bd 4 false 16 (G:= !(!(Aw (((l.getD (i) dNmd)).name)))) rfl rfl (fun x _ (h:x = .bool (!(Aw (((l.getD (i) dNmd)).name))))=>gF h) (fun hu_ _=>BC hu_) fun hG σ w1 hC h=> ?_;have aq:=AJ (h 18 (by decide));refine ZP Jb (Al aq hG) ((Ch _ (((l.getD (i) dNmd)).id)).mono ?_);rintro e w2 ⟨rfl,hx⟩;exact⟨_,rfl,hx,BB hG⟩
   ·refine AE rfl fun σ w1 hC h=> ?_;have ar:=AJ (h 16 (by decide));have au:=AJ (h 19 (by decide));exact Aax ar (vr (.bool (true)) rfl) (fun hA=>(Al au (BJ hA))) ⟨Acz _,rfl⟩
   ·refine AE rfl fun σ w1 hC h=> ?_;have av:=AJ (h 20 (by decide));exact AcF av ⟨Acz _,rfl⟩
   ·refine Bd 9 false 21 (G:= !((!(Aw (((l.getD (i) dNmd)).name)))||(Ai (((l.getD (i) dNmd)).id)))) rfl rfl (fun x _ (h:x = .bool ((!(Aw (((l.getD (i) dNmd)).name)))||(Ai (((l.getD (i) dNmd)).id))))=>gF h) (fun hu_ _=>BC hu_) fun hG σ w1 hC h=> ?_;have s:=(AJ (h 3 (by decide))).trans f;exact AcF s ⟨Acz _,BB hG⟩
   ·refine Bd 9 false 21 (G:= !((!(Aw (((l.getD (i) dNmd)).name)))||(Ai (((l.getD (i) dNmd)).id)))) rfl rfl (fun x _ (h:x = .bool ((!(Aw (((l.getD (i) dNmd)).name)))||(Ai (((l.getD (i) dNmd)).id))))=>gF h) (fun hu_ _=>BC hu_) fun hG σ w1 hC h=> ?_;have aw:=AJ (h 22 (by decide));exact ZO (a:=((i:Nat):Int)) (b:=((0:Nat):Int)) (Al aw hG) (vr (NI 0) rfl) (CM _ .i64 (i) (0)) ⟨Acz _,BB hG⟩
   ·refine Bd 9 false 21 (G:= !((!(Aw (((l.getD (i) dNmd)).name)))||(Ai (((l.getD (i) dNmd)).id)))) rfl rfl (fun x _ (h:x = .bool ((!(Aw (((l.getD (i) dNmd)).name)))||(Ai (((l.getD (i) dNmd)).id))))=>gF h) (fun hu_ _=>BC hu_) fun hG σ w1 hC h=> ?_;have ax:=AJ (h 23 (by decide));exact AcF (Al ax hG) ⟨Acz _,BB hG⟩
   ·refine Bd 12 true 24 (G:=(!((!(Aw (((l.getD (i) dNmd)).name)))||(Ai (((l.getD (i) dNmd)).id))))&&(decide ((0)<(i)))) rfl rfl (fun x _ (h:x=cond (!((!(Aw (((l.getD (i) dNmd)).name)))||(Ai (((l.getD (i) dNmd)).id)))) (.bool (decide ((0)<(i)))) undef)=>Gl h) (fun hu_ _=>BC hu_) fun hG σ w1 hC h=> ?_;have e0:=(AJ (h 0 (by decide))).trans p;exact AcF e0 ⟨Acz _,BB hG⟩
   ·refine Bd 12 true 24 (G:=(!((!(Aw (((l.getD (i) dNmd)).name)))||(Ai (((l.getD (i) dNmd)).id))))&&(decide ((0)<(i)))) rfl rfl (fun x _ (h:x=cond (!((!(Aw (((l.getD (i) dNmd)).name)))||(Ai (((l.getD (i) dNmd)).id)))) (.bool (decide ((0)<(i)))) undef)=>Gl h) (fun hu_ _=>BC hu_) fun hG σ w1 hC h=> ?_;have s:=(AJ (h 3 (by decide))).trans f;exact AcF s ⟨Acz _,BB hG⟩
   ·refine Bd 12 true 24 (G:=(!((!(Aw (((l.getD (i) dNmd)).name)))||(Ai (((l.getD (i) dNmd)).id))))&&(decide ((0)<(i)))) rfl rfl (fun x _ (h:x=cond (!((!(Aw (((l.getD (i) dNmd)).name)))||(Ai (((l.getD (i) dNmd)).id)))) (.bool (decide ((0)<(i)))) undef)=>Gl h) (fun hu_ _=>BC hu_) fun hG σ w1 hC h=> ?_;have az:=AJ (h 26 (by decide));exact ZV (xv:=NI i) (yv:=NI 1) (Al az hG) (vr (NI 1) rfl) rfl (FE _ (i) (1) (by first | omega | (simp only[gA,gB,gC,gD,gE]at hG;omega)) (by first | omega | (simp only[gA,gB,gC,gD,gE]at hG;omega))) ⟨Acz _,BB hG⟩
   ·refine Bd 12 true 24 (G:=(!((!(Aw (((l.getD (i) dNmd)).name)))||(Ai (((l.getD (i) dNmd)).id))))&&(decide ((0)<(i)))) rfl rfl (fun x _ (h:x=cond (!((!(Aw (((l.getD (i) dNmd)).name)))||(Ai (((l.getD (i) dNmd)).id)))) (.bool (decide ((0)<(i)))) undef)=>Gl h) (fun hu_ _=>Zn hu_) fun hG σ w1 hC h=> ?_;have a0:=AJ (h 25 (by decide));have a1:=AJ (h 27 (by decide));exact Z3 Fb Lj (by decide) dNmd (ZU (hr.keep (o.trans hC)) (Al a0 hG)) (Al a1 hG) (by first | omega | (simp only[gA,gB,gC,gD,gE]at hG;omega)) fun v h=>⟨Acz _,fun _=>h⟩
   ·refine Bd 12 true 24 (G:=(!((!(Aw (((l.getD (i) dNmd)).name)))||(Ai (((l.getD (i) dNmd)).id))))&&(decide ((0)<(i)))) rfl rfl (fun x _ (h:x=cond (!((!(Aw (((l.getD (i) dNmd)).name)))||(Ai (((l.getD (i) dNmd)).id)))) (.bool (decide ((0)<(i)))) undef)=>Gl h) (fun hu_ _=>Zn hu_) fun hG σ w1 hC h=> ?_;have a2:(fun x w' =>((!((!(Aw (((l.getD (i) dNmd)).name)))||(Ai (((l.getD (i) dNmd)).id))))&&(decide ((0)<(i))))=true->(fun x w' =>PR (nmdC (l.getD ((i)-(1)) dNmd)) x w') x w') (σ 28) w1:=h 28 (by decide);exact Aag (n:=1) Hg (a2 hG) fun v h=>⟨Acz _,fun _=>Aan (by rw[NX]at h;exact h)⟩
   ·refine Bd 12 true 24 (G:=(!((!(Aw (((l.getD (i) dNmd)).name)))||(Ai (((l.getD (i) dNmd)).id))))&&(decide ((0)<(i)))) rfl rfl (fun x _ (h:x=cond (!((!(Aw (((l.getD (i) dNmd)).name)))||(Ai (((l.getD (i) dNmd)).id)))) (.bool (decide ((0)<(i)))) undef)=>Gl h) (fun hu_ _=>BC hu_) fun hG σ w1 hC h=> ?_;have a3:(fun x w' =>((!((!(Aw (((l.getD (i) dNmd)).name)))||(Ai (((l.getD (i) dNmd)).id))))&&(decide ((0)<(i))))=true->(PCell (St ((l.getD ((i)-(1)) dNmd).name))) x w') (σ 29) w1:=h 29 (by decide);exact Aab E4 rfl (a3 hG) ⟨Acz _,BB hG⟩
   ·refine Bd 12 true 24 (G:=(!((!(Aw (((l.getD (i) dNmd)).name)))||(Ai (((l.getD (i) dNmd)).id))))&&(decide ((0)<(i)))) rfl rfl (fun x _ (h:x=cond (!((!(Aw (((l.getD (i) dNmd)).name)))||(Ai (((l.getD (i) dNmd)).id)))) (.bool (decide ((0)<(i)))) undef)=>Gl h) (fun hu_ _=>BC hu_) fun hG σ w1 hC h=> ?_;have q:σ 4=PQ c 0:=(AJ (h 4 (by decide))).trans rfl;exact Acy Hg q ⟨Acz _,BB hG⟩
   ·refine Bd 12 true 24 (G:=(!((!(Aw (((l.getD (i) dNmd)).name)))||(Ai (((l.getD (i) dNmd)).id))))&&(decide ((0)<(i)))) rfl rfl (fun x _ (h:x=cond (!((!(Aw (((l.getD (i) dNmd)).name)))||(Ai (((l.getD (i) dNmd)).id)))) (.bool (decide ((0)<(i)))) undef)=>Gl h) (fun hu_ _=>BC hu_) fun hG σ w1 hC h=> ?_;have a4:=AJ (h 31 (by decide));exact ZN E4 rfl (Al a4 hG) (Ac (eb hC g) (Eo (l.getD (i) dNmd))) ⟨Acz _,BB hG⟩
   ·refine Bd 12 true 24 (G:=(!((!(Aw (((l.getD (i) dNmd)).name)))||(Ai (((l.getD (i) dNmd)).id))))&&(decide ((0)<(i)))) rfl rfl (fun x _ (h:x=cond (!((!(Aw (((l.getD (i) dNmd)).name)))||(Ai (((l.getD (i) dNmd)).id)))) (.bool (decide ((0)<(i)))) undef)=>Gl h) (fun hu_ _=>BC hu_) fun hG σ w1 hC h=> ?_;have a5:=AJ (h 30 (by decide));have a6:=AJ (h 32 (by decide));exact AbM (l:=(l.getD ((i)-(1)) dNmd).name) (m:=((l.getD (i) dNmd)).name) (.inr rfl) (Al a5 hG) (Al a6 hG) (!(Ad3 ((l.getD ((i)-(1)) dNmd).name) (((l.getD (i) dNmd)).name))) rfl ⟨Acz _,BB hG⟩
   ·refine Bd 9 false 21 (G:= !((!(Aw (((l.getD (i) dNmd)).name)))||(Ai (((l.getD (i) dNmd)).id)))) rfl rfl (fun x _ (h:x = .bool ((!(Aw (((l.getD (i) dNmd)).name)))||(Ai (((l.getD (i) dNmd)).id))))=>gF h) (fun hu_ _=>BC hu_) fun hG σ w1 hC h=> ?_;have a7:=AJ (h 24 (by decide));have a8:=AJ (h 33 (by decide));exact Aar (Al a7 hG) (fun hA=>(Al a8 (Gs hG hA))) (vr (.bool (false)) rfl) ⟨Acz _,BB hG⟩
   ·refine AE rfl fun σ w1 hC h=> ?_;have a9:=AJ (h 21 (by decide));have ba:=AJ (h 34 (by decide));exact Aax a9 (vr (.bool (true)) rfl) (fun hA=>(Al ba (BJ hA))) ⟨Acz _,rfl⟩
  intro bb bm t he hf;obtain⟨-,-,-,-,-,-,-,-,-,-,-,-,-,-,-,-,-,-,-,-,-,-,-,k35,-⟩:=hf;obtain⟨p,T3,T4,T5,r,f,-⟩:=he.hold [(0,_),(3,_),(4,PQ c 0),(5,_),(6,_),(7,_)] ⟨p,f,rfl,T5,r,f,trivial⟩ rfl;clear he;have hE:=hE.trans t;have o:=o.trans t;have g:=eb t g;have bc:bb 35 = .bool (((!(Aw (((l.getD (i) dNmd)).name)))||(Ai (((l.getD (i) dNmd)).id)))||((decide ((0)<(i)))&&(!(Ad3 ((l.getD ((i)-(1)) dNmd).name) (((l.getD (i) dNmd)).name))))):=k35;clear k35;refine gX ?_;refine cB (((!(Aw (((l.getD (i) dNmd)).name)))||(Ai (((l.getD (i) dNmd)).id)))||((decide ((0)<(i)))&&(!(Ad3 ((l.getD ((i)-(1)) dNmd).name) (((l.getD (i) dNmd)).name))))) bc (fun y=> ?_) fun y=> ?_
  ·have hbad:nE l i=true:=y;refine Az rfl (vr (.bool (false)) rfl) ?_;exact⟨by rw[QW hlt hbad],hE⟩
  have hbad:nE l i=false:=y;refine gS (ZV (xv:=NI i) (yv:=NI 1) f rfl rfl (AF _ _ _ (by omega)) (gK (Aem ⟨i+1,p,T5,r,rfl,(hr.keep o),hE,by omega,Qd hn hbad,trivial⟩ ?_)));show l.length-(intOf (NI ((i)+(1)))).toNat<l.length-(intOf (af 7)).toNat;rw[q7];simp only[intOf,AdV];omega
 refine gS (ZZ Fb (ZU hr p) (gS (ZO (a:=(l.length:Nat)) (b:=(64:Nat)) rfl rfl (Fj _ _ _ _) (Az rfl (vr (.bool (decide ((l.length)<=(64)))) rfl) ?_))));exact⟨by rw[Ih (show l.length<=i by omega) hn],hE⟩
theorem Ii(w:Ads)(x:Af)(hm:RefsAt w x)(hL:DM x.1):
  Calls Adt 34 #[.agg (refsC x).toArray] w fun e w' =>e = .returned (.bool (AA x.1))/\Ext w w' :=by
 have hmt:=hm.branches;have hmg:=hm.tags;have hml:=hm.log;refine F2 (args:= [.agg (refsC x).toArray]) Tryz.func34 rfl 72 rfl rfl ?_;have hE:=Acz w;refine gS (AcP (vr (.agg (refsC x).toArray) rfl) fun f w3 au v ak av=> ?_);have hE:=hE.trans ak;have c:=v;clear v;have aw:f<w3.heap.size:=by omega
 refine gS (Acy PD rfl (gS (ZN Fb rfl rfl (Ac c (Br x)) (gS (ZP Mv rfl ((My _ _ x.1.branches (hmt.keep hE) hL.branches hL.bn).mono ?_))))));rintro e ax ⟨rfl,y⟩;refine⟨_,rfl,?_⟩;have hE:=hE.trans y;have c:=eb y c;refine gS (Z2 rfl (gO fun _=>Ae (PQ f 1) rfl rfl (gF rfl) (fun hG14=>Acy PE rfl ⟨rfl,rfl⟩) (At (gO fun _=>Ae (x.2.tags) rfl rfl (gF rfl) (fun hG15=>ZN Fb rfl (Al rfl hG15) (Ac c (BQ x)) ⟨rfl,rfl⟩) (At (gO fun _=>Cg (.bool (Cb x.1.tags)) rfl rfl (gF rfl) (fun hG16=>ZP Mv (Al rfl hG16) ((My _ _ x.1.tags (hmg.keep hE) hL.tags hL.tn).mono (by rintro e w2 ⟨rfl,hx⟩;exact⟨_,rfl,rfl,hx⟩))) fun ay z=>At ?_))))));have hE:=hE.trans z;have c:=eb z c;refine gO fun _=>Ae (.bool (!(Cb x.1.tags))) rfl rfl (gF rfl) (fun hG20=>Z2 (Al rfl hG20) ⟨rfl,rfl⟩) (At (gS (Z6 rfl rfl (fun hA=>(Al rfl (BJ hA))) fun bb21 hbb22=>(gO fun _=>Ae (PQ f 35) rfl rfl (gF rfl) (fun hG23=>Acy J9 rfl ⟨rfl,rfl⟩) (At (gO fun _=>Ae (x.2.log) rfl rfl (gF rfl) (fun hG24=>ZN F4 rfl (Al rfl hG24) (Ac c (Bv x)) ⟨rfl,rfl⟩) (At (gO fun _=>Ae (NI ((x.1.log).length)) rfl rfl (gF rfl) (fun hG25=>ZZ F4 (ZU (hml.keep hE) (Al rfl hG25)) ⟨rfl,rfl⟩) (At (gO fun _=>Ae (.bool (decide ((64)<((x.1.log).length)))) rfl rfl (gF rfl) (fun hG26=>ZO (a:=(((x.1.log).length:Nat):Int)) (b:=((64:Nat):Int)) (Al rfl hG26) rfl (CM _ .i64 ((x.1.log).length) (64)) ⟨rfl,rfl⟩) (At (gS (Z6 rfl rfl (fun hA=>(Al rfl (BJ hA))) fun bb27 hbb28=> ?_)))))))))))));refine cB (bb27) rfl (fun q=> ?_) fun q=> ?_
 ·subst hbb22 hbb28;have h1c:Ja x.1=true:=q;refine Az rfl (vr (.bool (false)) rfl) ?_;exact⟨by rw[US h1c],hE⟩
 subst hbb22 hbb28;have h1c:Ja x.1=false:=q;refine gS (Acy Hh rfl (gS (ZN E4 rfl rfl (Ac c (Cw x)) (gS (Aav (l:=x.1.head) (m:=([]:Ai1)) (.inr rfl) rfl rfl (decide ((x.1.head:Ai1)≠(([]:Ai1):Ai1))) rfl (gO fun _=>Ae (PQ f 2) rfl rfl (gT rfl) (fun hG32=>Acy Hh rfl ⟨rfl,rfl⟩) (At (gO fun _=>Ae (St (x.1.head)) rfl rfl (gT rfl) (fun hG33=>ZN E4 rfl (Al rfl hG33) (Ac c (Cw x)) ⟨rfl,rfl⟩) (At (gO fun _=>Cg (.bool (Aw x.1.head)) rfl rfl (gT rfl) (fun hG34=>ZP Mu (Al rfl hG34) ((KG _ x.1.head hL.head).mono (by rintro e w2 ⟨rfl,hx⟩;exact⟨_,rfl,rfl,hx⟩))) fun az aa=>At ?_))))))))));have hE:=hE.trans aa;have c:=eb aa c;refine gO fun _=>Ae (.bool (!(Aw x.1.head))) rfl rfl (gT (vr (.bool (decide ((x.1.head:Ai1)≠(([]:Ai1):Ai1)))) rfl)) (fun hG38=>Z2 (Al (vr (cond ((decide ((x.1.head:Ai1)≠(([]:Ai1):Ai1)))) (.bool (Aw x.1.head)) undef) rfl) hG38) ⟨rfl,rfl⟩) (At (gO fun _=>Ae (.bool (!(Aw x.1.head))) rfl rfl (gT (vr (.bool (decide ((x.1.head:Ai1)≠(([]:Ai1):Ai1)))) rfl)) (fun hG39=>AcF (Al (vr (cond ((decide ((x.1.head:Ai1)≠(([]:Ai1):Ai1)))) (.bool (!(Aw x.1.head))) undef) rfl) hG39) ⟨rfl,rfl⟩) (At (gO fun _=>Ae (PQ f 3) rfl rfl (FB (vr (cond ((decide ((x.1.head:Ai1)≠(([]:Ai1):Ai1)))) (.bool (!(Aw x.1.head))) undef) rfl)) (fun hG40=>Acy Ka (vr (PQ f 0) rfl) ⟨rfl,rfl⟩) (At (gO fun _=>Ae (AB x.1.at_.1) rfl rfl (FB (vr (cond ((decide ((x.1.head:Ai1)≠(([]:Ai1):Ai1)))) (.bool (!(Aw x.1.head))) undef) rfl)) (fun hG41=>ZT (AcN c (Cx x) (CH x) (Al (vr (cond ((decide ((x.1.head:Ai1)≠(([]:Ai1):Ai1)))&& !(!(Aw x.1.head))) (PQ f 3) undef) rfl) hG41)) WA rfl (As x.1.at_.2) ⟨rfl,rfl⟩) (At (gO fun _=>Cg (.bool (Ai x.1.at_)) rfl rfl (FB (vr (cond ((decide ((x.1.head:Ai1)≠(([]:Ai1):Ai1)))) (.bool (!(Aw x.1.head))) undef) rfl)) (fun hG42=>ZP Jb (Al (vr (cond ((decide ((x.1.head:Ai1)≠(([]:Ai1):Ai1)))&& !(!(Aw x.1.head))) (AB x.1.at_.1) undef) rfl) hG42) ((Ch _ x.1.at_).mono (by rintro e w2 ⟨rfl,hx⟩;exact⟨_,rfl,rfl,hx⟩))) fun a0 ab=>At ?_))))))));have hE:=hE.trans ab;have c:=eb ab c;refine gO fun _=>Ae (.bool (!(Ai x.1.at_))) rfl rfl (FB rfl) (fun hG46=>Z2 (Al rfl hG46) ⟨rfl,rfl⟩) (At (gO fun _=>Er ((!(Aw x.1.head))||(!(Ai x.1.at_))) rfl rfl (gT rfl) (fun hG47=>Aax (Al rfl hG47) rfl (fun hA=>(Al rfl (Gs hG47 (BJ hA)))) ⟨rfl,rfl⟩) fun bb48 hbb49=>At (gS (Z9 rfl (fun hA=>(Al rfl hA)) rfl fun bb50 hbb51=>(gO fun _=>Ae (PQ f 2) rfl rfl (gF rfl) (fun hG52=>Acy Hh rfl ⟨rfl,rfl⟩) (At (gO fun _=>Ae (St (x.1.head)) rfl rfl (gF rfl) (fun hG53=>ZN E4 rfl (Al rfl hG53) (Ac c (Cw x)) ⟨rfl,rfl⟩) (At (gO fun _=>Ae (.bool (decide ((x.1.head:Ai1)=(([]:Ai1):Ai1)))) rfl rfl (gF rfl) (fun hG54=>Aav (l:=x.1.head) (m:=([]:Ai1)) (.inl rfl) (Al rfl hG54) rfl (decide ((x.1.head:Ai1)=(([]:Ai1):Ai1))) rfl ⟨rfl,rfl⟩) (At (gO fun _=>Ae (.bool (decide ((x.1.head:Ai1)=(([]:Ai1):Ai1)))) rfl rfl (gF rfl) (fun hG55=>AcF (Al rfl hG55) ⟨rfl,rfl⟩) (At (gO fun _=>Ae (PQ f 3) rfl rfl (Gl rfl) (fun hG56=>Acy Ka rfl ⟨rfl,rfl⟩) (At (gO fun _=>Ae (AB x.1.at_.1) rfl rfl (Gl rfl) (fun hG57=>ZT (AcN c (Cx x) (CH x) (Al rfl hG57)) WA rfl (As x.1.at_.2) ⟨rfl,rfl⟩) (At (gO fun _=>Cg (.bool (Ai x.1.at_)) rfl rfl (Gl rfl) (fun hG58=>ZP Jb (Al rfl hG58) ((Ch _ x.1.at_).mono (by rintro e w2 ⟨rfl,hx⟩;exact⟨_,rfl,rfl,hx⟩))) fun a1 ac=>At ?_)))))))))))))))));have hE:=hE.trans ac;have c:=eb ac c;refine gO fun _=>Er ((decide ((x.1.head:Ai1)=(([]:Ai1):Ai1)))&&(Ai x.1.at_)) rfl rfl (gF rfl) (fun hG62=>Aar (Al rfl hG62) (fun hA=>(Al rfl (Gs hG62 hA))) rfl ⟨rfl,rfl⟩) fun bb63 hbb64=>At (gS (Z6 rfl rfl (fun hA=>(Al rfl (BJ hA))) fun bb65 hbb66=> ?_));refine cB (bb65) rfl (fun r=> ?_) fun r=> ?_
 ·subst hbb49 hbb51 hbb64 hbb66;have h2c:HK x.1=true:=r;refine Az rfl (vr (.bool (false)) rfl) ?_;exact⟨by rw[UT h1c h2c],hE⟩
 subst hbb49 hbb51 hbb64 hbb66;have h2c:HK x.1=false:=r;refine gS (Acy J9 rfl (gS (ZN F4 rfl rfl (Ac c (Bv x)) (gS (ZZ F4 (ZU (hml.keep hE) rfl) (gL (fun(ρ:Aj) (wz:Ads)=>∃i:Nat,ρ 0=(.agg (refsC x).toArray:Adr)/\ρ 1=(PQ f 0:Adr)/\ρ 47=(x.2.log:Adr)/\ρ 48=(NI ((x.1.log).length):Adr)/\ρ 49=(NI i:Adr)/\Ext w wz/\wz.heap[f]? =some (.cells (refsC x).toArray 36 (0,0))/\(i<=x.1.log.length)/\(∀j,j<i->Hf x.1.log j=false)/\True) (fun ρ _=>x.1.log.length-(intOf (ρ 49)).toNat) ⟨0,rfl,rfl,rfl,rfl,rfl,hE,c,AdN _,fun j hj=>absurd hj (Aex _),trivial⟩ ?_))))));clear hE c;rintro al am ⟨i,T0,T1,ad,ae,n,hE,c,hi,hn,-⟩;have q49:=n;refine gS (ZO (a:=(i:Nat)) (b:=((x.1.log).length:Nat)) n ae (Bg _ _ _ _) ?_);refine cD rfl (fun af=> ?_) fun af=> ?_
 ·have hlt:i<x.1.log.length:=af;have a2:(entC ((x.1.log).getD (i) Ap)).length=67:=(AcL (hml.keep hE) Ap (by omega));refine gS (Z3 F4 QY (by decide) Ap (ZU (hml.keep hE) ad) n (by omega) fun a3 ag=>(gS (ZT (Aaa ag rfl) (Mw).choose_spec rfl (by rw[CZ];exact Ll) (gS (AcH SM fun k ao ap ah s a4=> ?_)))));have h:=Acz am;have a5:=hE;have aq:=hE.size;have a6:=AO (bl c) ap;have hE:=hE.trans s;have c:=eb s c;have h:=h.trans s;have g:=ah;clear ah;have a7:k<ao.heap.size:=by omega
  refine gS (Z0 SN (vr (PQ k 0) rfl) (vr (.agg (entC ((x.1.log).getD (i) Ap)).toArray) rfl) g (Gw) fun ar ai t a8=> ?_);have hE:=Ad hE t (Adu aq (by omega));have c:=kb t c (by omega);have h:=Ad h t (Adu (Adw _) (by omega));clear g;have g:ar.heap[k]? =some (.cells (entC ((x.1.log).getD (i) Ap)).toArray 97 (0,0)):=ai;clear ai;have a9:=bl g;clear ag;refine gS (Acy Kb rfl (gS (Acy PF rfl (gS (ZN u5 rfl rfl (Ac g (So ((x.1.log).getD (i) Ap))) (gS (ZP SO rfl ((Mx _ ((((x.1.log).getD (i) Ap)).kind)).mono ?_))))))));rintro e ba ⟨rfl,o⟩;refine⟨_,rfl,?_⟩;have hE:=hE.trans o;have c:=eb o c;have h:=h.trans o;have g:=eb o g;refine gS (Z2 rfl (gO fun _=>Ae (PQ k 66) rfl rfl (gF rfl) (fun hG99=>Acy PG rfl ⟨rfl,rfl⟩) (At (gO fun _=>Ae (St ((((x.1.log).getD (i) Ap)).note)) rfl rfl (gF rfl) (fun hG100=>ZN E4 rfl (Al rfl hG100) (Ac g (HC ((x.1.log).getD (i) Ap))) ⟨rfl,rfl⟩) (At (gO fun _=>Cg (.bool (CB ((((x.1.log).getD (i) Ap)).note))) rfl rfl (gF rfl) (fun hG101=>ZP SP (Al rfl hG101) ((N7 _ ((((x.1.log).getD (i) Ap)).note)).mono (by rintro e w2 ⟨rfl,hx⟩;exact⟨_,rfl,rfl,hx⟩))) fun bb p=>At ?_))))));have hE:=hE.trans p;have c:=eb p c;have h:=h.trans p;have g:=eb p g;refine gO fun _=>Ae (.bool (!(CB ((((x.1.log).getD (i) Ap)).note)))) rfl rfl (gF rfl) (fun hG105=>Z2 (Al rfl hG105) ⟨rfl,rfl⟩) (At (gS (Z6 rfl rfl (fun hA=>(Al rfl (BJ hA))) fun bb106 hbb107=>(gO fun _=>Ae (PQ k 0) rfl rfl (gF rfl) (fun hG108=>Acy Kb rfl ⟨rfl,rfl⟩) (At (gO fun _=>Ae (PQ k 1) rfl rfl (gF rfl) (fun hG109=>Acy PH (Al rfl hG109) ⟨rfl,rfl⟩) (At (gO fun _=>Ae (St ((((x.1.log).getD (i) Ap)).name)) rfl rfl (gF rfl) (fun hG110=>ZN E4 rfl (Al rfl hG110) (Ac g (Sp ((x.1.log).getD (i) Ap))) ⟨rfl,rfl⟩) (At (gO fun _=>Ae (NI (((((x.1.log).getD (i) Ap)).name:Ai1).length)) rfl rfl (gF rfl) (fun hG111=>Aaq (l:=(((x.1.log).getD (i) Ap)).name) E4 (Al rfl hG111) ⟨rfl,rfl⟩) (At (gO fun _=>Ae (.bool (decide ((32)<(((((x.1.log).getD (i) Ap)).name:Ai1).length)))) rfl rfl (gF rfl) (fun hG112=>ZO (a:=((((((x.1.log).getD (i) Ap)).name:Ai1).length:Nat):Int)) (b:=((32:Nat):Int)) (Al rfl hG112) rfl (CM _ .i64 (((((x.1.log).getD (i) Ap)).name:Ai1).length) (32)) ⟨rfl,rfl⟩) (At (gS (Z6 rfl rfl (fun hA=>(Al rfl (BJ hA))) fun bb113 hbb114=> ?_)))))))))))))));refine cB (bb113) rfl (fun u=> ?_) fun u=> ?_
  ·subst hbb107 hbb114;have hbad:Hf x.1.log i=true:=u;refine Az rfl (vr (.bool (false)) rfl) ?_;exact⟨by rw[QX h1c h2c hlt hbad],hE⟩
  subst hbb107 hbb114;have hbad:Hf x.1.log i=false:=u;refine gS (ZV (xv:=NI i) (yv:=NI 1) n rfl rfl (AF _ _ _ (by have:=hL.log;omega)) (gK (Aem ⟨i+1,T0,T1,ad,ae,rfl,hE,c,by omega,Qd hn hbad,trivial⟩ ?_)));show x.1.log.length-(intOf (NI ((i)+(1)))).toNat<x.1.log.length-(intOf (al 49)).toNat;rw[q49];simp only[intOf,AdV];omega
 refine Az rfl (vr (.bool (true)) rfl) ?_;exact⟨by rw[Gt h1c h2c (show x.1.log.length<=i by omega) hn],hE⟩
set_option maxHeartbeats 400000 in
theorem PI(w:Ads)(v:Adr)(l:Ai1)(hr:RB w v l)(s:ByteArray)(hl:l.length+s.size+16<=140737488355328):
  Calls Adt 58 #[v, .string s] w fun e w' =>∃v',e = .returned v' /\NewB 5 w w' v' (l++AdU s.size++s.data.toList):=by
 obtain⟨i0,hi,a,b,c⟩:=info_parts QE;have h9:=IM s.size (by omega);have hss:s.data.toList.length=s.size:=by simp
 have HSS:=Afb hss;clear hss
 go_enter Tryz.func58,Tryz.ntmps58
 go_wp2_with fail
 refine(L0 _ _ l hr (by omega)).mono ?_;rintro e w1 ⟨f,rfl,h1⟩
 go_wp2_with fail
 refine(K4 w.heap.size l.length s.size (by omega) f _ w1 h1.own h1.by_.size (by omega)).mono ?_;rintro e w2 ⟨h,rfl,ho,g⟩;have h2:=h1.more g ho
 go_wp2_with (at_builtin;refine DC _ rfl _ _ 43 9 rfl w.heap.size 5 i0 (.int .u8 0) 1 1 Hv hi a b c rfl _ _ _ rfl h2.own (.string s) _ _ rfl (Sg XW _ s) ?c1 ?c2 ?c3 ?_)
 case c1=>have:=HSS.out;rw[this,Adx];unfold maxLen;omega
 case c2=>have:=HSS.out;rw[this,Adx];omega
 case c3=>exact h2.by_.size
 intro v' i hown' hgrow
 go_wp2
 go_ret
 exact⟨v',rfl,h2.more hgrow (by rw[HSS.out,Adx];exact hown')⟩
def AL(s:Bs):Bs:=AdU s.length++s
theorem Ij(w:Ads)(v:Adr)(l:Bs)(hr:RB w v l)(s:Bs)(hl:l.length+s.length+16<=140737488355328):
  Calls Adt 58 #[v,St s] w fun e w' =>∃v',e = .returned v' /\NewB 5 w w' v' (l++AL s):=by
 have hs:(⟨s.toArray⟩:ByteArray).size=s.length:=by show s.toArray.size=_;rw[Ad6]
 have h:=PI w v l hr ⟨s.toArray⟩ (by rw[hs];omega);have e:l++AdU (⟨s.toArray⟩:ByteArray).size++(⟨s.toArray⟩:ByteArray).data.toList=l++AL s:=by
  unfold AL;rw[hs,AdW]
 rw[e]at h;exact h
theorem Cc{n:Nat}(h:n<=9223372036854775807):(AdU n).length<=9:=IM n (by omega)
def SB(g k lo n c:Nat)(v:Adr):Prop:=∃o,v = .slice (some ⟨g,o,none⟩) n c/\(0<c->o=lo*k)
def QZ(w:Ads)(v:Adr)(n c:Nat)(news:List Adr):Prop:=∃a,v = .slice (some a) n c/\∀j u,news[j]? =some u->w.cell? (a.add j)=some u
theorem SB.src{w:Ads}{g k lo n c:Nat}{v:Adr}{C:List Adr}{T:Ady}{fr:Nat × Nat}(h:SB g k lo n c v)(m:Nat)(hc:0<c\/m=0)(hC:w.heap[g]? =some (.cells C.toArray T fr)){D:List Adr}(hD:(C.drop (lo*k)).take m=D):QZ w v n c D:=by
 obtain⟨o,rfl,ho⟩:=h;subst hD;refine⟨_,rfl,fun j u hu=> ?_⟩;rcases hc with hc | rfl
 ·obtain rfl:=ho hc;rw[Ae0];rw[Afw]at hu;split at hu
  ·rw[AfK]at hu;exact Ac hC hu
  ·cases hu
 ·simp at hu
theorem Aad{g k lo n c:Nat}{v x:Adr}(h:SB g k lo n c v)(e:x=v):SB g k lo n c x:=by rw[e];exact h
theorem AaQ(g k n c:Nat):SB g k 0 n c (.slice (some ⟨g,0,none⟩) n c):=⟨0,rfl,fun _=>(Af3 _).symm⟩
theorem SB.eq{g k lo lo' n n' c c' :Nat}{v:Adr}(h:SB g k lo n c v)(a:lo=lo')(b:n=n')(e:c=c'):SB g k lo' n' c' v:=by subst a b e;exact h
abbrev Ada:=@SB.eq
theorem UU{P:AdM}{e:Ady}{k b:Nat}(h:(P.info? e).map (fun i=>(i.size,i.bytes,i.zero.map fun z=>(z.cells.size,z.cells.toList.all fun u=>u.oneCell')))=some (k,b,some (k,true))):∃i z,P.info? e=some i/\i.size=k/\i.bytes=b/\i.zero=some z/\z.cells.size=k/\∀u∈z.cells.toList,u.oneCell' =true:=by
 cases hi:P.info? e with
 | none=>rw[hi]at h;cases h
 | some i=>
  rw[hi]at h;simp only[AeT,AeZ,Prod.mk.injEq]at h;obtain⟨h1,h2,h3⟩:=h;cases hz:i.zero with
  | none=>rw[hz]at h3;cases h3
  | some z=>
   rw[hz]at h3;simp only[AeT,AeZ,Prod.mk.injEq,List.all_eq_true]at h3;exact⟨i,z,rfl,h1,h2,hz,h3.1,h3.2⟩
theorem Nw{z:Adr}(h:∀u∈z.cells.toList,u.oneCell' =true)(n:Nat):∀u∈(Aer z.cells n).toList,u.oneCell' =true:=by
 intro u hu;simp only[Aer,Array.mem_toList_iff,Array.mem_map,Array.mem_range]at hu;obtain⟨i,hi,rfl⟩:=hu;have h0:0<z.cells.size:=by
  rcases Nat.eq_zero_or_pos z.cells.size with e | e
  ·rw[e]at hi;omega
  ·exact e
 have hl:=Nat.mod_lt i h0;rw[getElem!_pos z.cells _ hl];exact h _ (Array.getElem_mem_toList hl)
theorem GH{w:Ads}{g:Nat}{C:Array Adr}:w.grownBy (w.setRow g C) (some g):=⟨rfl,rfl,rfl,by simp,fun k _ hk=>setRow_other w g k _ (fun e=>hk (by rw[e]))⟩
section
variable {P : AdM} {K : Adr -> Ads -> Prop} {ρ : Aj} {w : Ads} {d : Option Tmp} {ty : Ady} {pos : String} {af : Array Aej} {gd : Option (Nat × Bool)}
variable {g k lo n c : Nat} {s x : AdC}
theorem Aah{t e:Ady}(ht:P.underlying t=some (.slice e))(he:∀w' :Ads,(sizeOf e).run P w' = .ok k w'){a b:Option AdC}(h:SB g k lo n c (Ab ρ x))(l r:Nat) 
  (ha:a.map (Ab ρ)=none/\l=0\/∃q,a.map (Ab ρ)=some (.int q (l:Int))) (hb:b.map (Ab ρ)=none/\r=n\/∃q,b.map (Ab ρ)=some (.int q (r:Int))) (h1:l<=r) (h2:r<=c)
  (hk:∀v,SB g k (lo+l) (r-l) (c-l) v->K v w):Yk P K ((execOp (Ab ρ) ⟨d, .slice t x a b none,ty,pos,af,gd⟩).run P w):=by
 obtain⟨o,hx,ho⟩:=h;have hE:P.elem t=e:=by simp[AfJ,ht]
 have ht' :P.underlying t=some (.slice (P.elem t)):=by rw[hE];exact ht
 refine AcG (v:=sliced (some ⟨g,o,none⟩) l r c k) (w' :=w) ?_ (hk _ ?_)
 ·unfold execOp;have h1' :(l:Int)<=(r:Int):=by omega
  have h2' :(r:Int)<=(c:Int):=by omega
  have hr:(AfR t (.slice (some ⟨g,o,none⟩) n c) (a.map (Ab ρ)) (b.map (Ab ρ)) none).run P w = .ok (sliced (some ⟨g,o,none⟩) l r c k) w:=by
   rw[run_sliceAt_slice (P:=P) w t _ _ _ _ ht'];rcases ha with ⟨f,rfl⟩ | ⟨q,f⟩ <;> rcases hb with ⟨i,rfl⟩ | ⟨q',i⟩ <;> rw[f,i]
   ·rw[run_slice_all (P:=P) w t _ _ _ ht',hE,he];rfl
   ·rw[run_slice_h (P:=P) w t _ _ _ ht' q' r (by omega) h2',hE,he];rfl
   ·rw[run_slice_l (P:=P) w t _ _ _ ht' q l (by omega) h1',hE,he];rfl
   ·rw[run_slice_lh (P:=P) w t _ _ _ ht' q q' l r (by omega) h1' h2',hE,he];rfl
  simp only[hx,Afq,hr,AdB,AdF,AdA]
 ·refine⟨if c=l then o else o+l*k,?_,fun h=> ?_⟩
  ·unfold sliced;split <;> simp[Ae0]
  ·rw[if_neg (by omega),ho (by omega),AeQ]
theorem AbG{t e:Ady}(ht:P.underlying t=some (.slice e))(he:∀w' :Ads,(sizeOf e).run P w' = .ok k w'){a b y:AdC}(h:SB g k lo n c (Ab ρ x)){l r m:Nat}{q1 q2 q3:AeI} 
  (ha:Ab ρ a = .int q1 (l:Int)) (hb:Ab ρ b = .int q2 (r:Int)) (hm:Ab ρ y = .int q3 (m:Int)) (h1:l<=r) (h2:r<=m) (h3:m<=c)
  (hk:∀v,SB g k (lo+l) (r-l) (m-l) v->K v w):Yk P K ((execOp (Ab ρ) ⟨d, .slice t x (some a) (some b) (some y),ty,pos,af,gd⟩).run P w):=by
 obtain⟨o,hx,ho⟩:=h;have hE:P.elem t=e:=by simp[AfJ,ht]
 have ht' :P.underlying t=some (.slice (P.elem t)):=by rw[hE];exact ht
 refine AcG (v:=sliced (some ⟨g,o,none⟩) l r m k) (w' :=w) ?_ (hk _ ?_)
 ·unfold execOp;have hr:(AfR t (.slice (some ⟨g,o,none⟩) n c) (some (.int q1 (l:Int))) (some (.int q2 (r:Int))) (some (.int q3 (m:Int)))).run P w = .ok (sliced (some ⟨g,o,none⟩) l r m k) w:=by
   rw[run_sliceAt_slice (P:=P) w t _ _ _ _ ht',run_slice_lhm (P:=P) w t _ _ _ ht' q1 q2 q3 l r m (by omega) (by omega) (by omega) (by omega),hE,he];rfl
  simp only[hx,ha,hb,hm,AeT,hr,AdB,AdF,AdA]
 ·refine⟨if m=l then o else o+l*k,?_,fun h=> ?_⟩
  ·unfold sliced;split <;> simp[Ae0]
  ·rw[if_neg (by omega),ho (by omega),AeQ]
theorem AaR{t e:Ady}(ht:P.underlying t=some (.slice e))(h:SB g k lo n c (Ab ρ x))(hk:K (NI n) w):Yk P K ((execOp (Ab ρ) ⟨d, .call ⟨.builtin .len,#[x],#[t]⟩,ty,pos,af,gd⟩).run P w):=by
 obtain⟨o,hx,-⟩:=h;exact Aa6 ht hx hk
theorem Abu{t e:Ady}(ht:P.underlying t=some (.slice e))(h:SB g k lo n c (Ab ρ x))(hk:K (NI c) w):Yk P K ((execOp (Ab ρ) ⟨d, .call ⟨.builtin .cap,#[x],#[t]⟩,ty,pos,af,gd⟩).run P w):=by
 obtain⟨o,hx,-⟩:=h;have hE:P.elem t=e:=by simp[AfJ,ht]
 refine AcG (v:=NI c) (w' :=w) ?_ hk;have hr:=run_cap_slice (P:=P) w t ty (some ⟨g,o,none⟩) n c (by rw[hE];exact ht);unfold execOp;simp only[resolve,invoke,builtin,hx,AdH,AdK,AdO,AdB,hr,AdA,AdF];rfl
theorem AaT{dT sT e T:Ady}(ht:P.underlying dT=some (.slice e))(he:∀w' :Ads,(sizeOf e).run P w' = .ok k w')(hd:SB g k lo n c (Ab ρ s))(hc:0<c){C:List Adr}(hC:w.heap[g]? =some (.cells C.toArray T (0,0))) 
  {b c2:Nat} (m:Nat) {news:List Adr} (hs:QZ w (Ab ρ x) b c2 news) (hm:Af9 b n=m) (hl:news.length=m*k) (h1:∀u∈news,u.oneCell' =true) (hfit:lo*k+m*k<=C.length)
  (hk:∀w',w'.heap[g]? =some (.cells (C.take (lo*k)++news++C.drop (lo*k+m*k)).toArray T (0,0))->w.grownBy w' (some g)->w'.heap.size=w.heap.size->K (NI m) w'):
  Yk P K ((execOp (Ab ρ) ⟨d, .call ⟨.builtin .copy,#[s,x],#[dT,sT]⟩,ty,pos,af,gd⟩).run P w):=by
 obtain⟨o,hx,ho⟩:=hd;obtain rfl:=ho hc;obtain⟨a,hy,hn⟩:=hs;have hst:=run_storeCells_at P g (lo*k) T news 0 C.toArray w hC (by simp only[Ad6];omega) h1;simp only[AgV,hl]at hst;have hf:=run_firstCells_some (P:=P) w k m a b c2 news hl hn;refine AcG (v:=NI m) (w' :=w.setRow g (C.take (lo*k)++news++C.drop (lo*k+m*k)).toArray) ?_ (hk _ (setRow_heap w g C.toArray _ T (0,0) hC) GH (by simp));unfold execOp;have hr:(Air #[dT,sT] ty #[.slice (some ⟨g,lo*k,none⟩) n c, .slice (some a) b c2]).run P w = .ok (NI m) (w.setRow g (C.take (lo*k)++news++C.drop (lo*k+m*k)).toArray):=by
  simp only[Air,List.getElem?_toArray,List.getElem?_cons_zero,List.getElem?_cons_succ,AdB,run_underlying ht,AdA,he,Builtin.lenOf,AdF,hm,hf,hst];rfl
 simp only[resolve,invoke,builtin,hx,hy,AdH,AdK,AdO,AdB,hr,AdA,AdF]
theorem AbH{t e:Ady}{i:TypeInfo}(ht:P.underlying t=some (.slice e))(hi:P.info? e=some i)(hik:i.size=k)(hd:SB g k 0 n c (Ab ρ s))(hc:0<c){C:List Adr}(hC:w.heap[g]? =some (.cells C.toArray e (0,0))) 
  {m c2:Nat} {news:List Adr} (hs:QZ w (Ab ρ x) m c2 news) (hl:news.length=m*k) (h1:∀u∈news,u.oneCell' =true) (hroom:n+m<=c) (hfit:(n+m)*k<=C.length)
  (hk:∀w',w'.heap[g]? =some (.cells (C.take (n*k)++news++C.drop (n*k+m*k)).toArray e (0,0))->w.grownBy w' (some g)->w'.heap.size=w.heap.size->K (.slice (some ⟨g,0,none⟩) (n+m) c) w'):
  Yk P K ((execOp (Ab ρ) ⟨d, .call ⟨.builtin .append,#[s,x],#[t,t]⟩,ty,pos,af,gd⟩).run P w):=by
 obtain⟨o,hx,ho⟩:=hd;obtain rfl:o=0:=by rw[ho hc,Af3]
 obtain⟨a,hy,hn⟩:=hs;subst hik;have hr:=run_append_room (P:=P) w t ty e i ht hi g n c C.toArray hC a m c2 news hl hn h1 hroom (by rw[hl,Ad6,<-AeQ];exact hfit);simp only[hl]at hr;refine AcG (v:= .slice (some ⟨g,0,none⟩) (n+m) c) (w' :=w.setRow g (C.take (n*i.size)++news++C.drop (n*i.size+m*i.size)).toArray) ?_ (hk _ (setRow_heap w g C.toArray _ e (0,0) hC) GH (by simp));unfold execOp;simp only[resolve,invoke,builtin,hx,hy,AdH,AdK,AdO,AdB,hr,AdA,AdF]
theorem AbW{t e T:Ady}{i:TypeInfo}{z:Adr}(ht:P.underlying t=some (.slice e))(hi:P.info? e=some i)(hz:i.zero=some z)(hzs:z.cells.size=k)(hd:SB g k lo n c (Ab ρ s))(hc:0<c)(hn:0<n){C:List Adr}(hC:w.heap[g]? =some (.cells C.toArray T (0,0))) 
  (h1:∀u∈(Aer z.cells n).toList,u.oneCell' =true) (hfit:lo*k+n*k<=C.length)
  (hk:∀w' Z,Z.length=n*k->w'.heap[g]? =some (.cells (C.take (lo*k)++Z++C.drop (lo*k+n*k)).toArray T (0,0))->w.grownBy w' (some g)->w'.heap.size=w.heap.size->K (.tuple #[]) w'):
  Yk P K ((execOp (Ab ρ) ⟨d, .call ⟨.builtin .clear,#[s],#[t]⟩,ty,pos,af,gd⟩).run P w):=by
 obtain⟨o,hx,ho⟩:=hd;obtain rfl:=ho hc;have hZ:(Aer z.cells n).toList.length=n*k:=by rw[AeN,size_zeroCells,hzs]
 have hst:=run_storeCells_at P g (lo*k) T (Aer z.cells n).toList 0 C.toArray w hC (by rw[hZ];simp only[Ad6];omega) h1;simp only[AgV,hZ]at hst;obtain⟨m,rfl⟩:∃m,n=m+1:=⟨n-1,by omega⟩;have hr:(Builtin.clear_ #[t] ty #[.slice (some ⟨g,lo*k,none⟩) (m+1) c]).run P w = .ok (.tuple #[]) (w.setRow g (C.take (lo*k)++(Aer z.cells (m+1)).toList++C.drop (lo*k+(m+1)*k)).toArray):=by
  simp[Builtin.clear_,run_underlying ht,zeroValue,typeInfo,hi,hz,hst]
 refine AcG (v:= .tuple #[]) (w' :=_) ?_ (hk _ _ hZ (setRow_heap w g C.toArray _ T (0,0) hC) GH (by simp));unfold execOp;simp only[resolve,invoke,builtin,hx,AdH,AdK,AdO,AdB,hr,AdA,AdF]
theorem Aba{t tn e T:Ady}{kn kq:AeI}{i:TypeInfo}{z:Adr}(ht:P.underlying t=some (.slice e))(htn:P.underlying tn=some (.int kn))(hi:P.info? e=some i)(hz:i.zero=some z)(hik:i.size=k)(hzs:z.cells.size=k)(a:0<k)(hd:SB g k 0 n c (Ab ρ s))(hc:0<c){C:List Adr}(hC:w.heap[g]? =some (.cells C.toArray T (0,0))) 
  {m:Nat} (hy:Ab ρ x = .int kq (m:Int)) (hm:0<m) (hroom:c<n+m) (hfit:n*k<=C.length) (hb:(n+m)*i.bytes<=140737488355328) (h63:n+m<=maxLen)
  (hk:∀b w' cap Z,w.heap.size=b->cap<=maxLen->n+m<=cap->Z.length=cap*k-n*k->w'.heap[b]? =some (.cells (C.take (n*k)++Z).toArray e (0,0))->Ext w w' ->w'.heap.size=w.heap.size+1->K (.slice (some ⟨b,0,none⟩) (n+m) cap) w'):
  Yk P K ((execOp (Ab ρ) ⟨d, .call ⟨.builtin .append,#[s,x],#[t,tn]⟩,ty,pos,af,gd⟩).run P w):=by
 obtain⟨o,hx,ho⟩:=hd;obtain rfl:o=0:=by rw[ho hc,Af3]
 subst hik;have holds:∀j u,(C.take (n*i.size))[j]? =some u->w.drew.cell? ((⟨g,0,none⟩:Addr).add j)=some u:=fun j u hu=>by
  rw[Afw]at hu;split at hu
  ·rw[Ae0,Afa];exact Ac (w:=w.drew) hC hu
  ·cases hu
 have hl:(C.take (n*i.size)).length=n*i.size:=by rw[AdS];omega
 have hr:=Lib.run_append_grow_zeros (P:=P) w t tn ty e i z kq kn ht htn hi hz (some ⟨g,0,none⟩) n c (C.take (n*i.size)) (run_firstCells_some w.drew i.size n ⟨g,0,none⟩ n c _ hl holds) m hm a hroom (by have:=h63;simp only[maxLen]at this;omega)
  (Adu (AfU _ (Nat.le_add_left m n)) (Adu hb (by decide))) (growslice_fits hroom hb)
 have hge:=grownCap_ge w (n+m) c e;have hcm:=grownCap_le_maxLen w (n+m) c e h63;refine AcG (v:= .slice (some ⟨w.heap.size,0,none⟩) (n+m) (grownCap w (n+m) c e)) (w' :=w.drew.alloc (.cells ((C.take (n*i.size)).toArray++Aer z.cells m++Aer z.cells (grownCap w (n+m) c e-(n+m))) e)) ?_
  (hk w.heap.size _ _ ((Aer z.cells m).toList++(Aer z.cells (grownCap w (n+m) c e-(n+m))).toList) rfl hcm hge ?_ ?_ (Ab2 ⟨rfl,rfl,rfl,by simp,fun k hk _=>heap_alloc_old w.drew _ hk⟩) (by simp))
 ·unfold execOp;simp only[resolve,invoke,builtin,hx,hy,AdH,AdK,AdO,AdB,hr,AdA,AdF]
 ·rw[Adx,AeN,AeN,size_zeroCells,size_zeroCells,hzs,<-AeQ,<-Nat.sub_mul]
  congr 1
  omega
 ·have:=heap_alloc_new w.drew (.cells ((C.take (n*i.size)).toArray++Aer z.cells m++Aer z.cells (grownCap w (n+m) c e-(n+m))) e);rw[show(C.take (n*i.size)++((Aer z.cells m).toList++(Aer z.cells (grownCap w (n+m) c e-(n+m))).toList)).toArray=(C.take (n*i.size)).toArray++Aer z.cells m++Aer z.cells (grownCap w (n+m) c e-(n+m))from by
   apply Array.toList_inj.1
   simp]
  exact this
end
theorem L5{P:AdM}{w:Ads}{tS tR e:Ady}(ht:P.underlying tS=some (.slice e)){k:Nat}(hz:∀w,(Go.sizeOf e).run P w = .ok k w){a b:Nat}{v x:Adr}{lo' n' c' lo n c:Nat}(hv:SB a k lo' n' c' v)(hx:SB b k lo n c x)(hne:a≠b){A B:List Adr}{tA tB:Ady} 
  (hA:w.heap[a]? =some (.cells A.toArray tA (0,0))) (hB:w.heap[b]? =some (.cells B.toArray tB (0,0))) (h0:B≠ []):
  (Extern.SlicesOverlaps.overlaps #[tS,tS] #[tR] #[v,x]).run P w = .ok (.bool false) w:=by
 obtain⟨o,rfl,-⟩:=hx;obtain⟨oa,rfl,-⟩:=hv;exact Lib.run_overlaps_apart w tS tR e ht k hz ⟨a,oa,none⟩ ⟨b,o,none⟩ n' c' n c hne tA tB A.length B.length (by simp[World.shape?,hA]) (by simp[World.shape?,hB]) (by simpa using h0) (by simp[World.frozen?,hA]) (by simp[World.frozen?,hA])
theorem HM{P:AdM}{e:Ady}{k b:Nat}(h:(P.info? e).map (fun i=>(i.zero.map (fun z=>z.cells.size),i.size,i.bytes))=some (some k,k,b)):∃z,(P.info? e).map (fun i=>(i.zero,i.size,i.bytes))=some (some z,k,b)/\z.cells.size=k:=by
 cases hi:P.info? e with
 | none=>rw[hi]at h;cases h
 | some i=>
  rw[hi]at h;simp only[AeT,AeZ,Prod.mk.injEq]at h;cases hz:i.zero with
  | none=>rw[hz]at h;cases h.1
  | some z=>
   rw[hz]at h;simp only[AeT,AeZ]at h;exact⟨z,by simp[hz,h.2.1,h.2.2],h.1⟩
section
variable {P : AdM} {K : Adr -> Ads -> Prop} {ρ : Aj} {w : Ads} {d : Option Tmp} {ty : Ady} {pos : String} {af : Array Aej} {gd : Option (Nat × Bool)}
theorem AbX{t e s:Ady}{u:TypeDesc}(hs:P.underlying s=some u)(ht:P.underlying t=some (.slice e))(he:P.underlying e=some (.int .u8)){x:AdC}{l:Ai1}(hx:Ab ρ x=St l)(hl:l.length<=9223372036854775807) 
  (hk:∀v w',RB w' v l->Ext w w' ->(∀k,v.ownBlock=some k->w.heap.size<=k/\k<w'.heap.size)->K v w'):Yk P K ((execOp (Ab ρ) ⟨d, .convert s t x,ty,pos,af,gd⟩).run P w):=by
 have hr:=Lib.run_convert_string_bytes (P:=P) w s t e ⟨l.toArray⟩ hs ht he;have hsz:(⟨l.toArray⟩:ByteArray).size=l.length:=by simp[ByteArray.size]
 rw[hsz]at hr;refine AcG (v:= .slice (some ⟨w.heap.size,0,none⟩) l.length (grownCap w l.length 0 e)) (w' :=Lib.bytesWorld w e ⟨l.toArray⟩) ?_ (hk _ _ ?_ (Lib.bytesWorld_below w e _) ?_)
 ·unfold execOp;simp only[hx,hr,AdB,AdF,AdA]
 ·refine⟨by rw[AdG,Nat.mul_one],_,_,rfl,grownCap_ge w _ _ _,grownCap_le_maxLen w _ _ _ (by simpa [maxLen] using hl),(fun h=>by cases h),fun a ha j u hu=> ?_⟩;cases ha;have hj:j<l.length:=by have:=(AdR.1 hu).1;rwa [AdG]at this
  have hc:=Lib.bytesWorld_cell w e ⟨l.toArray⟩ j (by rw[hsz];exact hj);rw[show(⟨w.heap.size,0,none⟩:Addr).add j=⟨w.heap.size,j,none⟩ by simp[Addr.add];exact fun h=>h.symm];rw[hc,<-hu,WT hj]
 ·intro k hk;cases hk;rw[Lib.bytesWorld_size];exact⟨Adw _,Nat.lt_succ_self _⟩
end
theorem Mz{α:Type}{l:List α}{i:Nat}{d:α}(h:i<l.length):l.take i++ [l.getD i d]=l.take (i+1):=by
 rw[List.take_add_one,AdE h,Adz,AdE h];rfl
open Go.ChangeShapes Go.WideShapes Go.ChangeAt Go.Deep
instance:Inhabited AC:=⟨AD⟩
theorem N8{H:Type}{enc:Ady × Adr->H}{W:Ads}:Opn enc Adt W 77 updC (fun x:AC=>x.name.length<=9223372036854775807):=fun fuel cs x h=>by
 have ht:Tryz.prog.underlying 77=some (.struct (Tryz.prog.fieldsOf 77)):=by kernel_rfl
 obtain⟨a0,a,k0⟩:=BI (i:=0) (ty:=5) (o:=0) (k:=1) ht h (by kernel_rfl) (by kernel_rfl) (Opn.u8 (by kernel_rfl));obtain⟨a1,b,k1⟩:=BI (i:=1) (ty:=9) (o:=1) (k:=1) ht h (by kernel_rfl) (by kernel_rfl) (Abq (by kernel_rfl));obtain⟨a2,c,k2⟩:=BI (i:=2) (ty:=33) (o:=2) (k:=32) ht h (by kernel_rfl) (by kernel_rfl) (Opn.id (e:=5) (by kernel_rfl) (by kernel_rfl) (by kernel_rfl) (by kernel_rfl));obtain⟨a3,f,k3⟩:=BI (i:=3) (ty:=33) (o:=34) (k:=32) ht h (by kernel_rfl) (by kernel_rfl) (Opn.id (e:=5) (by kernel_rfl) (by kernel_rfl) (by kernel_rfl) (by kernel_rfl));have hl:cs.drop 66= []:=AeR (Ago ((Ic ht h).trans (by kernel_rfl)));refine⟨⟨a0,a1,a2,a3⟩,?_,k1⟩;rw[show cs=cs.drop 0 from rfl];rw[a];rw[show cs.drop (0+1)=_ from b];rw[show cs.drop (1+1)=_ from c];rw[show cs.drop (2+32)=_ from f];rw[show cs.drop (34+32)= []from hl];simp[updC]
section
variable {P : AdM} {K : Adr -> Ads -> Prop} {ρ : Aj} {w : Ads} {d : Option Tmp} {ty : Ady} {pos : String} {af : Array Aej} {gd : Option (Nat × Bool)}
theorem Acq{t ty2:Ady}{x y:AdC}{l m:Ai1}(hx:Ab ρ x=St l)(hy:Ab ρ y=St m)(hk:K (.bool (!(Ad3 l m||l==m))) w):Yk P K ((execOp (Ab ρ) ⟨d, .binOp .gtr t x y ty2,ty,pos,af,gd⟩).run P w):=by
 refine AcG (v:= .bool (!(Ad3 l m||l==m))) (w' :=w) ?_ hk;unfold execOp;simp only[hx,hy,eqGuard,Aea,Op.stringOp,FF,AdB,AdF];rfl
end
def Ed(a b:Ai1):Int:=if Ad3 a b=true then -1 else if(!(Ad3 a b||a==b))=true then 1 else 0
theorem N9{a b:Ai1}:Ed a b<0↔a<b:=by
 unfold Ed;rw[bytesLess_eq];by_cases h:a<b
 ·simp[h]
 ·simp only[h,decide_false,Bool.false_eq_true,if_false,iff_false];split <;> omega
theorem SQ{a b:Ai1}:Ed a b=0↔a=b:=by
 unfold Ed;rw[bytesLess_eq];by_cases h:a<b
 ·simp only[h,decide_true,if_true];constructor
  ·intro e;omega
  ·rintro rfl;exact absurd h (List.lt_irrefl _)
 ·simp only[h,decide_false,Bool.false_eq_true,if_false,Bool.false_or];by_cases e:a=b
  ·subst e;simp
  ·simp[e]
def DX(l:List AK):Prop:=∀i j,i<j->j<l.length->(l.getD i dNmd).name<(l.getD j dNmd).name
def JP(l:List AK)(s:Ai1)(p:Nat):Prop:=p<=l.length/\(∀j,j<p->(l.getD j dNmd).name<s)/\(∀j,p<=j->j<l.length->¬(l.getD j dNmd).name<s)
theorem SR{l:List AK}{s:Ai1}{m:Nat}(hs:DX l)(hm:m<l.length)(h:(l.getD m dNmd).name<s):∀j,j<m+1->(l.getD j dNmd).name<s:=fun j hj=>by
 by_cases e:j=m
 ·rw[e];exact h
 ·exact Ahk (hs j m (by omega) hm) h
theorem Lm{l:List AK}{s:Ai1}{m:Nat}(hs:DX l)(h:¬(l.getD m dNmd).name<s):∀j,m<=j->j<l.length->¬(l.getD j dNmd).name<s:=fun j hj hl hk=>by
 by_cases e:m=j
 ·subst e;exact h hk
 ·exact h (Ahk (hs m j (by omega) hl) hk)
theorem Oa:Tryz.prog.underlying 3=some (.int .i64):=by kernel_rfl
theorem Ln:Tryz.prog.underlying 198=some (.int .u64):=by kernel_rfl
theorem Lo:Plain Adt 194:=fun _ _=>by kernel_rfl
theorem Jc(w:Ads)(n:AK)(s:Bs):
  Calls Adt 194 #[.agg (nmdC n).toArray,St s] w fun e w' =>e = .returned (.int .i64 (Ed n.name s))/\Ext w w' :=by
 refine gG (args:= [.agg (nmdC n).toArray,St (s)]) Tryz.func194 rfl 15 rfl rfl ?_;have hE:=Acz w;refine gS (AcP (vr (.agg (nmdC n).toArray) rfl) fun h i j f b k=> ?_);have g:=f;clear f;have o:h<i.heap.size:=by omega
 refine gS (Acy Hg rfl (gS (ZN E4 rfl rfl (Ac g (Eo n)) (gS (AbM (l:=n.name) (m:=s) (.inl rfl) rfl rfl (Ad3 n.name s) rfl ?_)))));refine cB (Ad3 n.name s) rfl (fun a=> ?_) fun a=> ?_
 ·refine Az rfl (vr (.int .i64 (-1:Int)) rfl) ?_;have hE:=hE.trans b;exact⟨congrArg Ae2 (congrArg (AfL .i64) (by unfold Ed;(rw[if_pos a]) <;> rfl)),hE⟩
 refine gS (Acy Hg rfl (gS (ZN E4 rfl rfl (Ac g (Eo n)) (gS (Acq (l:=n.name) (m:=s) rfl rfl ?_)))));refine cB (!(Ad3 n.name s||n.name==s)) rfl (fun c=> ?_) fun c=> ?_
 ·refine Az rfl (vr (NI 1) rfl) ?_;have hE:=hE.trans b;exact⟨congrArg Ae2 (congrArg (AfL .i64) (by unfold Ed;(rw[if_neg (by rw[a];decide),if_pos c]) <;> rfl)),hE⟩
 refine Az rfl (vr (NI 0) rfl) ?_;have hE:=hE.trans b;exact⟨congrArg Ae2 (congrArg (AfL .i64) (by unfold Ed;(rw[if_neg (by rw[a];decide),if_neg (by rw[c];decide)]) <;> rfl)),hE⟩
theorem Q1(w:Ads)(v:Adr)(l:List AK)(hr:RG 33 nmdC w v l)(hl:l.length<=1000)(hs:DX l)(s:Bs):
  Calls Adt 193 #[v,St s, .func (.func 194) #[] #[]] w fun e w' =>(∃p,e = .returned (.tuple #[NI p, .bool (decide (p<l.length)&&decide ((Ed (l.getD p dNmd).name s)=((0:Nat):Int)))])/\JP l s p)/\Ext w w' :=by
 refine F2 (args:= [v,St (s), .func (.func 194) #[] #[]]) Tryz.func193 rfl 49 rfl rfl ?_;have hE:=Acz w;refine gS (ZZ Fb (ZU hr rfl) (gL (fun(ρ:Aj) (wz:Ads)=>∃i:Nat,∃k:Nat,ρ 0=(v:Adr)/\ρ 1=(St (s):Adr)/\ρ 2=(.func (.func 194) #[] #[]:Adr)/\ρ 6=(NI 0:Adr)/\ρ 7=(.bool (false):Adr)/\ρ 8=(NI l.length:Adr)/\ρ 9=(NI i:Adr)/\ρ 10=(NI k:Adr)/\RG 33 nmdC wz v l/\Ext w wz/\(i<=k)/\(k<=l.length)/\(∀j,j<i->(l.getD j dNmd).name<s)/\(∀j,k<=j->j<l.length->¬(l.getD j dNmd).name<s)/\True) (fun ρ _=>(intOf (ρ 10)).toNat-(intOf (ρ 9)).toNat) ⟨0,l.length,rfl,rfl,rfl,rfl,rfl,rfl,rfl,rfl,hr,hE,AdN _,Adw _,fun j hj=>absurd hj (Aex _),fun j h1 h2=>by omega,trivial⟩ ?_));clear hr hE;rintro f w6 ⟨i,k,n,T1,T2,x,y,r,c,g,hr,hE,hik,hkl,hlo,hhi,-⟩;have q10:=g;have q9:=c;refine gS (ZO (a:=(i:Nat)) (b:=(k:Nat)) c g (Bg _ _ _ _) ?_);refine cD rfl (fun z=> ?_) fun z=> ?_
 ·have hlt:i<k:=z;have hm0:((i+k)/2^(1))<l.length:=by omega
  refine gS (ZV (xv:=NI i) (yv:=NI k) c g rfl (AF _ _ _ (by omega)) (gS (AaG Oa Ln rfl (UO ((i)+(k)) (by omega)) (gS (ZV (xv:= .int .u64 (((i)+(k):Nat):Int)) (yv:= .int .u64 ((1:Nat):Int)) rfl rfl rfl (WU _ _ _ _ (by omega)) (gS (AaG Ln Oa rfl (KC (((i)+(k))/2^(1)) (by omega)) ?_)))))));have ac:(nmdC (l.getD (((i)+(k))/2^(1)) dNmd)).length=33:=(AcL hr dNmd (by omega));refine gS (Z3 Fb Lj (by decide) dNmd (ZU hr n) rfl (by omega) fun ad o=>(gS (ZT (Aaa o rfl) (Mt).choose_spec rfl (by rw[BA];exact Lk) (gS (Aaj Lo (caps:= #[]) T2 #[.agg (nmdC (l.getD (((i)+(k))/2^(1)) dNmd)).toArray,St (s)] (by simp only[AdH,AdK,AdO,Aei,Ad1,Ad9];exact congrArg Ad2 (Cj rfl T1)) ((Jc _ (l.getD (((i)+(k))/2^(1)) dNmd) s).mono ?_))))));rintro e ae ⟨rfl,m⟩;refine⟨_,rfl,?_⟩;have o:=AcV o m;refine gS (ZO rfl rfl (Wt _ .i64 ((Ed (l.getD (((i)+(k))/2^(1)) dNmd).name s):Int) ((0:Nat):Int)) ?_);clear o;refine cD rfl (fun t=> ?_) fun t=> ?_
  ·have hr:=hr.keep m;have hE:=hE.trans m;refine gS (ZV (xv:=NI (((i)+(k))/2^(1))) (yv:=NI 1) rfl rfl rfl (AF _ _ _ (by omega)) (gK (Aem ⟨((i+k)/2^(1))+1,k,n,T1,T2,x,y,r,rfl,g,hr,hE,by omega,by omega,SR hs (by omega) (N9.1 t),hhi,trivial⟩ ?_)));show(intOf (f 10)).toNat-(intOf (NI ((((i)+(k))/2^(1))+(1)))).toNat<(intOf (f 10)).toNat-(intOf (f 9)).toNat;rw[g,q9];simp only[intOf,AdV];omega
  have hr:=hr.keep m;have hE:=hE.trans m;refine gK (Aem ⟨i,((i+k)/2^(1)),n,T1,T2,x,y,r,c,rfl,hr,hE,by omega,by omega,hlo,Lm hs (fun h=>t (N9.2 h)),trivial⟩ ?_);show(intOf (NI (((i)+(k))/2^(1)))).toNat-(intOf (f 9)).toNat<(intOf (f 10)).toNat-(intOf (f 9)).toNat;rw[c,q10];simp only[intOf,AdV];omega
 refine gS (ZO (a:=(i:Nat)) (b:=(l.length:Nat)) c r (Bg _ _ _ _) (gO fun _=>Ae (.func (.func 194) #[] #[]) rfl rfl (gT rfl) (fun hG17=>AcF T2 ⟨rfl,rfl⟩) (At (gO fun _=>Ae (v) rfl rfl (gT rfl) (fun hG18=>AcF n ⟨rfl,rfl⟩) (At (gO fun _=>Ae (NI i) rfl rfl (gT rfl) (fun hG19=>AcF c ⟨rfl,rfl⟩) (At ?_)))))));have af:((decide ((i)<(l.length))))=true->(nmdC (l.getD (i) dNmd)).length=33:=fun hG20=>(AcL hr dNmd (by first | omega | (simp only[gA,gB,gC,gD,gE]at hG20;omega)));refine gO fun _=>Ep (fun u=>PR (nmdC (l.getD (i) dNmd)) u w6) rfl rfl (gT (vr (.bool (decide ((i)<(l.length)))) rfl)) (fun hG20=>Z3 Fb Lj (by decide) dNmd (ZU hr (Al (vr (cond ((decide ((i)<(l.length)))) (v) undef) rfl) hG20)) (Al (vr (cond ((decide ((i)<(l.length)))) (NI i) undef) rfl) hG20) (by first | omega | (simp only[gA,gB,gC,gD,gE]at hG20;omega)) fun _ h=>⟨h,rfl⟩) fun u q=>At (gO fun _=>Ae (.agg (nmdC (l.getD (i) dNmd)).toArray) rfl rfl (gT (vr (.bool (decide ((i)<(l.length)))) rfl)) (fun hG24=>ZT (Aaa (q hG24) (vr u rfl)) (Mt).choose_spec rfl (by rw[BA];exact Lk) ⟨rfl,rfl⟩) (At (gO fun _=>Ae (St (s)) rfl rfl (gT (vr (.bool (decide ((i)<(l.length)))) rfl)) (fun hG25=>AcF T1 ⟨rfl,rfl⟩) (At (gO fun _=>Cg (.int .i64 ((Ed (l.getD (i) dNmd).name s):Int)) rfl rfl (gT (vr (.bool (decide ((i)<(l.length)))) rfl)) (fun hG26=>Aaj Lo (caps:= #[]) (Al (vr (cond ((decide ((i)<(l.length)))) (.func (.func 194) #[] #[]) undef) rfl) hG26) #[.agg (nmdC (l.getD (i) dNmd)).toArray,St (s)] (by simp only[AdH,AdK,AdO,Aei,Ad1,Ad9];exact congrArg Ad2 (Cj (Al (vr (cond ((decide ((i)<(l.length)))) (.agg (nmdC (l.getD (i) dNmd)).toArray) undef) rfl) hG26) (Al (vr (cond ((decide ((i)<(l.length)))) (St (s)) undef) rfl) hG26))) ((Jc _ (l.getD (i) dNmd) s).mono (by rintro e w2 ⟨rfl,hx⟩;exact⟨_,rfl,rfl,hx⟩))) fun ag aa=>At ?_)))));have q:=fun(e_:((decide ((i)<(l.length))))=true)=>(AcV (q e_) aa);refine gO fun _=>Ae (.bool (decide (((Ed (l.getD (i) dNmd).name s):Int)=((0:Nat):Int)))) rfl rfl (gT rfl) (fun hG30=>ZO (Al rfl hG30) rfl (Wv _ .i64 ((Ed (l.getD (i) dNmd).name s):Int) ((0:Nat):Int)) ⟨rfl,rfl⟩) (At (gS (Z9 rfl (fun hA=>(Al rfl hA)) rfl fun bb31 hbb32=> ?_)));clear q;refine Ei rfl c (vr (.bool (bb31)) rfl) ?_;subst hbb32;have hE:=hE.trans aa;exact⟨⟨i,rfl,by omega,hlo,fun j hj=>hhi j (by omega)⟩,hE⟩
section
variable {P : AdM} {K : Adr -> Ads -> Prop} {ρ : Aj} {w : Ads} {d : Option Tmp} {ty : Ady} {pos : String} {af : Array Aej} {gd : Option (Nat × Bool)}
theorem SS{t e:Ady}(ht:P.underlying t=some (.slice e))(a:Option Addr)(n c:Nat)(w:Ads):(Op.equal t (.slice a n c) (.slice none 0 0)).run P w = .ok a.isNone w:=by
 unfold Op.equal;rw[show Op.maxDepth=(Op.maxDepth-1)+1 from rfl];cases a <;> simp[Op.equalIn,run_underlying ht,AdB,AdF]
theorem AaB{t e ty2:Ady}(ht:P.underlying t=some (.slice e)){x:AdC}{a:Option Addr}{n c:Nat}(hx:Ab ρ x = .slice a n c)(hk:K (.bool a.isNone) w):Yk P K ((execOp (Ab ρ) ⟨d, .binOp .eql t x (.const (.slice none 0 0)) ty2,ty,pos,af,gd⟩).run P w):=by
 have hy:Ab ρ (.const (.slice none 0 0)) = .slice none 0 0:=rfl;refine AcG (v:= .bool a.isNone) (w' :=w) ?_ hk;have hr:=SS ht a n c w;unfold execOp;simp only[hx,hy];cases a <;> simp[eqGuard,Aea,hr]
end
def Qe(u:AC):Bool:=(decide (u.kind.toNat=2)&&(!Ai u.old))&&(!Ai u.new)
def Qf(u:AC):Bool:=decide (u.kind.toNat=3)&&((!Ai u.old)||(decide (u.name= [])==Ai u.new))
def Qg(u:AC):Bool:=(!Aw u.name)&&(decide (u.kind.toNat≠3)||decide (u.name≠ []))
def BE(u:AC):Nat:=if(!Ej u.kind)=true then 1 else if Qe u=true then 1 else if Qf u=true then 1 else if Qg u=true then 10 else 0
def BW(l:List AK)(s:Bs)(p:Nat):Bool:=decide (p<l.length)&&decide ((l.getD p dNmd).name=s)
theorem UV(l:List AK)(s:Bs)(p:Nat):(decide (p<l.length)&&decide ((Ed (l.getD p dNmd).name s)=((0:Nat):Int)))=BW l s p:=by
 unfold BW;rw[show decide ((Ed (l.getD p dNmd).name s)=((0:Nat):Int))=decide ((l.getD p dNmd).name=s)from decide_eq_decide.2 SQ]
theorem Q2(w:Ads):(Ad0 31 0 #[]).run Adt w = .ok (.slice (some ⟨w.heap.size,0,none⟩) 0 0) (w.alloc (.cells #[] 94)):=by kernel_rfl
theorem wr30_ig94:∃z,(Tryz.prog.info? 94).map (fun i=>(i.zero,i.size,i.bytes))=some (some z,33,48)/\z.cells.size=33:=HM (by kernel_rfl)
theorem Q3(w:Ads):(Ad0 34 0 #[]).run Adt w = .ok (.slice (some ⟨w.heap.size,0,none⟩) 0 0) (w.alloc (.cells #[] 97)):=by kernel_rfl
theorem wr30_ig97:∃z,(Tryz.prog.info? 97).map (fun i=>(i.zero,i.size,i.bytes))=some (some z,67,104)/\z.cells.size=67:=HM (by kernel_rfl)
theorem Q4:Plain Adt 193:=fun _ _=>by kernel_rfl
theorem Kc:Ax Adt 77 2 2:=fun b o w=>by simp[go_sem]
theorem Kd:Ax Adt 77 3 34:=fun b o w=>by simp[go_sem]
theorem UW:Tryz.prog.underlying 4=some (.bool):=by kernel_rfl
theorem ST(w:Ads):
  Calls Adt 36 #[(.slice none 0 0)] w fun e w' =>∃v',e = .returned v' /\OG w.heap.size 94 33 nmdC w' v' []/\Ext w w' :=by
 refine gG (args:= [(.slice none 0 0)]) Tryz.func36 rfl 8 rfl rfl ?_;have hE:=Acz w;refine gS (AaB Fb rfl (cT rfl (Az rfl (vr (AdI none 0 0) rfl) ?_)));exact⟨_,rfl,AcO _ _ _ _ _,hE⟩
theorem SU(w:Ads)(a:Addr)(c:Nat)(l:List AK)(hr:RG 33 nmdC w (.slice (some a) l.length c) l)(hl:l.length<1000000):
  Calls Adt 36 #[(.slice (some a) l.length c)] w fun e w' =>∃v',e = .returned v' /\OG w.heap.size 94 33 nmdC w' v' l/\Ext w w' :=by
 refine gG (args:= [(.slice (some a) l.length c)]) Tryz.func36 rfl 8 rfl rfl ?_;have hE:=Acz w;refine gS (AaB Fb rfl (cF rfl (gS (Abp (k:=33) (enc:=nmdC) Q2 fun g i b j=> ?_))));have hE:=hE.trans j;refine gS (Aak _ _ w.heap.size _ 48 Fb wr30_ig94.choose_spec.1 wr30_ig94.choose_spec.2 Fb ([]) (l) (AaJ b (vr g rfl)) (ZU (hr.keep hE) (vr (.slice (some a) l.length c) rfl)) (fun _ _=>Ec) (by simp only[AdQ];omega) (by simp only[AdQ];omega) hE.size fun h m n f=> ?_);have f:Grew i m g h:=f;have hE:=Bz hE f b.2 (Adw _);clear b;refine Az rfl (vr h rfl) ?_;exact⟨_,rfl,(show OG _ _ _ _ _ _ _ from by simpa using n),hE⟩
theorem DN(w:Ads)(v:Adr)(l:List AK)(h:RG 33 nmdC w v l)(hl:l.length<1000000):
  Calls Adt 36 #[v] w fun e w' =>∃v',e = .returned v' /\OG w.heap.size 94 33 nmdC w' v' l/\Ext w w' :=by
 obtain⟨h0,h1,ao,cap,rfl,h2,h3,h4,h5⟩:=id h;cases ao with
 | none=>
  have hl:=h4 rfl;have:l= []:=Aep hl.1;subst this;rw[show cap=0 from hl.2];exact ST w
 | some a=>exact SU w a cap l h hl
theorem SV(w:Ads):
  Calls Adt 37 #[(.slice none 0 0)] w fun e w' =>∃v',e = .returned v' /\OG w.heap.size 97 67 entC w' v' []/\Ext w w' :=by
 refine gG (args:= [(.slice none 0 0)]) Tryz.func37 rfl 8 rfl rfl ?_;have hE:=Acz w;refine gS (AaB F4 rfl (cT rfl (Az rfl (vr (AdI none 0 0) rfl) ?_)));exact⟨_,rfl,AcO _ _ _ _ _,hE⟩
theorem SW(w:Ads)(a:Addr)(c:Nat)(l:List Ba)(hr:RG 67 entC w (.slice (some a) l.length c) l)(hl:l.length<1000000):
  Calls Adt 37 #[(.slice (some a) l.length c)] w fun e w' =>∃v',e = .returned v' /\OG w.heap.size 97 67 entC w' v' l/\Ext w w' :=by
 refine gG (args:= [(.slice (some a) l.length c)]) Tryz.func37 rfl 8 rfl rfl ?_;have hE:=Acz w;refine gS (AaB F4 rfl (cF rfl (gS (Abp (k:=67) (enc:=entC) Q3 fun g i b j=> ?_))));have hE:=hE.trans j;refine gS (Aak _ _ w.heap.size _ 104 F4 wr30_ig97.choose_spec.1 wr30_ig97.choose_spec.2 F4 ([]) (l) (AaJ b (vr g rfl)) (ZU (hr.keep hE) (vr (.slice (some a) l.length c) rfl)) (fun _ _=>Gw) (by simp only[AdQ];omega) (by simp only[AdQ];omega) hE.size fun h m n f=> ?_);have f:Grew i m g h:=f;have hE:=Bz hE f b.2 (Adw _);clear b;refine Az rfl (vr h rfl) ?_;exact⟨_,rfl,(show OG _ _ _ _ _ _ _ from by simpa using n),hE⟩
theorem GI(w:Ads)(v:Adr)(l:List Ba)(h:RG 67 entC w v l)(hl:l.length<1000000):
  Calls Adt 37 #[v] w fun e w' =>∃v',e = .returned v' /\OG w.heap.size 97 67 entC w' v' l/\Ext w w' :=by
 obtain⟨h0,h1,ao,cap,rfl,h2,h3,h4,h5⟩:=id h;cases ao with
 | none=>
  have hl:=h4 rfl;have:l= []:=Aep hl.1;subst this;rw[show cap=0 from hl.2];exact SV w
 | some a=>exact SW w a cap l h hl
theorem SX(w:Ads)(v:Adr)(l:List AK)(hr:RG 33 nmdC w v l)(hl:l.length<=1000)(hs:DX l)(s:Bs):
  Calls Adt 154 #[v,St s] w fun e w' =>(∃p,e = .returned (.tuple #[NI p, .bool (BW l s p)])/\JP l s p)/\Ext w w' :=by
 refine gG (args:= [v,St (s)]) Tryz.func154 rfl 11 rfl rfl ?_;have hE:=Acz w;refine gS (Z5 Q4 rfl rfl rfl ((Q1 _ v l hr hl hs s).mono ?_));rintro e b ⟨⟨p,rfl,hp⟩,a⟩;refine⟨_,rfl,?_⟩;have hr:=hr.keep a;have hE:=hE.trans a;refine gS (AcB (vs:= [NI p, .bool ((decide (p<l.length)&&decide ((Ed (l.getD p dNmd).name s)=((0:Nat):Int))))]) rfl rfl (gS (AcB (vs:= [NI p, .bool ((decide (p<l.length)&&decide ((Ed (l.getD p dNmd).name s)=((0:Nat):Int))))]) rfl rfl (Ei rfl (vr (NI p) rfl) (vr (.bool ((decide (p<l.length)&&decide ((Ed (l.getD p dNmd).name s)=((0:Nat):Int))))) rfl) ?_))));exact⟨⟨p,by rw[<-UV],hp⟩,hE⟩
theorem Q5(w:Ads)(y:AC)(hl:y.name.length<=9223372036854775807):
  Calls Adt 39 #[.agg (updC y).toArray] w fun e w' =>e = .returned (NI (BE y))/\Ext w w' :=by
 refine F2 (args:= [.agg (updC y).toArray]) Tryz.func39 rfl 56 rfl rfl ?_;have hE:=Acz w;refine gS (AcP (vr (.agg (updC y).toArray) rfl) fun f u av o v aw=> ?_);have hE:=hE.trans v;have c:=o;clear o;have ax:f<u.heap.size:=by omega
 refine gS (Acy PF rfl (gS (ZN u5 rfl rfl (Ac c (EQ y)) (gS (ZP SO rfl ((Mx _ y.kind).mono ?_))))));rintro e ay ⟨rfl,p⟩;refine⟨_,rfl,?_⟩;have hE:=hE.trans p;have c:=eb p c;refine gS (Z2 rfl ?_);refine cB (!(Ej y.kind)) rfl (fun i=> ?_) fun i=> ?_
 ·have h0c:(!Ej y.kind)=true:=i;refine cT (vr (.bool (true)) ((show _=Ae8 ((!Ej y.kind))from rfl).trans (congrArg Ae8 h0c))) (Az rfl (vr (NI 1) rfl) ?_);exact⟨by unfold BE;rw[if_pos h0c],hE⟩
 have h0c:(!Ej y.kind)=false:=i;refine gS (Acy PF rfl (gS (ZN u5 rfl rfl (Ac c (EQ y)) (gS (ZO (a:=((y.kind).toNat:Nat)) (b:=(2:Nat)) rfl rfl (AI _ _ _ _) (gO fun _=>Ae (PQ f 2) rfl rfl (gT rfl) (fun hG17=>Acy Kc rfl ⟨rfl,rfl⟩) (At (gO fun _=>Ae (AB y.old.1) rfl rfl (gT rfl) (fun hG18=>ZT (AcN c (D8 y) (En y) (Al rfl hG18)) WA rfl (As y.old.2) ⟨rfl,rfl⟩) (At (gO fun _=>Cg (.bool (Ai y.old)) rfl rfl (gT rfl) (fun hG19=>ZP Jb (Al rfl hG19) ((Ch _ y.old).mono (by rintro e w2 ⟨rfl,hx⟩;exact⟨_,rfl,rfl,hx⟩))) fun az q=>At ?_))))))))));have hE:=hE.trans q;have c:=eb q c;refine gO fun _=>Ae (.bool (!(Ai y.old))) rfl rfl (gT rfl) (fun hG23=>Z2 (Al rfl hG23) ⟨rfl,rfl⟩) (At (gS (Z9 rfl (fun hA=>(Al rfl hA)) rfl fun bb24 hbb25=>(gO fun _=>Ae (PQ f 34) rfl rfl (gT rfl) (fun hG26=>Acy Kd rfl ⟨rfl,rfl⟩) (At (gO fun _=>Ae (AB y.new.1) rfl rfl (gT rfl) (fun hG27=>ZT (AcN c (CP y) (C6 y) (Al rfl hG27)) WA rfl (As y.new.2) ⟨rfl,rfl⟩) (At (gO fun _=>Cg (.bool (Ai y.new)) rfl rfl (gT rfl) (fun hG28=>ZP Jb (Al rfl hG28) ((Ch _ y.new).mono (by rintro e w2 ⟨rfl,hx⟩;exact⟨_,rfl,rfl,hx⟩))) fun a0 r=>At ?_))))))));have hE:=hE.trans r;have c:=eb r c;refine gO fun _=>Ae (.bool (!(Ai y.new))) rfl rfl (gT rfl) (fun hG32=>Z2 (Al rfl hG32) ⟨rfl,rfl⟩) (At (gS (Z9 rfl (fun hA=>(Al rfl hA)) rfl fun bb33 hbb34=> ?_)));refine cB (bb33) rfl (fun j=> ?_) fun j=> ?_
 ·subst hbb25 hbb34;have h1c:Qe y=true:=j;refine cT (vr (.bool (true)) ((show _=Ae8 (Qe y)from rfl).trans (congrArg Ae8 h1c))) (Az rfl (vr (NI 1) rfl) ?_);exact⟨by unfold BE;rw[if_neg (by rw[h0c];decide),if_pos h1c],hE⟩
 subst hbb25 hbb34;have h1c:Qe y=false:=j;refine gR ?_;refine E1 [Is (PQ f 0),Is (B8 (y.kind)),Is (.bool (decide (((y.kind).toNat:Nat)=(3)))),Is (.bool (decide (((y.kind).toNat:Nat)=(3)))),Is (cond ((decide (((y.kind).toNat:Nat)=(3)))) (PQ f 2) undef),Is (cond ((decide (((y.kind).toNat:Nat)=(3)))) (AB y.old.1) undef),Is (cond ((decide (((y.kind).toNat:Nat)=(3)))) (.bool (Ai y.old)) undef),Is (cond ((decide (((y.kind).toNat:Nat)=(3)))) (.bool (!(Ai y.old))) undef),Is (cond ((decide (((y.kind).toNat:Nat)=(3)))) (.bool (!(Ai y.old))) undef),Is (cond ((decide (((y.kind).toNat:Nat)=(3)))&& !(!(Ai y.old))) (PQ f 1) undef),Is (cond ((decide (((y.kind).toNat:Nat)=(3)))&& !(!(Ai y.old))) (St (y.name)) undef),Is (cond ((decide (((y.kind).toNat:Nat)=(3)))&& !(!(Ai y.old))) (.bool (decide ((y.name:Ai1)=(([]:Ai1):Ai1)))) undef),Is (cond ((decide (((y.kind).toNat:Nat)=(3)))&& !(!(Ai y.old))) (PQ f 34) undef),Is (cond ((decide (((y.kind).toNat:Nat)=(3)))&& !(!(Ai y.old))) (AB y.new.1) undef),Is (cond ((decide (((y.kind).toNat:Nat)=(3)))&& !(!(Ai y.old))) (.bool (Ai y.new)) undef),Is (cond ((decide (((y.kind).toNat:Nat)=(3)))&& !(!(Ai y.old))) (.bool ((decide ((y.name:Ai1)=(([]:Ai1):Ai1)))==(Ai y.new))) undef),Is (cond ((decide (((y.kind).toNat:Nat)=(3)))) (.bool ((!(Ai y.old))||((decide ((y.name:Ai1)=(([]:Ai1):Ai1)))==(Ai y.new)))) undef),Is (.bool ((decide (((y.kind).toNat:Nat)=(3)))&&((!(Ai y.old))||((decide ((y.name:Ai1)=(([]:Ai1):Ai1)))==(Ai y.new))))),Is (.bool ((decide (((y.kind).toNat:Nat)=(3)))&&((!(Ai y.old))||((decide ((y.name:Ai1)=(([]:Ai1):Ai1)))==(Ai y.new)))))] (by kernel_rfl) [23,24,25,26,27,28,29,30,31,32,33,34,35,36,37,38,39,40,3] (by kernel_rfl) (by kernel_rfl) (ZB (UK trivial)) ?z ?hQ1003
 case z=>
  refine⟨?_,?_,?_,?_,?_,?_,?_,?_,?_,?_,?_,?_,?_,?_,?_,?_,?_,?_,?_,trivial⟩
  ·refine AE rfl fun σ w1 hC h=> ?_;have g:σ 1=PQ f 0:=(AJ (h 1 (by decide))).trans rfl;exact Acy PF g ⟨Acz _,rfl⟩
  ·refine AE rfl fun σ w1 hC h=> ?_;have aa:=AJ (h 23 (by decide));exact ZN u5 rfl aa (Ac (eb hC c) (EQ y)) ⟨Acz _,rfl⟩
  ·refine AE rfl fun σ w1 hC h=> ?_;have ab:=AJ (h 24 (by decide));exact ZO (a:=((y.kind).toNat:Nat)) (b:=(3:Nat)) ab rfl (AI _ _ _ _) ⟨Acz _,rfl⟩
  ·refine AE rfl fun σ w1 hC h=> ?_;have ac:=AJ (h 25 (by decide));exact AcF ac ⟨Acz _,rfl⟩
  ·refine Bd 3 true 26 (G:=(decide (((y.kind).toNat:Nat)=(3)))) rfl rfl (fun x _ (h:x = .bool (decide (((y.kind).toNat:Nat)=(3))))=>gT h) (fun hu_ _=>BC hu_) fun hG σ w1 hC h=> ?_;have g:σ 1=PQ f 0:=(AJ (h 1 (by decide))).trans rfl;exact Acy Kc g ⟨Acz _,BB hG⟩
  ·refine Bd 3 true 26 (G:=(decide (((y.kind).toNat:Nat)=(3)))) rfl rfl (fun x _ (h:x = .bool (decide (((y.kind).toNat:Nat)=(3))))=>gT h) (fun hu_ _=>BC hu_) fun hG σ w1 hC h=> ?_;have ad:=AJ (h 27 (by decide));exact ZT (AcN (eb hC c) (D8 y) (En y) (Al ad hG)) WA rfl (As y.old.2) ⟨Acz _,BB hG⟩
  ·refine Bd 3 true 26 (G:=(decide (((y.kind).toNat:Nat)=(3)))) rfl rfl (fun x _ (h:x = .bool (decide (((y.kind).toNat:Nat)=(3))))=>gT h) (fun hu_ _=>BC hu_) fun hG σ w1 hC h=> ?_;have ae:=AJ (h 28 (by decide));refine ZP Jb (Al ae hG) ((Ch _ y.old).mono ?_);rintro e w2 ⟨rfl,hx⟩;exact⟨_,rfl,hx,BB hG⟩
  ·refine Bd 3 true 26 (G:=(decide (((y.kind).toNat:Nat)=(3)))) rfl rfl (fun x _ (h:x = .bool (decide (((y.kind).toNat:Nat)=(3))))=>gT h) (fun hu_ _=>BC hu_) fun hG σ w1 hC h=> ?_;have af:=AJ (h 29 (by decide));exact Z2 (Al af hG) ⟨Acz _,BB hG⟩
  ·refine Bd 3 true 26 (G:=(decide (((y.kind).toNat:Nat)=(3)))) rfl rfl (fun x _ (h:x = .bool (decide (((y.kind).toNat:Nat)=(3))))=>gT h) (fun hu_ _=>BC hu_) fun hG σ w1 hC h=> ?_;have ag:=AJ (h 30 (by decide));exact AcF (Al ag hG) ⟨Acz _,BB hG⟩
  ·refine Bd 8 false 31 (G:=(decide (((y.kind).toNat:Nat)=(3)))&& !(!(Ai y.old))) rfl rfl (fun x _ (h:x=cond ((decide (((y.kind).toNat:Nat)=(3)))) (.bool (!(Ai y.old))) undef)=>FB h) (fun hu_ _=>BC hu_) fun hG σ w1 hC h=> ?_;have g:σ 1=PQ f 0:=(AJ (h 1 (by decide))).trans rfl;exact Acy PH g ⟨Acz _,BB hG⟩
  ·refine Bd 8 false 31 (G:=(decide (((y.kind).toNat:Nat)=(3)))&& !(!(Ai y.old))) rfl rfl (fun x _ (h:x=cond ((decide (((y.kind).toNat:Nat)=(3)))) (.bool (!(Ai y.old))) undef)=>FB h) (fun hu_ _=>BC hu_) fun hG σ w1 hC h=> ?_;have ah:=AJ (h 32 (by decide));exact ZN E4 rfl (Al ah hG) (Ac (eb hC c) (DK y)) ⟨Acz _,BB hG⟩
  ·refine Bd 8 false 31 (G:=(decide (((y.kind).toNat:Nat)=(3)))&& !(!(Ai y.old))) rfl rfl (fun x _ (h:x=cond ((decide (((y.kind).toNat:Nat)=(3)))) (.bool (!(Ai y.old))) undef)=>FB h) (fun hu_ _=>BC hu_) fun hG σ w1 hC h=> ?_;have ai:=AJ (h 33 (by decide));exact Aav (l:=y.name) (m:=([]:Ai1)) (.inl rfl) (Al ai hG) (vr (St (([]:Ai1))) rfl) (decide ((y.name:Ai1)=(([]:Ai1):Ai1))) rfl ⟨Acz _,BB hG⟩
  ·refine Bd 8 false 31 (G:=(decide (((y.kind).toNat:Nat)=(3)))&& !(!(Ai y.old))) rfl rfl (fun x _ (h:x=cond ((decide (((y.kind).toNat:Nat)=(3)))) (.bool (!(Ai y.old))) undef)=>FB h) (fun hu_ _=>BC hu_) fun hG σ w1 hC h=> ?_;have g:σ 1=PQ f 0:=(AJ (h 1 (by decide))).trans rfl;exact Acy Kd g ⟨Acz _,BB hG⟩
  ·refine Bd 8 false 31 (G:=(decide (((y.kind).toNat:Nat)=(3)))&& !(!(Ai y.old))) rfl rfl (fun x _ (h:x=cond ((decide (((y.kind).toNat:Nat)=(3)))) (.bool (!(Ai y.old))) undef)=>FB h) (fun hu_ _=>BC hu_) fun hG σ w1 hC h=> ?_;have aj:=AJ (h 35 (by decide));exact ZT (AcN (eb hC c) (CP y) (C6 y) (Al aj hG)) WA rfl (As y.new.2) ⟨Acz _,BB hG⟩
  ·refine Bd 8 false 31 (G:=(decide (((y.kind).toNat:Nat)=(3)))&& !(!(Ai y.old))) rfl rfl (fun x _ (h:x=cond ((decide (((y.kind).toNat:Nat)=(3)))) (.bool (!(Ai y.old))) undef)=>FB h) (fun hu_ _=>BC hu_) fun hG σ w1 hC h=> ?_;have ak:=AJ (h 36 (by decide));refine ZP Jb (Al ak hG) ((Ch _ y.new).mono ?_);rintro e w2 ⟨rfl,hx⟩;exact⟨_,rfl,hx,BB hG⟩
  ·refine Bd 8 false 31 (G:=(decide (((y.kind).toNat:Nat)=(3)))&& !(!(Ai y.old))) rfl rfl (fun x _ (h:x=cond ((decide (((y.kind).toNat:Nat)=(3)))) (.bool (!(Ai y.old))) undef)=>FB h) (fun hu_ _=>BC hu_) fun hG σ w1 hC h=> ?_;have al:=AJ (h 34 (by decide));have am:=AJ (h 37 (by decide));exact Ab5 (a:=decide ((y.name:Ai1)=(([]:Ai1):Ai1))) (b:=Ai y.new) UW (Al al hG) (Al am hG) ⟨Acz _,BB hG⟩
  ·refine Bd 3 true 26 (G:=(decide (((y.kind).toNat:Nat)=(3)))) rfl rfl (fun x _ (h:x = .bool (decide (((y.kind).toNat:Nat)=(3))))=>gT h) (fun hu_ _=>BC hu_) fun hG σ w1 hC h=> ?_;have an:=AJ (h 31 (by decide));have ao:=AJ (h 38 (by decide));exact Aax (Al an hG) (vr (.bool (true)) rfl) (fun hA=>(Al ao (Gs hG (BJ hA)))) ⟨Acz _,BB hG⟩
  ·refine AE rfl fun σ w1 hC h=> ?_;have ap:=AJ (h 26 (by decide));have aq:=AJ (h 39 (by decide));exact Aar ap (fun hA=>(Al aq hA)) (vr (.bool (false)) rfl) ⟨Acz _,rfl⟩
  ·refine AE rfl fun σ w1 hC h=> ?_;have ar:=AJ (h 40 (by decide));exact AcS ar ⟨Acz _,rfl⟩
 intro au a1 s he hf;obtain⟨-,-,-,-,-,-,-,-,-,-,-,-,-,-,-,-,-,-,k3,-⟩:=hf;obtain⟨T0,T1,T2,-⟩:=he.hold [(0, .agg (updC y).toArray),(1,PQ f 0),(2,NI 0)] ⟨rfl,rfl,rfl,trivial⟩ rfl;clear he;have hE:=hE.trans s;have c:=eb s c;have T3:au 3 = .bool ((decide (((y.kind).toNat:Nat)=(3)))&&((!(Ai y.old))||((decide ((y.name:Ai1)=(([]:Ai1):Ai1)))==(Ai y.new)))):=k3;clear k3;refine ZE ?_;refine cB ((decide (((y.kind).toNat:Nat)=(3)))&&((!(Ai y.old))||((decide ((y.name:Ai1)=(([]:Ai1):Ai1)))==(Ai y.new)))) T3 (fun k=> ?_) fun k=> ?_
 ·have h2c:Qf y=true:=k;refine Az rfl (vr (NI 1) rfl) ?_;exact⟨by unfold BE;rw[if_neg (by rw[h0c];decide),if_neg (by rw[h1c];decide),if_pos h2c],hE⟩
 have h2c:Qf y=false:=k;refine gS (Acy PH T1 (gS (ZN E4 rfl rfl (Ac c (DK y)) (gS (ZP Mu rfl ((KG _ y.name hl).mono ?_))))));rintro e a3 ⟨rfl,t⟩;refine⟨_,rfl,?_⟩;have hE:=hE.trans t;have c:=eb t c;refine gS (Z2 rfl (gO fun _=>Ae (PQ f 0) rfl rfl (gT rfl) (fun hG43=>Acy PF T1 ⟨rfl,rfl⟩) (At (gO fun _=>Ae (B8 (y.kind)) rfl rfl (gT rfl) (fun hG44=>ZN u5 rfl (Al rfl hG44) (Ac c (EQ y)) ⟨rfl,rfl⟩) (At (gO fun _=>Ae (.bool (decide (((y.kind).toNat:Nat)≠(3)))) rfl rfl (gT rfl) (fun hG45=>ZO (a:=(((y.kind).toNat:Nat):Int)) (b:=((3:Nat):Int)) (Al rfl hG45) rfl (AX _ .u8 ((y.kind).toNat) (3)) ⟨rfl,rfl⟩) (At (gO fun _=>Ae (.bool (decide (((y.kind).toNat:Nat)≠(3)))) rfl rfl (gT rfl) (fun hG46=>AcF (Al rfl hG46) ⟨rfl,rfl⟩) (At (gO fun _=>Ae (PQ f 1) rfl rfl (FB rfl) (fun hG47=>Acy PH T1 ⟨rfl,rfl⟩) (At (gO fun _=>Ae (St (y.name)) rfl rfl (FB rfl) (fun hG48=>ZN E4 rfl (Al rfl hG48) (Ac c (DK y)) ⟨rfl,rfl⟩) (At (gO fun _=>Ae (.bool (decide ((y.name:Ai1)≠(([]:Ai1):Ai1)))) rfl rfl (FB rfl) (fun hG49=>Aav (l:=y.name) (m:=([]:Ai1)) (.inr rfl) (Al rfl hG49) rfl (decide ((y.name:Ai1)≠(([]:Ai1):Ai1))) rfl ⟨rfl,rfl⟩) (At (gO fun _=>Er ((decide (((y.kind).toNat:Nat)≠(3)))||(decide ((y.name:Ai1)≠(([]:Ai1):Ai1)))) rfl rfl (gT rfl) (fun hG50=>Aax (Al rfl hG50) rfl (fun hA=>(Al rfl (Gs hG50 (BJ hA)))) ⟨rfl,rfl⟩) fun bb51 hbb52=>At (gS (Z9 rfl (fun hA=>(Al rfl hA)) rfl fun bb53 hbb54=> ?_))))))))))))))))));refine cB (bb53) rfl (fun n=> ?_) fun n=> ?_
 ·subst hbb52 hbb54;have h3c:Qg y=true:=n;refine Az rfl (vr (NI 10) rfl) ?_;exact⟨by unfold BE;rw[if_neg (by rw[h0c];decide),if_neg (by rw[h1c];decide),if_neg (by rw[h2c];decide),if_pos h3c],hE⟩
 subst hbb52 hbb54;have h3c:Qg y=false:=n;refine Az rfl (vr (NI 0) rfl) ?_;exact⟨by unfold BE;rw[if_neg (by rw[h0c];decide),if_neg (by rw[h1c];decide),if_neg (by rw[h2c];decide),if_neg (by rw[h3c];decide)],hE⟩
structure UX where
 kind:Int
 L:List AC
 note:Bs
 n:Int
 fates:List Int
 bytes:Bs
structure Y2 where
 L:Adr
 fates:Adr
 bytes:Adr
abbrev CD:=UX × Y2
def jacC(x:CD):List Adr:= .int .i64 (x.1.kind) :: x.2.L :: St (x.1.note) :: .int .i64 (x.1.n) :: x.2.fates :: x.2.bytes :: []
theorem W1(x:CD):(jacC x).length=6:=by simp[jacC,AdG]
theorem Zz{x:CD}(h0:x.2.L.oneCell' =true)(h1:x.2.fates.oneCell' =true)(h2:x.2.bytes.oneCell' =true):∀u∈jacC x,u.oneCell' =true:=by
 intro u hu;simp only[jacC,Ad5,Aed,Aes,or_false]at hu;rcases hu with rfl | rfl | rfl | rfl | rfl | rfl
 ·rfl
 ·exact h0
 ·rfl
 ·rfl
 ·exact h1
 ·exact h2
theorem Ya(x:CD):(jacC x)[0]? =some (.int .i64 (x.1.kind)):=by
 rfl
theorem Yb(x:CD):((jacC x).drop 0).take 1= [.int .i64 (x.1.kind)]:=by
 exact Ib (Ya x)
theorem Yc(x:CD):(jacC x)[1]? =some (x.2.L):=by
 rfl
theorem Jd(x:CD):((jacC x).drop 1).take 1= [x.2.L]:=by
 exact Ib (Yc x)
theorem Yd(x:CD):(jacC x)[2]? =some (St (x.1.note)):=by
 rfl
theorem Ob(x:CD):((jacC x).drop 2).take 1= [St (x.1.note)]:=by
 exact Ib (Yd x)
theorem Ye(x:CD):(jacC x)[4]? =some (x.2.fates):=by
 rfl
theorem Yf(x:CD):((jacC x).drop 4).take 1= [x.2.fates]:=by
 exact Ib (Ye x)
theorem Yg(x:CD):(jacC x)[5]? =some (x.2.bytes):=by
 rfl
theorem Yh(x:CD):((jacC x).drop 5).take 1= [x.2.bytes]:=by
 exact Ib (Yg x)
structure Zs where
 l:List CD
 at_:Int
 again:Int
 one:List Int
 other:List Int
structure Y3 where
 l:Adr
 one:Adr
 other:Adr
abbrev Fo:=Zs × Y3
def trnC(x:Fo):List Adr:=x.2.l :: .int .i64 (x.1.at_) :: .int .i64 (x.1.again) :: x.2.one :: x.2.other :: []
theorem W2{x:Fo}(h0:x.2.l.oneCell' =true)(h1:x.2.one.oneCell' =true)(h2:x.2.other.oneCell' =true):∀u∈trnC x,u.oneCell' =true:=by
 intro u hu;simp only[trnC,Ad5,Aed,Aes,or_false]at hu;rcases hu with rfl | rfl | rfl | rfl | rfl
 ·exact h0
 ·rfl
 ·rfl
 ·exact h1
 ·exact h2
theorem GJ(x:Fo):(trnC x)[0]? =some (x.2.l):=by
 rfl
theorem Yi(x:Fo):(trnC x)[1]? =some (.int .i64 (x.1.at_)):=by
 rfl
theorem Yj(x:Fo):(trnC x)[2]? =some (.int .i64 (x.1.again)):=by
 rfl
theorem SY(x:Fo):(trnC x)[3]? =some (x.2.one):=by
 rfl
theorem SZ(x:Fo):(trnC x)[4]? =some (x.2.other):=by
 rfl
abbrev Ah:CD:=(⟨0,[],[],0,[],[]⟩,⟨.slice none 0 0, .slice none 0 0, .slice none 0 0⟩)
theorem OG.block{α:Type}{b k:Nat}{t:Ady}{enc:α->List Adr}{w:Ads}{v:Adr}{l:List α}(h:OG b t k enc w v l){i:Nat}(hi:i<l.length):∃g,v.ownBlock=some g:=by
 obtain⟨-,-,⟨-,h⟩ | ⟨g,cap,cur,rfl,-⟩⟩:=h
 ·omega
 ·exact⟨g,rfl⟩
theorem Zp{b:Nat}{t:Ady}{w:Ads}{v:Adr}{n z:Nat}{xs:List Adr}(h:w.ownsRow b t z v n xs){i:Nat}(hi:i<n):∃g,v.ownBlock=some g:=by
 obtain⟨-,⟨-,h⟩ | ⟨g,cap,cur,rfl,-⟩⟩:=h
 ·omega
 ·exact⟨g,rfl⟩
section
variable {P : AdM} {K : Adr -> Ads -> Prop} {ρ : Aj} {w : Ads} {d : Option Tmp} {ty : Ady} {pos : String} {af : Array Aej} {gd : Option (Nat × Bool)}
theorem Acb{k:Nat}{t e:Ady}(ht:P.underlying t=some (.slice e))(he:∀w' :Ads,(sizeOf e).run P w' = .ok k w'){b n g:Nat}{xs:List Adr}{e' :Ady}{v:Adr}{x y:AdC}(hx:Ab ρ x=v)(h:w.ownsRow b e' k v n xs)(hg:v.ownBlock=some g){kd:AeI}{i:Nat}(hy:Ab ρ y = .int kd (i:Int))(hi:i<n) 
  (hk:K (PQ g (i*k)) w):Yk P K ((execOp (Ab ρ) ⟨d, .indexAddr t x y,ty,pos,af,gd⟩).run P w):=by
 obtain⟨-,⟨-,h0⟩ | ⟨g',cap,cur,rfl,-⟩⟩:=h
 ·omega
 ·obtain rfl:g' =g:=by simpa [Aec] using hg
  refine AcG (v:=PQ g' (i*k)) (w' :=w) ?_ hk;have hE:P.elem t=e:=by simp[AfJ,ht]
  have hr:=run_indexAt_slice (P:=P) w t ⟨g',0,none⟩ n cap kd (i:Int) (by rw[hE];exact ht);rw[if_pos (by omega),hE,he]at hr;unfold execOp;simp only[hx,hy,AdB,hr,AdA,AdF];simp[Ae0]
end
section
variable {P : AdM}
theorem Je{t e:Ady}{size:Nat}(ht:P.underlying t=some (.slice e))(he:∀w' :Ads,(sizeOf e).run P w' = .ok size w'){w:Ads}{v:Adr}{n:Nat}{xs:List Adr}(hr:Reads w size v n xs)(lo hi:Option Adr)(l h:Nat)(hlh:l<=h)(hn:h<=n) 
  (hlo:lo=none/\l=0\/∃k,lo=some (.int k l)) (hhi:hi=none/\h=n\/∃k,hi=some (.int k h)):
  ∃ao c,((∀w:Ads,(AfR t v lo hi none).run P w = .ok (.slice ao (h-l) c) w)/\(AdI ao (h-l) c).ownBlock=v.ownBlock)/\Reads w size (.slice ao (h-l) c) (h-l) ((xs.drop (l*size)).take ((h-l)*size)):=by
 obtain⟨h1,ao,cap,rfl,h2,h3,h4,h5⟩:=hr;have hE:P.elem t=e:=by simp[AfJ,ht]
 have ht' :P.underlying t=some (.slice (P.elem t)):=by rw[hE];exact ht
 refine⟨if cap=l then ao else ao.map (·.add (l*size)),cap-l,⟨?_,?_⟩,?_,_,_,rfl,by omega,by omega,?_,?_⟩
 ·intro w;rw[run_sliceAt_slice (P:=P) w t _ _ _ _ ht'];have hl' :(l:Int)<=(h:Int):=by omega
  have hh' :(h:Int)<=(cap:Int):=by omega
  have hn' :(l:Int)<=(n:Int):=by omega
  rcases hlo with ⟨rfl,rfl⟩ | ⟨k,rfl⟩ <;> rcases hhi with ⟨rfl,rfl⟩ | ⟨k',rfl⟩
  ·rw[run_slice_all (P:=P) w t ao h cap ht',hE,he];simp[Aek,sliced]
  ·rw[run_slice_h (P:=P) w t ao n cap ht' k' h (by omega) hh',hE,he];simp[Aek,sliced]
  ·rw[run_slice_l (P:=P) w t ao h cap ht' k l (by omega) hl',hE,he];simp[Aek,sliced]
  ·rw[run_slice_lh (P:=P) w t ao n cap ht' k k' l h (by omega) hl' hh',hE,he];simp[Aek,sliced]
 ·cases ao with
  | none=>simp[Aec]
  | some x=>
   split
   ·rfl
   ·simp only[AeT,Aec,AeZ];unfold Addr.add;split <;> rfl
 ·rw[AdS,AdT,h1];have:(h-l)*size<=n*size-l*size:=by rw[<-Nat.sub_mul];exact AfU _ (by omega)
  omega
 ·intro hnone;have:ao=none:=by
   cases ao with
   | none=>rfl
   | some x=>split at hnone <;> simp at hnone
  obtain⟨h6,h7⟩:=h4 this;omega
 ·intro a ha j u hu;have hj:j<((xs.drop (l*size)).take ((h-l)*size)).length:=(AdR.1 hu).1;have hj2:j<(h-l)*size:=by rw[AdS]at hj;omega
  have hhl:h-l≠0:=fun e=>by rw[e]at hj2;simp at hj2
  rw[if_neg (by omega)]at ha;cases ao with
  | none=>simp at ha
  | some x=>
   simp at ha;subst ha;rw[GE];refine h5 x rfl _ _ ?_;rw[Afw,if_pos hj2,AfK]at hu;exact hu
end
section
variable {P : AdM} {K : Adr -> Ads -> Prop} {ρ : Aj} {w w0 : Ads} {d : Option Tmp} {ty : Ady} {pos : String} {af : Array Aej} {gd : Option (Nat × Bool)}
variable {α : Type} {k : Nat} {enc : α -> List Adr} {t e : Ady}
theorem Aa4(ht:P.underlying t=some (.slice e))(he:∀w' :Ads,(sizeOf e).run P w' = .ok k w'){x lo:AdC}{v:Adr}{xs:List α}(hx:Ab ρ x=v)(h:RG k enc w0 v xs){kd:AeI}{l:Nat}(hlo:Ab ρ lo = .int kd (l:Int))(hl:l<=xs.length) 
  (hk:∀v',RG k enc w0 v' (xs.drop l)->v'.ownBlock=v.ownBlock->K v' w):Yk P K ((execOp (Ab ρ) ⟨d, .slice t x (some lo) none none,ty,pos,af,gd⟩).run P w):=by
 obtain⟨ao,c,⟨hrun,hb⟩,hR⟩:=Je ht he h.2 (some (.int kd l)) none l xs.length hl (Adw _) (.inr ⟨kd,rfl⟩) (.inl ⟨rfl,rfl⟩);have hR' :=RG.cut h.1 hl (Adw _) hR;rw[Ad7 (by rw[AdT];exact Adw _)]at hR';refine AcG (v:= .slice ao (xs.length-l) c) (w' :=w) ?_ (hk _ hR' hb);unfold execOp;simp only[hx,hlo,AeT,Afq,hrun,AdB,AdF,AdA]
end
theorem Qh:∃i z,Tryz.prog.info? 94=some i/\i.size=33/\i.bytes=48/\i.zero=some z/\z.cells.size=33/\∀u∈z.cells.toList,u.oneCell' =true:=UU (by kernel_rfl)
section
variable {A X D R : List Adr} {i j : Nat}
theorem W3(hA:A.length=i)(hX:X.length=33)(hD:D.length=j):((A++X++D++R).drop (i+33)).take j=D:=by
 rw[AdW,AgW (by rw[Adx,hA,hX]),AeJ hD]
theorem Qi(hA:A.length=i)(hD:D.length=j):((A++D++R).drop i).take j=D:=by rw[AdW,AgW hA,AeJ hD]
theorem UY{C:List Adr}{m:Nat}(hm:i<=m)(hC:C.take i=A):C.take m=A++(C.take m).drop i:=by rw[<-hC,show C.take i=(C.take m).take i by rw[List.take_take,Agc hm],AeK]
theorem UZ(hA:A.length=i)(hX:X.length=33){Y:List Adr}:(A++X++R).take i++Y++(A++X++R).drop (i+1*33)=A++Y++R:=by rw[AgW (by rw[Adx];omega),AdW A X R,AeJ hA]
theorem Oc{w:Ads}{a b:Nat}{v x:Adr}{lo' n' c' lo n c:Nat}(hv:SB a 33 lo' n' c' v)(hx:SB b 33 lo n c x)(hne:a≠b){A B:List Adr}{tA tB:Ady}(hA:w.heap[a]? =some (.cells A.toArray tA (0,0)))(hB:w.heap[b]? =some (.cells B.toArray tB (0,0)))(h0:B≠ []):
  (callFunc 195 #[v,x]).run Adt w = .ok (.value (.bool false)) w:=by
 rw[run_callFunc_extern (e:=Extern.SlicesOverlaps.overlaps #[31,31] #[4]) Tryz.func195 (by kernel_rfl) (by kernel_rfl) (by kernel_rfl) (by kernel_rfl),L5 (e:=94) rfl (fun _=>by kernel_rfl) hv hx hne hA hB h0];rfl
theorem S0(hA:A.length=i):(A++X++D++R).take i=A:=by rw[AdW,AdW,AeJ hA]
theorem MA(h:(A++D).length=i):(A++D++R).take i=A++D:=AeJ h
end
theorem Q6(w:Ads)(v:Adr)(g c i j:Nat)(A X D R:List Adr)(hA:A.length=i*33)(hX:X.length=33)(hD:D.length=j*33)(hv:SB g 33 0 (i+1+j) c v)(hCb:w.heap[g]? =some (.cells (A++X++D++R).toArray 94 (0,0)))(hL:(A++X++D++R).length=c*33)(hc:i+1+j<=c)(hm:c<=maxLen)(h1:∀u∈D,u.oneCell' =true):
  Calls Adt 155 #[v,NI i,NI (i+1)] w fun e w' =>∃R',e = .returned (.slice (some ⟨g,0,none⟩) (i+j) c)/\w'.heap[g]? =some (.cells (A++D++R').toArray 94 (0,0))/\(A++D++R').length=c*33/\w.grownBy w' (some g):=by
 obtain⟨ri,rz,ri1,ri2,ri3,ri4,ri5,ri6⟩:=Qh;have hgr:w.grownBy w (some g):=⟨rfl,rfl,rfl,Adw _,fun _ _ _=>rfl⟩;have hgl:=(bl hCb);unfold maxLen at hm;refine gG (args:= [v,NI i,NI (i+1)]) Tryz.func155 rfl 33 rfl rfl ?_;have hE:=Acz w;refine gS (AaR Fb (Aad hv rfl) (gS (AbG (l:=i) (r:=i+1) (m:=i+1+j) Fb Lj (Aad hv rfl) rfl rfl rfl (by omega) (by omega) (by omega) fun y n=> ?_)));have n:SB g 33 (i) (i+1-(i)) (i+1+j-(i)) y:=(Ada n (by omega) (by omega) (by omega));refine gS (ZO (a:=(i:Nat)) (b:=(i+1:Nat)) rfl rfl (AI _ _ _ _) (kF (by omega) (cF rfl (gS (AaR Fb (Aad hv rfl) (gM0 [0,1,2,3,4,5,6,7] [6,7] [] fun z o=> ?_))))));have hgr:w.grownBy z (some g):=Aa hgr o.grown (fun _ e=>by cases e);refine yS (Aah Fb Lj (a:=none) (b:=some _) (Aad hv rfl) (0) (i) (.inl ⟨rfl,rfl⟩) (.inr ⟨_,congrArg some rfl⟩) (by omega) (by omega) fun p f=> ?_);have f:SB g 33 (0) (i) (c) p:=(Ada f (by omega) (by omega) (by omega));refine yS (Aah Fb Lj (a:=some _) (b:=none) (Aad hv rfl) (i+1) (i+1+j) (.inr ⟨_,congrArg some rfl⟩) (.inl ⟨rfl,rfl⟩) (by omega) (by omega) fun q h=> ?_);have h:SB g 33 (i+1) (j) (c-(i+1)) q:=(Ada h (by omega) (by omega) (by omega));have hCb:=eb o hCb;refine yC (AbH Fb ri1 ri2 (Aad f (vr p rfl)) (by omega) hCb (SB.src (Aad h (vr q rfl)) (j*33) (if hj:j=0 then .inr (by omega)else .inl (by omega)) hCb (by rw[show(i+1)*33=i*33+33 by omega];exact W3 hA hX hD)) (hD) (h1) (by omega) (by rw[hL];omega) fun s aa ab af=> ?_);have hgr:w.grownBy s (some g):=Aa hgr ab (fun _ e=> .inl e);clear hE;clear hCb;refine AeO (⟨_,rfl⟩:∃T,T=(A++X++D++R).drop (i*33+j*33)) fun T hT=> ?_;have hLT:(A++D++T).length=c*33:=by rw[hT];simp only[Adx,AdT]at hL ⊢;omega
 have hCb:s.heap[g]? =some (.cells (A++D++T).toArray 94 (0,0)):=AG aa (by rw[hT,S0 hA]);have ag:=bl hCb;have t:SB g 33 0 (i+j) (c) (AdI (some ⟨g,0,none⟩) (i+(j)) (c)):=(AaQ _ _ _ _).eq rfl (by omega) rfl;refine yC (AcS rfl (gS (AaR Fb (Aad t rfl) (gS (Aah Fb Lj (a:=some _) (b:=some _) (Aad t rfl) (i+j) (i+1+j) (.inr ⟨_,congrArg some rfl⟩) (.inr ⟨_,congrArg some rfl⟩) (by omega) (by omega) fun ac k=> ?_)))));have k:SB g 33 (i+j) (1) (c-(i+j)) ac:=(Ada k (by omega) (by omega) (by omega));refine gS (AbW Fb ri1 ri4 ri5 (Aad k rfl) (by omega) (by omega) hCb (Nw ri6 _) (by rw[hLT];omega) fun x Z29 hZ30 ad ae ah=> ?_);have hgr:w.grownBy x (some g):=Aa hgr ae (fun _ e=> .inl e);clear hCb;refine AeO (⟨_,rfl⟩:∃U,U=Z29++(A++D++T).drop ((i+j)*33+1*33)) fun U hU=> ?_;have hLU:(A++D++U).length=c*33:=by rw[hU];simp only[Adx,AdT]at hLT ⊢;omega
 have hCb:x.heap[g]? =some (.cells (A++D++U).toArray 94 (0,0)):=AG ad (by rw[hU,MA (by rw[Adx];omega),AdW (A++D)]);have ai:=bl hCb;refine Az rfl (vr (AdI (some ⟨g,0,none⟩) (i+(j)) (c)) rfl) ?_;exact⟨_,rfl,hCb,hLU,hgr⟩
theorem Q7(w:Ads)(v r:Adr)(g b c i j:Nat)(TX:Ady)(A X D R:List Adr)(hA:A.length=i*33)(hXl:X.length=33)(hD:D.length=j*33)(hv:SB g 33 0 (i+j) c v)(hCb:w.heap[g]? =some (.cells (A++D++R).toArray 94 (0,0)))(hL:(A++D++R).length=c*33)(hc:i+j<=c)(hm:c<=maxLen)(hj:0<j)(h1:∀u∈D,u.oneCell' =true)(hX1:∀u∈X,u.oneCell' =true) 
  (hv2:SB b 33 0 1 1 r) (hX:w.heap[b]? =some (.cells X.toArray TX (0,0))) (hne:b≠g) (hs:i+j<=1000):
  Calls Adt 156 #[v,NI i,r] w fun e w' =>∃g' c' R',e = .returned (.slice (some ⟨g',0,none⟩) (i+1+j) c')/\w'.heap[g']? =some (.cells (A++X++D++R').toArray 94 (0,0))/\(A++X++D++R').length=c' *33/\i+1+j<=c' /\c' <=2^63-1/\w.grownBy w' (some g)/\(g' =g\/w.heap.size<=g'):=by
 obtain⟨ri,rz,ri1,ri2,ri3,ri4,ri5,ri6⟩:=Qh;have hgr:w.grownBy w (some g):=⟨rfl,rfl,rfl,Adw _,fun _ _ _=>rfl⟩;have hgl:=(bl hCb);have hbl:=(bl hX);unfold maxLen at hm;refine gG (args:= [v,NI i,r]) Tryz.func156 rfl 95 rfl rfl ?_;have hE:=Acz w;refine gS (Aah Fb Lj (a:=some _) (b:=none) (Aad hv rfl) (i) (i+j) (.inr ⟨_,congrArg some rfl⟩) (.inl ⟨rfl,rfl⟩) (by omega) (by omega) fun v3 ah=> ?_);have ah:SB g 33 (i) (i+j-(i)) (c-(i)) v3:=(Ada ah (by omega) (by omega) (by omega));refine gS (AaR Fb (Aad hv2 rfl) (gS (ZO (a:=(1:Nat)) (b:=(0:Nat)) rfl rfl (AI _ _ _ _) (kF (by omega) (cF rfl (gS (AaR Fb (Aad hv rfl) ?_)))))));by_cases hroom:i+j+1<=c
 ·refine gS (ZO (a:=(i:Nat)) (b:=(i+j:Nat)) rfl rfl (AI _ _ _ _) (kF (by omega) (cF rfl (gS (ZV (xv:=NI (i+j)) (yv:=NI 1) rfl rfl rfl (AF _ _ _ (by omega)) (gS (Abu Fb (Aad hv rfl) (gS (ZO (a:=((i+j)+(1):Nat)) (b:=(c:Nat)) rfl rfl (CM _ _ _ _) (kF (by omega) (cF rfl (gS (ZV (xv:=NI (i+j)) (yv:=NI 1) rfl rfl rfl (AF _ _ _ (by omega)) (gS (Aah Fb Lj (a:=none) (b:=some _) (Aad hv rfl) (0) ((i+j)+(1)) (.inl ⟨rfl,rfl⟩) (.inr ⟨_,congrArg some rfl⟩) (by omega) (by omega) fun ai n=> ?_)))))))))))))));have n:SB g 33 (0) (i+1+j) (c) ai:=(Ada n (by omega) (by omega) (by omega));refine gS (ZV (xv:=NI i) (yv:=NI 1) rfl rfl rfl (AF _ _ _ (by omega)) (gS (Aah Fb Lj (a:=some _) (b:=none) (Aad n rfl) ((i)+(1)) (i+1+j) (.inr ⟨_,congrArg some rfl⟩) (.inl ⟨rfl,rfl⟩) (by omega) (by omega) fun au s=> ?_)));have s:SB g 33 (i+1) (j) (c-(i+1)) au:=(Ada s (by omega) (by omega) (by omega));refine gS (AbV rfl rfl (Oc (Aad hv2 rfl) (Aad s rfl) hne hX hCb (by intro e;rw[e]at hL;simp at hL;omega)) (gS (Z2 rfl (cT rfl (gM0 [0,1,2,3,4,5,6,7,8] [8] [] fun av t=> ?_)))));have hgr:w.grownBy av (some g):=Aa hgr t.grown (fun _ e=>by cases e);refine ys (ZV (xv:=NI i) (yv:=NI 1) rfl rfl rfl (AF _ _ _ (by omega)) zz) (yS (Aah Fb Lj (a:=some _) (b:=none) (Aad n rfl) ((i)+(1)) (i+1+j) (.inr ⟨_,congrArg some rfl⟩) (.inl ⟨rfl,rfl⟩) (by omega) (by omega) fun aw x=> ?_));have x:SB g 33 (i+1) (j) (c-(i+1)) aw:=(Ada x (by omega) (by omega) (by omega));refine yS (Aah Fb Lj (a:=some _) (b:=none) (Aad n rfl) (i) (i+1+j) (.inr ⟨_,congrArg some rfl⟩) (.inl ⟨rfl,rfl⟩) (by omega) (by omega) fun ax y=> ?_);have y:SB g 33 (i) (j+1) (c-i) ax:=(Ada y (by omega) (by omega) (by omega));have hCb:=eb t hCb;refine yC (AaT Fb Lj (Aad x rfl) (by omega) hCb (j) (SB.src (Aad y rfl) (j*33) (.inl (by omega)) hCb (Qi hA hD)) (by simp only[Aib];split <;> omega) (hD) (h1) (by rw[hL];omega) fun aj ay ak a8=> ?_);have hgr:w.grownBy aj (some g):=Aa hgr ak (fun _ e=> .inl e);clear hE;clear hCb;refine AeO (⟨_,rfl⟩:∃T,T=(A++D++R).drop ((i+1)*33+j*33)) fun T hT=>(AeO (⟨_,rfl⟩:∃Y0,Y0=((A++D++R).take ((i+1)*33)).drop (i*33)) fun Y0 hY0=> ?_);have hY0l:Y0.length=33:=by rw[hY0,AdT,AdS,hL];omega
  have hLT:(A++Y0++(D++T)).length=c*33:=by rw[hT];simp only[Adx,AdT]at hL ⊢;omega
  have hCb:aj.heap[g]? =some (.cells (A++Y0++(D++T)).toArray 94 (0,0)):=AG ay (by rw[hT,hY0,<-UY (C:=A++D++R) (m:=(i+1)*33) (by omega) (by rw[AdW,AeJ hA]),AdW]);have a9:=bl hCb;refine gS (Aah Fb Lj (a:=some _) (b:=none) (Aad n rfl) (i) (i+1+j) (.inr ⟨_,congrArg some rfl⟩) (.inl ⟨rfl,rfl⟩) (by omega) (by omega) fun az z=> ?_);have z:SB g 33 (i) (j+1) (c-i) az:=(Ada z (by omega) (by omega) (by omega));have hX:=eb t hX;have hX:=kb ak hX (by omega);refine gS (AaT Fb Lj (Aad z rfl) (by omega) hCb (1) (SB.src (Aad hv2 rfl) 33 (.inl (by omega)) hX (by rw[Af3,AfI,Ad7 (by omega)])) (by simp only[Aib];split <;> omega) (by omega) (hX1) (by rw[hLT];omega) fun al a0 a1 ba=> ?_);have hgr:w.grownBy al (some g):=Aa hgr a1 (fun _ e=> .inl e);clear hCb;have hLF:(A++X++D++T).length=c*33:=by simp only[Adx]at hLT ⊢;omega
  have hCb:al.heap[g]? =some (.cells (A++X++D++T).toArray 94 (0,0)):=AG a0 (by rw[UZ hA hY0l,AdW (A++X)]);have bb:=bl hCb;refine Az rfl (vr ai rfl) ?_;obtain⟨o,rfl,ho⟩:=n;obtain rfl:o=0:=by rw[ho (by omega),Af3]
  exact⟨_,_,_,rfl,hCb,hLF,(by omega),(by omega),hgr, .inl rfl⟩
 refine gS (ZO (a:=(i:Nat)) (b:=(i+j:Nat)) rfl rfl (AI _ _ _ _) (kF (by omega) (cF rfl (gS (ZV (xv:=NI (i+j)) (yv:=NI 1) rfl rfl rfl (AF _ _ _ (by omega)) (gS (Abu Fb (Aad hv rfl) (gS (ZO (a:=((i+j)+(1):Nat)) (b:=(c:Nat)) rfl rfl (CM _ _ _ _) (kT (by omega) (cT rfl (gS (Aah Fb Lj (a:=none) (b:=some _) (Aad hv rfl) (0) (i) (.inl ⟨rfl,rfl⟩) (.inr ⟨_,congrArg some rfl⟩) (by omega) (by omega) fun am aa=> ?_)))))))))))));have aa:SB g 33 (0) (i) (c) am:=(Ada aa (by omega) (by omega) (by omega));refine gS (ZV (xv:=NI (i+j)) (yv:=NI 1) rfl rfl rfl (AF _ _ _ (by omega)) (gS (ZV (xv:=NI ((i+j)+(1))) (yv:=NI i) rfl rfl rfl (FE _ _ _ (by omega) (by omega)) (gS (Aba (m:=((i+j)+(1))-(i)) Fb Oa ri1 ri4 ri2 ri5 (by decide) (Aad aa (vr am rfl)) (by omega) hCb (vr (NI (((i+j)+(1))-(i))) rfl) (by omega) (by omega) (by rw[hL];omega) (by rw[ri3];omega) (by unfold maxLen;omega) fun h ab l Z54 ac hm56 hm57 hZ58 f p bc=> ?_)))));have hgr:w.grownBy ab (some g):=Aa hgr p.grown (fun _ e=>by cases e);have f:ab.heap[h]? =some (.cells (A++Z54).toArray 94 (0,0)):=AG f (by rw[AdW,AeJ hA]);have bd:h<ab.heap.size:=by omega
 have an:SB h 33 0 (i+1+j) (l) (AdI (some ⟨h,0,none⟩) (i+(((i+j)+(1))-(i))) l):=(AaQ _ _ _ _).eq rfl (by omega) rfl;unfold maxLen at hm56;refine gS (Aah Fb Lj (a:=some _) (b:=none) (Aad an rfl) (i) (i+1+j) (.inr ⟨_,congrArg some rfl⟩) (.inl ⟨rfl,rfl⟩) (by omega) (by omega) fun a2 ad=> ?_);have ad:SB h 33 (i) (j+1) (l-i) a2:=(Ada ad (by omega) (by omega) (by omega));have be:=AO (bl hX) ac;have hX:=eb p hX;refine gS (AaT Fb Lj (Aad ad rfl) (by omega) f (1) (SB.src (Aad hv2 rfl) 33 (.inl (by omega)) hX (by rw[Af3,AfI,Ad7 (by omega)])) (by simp only[Aib];split <;> omega) (by omega) (hX1) (by rw[Adx,hA,hZ58];omega) fun ao a3 ae bf=> ?_);have hgr:w.grownBy ao (some g):=Aa hgr ae (fun _ e=> .inr (by cases e;omega));clear f;refine AeO (⟨_,rfl⟩:∃T,T=(A++Z54).drop (i*33+1*33)) fun T hT=> ?_;have hLT:(A++X++T).length=l*33:=by rw[hT];simp only[Adx,AdT];omega
 have f:ao.heap[h]? =some (.cells (A++X++T).toArray 94 (0,0)):=AG a3 (by rw[hT,AeJ hA]);have bg:=bl f;refine gM0 [0,1,2,3,4,5,6,7,8] [8] [] fun a4 q=> ?_;have hgr:w.grownBy a4 (some g):=Aa hgr q.grown (fun _ e=>by cases e);refine ys (ZV (xv:=NI i) (yv:=NI 1) rfl rfl rfl (AF _ _ _ (by omega)) zz) (yS (Aah Fb Lj (a:=some _) (b:=none) (Aad an rfl) ((i)+(1)) (i+1+j) (.inr ⟨_,congrArg some rfl⟩) (.inl ⟨rfl,rfl⟩) (by omega) (by omega) fun a5 af=> ?_));have af:SB h 33 (i+1) (j) (l-(i+1)) a5:=(Ada af (by omega) (by omega) (by omega));refine yS (Aah Fb Lj (a:=some _) (b:=none) (Aad hv rfl) (i) (i+j) (.inr ⟨_,congrArg some rfl⟩) (.inl ⟨rfl,rfl⟩) (by omega) (by omega) fun a6 ag=> ?_);have ag:SB g 33 (i) (j) (c-i) a6:=(Ada ag (by omega) (by omega) (by omega));have bh:=AO (bl hCb) ac;have hCb:=eb p hCb;have hCb:=kb ae hCb (by omega);have hCb:=eb q hCb;have f:=eb q f;refine yC (AaT Fb Lj (Aad af rfl) (by omega) f (j) (SB.src (Aad ag rfl) (j*33) (.inl (by omega)) hCb (Qi hA hD)) (by simp only[Aib];split <;> omega) (hD) (h1) (by rw[hLT];omega) fun ap a7 aq bi=> ?_);have hgr:w.grownBy ap (some g):=Aa hgr aq (fun _ e=> .inr (by cases e;omega));clear f;refine AeO (⟨_,rfl⟩:∃U,U=(A++X++T).drop ((i+1)*33+j*33)) fun U hU=> ?_;have hLU:(A++X++D++U).length=l*33:=by rw[hU];simp only[Adx,AdT]at hLT ⊢;omega
 have f:ap.heap[h]? =some (.cells (A++X++D++U).toArray 94 (0,0)):=AG a7 (by rw[hU,MA (by rw[Adx];omega)]);have bj:=bl f;refine Az rfl (vr (AdI (some ⟨h,0,none⟩) (i+(((i+j)+(1))-(i))) l) rfl) ?_;have hE:=hE.trans p;have hE:=Ad hE ae (Adu (Adw _) (by omega));have hE:=hE.trans q;have hE:=Ad hE aq (Adu (Adw _) (by omega));exact⟨_,_,_,(congrArg (fun k:Nat=>Ae2 (AdI (some ⟨h,0,none⟩) k l)) (show i+(i+j+1-i)=i+1+j by omega)),f,hLU,(by omega),(by omega),hgr, .inr (Ago ac)⟩
theorem Q9(w0 w:Ads)(v c:Adr)(l:List AK)(x:AK)(f:Ext w0 w)(ho:OG w0.heap.size 94 33 nmdC w v l)(g:RG 33 nmdC w c [x])(hl:l.length<=1000):
  Calls Adt 156 #[v,NI l.length,c] w fun e w' =>∃v',e = .returned v' /\OG w0.heap.size 94 33 nmdC w' v' (l++ [x])/\Ext w0 w' :=by
 refine gG (args:= [v,NI l.length,c]) Tryz.func156 rfl 95 rfl rfl ?_;have hE:=Acz w;refine gS (Aa4 Fb Lj rfl (ZQ ho) rfl (Adw _) fun n j ha5=>(gS (ZZ Fb (ZU g rfl) (gS (ZO (a:=(([x]).length:Nat)) (b:=(0:Nat)) rfl rfl (AI _ _ _ _) (kF (by simp) (cF rfl (gS (ZZ Fb (ZU (ZQ ho) rfl) (gS (ZO (a:=(l.length:Nat)) (b:=(l.length:Nat)) rfl rfl (AI _ _ _ _) (kT (rfl) (cT rfl (gS (Aak _ _ w0.heap.size _ 48 Fb wr30_ig94.choose_spec.1 wr30_ig94.choose_spec.2 Fb (l) ([x]) (AaJ ho (vr v rfl)) (ZU g (vr c rfl)) (fun _ _=>Ec) (by simp only[AdJ,AdQ];omega) (by simp only[AdJ,AdQ];omega) f.size fun i k m h=> ?_)))))))))))))));have h:Grew w k v i:=h;clear g;clear hE;have f:=Bz f h ho.2 (Adw _);clear j;clear ho;refine Az rfl (vr i rfl) ?_;exact⟨_,rfl,m,f⟩
section
variable {α : Type} {b k g c : Nat} {t : Ady} {enc : α -> List Adr} {w : Ads} {v : Adr} {l : List α} {R : List Adr}
theorem OG.row(h:OG b t k enc w v l)(h0:0<l.length):∃g c R,v = .slice (some ⟨g,0,none⟩) l.length c/\b<=g/\w.heap[g]? =some (.cells (l.flatMap enc++R).toArray t (0,0))/\(l.flatMap enc++R).length=c*k/\l.length<=c/\c<=maxLen:=by
 obtain⟨-,hx,⟨-,h1⟩ | ⟨g,c,cur,rfl,hb,hg,hn,hm,hs,ht⟩⟩:=h
 ·omega
 ·refine⟨g,c,cur.toList.drop (l.length*k),rfl,hb,?_,?_,hn,hm⟩
  ·rw[<-ht,AeK];exact hg
  ·rw[<-ht,AeK,AeN,hs]
theorem Aa7(hl:∀x∈l,(enc x).length=k)(hb:b<=g)(hg:w.heap[g]? =some (.cells (l.flatMap enc++R).toArray t (0,0)))(hL:(l.flatMap enc++R).length=c*k)(hn:l.length<=c)(hm:c<=maxLen):OG b t k enc w (.slice (some ⟨g,0,none⟩) l.length c) l:=
 ⟨hl,Ia hl, .inr ⟨g,c,_,rfl,hb,hg,hn,hm,by rw[Ad6,hL],by rw[List.toList_toArray,AeJ (Ia hl)]⟩⟩
theorem Od(d:α){p:Nat}(hp:p<l.length):l.flatMap enc=(l.take p).flatMap enc++enc (l.getD p d)++(l.drop (p+1)).flatMap enc:=by
 conv=>lhs;rw[<-AeK p l,Afk hp]
 rw[Ae6,Aen,<-AdW,Adz,AdE hp];rfl
end
section
variable {P : AdM} {K : Adr -> Ads -> Prop} {ρ : Aj} {w : Ads} {d : Option Tmp} {ty : Ady} {pos : String} {af : Array Aej} {gd : Option (Nat × Bool)} {α : Type} {t : Ady}
theorem Ack{k:Nat}{enc:α->List Adr}{e:Ady}{x:AdC}{a:α}(hx:Ab ρ x = .agg (enc a).toArray)(hl:(enc a).length=k) 
  (hr:∀(cs:Array Adr),cs.size=k->∀w:Ads,(Ad0 t 1 #[(0, .agg cs)]).run P w = .ok (.slice (some ⟨w.heap.size,0,none⟩) 1 1) (w.alloc (.cells cs e)))
  (hk:∀b w',w.heap.size=b->w'.heap[b]? =some (.cells (enc a).toArray e (0,0))->Ext w w' ->w'.heap.size=w.heap.size+1->K (.slice (some ⟨b,0,none⟩) 1 1) w'):Yk P K ((execOp (Ab ρ) ⟨d, .buildSlice t 1 #[(0,x)],ty,pos,af,gd⟩).run P w):=by
 have hE:Ext w (w.alloc (.cells (enc a).toArray e)):=(Aeo _ _).alloc (Adw _) _;refine AcG (v:= .slice (some ⟨w.heap.size,0,none⟩) 1 1) (w' :=w.alloc (.cells (enc a).toArray e)) ?_ (hk _ _ rfl (heap_alloc_new w _) hE (by simp));unfold execOp;simp only[AdH,AdK,AdO,hx,AdB,hr _ (show(enc a).toArray.size=k by rw[Ad6];exact hl),AdA,AdF]
theorem S1{l:List α}{p:Nat}{x:α}(hp:p<l.length):l.set p x=l.take p++x :: l.drop (p+1):=by rw[List.set_eq_take_append_cons_drop,if_pos hp]
theorem Abn{b:Nat}{t' e:Ady}{v:Adr}{l:List AK}{g p:Nat}{i:Cl}{x y:AdC}(hx:Ab ρ x=PQ g (p*33+1))(hy:Ab ρ y = .agg (Adv i.1).toArray)(h:OG b e 33 nmdC w v l)(hg:v.ownBlock=some g)(hp:p<l.length)(hinfo:(P.info? t').map (·.size)=some 32) 
  (hk:∀w',OG b e 33 nmdC w' v (l.set p ⟨(l.getD p dNmd).name,i⟩)->Grew w w' v v->K undef w'):Yk P K ((execOp (Ab ρ) ⟨d, .store t' x y,ty,pos,af,gd⟩).run P w):=by
 obtain⟨g',c,R,rfl,hb,hC,hL,hc,hm⟩:=h.row (by omega);obtain rfl:g' =g:=by simpa [Aec] using hg
 have h1:=i.2;have h2:=(l.getD p dNmd).id.2;have a:l.flatMap nmdC++R=((l.take p).flatMap nmdC++ [St (l.getD p dNmd).name])++Adv (l.getD p dNmd).id.1++((l.drop (p+1)).flatMap nmdC++R):=by
  rw[Od dNmd hp];simp[nmdC]
 have f:((l.set p ⟨(l.getD p dNmd).name,i⟩).flatMap nmdC)++R=((l.take p).flatMap nmdC++ [St (l.getD p dNmd).name])++Adv i.1++((l.drop (p+1)).flatMap nmdC++R):=by
  rw[S1 hp,Ae6,Aen];simp[nmdC]
 have hn:((l.take p).flatMap nmdC).length=p*33:=by rw[Ia (fun x _=>BA x),AdS];congr 1;omega
 rw[a]at hC;refine Aao hx hy hC (by rw[Adx,hn];rfl) (by rw[AdG,AdG,h1,h2]) (by rw[AdG,h1];exact hinfo) (Ay _) fun w' k1 k2 _=>hk w' ?_ ⟨k2,fun k hk=> .inl hk⟩;rw[<-f]at k1;rw[show l.length=(l.set p (⟨(l.getD p dNmd).name,i⟩:AK)).length by rw[AfC]];refine Aa7 (fun x _=>BA x) hb k1 ?_ (by rw[AfC];exact hc) hm;rw[<-hL,a,f];simp only[Adx,AdG,h1,h2]
end
theorem Oe{l:List AK}:∀u∈l.flatMap nmdC,u.oneCell' =true:=fun u hu=>by
 obtain⟨x,-,hx⟩:=List.mem_flatMap.1 hu;exact Ec u hx
theorem nmds_len(l:List AK):(l.flatMap nmdC).length=l.length*33:=Ia (fun x _=>BA x)
theorem S2(w0 w:Ads)(v:Adr)(l:List AK)(p:Nat)(hE:Ext w0 w)(h:OG w0.heap.size 94 33 nmdC w v l)(hp:p<l.length):
  Calls Adt 155 #[v,NI p,NI (p+1)] w fun e w' =>∃v',e = .returned v' /\OG w0.heap.size 94 33 nmdC w' v' (l.eraseIdx p)/\Ext w0 w' :=by
 obtain⟨g,c,R,rfl,hb,hC,hL,hc,hm⟩:=h.row (by omega);have hl:l.length=p+1+(l.length-(p+1)):=by omega
 rw[Od dNmd hp]at hC hL;refine Calls.mono (Q6 w _ g c p (l.length-(p+1)) _ _ _ R (by rw[nmds_len,AdS];omega) (BA _) (by rw[nmds_len,AdT]) ((AaQ _ _ _ _).eq rfl hl rfl) hC hL (by omega) hm Oe) fun e w' ⟨R',f,a,b,i⟩=> ?_;rw[<-Ae6,<-List.eraseIdx_eq_take_drop_succ]at a b;have hle:(l.eraseIdx p).length=p+(l.length-(p+1)):=by rw[List.length_eraseIdx_of_lt hp];omega
 refine⟨_,f,?_,Ad hE i hb⟩;rw[<-hle];exact Aa7 (fun x _=>BA x) hb a b (by omega) hm
theorem S3(w0 w:Ads)(v f:Adr)(l:List AK)(p b:Nat)(x:AK)(TX:Ady)(hE:Ext w0 w)(h:OG w0.heap.size 94 33 nmdC w v l)(hp:p<=l.length)(hl:l.length<=1000) 
  (hv2:f = .slice (some ⟨b,0,none⟩) 1 1) (hX:w.heap[b]? =some (.cells (nmdC x).toArray TX (0,0))) (hne:v.ownBlock≠some b):
  Calls Adt 156 #[v,NI p,f] w fun e w' =>∃v',e = .returned v' /\OG w0.heap.size 94 33 nmdC w' v' (l.take p++x :: l.drop p)/\Ext w0 w' :=by
 subst hv2;by_cases hpe:p=l.length
 ·subst hpe;rw[List.take_length,List.drop_length];exact Q9 w0 w v _ l x hE h (Abi (BA x) hX) hl
 ·obtain⟨g,c,R,rfl,hb,hC,hL,hc,hm⟩:=h.row (by omega);have k:l.flatMap nmdC=(l.take p).flatMap nmdC++(l.drop p).flatMap nmdC:=by rw[<-Ae6,AeK]
  rw[k]at hC hL;refine Calls.mono (Q7 w _ _ g b c p (l.length-p) TX _ (nmdC x) _ R (by rw[nmds_len,AdS];omega) (BA x) (by rw[nmds_len,AdT]) ((AaQ _ _ _ _).eq rfl (by omega) rfl) hC hL (by omega) hm (by omega) Oe Ec (AaQ _ _ _ _) hX (fun e=>hne (by rw[e];rfl)) (by omega)) fun e w' ⟨g',c',R',m,i,j,r,n,o,a⟩=> ?_;have q:(l.take p).flatMap nmdC++nmdC x++(l.drop p).flatMap nmdC=(l.take p++x :: l.drop p).flatMap nmdC:=by rw[Ae6,Aen,AdW]
  rw[q]at i j;have hle:(l.take p++x :: l.drop p).length=p+1+(l.length-p):=by rw[Adx,AdJ,AdS,AdT];omega
  refine⟨_,m,?_,Ad hE o hb⟩;rw[<-hle];refine Aa7 (fun x _=>BA x) ?_ i j (by omega) n;rcases a with rfl | a
  ·exact hb
  ·exact Adu hE.size a
def Dc(l:List AK)(p:Nat)(y:AC):Nat × List AK:=
 if(if BW l y.name p=true then(l.getD p dNmd).id else zid).1≠y.old.1 then(15,[])
 else if Ai y.new=true then(if BW l y.name p=true then(0,l.eraseIdx p)else(0,l))
 else if BW l y.name p=true then(0,l.set p ⟨(l.getD p dNmd).name,y.new⟩)
 else if 64<=l.length then(3,[])else(0,l.take p++⟨y.name,y.new⟩ :: l.drop p)
def BM(l:List AK)(s:Ai1):Nat:=(l.takeWhile fun n=>decide (n.name<s)).length
theorem Dw:∀ {l:List AK} {s:Ai1} {p:Nat},JP l s p->p=BM l s
 | [],s,p,h=>by have:=h.1;simp at this;subst this;rfl
 | a :: l,s,p,h=>by
  by_cases ha:a.name<s
  ·cases p with
   | zero=>exact absurd ha (h.2.2 0 (Adw _) (by simp))
   | succ p=>
    have hp:=h.1;have ih:p=BM l s:=Dw ⟨by simpa using hp,fun j hj=>h.2.1 (j+1) (by omega),fun j hj hl=>h.2.2 (j+1) (by omega) (by simpa using hl)⟩;unfold BM at ih ⊢;rw[Af5,if_pos (by simpa using ha),AdJ,<-ih]
  ·cases p with
   | zero=>unfold BM;rw[Af5,if_neg (by simpa using ha)];rfl
   | succ p=>exact absurd (h.2.1 0 (by omega)) ha
def Am(l:List AK)(y:AC):Nat × List AK:=Dc l (BM l y.name) y
end Go.Proofs.YtbbbblinjomajaaGreatDoor
