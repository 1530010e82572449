/- Part 2 of what stands behind these statements: laws and walks of the functions that are reached. Conditions: those that each theorem names. -/
import Derived.Test.YtbbbblinjomajaaGreatDoorF1
set_option linter.unusedVariables false
set_option linter.unusedSimpArgs false
namespace Go.Proofs.YtbbbblinjomajaaGreatDoor
open _root_.Go renaming World->AcE,Program->AcY,Oper->AcW,TypeId->AcK,Edge->Adv,Value->AcD,Ending->AeA,Operand->AcO,binOp->Ado,IntKind->AdV,MapEntry->Ae5
open _root_.List renaming contains_iff_mem->AdZ,getElem?_take->AeI,getElem?_drop->AeX,cons_append->Ade,length_drop->Ac5,take_of_length_le->Adj,eq_nil_of_length_eq_zero->AdB,drop_eq_getElem_cons->Aew,replicate->AdK,length_replicate->Adq,length_take->Ac4,drop_of_length_le->Aef,getD_eq_getElem?_getD->AcL,getElem?_eq_getElem->AcQ,getElem_mem->Aee,map_toArray->AcT,map_cons->AcX,map_nil->Ac2,append_toArray->Adu,nil_append->Adm,toArray->Adf,mem_of_getElem?->AeM,mem_map->AdC,mem_singleton->Adn,getElem?_eq_some_iff->Ac3,mem_iff_getElem->AdM,mem_eraseIdx_iff_getElem->Agc,eraseIdx_sublist->AfB,size_toArray->Adi,flatMap_cons->Adz,mem_of_mem_drop->AfG,drop_zero->AeV,length_append->AcJ,append_assoc->Ac7,lt_trans->Agy,length_nil->Ac1,drop_left'->Af8,take_left'->AdW,take_append_drop->AdX,length_cons->AcV,flatMap_append->Aei,length_set->AeO,takeWhile_cons->Afh
open _root_.Go.RowKit.Below renaming refl->AdA
open _root_.Nat renaming le_of_ble_eq_true->AcP,mod_eq_of_lt->Af1,min_eq_left->Afo,le_refl->AcI,lt_of_le_of_lt->AeJ,and_le_right->AeH,pow_le_pow_right->Aes,mul_comm->AgP,mul_le_mul->Agl,min->Afl,le_of_eq->AfU,zero_le->AcZ,le_trans->AcG,zero_add->Aem,add_mul->Ad2,add_sub_cancel_left->AeQ,not_lt_zero->AdN,zero_mul->Afg,add_zero->Af7,mul_le_mul_right->Ae7,min_def->Ahn
open _root_.Option.some renaming inj->Ac9,injEq->Aea
open _root_.BitVec renaming ofNat->Aff,toNat_ofNat->AfT
open _root_.Go.Value renaming int->AeY,slice->AcU,bool->Aek,ownBlock->Adp
open _root_.Int renaming toNat_natCast->Ac8
open _root_.Go.Sem renaming run_bind->AcN,run_pure->AcR
open _root_.Go.Result renaming andThen_ok->AcM,andThen->Adw
open _root_.Go.Instr renaming next->AfF,lookup->AhU,mapUpdate->Ahb,build->AdI,buildSlice->Adc,sliceAt->Ae4
open _root_.Array renaming getElem?_eq_some_iff->Adr,length_toList->Ad0,getElem?_setIfInBounds->Aez
open _root_.Option renaming map_eq_some_iff->AeC,map_some->Ad4,map_none->AeB
open _root_.Go.Lib renaming uvarint->Ac6,hid->Aen,byteCells->AcH,byteCells_length->AcS
open _root_.Go.Proofs.Tryz renaming prog->AcF,func121->AhT,ntmps121->AhF,func76->Ahm,ntmps76->AgQ
open _root_.Go.Ending renaming returned->Aed
open _root_.And renaming intro->AdF
open _root_.Go.MapKept renaming IsKey->AfM,run_findKey->AhK,Stamped->Af9,run_getObj_map->AeD,run_setObj_map->Aft
open _root_.Go.Builtin renaming delete_->Ahc,zeroCells->AdD,copy_->AhC
open _root_.Go.Addr renaming add_lit->Aeb
open _root_.Go.Op renaming bytesLess->Adg
open _root_.Go.Program renaming elem->AeW
open _root_.Exists renaming elim->Afc
open Go.RowKit
inductive Fr where
 | seq (y:Code)
 | block (id:Nat)
 | scope
 | fin (K:Aj->AcE->Prop)
def BY(P:AcY)(n:Nat)(Q:Bd):List Fr->Bd
 | []=>fun e ρ w=>match e with
  | .normal=>Q .ret ρ w
  | e=>Q e ρ w
 | .seq y :: k=>Ei (B9 P n y (BY P n Q k)) (BY P n Q k)
 | .block id :: k=>CK id (BY P n Q k)
 | .scope :: k=>Pt (BY P n Q k)
 | .fin K :: k=>Ei K (BY P n Q k)
inductive Nk where
 | code (c:Code)
 | ops (a:Array AcW) (l:List AcW)
 | pop
 | mix (l:List AcW) (cs pf fl:List Nat) (I:AcE->Prop) (r:List Nat)
inductive MK where
 | pure
 | here
 | float
inductive Tg where
 | op (a:Array AcW) (o:AcW) (r:List AcW) (k:List Fr) (ρ:Aj)
 | code (c:Code) (k:List Fr) (ρ:Aj)
 | fin (K:Aj->AcE->Prop) (k:List Fr) (ρ:Aj)
 | chain (l:List AcW) (cs pf fl:List Nat) (I:AcE->Prop) (i:Nat) (o:AcW) (r:List Nat) (k:List Fr) (ρ:Aj)
 | still (κ:MK) (l:List AcW) (cs pf fl:List Nat) (I:AcE->Prop) (i:Nat) (o:AcW) (r:List Nat) (k:List Fr) (ρ:Aj)
 | ret (ρ:Aj)
 | bad
def room(n:Nat):Option Tmp->Bool
 | some d=>Nat.blt d n
 | none=>true
def YG:Bool->Bool->Bool
 | true,true=>true
 | false,false=>true
 | _,_=>false
def A7(n:Nat)(u:Bool):Nat->Nk->List Fr->Aj->Tg
 | 0,_,_,_=> .bad
 | f+1, .code c,k,ρ=>match c with
  | .seq x y=>A7 n u f (.code x) (.seq y :: k) ρ
  | .block id x=>A7 n u f (.code x) (.block id :: k) ρ
  | .scope x=>A7 n u f (.code x) (.scope :: k) ρ
  | .skip=>A7 n u f .pop k ρ
  | .ret=> .ret ρ
  | .exit id=>match k with
   | []=> .bad
   | .block i :: k=>cond (Nat.beq id i) (A7 n u f .pop k ρ) (A7 n u f (.code (.exit id)) k ρ)
   | _ :: k=>A7 n u f (.code (.exit id)) k ρ
  | .region _ a d=>cond d (.code c k ρ) (A7 n u f (.ops a a.toList) k ρ)
  | c=> .code c k ρ
 | f+1, .pop,k,ρ=>match k with
  | []=> .ret ρ
  | .seq y :: k=>A7 n u f (.code y) k ρ
  | .fin K :: k=> .fin K k ρ
  | _ :: k=>A7 n u f .pop k ρ
 | f+1, .ops a l,k,ρ=>match l with
  | []=>A7 n u f .pop k ρ
  | o :: r=>cond (room n o.dst) (match o.guard with
   | some (g,want)=>cond u (match (a[g]?).bind (·.dst)with
    | some d=>match ρ d with
     | .bool b=>match YG b want with
      | true=>match o.op with
       | .move x=>A7 n u f (.ops a r) k (updO ρ o.dst (Ab ρ x))
       | .assign x=>A7 n u f (.ops a r) k (updO ρ o.dst (Ab ρ x))
       | _=> .op a { o with guard:=none } r k ρ
      | false=>A7 n u f (.ops a r) k (updO ρ o.dst undef)
     | _=> .op a o r k ρ
    | none=> .op a o r k ρ) (.op a o r k ρ)
   | none=>match o.op with
    | .move x=>A7 n u f (.ops a r) k (updO ρ o.dst (Ab ρ x))
    | .assign x=>A7 n u f (.ops a r) k (updO ρ o.dst (Ab ρ x))
    | _=> .op a o r k ρ) .bad
 | f+1, .mix l cs pf fl I r,k,ρ=>match r with
  | []=>A7 n u f .pop k ρ
  | i :: r=>match l[i]? with
   | none=> .bad
   | some o=>cond (A0 l o ρ) (cond (cs.contains i) (.chain l cs pf fl I i o r k ρ) (match o.op with
    | .move x=>A7 n u f (.mix l cs pf fl I r) k (updO ρ o.dst (Ab ρ x))
    | .assign x=>A7 n u f (.mix l cs pf fl I r) k (updO ρ o.dst (Ab ρ x))
    | _=> .still (cond (pf.contains i) .pure (cond (fl.contains i) .float .here)) l cs pf fl I i o r k ρ))
    (A7 n u f (.mix l cs pf fl I r) k (updO ρ o.dst undef))
def JK(P:AcY)(n:Nat)(Q:Bd)(k:List Fr)(ch:List PanicEntry)(w:AcE):Prop:=∀ρ,BY P n Q k (.panic ch) ρ w
def Nl(P:AcY)(n:Nat)(Q:Bd)(l:List AcW)(cs pf fl:List Nat)(I:AcE->Prop)(r:List Nat)(k:List Fr)(ρ:Aj)(w:AcE):Prop:=
 DF P l cs pf fl (JK P n Q k) (fun ρ w=>BY P n Q k .normal ρ w) r I ρ w
def AV(P:AcY)(n:Nat)(_:Bool)(Q:Bd)(w:AcE):Tg->Prop
 | .op a o r k ρ=>room n o.dst=true->BP P a n (BY P n Q k) (o :: r) ρ w
 | .code c k ρ=>B9 P n c (BY P n Q k) ρ w
 | .fin K _ ρ=>K ρ w
 | .chain l cs pf fl I i o r k ρ=>l[i]? =some o->A0 l o ρ=true->i∈cs->Nl P n Q l cs pf fl I (i :: r) k ρ w
 | .still κ l cs pf fl I i o r k ρ=>l[i]? =some o->A0 l o ρ=true->i∉cs->(match κ with | .pure=>Dp l pf i=true | .here=>Dp l pf i=false/\i∉fl | .float=>Dp l pf i=false/\i∈fl)->Nl P n Q l cs pf fl I (i :: r) k ρ w
 | .ret ρ=>Q .ret ρ w
 | .bad=>False
def CmdOk(P:AcY)(n:Nat)(Q:Bd)(w:AcE)(k:List Fr)(ρ:Aj):Nk->Prop
 | .code (.exit i)=>BY P n Q k (.exit i) ρ w
 | .code c=>B9 P n c (BY P n Q k) ρ w
 | .ops a l=>BP P a n (BY P n Q k) l ρ w
 | .pop=>BY P n Q k .normal ρ w
 | .mix l cs pf fl I r=>Nl P n Q l cs pf fl I r k ρ w
section
variable {P : AcY} {n : Nat} {u : Bool} {Q : Bd} {ρ : Aj} {w : AcE} {k : List Fr}
theorem FE:∀ {d:Option Tmp},room n d=true->(match d with | some d=>Nat.blt d n | none=>true)=true
 | some _,h=>h
 | none,_=>rfl
theorem CmdOk.wp{c:Code}(h:CmdOk P n Q w k ρ (.code c)):B9 P n c (BY P n Q k) ρ w:=by
 cases c with
 | exit i=>exact Ub h
 | _=>exact h
theorem LL{Q:Bd}{a:Array AcW}{dst:Option Tmp}{op:Op}{ty:AcK}{pos:String}{af:Array Adv}{r:List AcW}{g:Nat}{want:Bool}{d:Tmp}(hg:(a[g]?).bind (·.dst)=some d)(hv:ρ d = .bool want) 
  (h:BP P a n Q (⟨dst,op,ty,pos,af,none⟩ :: r) ρ w):BP P a n Q (⟨dst,op,ty,pos,af,some (g,want)⟩ :: r) ρ w:=fun c hc=>by
 have h1:=h c hc;have hw:Region.wanted ⟨dst,op,ty,pos,af,some (g,want)⟩ (yielded a c.tmps)=true:=by
  have:=Io ((hc.get d).trans hv);simp only[Region.wanted,yielded,hg];simp[this]
 unfold wpList at h1 ⊢;rw[if_pos hw];exact h1
theorem Bv:∀(f:Nat) (u:Bool) (c:Nk) (k:List Fr) (ρ:Aj),AV P n u Q w (A7 n u f c k ρ)->CmdOk P n Q w k ρ c
 | 0,u,c,k,ρ,h=>h.elim
 | f+1,u, .code c,k,ρ,h=>by
  match c,h with
  | .seq x y,h=>exact Pu (Bv f u (.code x) (.seq y :: k) ρ h).wp
  | .block id x,h=>exact RH (Bv f u (.code x) (.block id :: k) ρ h).wp
  | .scope x,h=>exact RI (Bv f u (.code x) (.scope :: k) ρ h).wp
  | .skip,h=>exact Gk (Bv f u .pop k ρ h)
  | .ret,h=>
   have:∀k,BY P n Q k .ret ρ w=Q .ret ρ w:=fun k=>by
    induction k with
    | nil=>rfl
    | cons x k ih=>cases x <;> exact ih
   exact Wg (by rw[this];exact h)
  | .exit id,h=>
   match k,h with
   | .block i :: k,h=>
    cases hb:Nat.beq id i with
    | true=>
     obtain rfl:=Nat.eq_of_beq_eq_true hb;unfold A7 at h;simp only[hb,cond_true]at h;exact Iu (Bv f u .pop k ρ h)
    | false=>
     unfold A7 at h;simp only[hb,cond_false]at h;exact MM hb (Bv f u (.code (.exit id)) k ρ h)
   | .seq y :: k,h=>exact Bv f u (.code (.exit id)) k ρ h
   | .scope :: k,h=>exact Bv f u (.code (.exit id)) k ρ h
   | .fin K :: k,h=>exact Bv f u (.code (.exit id)) k ρ h
  | .region id a d,h=>
   cases d with
   | true=>exact h
   | false=>exact wt (l:=a.toList) (Bv f u (.ops a a.toList) k ρ h)
  | .cond ..,h=>exact h
  | .loop ..,h=>exact h
  | .rangeFunc ..,h=>exact h
  | .label ..,h=>exact h
  | .goto ..,h=>exact h
  | .refuse ..,h=>exact h
 | f+1,u, .pop,k,ρ,h=>by
  match k,h with
  | [],h=>exact h
  | .seq y :: k,h=>exact(Bv f u (.code y) k ρ h).wp
  | .fin K :: k,h=>exact h
  | .block i :: k,h=>exact Bv f u .pop k ρ h
  | .scope :: k,h=>exact Bv f u .pop k ρ h
 | f+1,u, .ops a l,k,ρ,h=>by
  match l,h with
  | [],h=>exact oZ (Bv f u .pop k ρ h)
  | o :: r,h=>
   cases hr:room n o.dst with
   | false=>unfold A7 at h;simp only[hr,cond_false]at h;exact h.elim
   | true=>
    unfold A7 at h;simp only[hr,cond_true]at h;obtain⟨dst,op,ty,pos,af,gd⟩:=o;cases gd with
    | some g=>
     obtain⟨g,want⟩:=g;cases u with
     | false=>exact h hr
     | true=>
      cases hg:(a[g]?).bind (·.dst)with
      | none=>simp only[hg,cond_true]at h;exact h hr
      | some d=>
       simp only[hg,cond_true]at h;cases hv:ρ d with
       | bool b=>
        simp only[hv]at h;cases hb:YG b want with
        | true=>
         obtain rfl:b=want:=by cases b <;> cases want <;> first | rfl | cases hb
         simp only[hb]at h;refine LL hg hv ?_;cases op with
         | move x=>exact oS (FE hr) (AbT rfl (Bv f true (.ops a r) k _ h))
         | assign x=>exact oS (FE hr) (Ab6 rfl (Bv f true (.ops a r) k _ h))
         | _=>exact h hr
        | false=>
         simp only[hb]at h;exact oN rfl (FE hr) hg hv (by cases b <;> cases want <;> first | rfl | cases hb) (Bv f true (.ops a r) k _ h)
       | _=>simp only[hv]at h;exact h hr
    | none=>
     cases op with
     | move x=>exact oS (FE hr) (AbT rfl (Bv f u (.ops a r) k _ h))
     | assign x=>exact oS (FE hr) (Ab6 rfl (Bv f u (.ops a r) k _ h))
     | _=>exact h hr
 | f+1,u, .mix l cs pf fl I r,k,ρ,h=>by
  match r,h with
  | [],h=>exact Bv f u .pop k ρ h
  | i :: r,h=>
   cases ho:l[i]? with
   | none=>unfold A7 at h;simp only[ho]at h;exact h.elim
   | some o=>
    unfold A7 at h;simp only[ho]at h;cases hw:A0 l o ρ with
    | false=>
     simp only[hw,cond_false]at h;show DF _ _ _ _ _ _ _ _ _ _ _;unfold DF;rw[ho];simp only;rw[if_pos hw];exact Bv f u (.mix l cs pf fl I r) k _ h
    | true=>
     simp only[hw,cond_true]at h;cases hc:cs.contains i with
     | true=>simp only[hc,cond_true]at h;exact h ho hw (AdZ.1 hc)
     | false=>
      simp only[hc,cond_false]at h;have hc' :i∉cs:=fun x=>by rw[AdZ.2 x]at hc;cases hc
      have mv:∀(v:AcD),(∀w',Yk P (fun x w'' =>x=v/\w'' =w') ((execOp (Ab ρ) o).run P w'))->AV P n u Q w (A7 n u f (.mix l cs pf fl I r) k (updO ρ o.dst v))->Nl P n Q l cs pf fl I (i :: r) k ρ w:=fun v hv h=>by
       show DF _ _ _ _ _ _ _ _ _ _ _;unfold DF;rw[ho];simp only;rw[if_neg (by rw[hw];simp),if_neg hc'];exact⟨v,fun w' _=>hv w',Bv f u (.mix l cs pf fl I r) k _ h⟩
      have st:(match o.op with | .move _ | .assign _=>true | _=>false)=false->AV P n u Q w (.still (cond (pf.contains i) .pure (cond (fl.contains i) .float .here)) l cs pf fl I i o r k ρ)->Nl P n Q l cs pf fl I (i :: r) k ρ w:=fun hm h=>by
       refine h ho hw hc' ?_;cases hp:pf.contains i with
       | true=>show Dp l pf i=true;unfold Dp;rw[hp];rfl
       | false=>
        have hb:Dp l pf i=false:=by unfold Dp;rw[hp,ho];exact hm
        cases hf:fl.contains i with
        | true=>exact⟨hb,AdZ.1 hf⟩
        | false=>exact⟨hb,fun x=>by rw[AdZ.2 x]at hf;cases hf⟩
      obtain⟨dst,op,ty,pos,af,gd⟩:=o;cases op with
      | move x=>exact mv _ (fun w' =>AbT rfl ⟨rfl,rfl⟩) h
      | assign x=>exact mv _ (fun w' =>Ab6 rfl ⟨rfl,rfl⟩) h
      | _=>exact st rfl h
theorem adv_ok{u:Bool}(f:Nat)(c:Nk)(k:List Fr)(ρ:Aj)(h:AV P n u Q w (A7 n u f c k ρ)):CmdOk P n Q w k ρ c:=Bv f u c k ρ h
theorem Fy{ch:List PanicEntry}(h:Q (.panic ch) ρ w):∀k,BY P n Q k (.panic ch) ρ w
 | []=>h
 | x :: k=>by cases x <;> exact Fy h k
theorem gM{id:Nat}{l:List AcW}(ord cs pf fl:List Nat){I:AcE->Prop}(hm:P.follows .mixedOrders=true)(hg:Dn l n=true)(hb:E4 l cs pf fl ord=true)(hI:I w.drew) 
  (h:AV P n u Q w.drew (A7 n u 1000 (.mix l cs pf fl I ord) k ρ)):AV P n u Q w (.code (.region id l.toArray true) k ρ):=fun a ha=>by
 have h0:MInv P l cs pf fl ord n (JK P n Q k) (fun ρ w=>BY P n Q k .normal ρ w) [] ord I ρ (Array.replicate l.length false) a w.drew:=
  ⟨by simp,fun i o _ h=>absurd h ZE,ha.size,ha.defers,rfl,fun i _=>ZE,(fun i hi=>by cases hi),fun t _=>ha.get t,hI,adv_ok _ _ _ _ h⟩
 obtain⟨u',r',ρ',hp,hr⟩:=h0.place hb;exact wp_region_any hm (Pw hg hb _ _ _ _ u' r' I ρ' (by simp) hp hr)
theorem gM0{id:Nat}{l:List AcW}(ord cs pf:List Nat)(h:∀w1,Ext w w1->AV P n u Q w1 (A7 n u 1000 (.mix l cs pf [] (fun _=>True) ord) k ρ))(hm:P.follows .mixedOrders=true:=by kernel_rfl)(hg:Dn l n=true:=by kernel_rfl)(hb:E4 l cs pf [] ord=true:=by kernel_rfl):AV P n u Q w (.code (.region id l.toArray true) k ρ):=
 gM ord cs pf [] hm hg hb trivial (h _ (AdA _ _).drew)
theorem Fg{id:Nat}{l:List AcW}(ord cs pf fl:List Nat)(h:∀w1,Ext w w1->∃I:AcE->Prop,I w1/\AV P n u Q w1 (A7 n u 1000 (.mix l cs pf fl I ord) k ρ))(hm:P.follows .mixedOrders=true:=by kernel_rfl)(hg:Dn l n=true:=by kernel_rfl)(hb:E4 l cs pf fl ord=true:=by kernel_rfl):AV P n u Q w (.code (.region id l.toArray true) k ρ):=by
 obtain⟨I,hI,h⟩:=h _ (AdA _ _).drew;exact gM ord cs pf fl hm hg hb hI h
theorem RR{l:List AcW}{ord cs pf fl:List Nat}{g0:Nat}{o0:Obj}(b0:w.heap[g0]? =some o0)(h:AV P n u Q w (A7 n u 1000 (.mix l cs pf fl (fun w=>w.heap[g0]? =some o0/\True) ord) k ρ)):∃I:AcE->Prop,I w/\AV P n u Q w (A7 n u 1000 (.mix l cs pf fl I ord) k ρ):=⟨(fun w=>w.heap[g0]? =some o0/\True),⟨b0,trivial⟩,h⟩
theorem Fm{l:List AcW}{ord cs pf fl:List Nat}{x0:AcE}(a:Ext x0 w)(h:AV P n u Q w (A7 n u 1000 (.mix l cs pf fl (fun w=>Ext x0 w/\True) ord) k ρ)):∃I:AcE->Prop,I w/\AV P n u Q w (A7 n u 1000 (.mix l cs pf fl I ord) k ρ):=⟨(fun w=>Ext x0 w/\True),⟨a,trivial⟩,h⟩
section
variable {l : List AcW} {cs pf fl : List Nat} {I : AcE -> Prop} {i : Nat} {o : AcW} {r : List Nat} {κ : MK}
theorem E5{J:List PanicEntry->AcE->Prop}{K:Aj->AcE->Prop}(ho:l[i]? =some o)(hw:A0 l o ρ=true)(hc:i∈cs) 
  (h:Yp P (fun v w' =>∃I' :AcE->Prop,I' w' /\((∀x,I' x->I x)\/P9 l fl r i=true)/\DF P l cs pf fl J K r I' (updO ρ o.dst v) w') J ((execOp (Ab ρ) o).run P w)):DF P l cs pf fl J K (i :: r) I ρ w:=by
 unfold DF;rw[ho];simp only;rw[if_neg (by rw[hw];simp),if_pos hc];exact h
theorem Ek{J:List PanicEntry->AcE->Prop}{K:Aj->AcE->Prop}(ho:l[i]? =some o)(hw:A0 l o ρ=true)(hc:i∉cs) 
  (v:AcD) (hv:∀w',Ln l pf fl I w i w' ->Yk P (fun x w'' =>x=v/\w'' =w') ((execOp (Ab ρ) o).run P w')) (h:DF P l cs pf fl J K r I (updO ρ o.dst v) w):DF P l cs pf fl J K (i :: r) I ρ w:=by
 unfold DF;rw[ho];simp only;rw[if_neg (by rw[hw];simp),if_neg hc];exact⟨v,hv,h⟩
theorem zz{x:AcD}{w:AcE}:x=x/\w=w:=⟨rfl,rfl⟩
theorem yC(h:Yk P (fun v w' =>AV P n u Q w' (A7 n u 1000 (.mix l cs pf [] (fun _=>True) r) k (updO ρ o.dst v))) ((execOp (Ab ρ) o).run P w)):AV P n u Q w (.chain l cs pf [] I i o r k ρ):=fun ho hw hc=>
 E5 ho hw hc (.ofK (Acn h fun _ _ h=>⟨fun _=>True,trivial, .inr rfl,adv_ok _ _ _ _ h⟩))
theorem Px{fn:Func}{R:AeA->AcE->Prop}(h:Yp P (fun v w' =>AV P n u (Dc P fn R) w' (A7 n u 1000 (.mix l cs pf [] (fun _=>True) r) k (updO ρ o.dst v))) (fun ch w' =>Dc P fn R (.panic ch) ρ w') ((execOp (Ab ρ) o).run P w)):AV P n u (Dc P fn R) w (.chain l cs pf [] I i o r k ρ):=fun ho hw hc=>
 E5 ho hw hc (AaH h (fun _ _ h=>⟨fun _=>True,trivial, .inr rfl,adv_ok _ _ _ _ h⟩) fun _ _ h ρ' =>Fy (Ap (ρ:=ρ') h) _)
theorem yI(h:Yk P (fun v w' =>I w' /\AV P n u Q w' (A7 n u 1000 (.mix l cs pf fl I r) k (updO ρ o.dst v))) ((execOp (Ab ρ) o).run P w)):AV P n u Q w (.chain l cs pf fl I i o r k ρ):=fun ho hw hc=>
 E5 ho hw hc (.ofK (Acn h fun _ _ h=>⟨I,h.1, .inl fun _ h=>h,adv_ok _ _ _ _ h.2⟩))
theorem yE{w1:AcE}(h:Yk P (fun v w' =>Ext w1 w' /\AV P n u Q w' (A7 n u 1000 (.mix l cs pf fl (fun x=>Ext w' x/\True) r) k (updO ρ o.dst v))) ((execOp (Ab ρ) o).run P w)):AV P n u Q w (.chain l cs pf fl (fun x=>Ext w1 x/\True) i o r k ρ):=fun ho hw hc=>
 E5 ho hw hc (.ofK (Acn h fun _ w' h=>⟨fun x=>Ext w' x/\True,⟨AbN _,trivial⟩, .inl fun _ e=>⟨h.1.trans e.1,trivial⟩,adv_ok _ _ _ _ h.2⟩))
theorem yD(hc:P9 l fl r i=true)(h:Yk P (fun v w' =>AV P n u Q w' (A7 n u 1000 (.mix l cs pf fl (fun _=>True) r) k (updO ρ o.dst v))) ((execOp (Ab ρ) o).run P w)):AV P n u Q w (.chain l cs pf fl I i o r k ρ):=fun ho hw hi=>
 E5 ho hw hi (.ofK (Acn h fun _ _ h=>⟨fun _=>True,trivial, .inr hc,adv_ok _ _ _ _ h⟩))
theorem ys{v:AcD}(h:Yk P (fun x w'' =>x=v/\w'' =w) ((execOp (Ab ρ) o).run P w))(hn:AV P n u Q w (A7 n u 1000 (.mix l cs pf fl I r) k (updO ρ o.dst v))):AV P n u Q w (.still .here l cs pf fl I i o r k ρ):=fun ho hw hc hf=>
 Ek ho hw hc v (fun w' hw' =>by
  rcases hw' with hp | hw'
  ·rw[hf.1]at hp;cases hp
  ·rw[if_neg hf.2]at hw';subst hw';exact h) (adv_ok _ _ _ _ hn)
theorem yp{v:AcD}(h:∀ {w' :AcE},Yk P (fun x w'' =>x=v/\w'' =w') ((execOp (Ab ρ) o).run P w'))(hn:AV P n u Q w (A7 n u 1000 (.mix l cs pf fl I r) k (updO ρ o.dst v))):AV P n u Q w (.still κ l cs pf fl I i o r k ρ):=fun ho hw hc _=>
 Ek ho hw hc v (fun _ _=>h) (adv_ok _ _ _ _ hn)
theorem yf{v:AcD}(h:∀w',I w' ->Yk P (fun x w'' =>x=v/\w'' =w') ((execOp (Ab ρ) o).run P w'))(hn:AV P n u Q w (A7 n u 1000 (.mix l cs pf fl I r) k (updO ρ o.dst v))):AV P n u Q w (.still .float l cs pf fl I i o r k ρ):=fun ho hw hc hf=>
 Ek ho hw hc v (fun w' hw' =>by
  rcases hw' with hp | hw'
  ·rw[hf.1]at hp;cases hp
  ·rw[if_pos hf.2]at hw';exact h w' hw') (adv_ok _ _ _ _ hn)
theorem yA{dst:Option Tmp}{t:AcK}{x y:AcO}{ty:AcK}{pos:String}{af:Array Adv}{gd:Option (Nat × Bool)}(h:Yk P (fun v _=>AV P n u Q w (A7 n u 1000 (.mix l cs pf fl I r) k (updO ρ dst v))) ((execOp (Ab ρ) ⟨dst, .indexAddr t x y,ty,pos,af,gd⟩).run P w)):AV P n u Q w (.still κ l cs pf fl I i ⟨dst, .indexAddr t x y,ty,pos,af,gd⟩ r k ρ):=fun ho hw hc _=>by
 obtain⟨v,hn,hv⟩:=LK (.indexAt _ _ _) h;exact Ek ho hw hc v (fun w' _=>hv w') (adv_ok _ _ _ _ hn)
theorem yS{dst:Option Tmp}{t:AcK}{x:AcO}{lo hi mx:Option AcO}{ty:AcK}{pos:String}{af:Array Adv}{gd:Option (Nat × Bool)}(h:Yk P (fun v _=>AV P n u Q w (A7 n u 1000 (.mix l cs pf fl I r) k (updO ρ dst v))) ((execOp (Ab ρ) ⟨dst, .slice t x lo hi mx,ty,pos,af,gd⟩).run P w)):AV P n u Q w (.still κ l cs pf fl I i ⟨dst, .slice t x lo hi mx,ty,pos,af,gd⟩ r k ρ):=fun ho hw hc _=>by
 obtain⟨v,hn,hv⟩:=LK (.sliceAt _ _ _ _ _) h;exact Ek ho hw hc v (fun w' _=>hv w') (adv_ok _ _ _ _ hn)
theorem yF{dst:Option Tmp}{s:AcK}{f off m:Nat}{x:AcO}{ty:AcK}{pos:String}{af:Array Adv}{gd:Option (Nat × Bool)}{xs:List AcD}(hf:AC P s f off)(hp:PR xs (Ab ρ x) w) 
  (hn:∀v,PR ((xs.drop off).take m) v w->AV P n u Q w (A7 n u 1000 (.mix l cs pf fl I r) k (updO ρ dst v))):AV P n u Q w (.still κ l cs pf fl I i ⟨dst, .fieldAddr s x f,ty,pos,af,gd⟩ r k ρ):=fun ho hw hc _=>by
 obtain⟨b,o,hx,hr⟩:=hp;refine Ek ho hw hc (.pointer (some ⟨b,o+off,none⟩)) (fun w' _=>AbM hf hx ⟨rfl,rfl⟩) (adv_ok _ _ _ _ (hn _ ⟨b,o+off,rfl,fun j v hv=> ?_⟩));rw[AeI]at hv;split at hv
 ·rw[AeX]at hv;have:=hr _ _ hv;rw[<-Nat.add_assoc]at this;exact this
 ·cases hv
end
theorem gS{a:Array AcW}{dst:Option Tmp}{op:Op}{ty:AcK}{pos:String}{af:Array Adv}{r:List AcW} 
  (h:Yk P (fun v w' =>AV P n u Q w' (A7 n u 1000 (.ops a r) k (updO ρ dst v))) ((execOp (Ab ρ) ⟨dst,op,ty,pos,af,none⟩).run P w)):AV P n u Q w (.op a ⟨dst,op,ty,pos,af,none⟩ r k ρ):=fun hr=>
 oS (FE hr) (Acn h fun _ _ h=>adv_ok _ _ _ _ h)
theorem gP{a:Array AcW}{dst:Option Tmp}{op:Op}{ty:AcK}{pos:String}{af:Array Adv}{r:List AcW} 
  (h:Yp P (fun v w' =>AV P n u Q w' (A7 n u 1000 (.ops a r) k (updO ρ dst v))) (fun ch w' =>Q (.panic ch) ρ w') ((execOp (Ab ρ) ⟨dst,op,ty,pos,af,none⟩).run P w)):AV P n u Q w (.op a ⟨dst,op,ty,pos,af,none⟩ r k ρ):=fun hr=>by
 refine oP (FE hr) ?_
 revert h
 generalize (execOp (Ab ρ) ⟨dst,op,ty,pos,af,none⟩).run P w=x
 intro h
 match x,h with
 | .ok (.value v) w',h=>exact adv_ok _ _ _ _ h
 | .ok .skip w',h=>exact adv_ok _ _ _ _ h
 | .halt (.panic v) w',h=>exact Fy h _
 | .ok (.enter f args) w',h=>
  refine Calls.mono h ?_;intro e w'' hx
  match e,hx with
  | .returned v,hx=>exact adv_ok _ _ _ _ hx
  | .panicked ch,hx=>exact Fy hx _
theorem gY{a:Array AcW}{dst:Option Tmp}{op:Op}{ty:AcK}{pos:String}{af:Array Adv}{r:List AcW}{g:Nat}{want:Bool}{d:Tmp}(hg:(a[g]?).bind (·.dst)=some d)(hv:ρ d = .bool want) 
 (h:AV P n u Q w (A7 n u 1000 (.ops a (⟨dst,op,ty,pos,af,none⟩ :: r)) k ρ)):AV P n u Q w (.op a ⟨dst,op,ty,pos,af,some (g,want)⟩ r k ρ):=fun _=>LL hg hv (adv_ok _ _ _ _ h)
theorem gN{a:Array AcW}{o:AcW}{r:List AcW}{g:Nat}{want b:Bool}{d:Tmp}(hgd:o.guard=some (g,want))(hg:(a[g]?).bind (·.dst)=some d)(hv:ρ d = .bool b)(hb:(b==want)=false) 
 (h:AV P n u Q w (A7 n u 1000 (.ops a r) k (updO ρ o.dst undef))):AV P n u Q w (.op a o r k ρ):=fun hr=>oN hgd (FE hr) hg hv hb (adv_ok _ _ _ _ h)
theorem kB{f:Nat}{c:Nk}{d:Option Tmp}{b b' :Bool}(e:b=b')(h:AV P n u Q w (A7 n u f c k (updO ρ d (.bool b')))):AV P n u Q w (A7 n u f c k (updO ρ d (.bool b))):=e▸h
theorem kT{f:Nat}{c:Nk}{d:Option Tmp}{p:Prop}[Decidable p](e:p)(h:AV P n u Q w (A7 n u f c k (updO ρ d (.bool true)))):AV P n u Q w (A7 n u f c k (updO ρ d (.bool (decide p)))):=kB (decide_eq_true e) h
theorem kF{f:Nat}{c:Nk}{d:Option Tmp}{p:Prop}[Decidable p](e:¬p)(h:AV P n u Q w (A7 n u f c k (updO ρ d (.bool false)))):AV P n u Q w (A7 n u f c k (updO ρ d (.bool (decide p)))):=kB (decide_eq_false e) h
theorem gO{a:Array AcW}{o:AcW}{r:List AcW}(h:room n o.dst=true->BP P a n (BY P n Q k) (o :: r) ρ w):AV P n u Q w (.op a o r k ρ):=h
theorem gZ{a:Array AcW}{l:List AcW}(h:AV P n true Q w (A7 n true 1000 (.ops a l) k ρ)):BP P a n (BY P n Q k) l ρ w:=adv_ok _ _ _ _ h
theorem At{a:Array AcW}{l:List AcW}(h:AV P n false Q w (A7 n false 1000 (.ops a l) k ρ)):BP P a n (BY P n Q k) l ρ w:=adv_ok _ _ _ _ h
theorem gX(h:AV P n true Q w (A7 n true 1000 .pop k ρ)):BY P n Q k .normal ρ w:=adv_ok _ _ _ _ h
theorem YW(h:AV P n false Q w (A7 n false 1000 .pop k ρ)):BY P n Q k .normal ρ w:=adv_ok _ _ _ _ h
theorem gR{id:Nat}{a:Array AcW}(h:B9 P n (.region id a true) (BY P n Q k) ρ w):AV P n u Q w (.code (.region id a true) k ρ):=h
theorem cT{c:AcO}{x y:Code}(hc:Ab ρ c = .bool true)(h:AV P n u Q w (A7 n u 1000 (.code x) k ρ)):AV P n u Q w (.code (.cond c x y) k ρ):=Gl hc (adv_ok _ _ _ _ h).wp
theorem cF{c:AcO}{x y:Code}(hc:Ab ρ c = .bool false)(h:AV P n u Q w (A7 n u 1000 (.code y) k ρ)):AV P n u Q w (.code (.cond c x y) k ρ):=DZ hc (adv_ok _ _ _ _ h).wp
theorem cD{c:AcO}{x y:Code}{p:Prop}[Decidable p](hc:Ab ρ c = .bool (decide p))(h1:p->AV P n u Q w (A7 n u 1000 (.code x) k ρ))(h2:¬p->AV P n u Q w (A7 n u 1000 (.code y) k ρ)):AV P n u Q w (.code (.cond c x y) k ρ):=
 Uc p hc (fun h=>(adv_ok _ _ _ _ (h1 h)).wp) fun h=>(adv_ok _ _ _ _ (h2 h)).wp
theorem cB{c:AcO}{x y:Code}(b:Bool)(hc:Ab ρ c = .bool b)(h1:b=true->AV P n u Q w (A7 n u 1000 (.code x) k ρ))(h2:b=false->AV P n u Q w (A7 n u 1000 (.code y) k ρ)):AV P n u Q w (.code (.cond c x y) k ρ):=
 RF b hc (fun h=>(adv_ok _ _ _ _ (h1 h)).wp) fun h=>(adv_ok _ _ _ _ (h2 h)).wp
theorem gL{c:Code}(I:Aj->AcE->Prop)(μ:Aj->AcE->Nat)(h0:I ρ w) 
  (round:∀ρ w,I ρ w->AV P n u Q w (A7 n u 1000 (.code c) (.fin (fun ρ' w' =>I ρ' w' /\μ ρ' w' <μ ρ w) :: k) ρ)):AV P n u Q w (.code (.loop c) k ρ):=
 Ud I μ h0 fun ρ w hI=>(adv_ok _ _ _ _ (round ρ w hI)).wp
theorem gK{K:Aj->AcE->Prop}(h:K ρ w):AV P n u Q w (.fin K k ρ):=h
def RS:Nat->List Fr->Option (Code × List Fr)
 | 0, .seq y :: k=>some (y,k)
 | d+1,_ :: k=>RS d k
 | _,_=>none
theorem gJ{a:Array AcW}{o:AcW}{r:List AcW}(I:Aj->AcE->Prop)(d:Nat){y:Code}{k2:List Fr}(_:RS d k=some (y,k2))(hJ:∀ρ w,I ρ w->AV P n u Q w (A7 n u 1000 (.code y) k2 ρ)) 
 (h:(∀ρ w,I ρ w->AV P n u Q w (A7 n u 1000 (.code y) k2 ρ))->AV P n u Q w (.op a o r k ρ)):AV P n u Q w (.op a o r k ρ):=h hJ
def M2(l:List AcD):Aj:=fun t=>l.getD t undef
theorem gG{f:FuncId}{fn:Func}{c:Code}{args:List AcD}{R:AeA->AcE->Prop}(hf:P.funcs[f]? =some fn)(hb:fn.body=some c)(m:Nat)(hm:fn.ntmps=m)(hn:Nat.ble args.length m=true) 
  (h:AV P m true (Dc P fn R) w (A7 m true 1000 (.code c) [] (M2 args))):Calls P f args.toArray w R:=
 Iy hf hb m hm (AcP hn) fun ρ hB=>by
  obtain rfl:ρ=M2 args:=funext hB.get;refine wpF_mono (adv_ok _ _ _ _ h).wp fun e ρ w hx=> ?_;cases e <;> exact hx
theorem F2{f:FuncId}{fn:Func}{c:Code}{args:List AcD}{R:AeA->AcE->Prop}(hf:P.funcs[f]? =some fn)(hb:fn.body=some c)(m:Nat)(hm:fn.ntmps=m)(hn:Nat.ble args.length m=true) 
  (h:AV P m false (Dc P fn R) w (A7 m false 1000 (.code c) [] (M2 args))):Calls P f args.toArray w R:=
 Iy hf hb m hm (AcP hn) fun ρ hB=>by
  obtain rfl:ρ=M2 args:=funext hB.get;refine wpF_mono (adv_ok _ _ _ _ h).wp fun e ρ w hx=> ?_;cases e <;> exact hx
theorem Gm{fn:Func}{R:AeA->AcE->Prop}(hrs:fn.results = #[])(hR:R (.returned (.tuple #[])) w):AV P n u (Dc P fn R) w (.ret ρ):=ER [] hrs [] _ rfl trivial hR
theorem AE{fn:Func}{R:AeA->AcE->Prop}{t:Tmp}{v:AcD}(hrs:fn.results = #[.tmp t])(h:ρ t=v)(hR:R (.returned v) w):AV P n u (Dc P fn R) w (.ret ρ):=ER [.tmp t] hrs [v] v rfl ⟨h,trivial⟩ hR
theorem DX{fn:Func}{R:AeA->AcE->Prop}{t t2:Tmp}{v x:AcD}(hrs:fn.results = #[.tmp t, .tmp t2])(h:ρ t=v)(hx:ρ t2=x)(hR:R (.returned (.tuple #[v,x])) w):AV P n u (Dc P fn R) w (.ret ρ):=ER [.tmp t, .tmp t2] hrs [v,x] _ rfl ⟨h,hx,trivial⟩ hR
theorem Ku{fn:Func}{R:AeA->AcE->Prop}{t t2 t3:Tmp}{v x z:AcD}(hrs:fn.results = #[.tmp t, .tmp t2, .tmp t3])(h:ρ t=v)(hx:ρ t2=x)(hz:ρ t3=z)(hR:R (.returned (.tuple #[v,x,z])) w):AV P n u (Dc P fn R) w (.ret ρ):=ER [.tmp t, .tmp t2, .tmp t3] hrs [v,x,z] _ rfl ⟨h,hx,hz,trivial⟩ hR
theorem Ig{fn:Func}{R:AeA->AcE->Prop}{r:ResultVar}{v:AcD}(hrs:fn.results = #[r])(h:ResF P ρ w r v)(hR:R (.returned v) w):AV P n u (Dc P fn R) w (.ret ρ):=ER [r] hrs [v] v rfl ⟨h,trivial⟩ hR
theorem VX{fn:Func}{R:AeA->AcE->Prop}{r r2:ResultVar}{v x:AcD}(hrs:fn.results = #[r,r2])(h:ResF P ρ w r v)(hx:ResF P ρ w r2 x)(hR:R (.returned (.tuple #[v,x])) w):AV P n u (Dc P fn R) w (.ret ρ):=ER [r,r2] hrs [v,x] _ rfl ⟨h,hx,trivial⟩ hR
end
structure Ew {α : Type} (P : AcY) (t : AcK) (enc : α -> List AcD) : Prop where
 ty:∃fs,P.underlying t=some (.struct fs)
 sz:∀x,(P.info? t).map (·.size)=some (enc x).toArray.size
section
variable {P : AcY} {K : AcD -> AcE -> Prop} {ρ : Aj} {w : AcE} {d : Option Tmp} {ty : AcK} {pos : String} {af : Array Adv} {gd : Option (Nat × Bool)} {α : Type} {enc : α -> List AcD} {t : AcK} {p q : AcO} {g : Nat} {a b : α}
theorem Zr{fr:Nat × Nat}(hT:Ew P t enc)(hx:Ab ρ p = .pointer (some ⟨g,0,none⟩))(hg:w.heap[g]? =some (.cells (enc a).toArray t fr))(hk:K (.agg (enc a).toArray) w):Yk P K ((execOp (Ab ρ) ⟨d, .load t p,ty,pos,af,gd⟩).run P w):=by
 obtain⟨fs,h⟩:=hT.ty;exact ZC hx hg h rfl (hT.sz a) hk
theorem Zj(hT:Ew P t enc)(hx:Ab ρ p = .pointer (some ⟨g,0,none⟩))(hy:Ab ρ q = .agg (enc a).toArray)(hg:w.heap[g]? =some (.cells (enc b).toArray t (0,0)))(h1:∀v∈(enc a).toArray.toList,v.oneCell' =true) 
  (hk:∀w',w'.heap[g]? =some (.cells (enc a).toArray t (0,0))->w.grownBy w' (some g)->w'.heap.size=w.heap.size->K undef w'):Yk P K ((execOp (Ab ρ) ⟨d, .store t p q,ty,pos,af,gd⟩).run P w):=
 Zl hx hy hg (Ac9 ((hT.sz a).symm.trans (hT.sz b))) (hT.sz a) h1 hk
end
theorem EJ(n:Nat)(h:n<2147483648):IntKind.i32.wrap (n:Int)=(n:Int):=IntWalk.i32_in _ ⟨by omega,by omega⟩
theorem Xt(t:AcK)(a b:Nat)(ha:a<2147483648)(hb:b<2147483648):Ado .or t (.int .i32 (a:Int)) (.int .i32 (b:Int))=pure (.int .i32 ((a|||b:Nat):Int)):=by
 unfold Ado
 simp only[ne_eq,not_true_eq_false,if_false,Op.intBits,IntKind.bits,BitVec.ofInt_natCast];have h1:(Aff 32 a|||Aff 32 b).toNat=a|||b:=by
  rw[BitVec.toNat_or,AfT,AfT,Af1 (by omega),Af1 (by omega)]
 show pure (AeY .i32 (IntKind.i32.wrap (((Aff 32 a|||Aff 32 b).toNat:Nat):Int)))=_;rw[h1,EJ _ (Nat.or_lt_two_pow (n:=31) ha hb)]
theorem Wm(t:AcK)(a:Nat)(j:AdV)(n:Nat)(hn:n<32)(h:a*2^n<2147483648):Ado .shl t (.int .i32 (a:Int)) (.int j (n:Int))=pure (.int .i32 ((a*2^n:Nat):Int)):=by
 unfold Ado
 simp only[Op.shift,IntKind.bits];rw[if_neg (by omega),Ac8,Afo (by omega)];have:(a:Int)*2^n=((a*2^n:Nat):Int):=by simp
 rw[this,EJ _ h]
/-! ### A string, rune by rune -/
theorem Kv{w:AcE}{g p:Nat}{s:ByteArray}(h:w.heap[g]? =some (.stringIter s p)):w.iterPos g=p:=by simp[World.iterPos,h]
theorem Kw(l:Aib):(⟨l.toArray⟩:ByteArray).size=l.length:=by show l.toArray.size=_;simp
theorem Wn(s:ByteArray)(p:Nat)(h:p<s.size):1<=(Utf8.decode s p).2:=by
 by_cases hc:(s[p]'h).toNat<128
 ·rw[decode_ascii s p h hc];exact AcI 1
 ·exact(decode_high s p h (by omega)).2
section
variable {P : AcY} {K : AcD -> AcE -> Prop} {ρ : Aj} {w : AcE} {d : Option Tmp} {ty : AcK} {pos : String} {af : Array Adv} {gd : Option (Nat × Bool)}
theorem Abb{t:AcK}(ht:P.underlying t=some .string){x:AcO}{l:Aib}(hx:Ab ρ x=St l) 
  (hk:∀n w',w.heap.size=n->w'.heap[n]? =some (.stringIter ⟨l.toArray⟩ 0)->Ext w w' ->w'.heap.size=n+1->K (.pointer (some ⟨n,0,none⟩)) w'):Yk P K ((execOp (Ab ρ) ⟨d, .range t x,ty,pos,af,gd⟩).run P w):=by
 have hr:(execOp (Ab ρ) ⟨d, .range t x,ty,pos,af,gd⟩).run P w = .ok (.value (.pointer (some ⟨w.heap.size,0,none⟩))) (w.iter ⟨l.toArray⟩ 0):=by
  unfold execOp;simp only[hx,AcN,show(Instr.range t (St l)).run P w=_ from run_range_string w t _ ht,AcM,AcR]
 rw[hr];exact hk _ _ rfl (World.iter_heap _ _ _) ((AdA _ _).alloc (AcI _) _) (by simp[World.iter])
theorem Abo{x:AcO}{g:Nat}{l:Aib}{p:Nat}(hx:Ab ρ x = .pointer (some ⟨g,0,none⟩))(hg:w.heap[g]? =some (.stringIter ⟨l.toArray⟩ p))(hp:p<l.length) 
  (hk:∀q r w',p<q->w'.heap[g]? =some (.stringIter ⟨l.toArray⟩ q)->w.grownBy w' (some g)->w'.heap.size=w.heap.size->K (.tuple #[.bool true,NI p, .int .i32 ((r:Nat):Int)]) w'):Yk P K ((execOp (Ab ρ) ⟨d, .next x true,ty,pos,af,gd⟩).run P w):=by
 have hlt:p<(⟨l.toArray⟩:ByteArray).size:=by rw[Kw];exact hp
 have hr:(AfF (.pointer (some ⟨g,0,none⟩)) true ty).run P w = .ok (.tuple #[.bool true,NI p, .int .i32 ((Utf8.decode ⟨l.toArray⟩ p).1:Nat)]) { w with heap:=w.heap.setIfInBounds g (.stringIter ⟨l.toArray⟩ (p+(Utf8.decode ⟨l.toArray⟩ p).2)) } :=by
  simp only[AfF,getObj,setObj,AcN,Sem.run,hg,Adw,hlt,if_true];simp[goInt,NI]
 unfold execOp;simp only[hx,hr,AcN,AcM,AcR];have hb:=(Adr.1 hg).1;refine hk _ _ _ (Nat.lt_add_of_pos_right (Wn _ _ hlt)) ?_ ⟨rfl,rfl,rfl,by simp,fun k _ hk=> ?_⟩ (by simp)
 ·simp[hb]
 ·exact Array.getElem?_setIfInBounds_ne (fun e=>hk (by rw[e]))
theorem Abc{x:AcO}{g:Nat}{l:Aib}{p:Nat}(hx:Ab ρ x = .pointer (some ⟨g,0,none⟩))(hg:w.heap[g]? =some (.stringIter ⟨l.toArray⟩ p))(hp:¬p<l.length) 
  (hk:K (.tuple #[.bool false]) w):Yk P K ((execOp (Ab ρ) ⟨d, .next x true,ty,pos,af,gd⟩).run P w):=by
 have hlt:¬p<(⟨l.toArray⟩:ByteArray).size:=by rw[Kw];exact hp
 have hr:(AfF (.pointer (some ⟨g,0,none⟩)) true ty).run P w = .ok (.tuple #[.bool false]) w:=by
  simp[AfF,getObj,Sem.run,hg,hlt]
 unfold execOp;simp only[hx,hr,AcN,AcM,AcR];exact hk
end
/-! ### Is it a text? -/
def Dq(c:UInt8):Option (Nat × Nat × Nat):=
 if c.toNat<128 then some (0,c.toNat,0)else if 192<=c.toNat/\c.toNat<224 then some (1,c.toNat&&&31,128)
 else if 224<=c.toNat/\c.toNat<240 then some (2,c.toNat&&&15,2048)else if 240<=c.toNat/\c.toNat<248 then some (3,c.toNat&&&7,65536)else none
def Fz(l:Aib)(p:Nat):Nat->Nat->Option Nat
 | 0,r=>some r
 | k+1,r=>if(l.getD p 0).toNat&&&192≠128 then none else Fz l (p+1) k (r*2^6|||((l.getD p 0).toNat&&&63))
def Nn(r:Nat):Bool:=(decide (0<=r)&&decide (r<=1114111))&&(decide (r<55296)||decide (57343<r))
def Et(l:Aib)(a:Nat):Option Nat:=
 match Dq (l.getD a 0)with
 | none=>none
 | some (n,r,m)=>if l.length-a<=n then none else
  match Fz l (a+1) n r with
  | none=>none
  | some q=>if m<=q/\Nn q=true then some (a+n+1)else none
def Yh(o:Option (Nat × Nat × Nat)):AcD:=match o with
 | none=> .tuple #[.int .i64 (-1), .int .i32 0, .int .i32 0]
 | some (n,r,m)=> .tuple #[NI n, .int .i32 (r:Int), .int .i32 (m:Int)]
theorem RT{l:Aib}{p i n q:Nat}(hi:i<n)(h:(l.getD (p+i) 0).toNat&&&192≠128):Fz l (p+i) (n-i) q=none:=by
 rw[show n-i=(n-i-1)+1 by omega];exact if_pos h
theorem Qa{l:Aib}{p i n q:Nat}(hi:i<n)(h:(l.getD (p+i) 0).toNat&&&192=128):Fz l (p+i) (n-i) q=Fz l (p+(i+1)) (n-(i+1)) (q*2^6|||((l.getD (p+i) 0).toNat&&&63)):=by
 rw[show n-i=(n-(i+1))+1 by omega];exact if_neg (fun e=>e h)
theorem OR{q i c:Nat}(h:q<2^(7+6*i)):q*2^6|||(c&&&63)<2^(7+6*(i+1)):=by
 refine Nat.or_lt_two_pow ?_ (AeJ AeH ?_)
 ·rw[show 7+6*(i+1)=(7+6*i)+6 by omega,Nat.pow_add];exact Nat.mul_lt_mul_of_pos_right h (by decide)
 ·exact Nat.lt_of_lt_of_le (show 63<2^7 by decide) (Aes (by decide) (by omega))
theorem Js{q i n:Nat}(h:q<2^(7+6*i))(hi:i<n)(hn:n<=3):q*2^6<2147483648:=by
 have:2^(7+6*i)<=2^19:=Aes (by decide) (by omega);omega
theorem VY(c:Nat):c&&&63<2147483648:=AeJ AeH (by decide)
theorem RU{l:Aib}{a:Nat}(h:Dq (l.getD a 0)=none):Et l a=none:=by unfold Et;rw[h]
theorem Qb{l:Aib}{a n r m:Nat}(h:Dq (l.getD a 0)=some (n,r,m))(hs:l.length-a<=n):Et l a=none:=by unfold Et;rw[h];exact if_pos hs
theorem Uf{l:Aib}{a n r m:Nat}(h:Dq (l.getD a 0)=some (n,r,m))(ht:Fz l (a+1) n r=none):Et l a=none:=by
 unfold Et;rw[h];simp only[ht];exact ite_self _
theorem Wo{l:Aib}{a n r m q:Nat}(h:Dq (l.getD a 0)=some (n,r,m))(hs:¬l.length-a<=n)(ht:Fz l (a+1) n r=some q):Et l a=if(decide (m<=q)&&Nn q)=true then some (a+n+1)else none:=by
 unfold Et;rw[h];simp only[ht,if_neg hs,Bool.and_eq_true,decide_eq_true_eq]
theorem Lo{l:Aib}{a b:Nat}(h:Et l a=some b):a<b/\b<=l.length:=by
 unfold Et at h;split at h
 ·cases h
 ·split at h
  ·cases h
  ·split at h
   ·cases h
   ·split at h
    ·cases h;omega
    ·cases h
def Eu(l:Aib)(a:Nat):Bool:=
 if a<l.length then
  match _h:Et l a with
  | none=>false
  | some b=>Eu l b
 else true
termination_by l.length-a
decreasing_by have:=Lo (by assumption);omega
theorem JW{l:Aib}{a:Nat}(h:¬a<l.length):Eu l a=true:=by rw[Eu,if_neg h]
theorem RV{l:Aib}{a:Nat}(ha:a<l.length)(h:Et l a=none):Eu l a=false:=by
 rw[Eu,if_pos ha];split
 ·rfl
 ·rename_i h2;rw[h]at h2;cases h2
theorem LM{l:Aib}{a b:Nat}(ha:a<l.length)(h:Et l a=some b):Eu l a=Eu l b:=by
 rw[Eu,if_pos ha];split
 ·rename_i h2;rw[h]at h2;cases h2
 ·rename_i h2;rw[h]at h2;cases h2;rfl
def Cm(l:Aib):Bool:=decide (l.length<=256)&&Eu l 0
theorem Qc{c:UInt8}{n r m:Nat}(h:Dq c=some (n,r,m)):n<=3/\r<2^7/\(0<n->r<2^5)/\m<=65536:=by
 have hm:c.toNat&&&31<=31/\c.toNat&&&15<=15/\c.toNat&&&7<=7:=⟨AeH,AeH,AeH⟩;unfold Dq at h;split at h
 ·cases h;omega
 ·split at h
  ·cases h;omega
  ·split at h
   ·cases h;omega
   ·split at h
    ·cases h;omega
    ·cases h
def AS(k:Nat):Aib->Option (Nat × Nat)
 | []=>none
 | c :: r=>if 128<=c.toNat then(if 8<=k then none else(AS (k+1) r).map (fun x=>(c.toNat-128+128*x.1,x.2+1)))
  else if c.toNat=0/\0<k then none else some (c.toNat,1)
theorem HE:∀(l:Aib) (k:Nat) (x:Nat × Nat),AS k l=some x->1<=x.2/\x.2<=l.length/\x.2+k<=max 9 (k+1)
 | [],k,x,h=>by simp[AS]at h
 | c :: r,k,x,h=>by
  unfold AS at h;split at h
  ·split at h
   ·cases h
   ·obtain⟨y,hy,rfl⟩:=AeC.1 h;have:=HE r (k+1) y hy;simp;omega
  ·split at h
   ·cases h
   ·cases h;simp;omega
theorem LN:∀(l:Aib) (k:Nat) (x:Nat × Nat),AS k l=some x->x.1<128^x.2
 | [],k,x,h=>by simp[AS]at h
 | c :: r,k,x,h=>by
  unfold AS at h;split at h
  ·split at h
   ·cases h
   ·obtain⟨y,hy,rfl⟩:=AeC.1 h;have:=LN r (k+1) y hy;have hc:=c.toNat_lt;simp only[Nat.pow_succ];omega
  ·split at h
   ·cases h
   ·cases h;simp;omega
theorem El(rest:Aib):∀(m n k:Nat),n<128^(m+1)->m+k<=8->(0<k->0<n)->AS k (Ac6 n++rest)=some (n,(Ac6 n).length)
 | m,n,k,hn,hk,h0=>by
  by_cases h:n<128
  ·rw[Lib.uvarint_small h];have:(n.toUInt8).toNat=n:=by simp[Nat.toUInt8,UInt8.toNat_ofNat'];omega
   simp only[Ade,AS,this];rw[if_neg (by omega),if_neg (by omega)];simp
  ·have hb:((n%128+128).toUInt8).toNat=n%128+128:=by simp[Nat.toUInt8,UInt8.toNat_ofNat'];omega
   rw[Lib.uvarint_big (by omega)];simp only[Ade,AS,hb]
   match m,hn,hk with
   | 0,hn,_=>simp at hn;omega
   | m+1,hn,hk=>
    rw[if_pos (by omega),if_neg (by omega),El rest m (n/128) (k+1) (by rw[Nat.pow_succ]at hn;exact Nat.div_lt_of_lt_mul (by rw[AgP];exact hn)) (by omega) (fun _=>by omega)];simp;omega
theorem Qd:∀w' :AcE,(sizeOf 5).run AcF w' = .ok 1 w' :=fun _=>by kernel_rfl
def Ex(a:Nat):Option (Nat × Nat)->AcD
 | some x=> .tuple #[.int .i64 x.1, .int .i64 ↑(a+x.2), .int .i64 0]
 | none=> .tuple #[.int .i64 0, .int .i64 0, .int .i64 6]
theorem HF(y k:Nat)(hy:y<128)(hk:k<=8):IntKind.u64.wrap ((y:Int)*2^(7*k))=((y*2^(7*k):Nat):Int):=by
 have h1:y*2^(7*k)<=127*2^56:=Agl (by omega) (Aes (by decide) (by omega));have e:((y:Int)*2^(7*k))=((y*2^(7*k):Nat):Int):=by push_cast;rfl
 rw[e];exact IntWalk.u64_in _ ⟨by omega,by omega⟩
theorem No(out y k:Nat)(hout:out<2^(7*k))(hy:y<128)(hk:k<=8):bits .or .u64 (out:Int) ((y*2^(7*k):Nat):Int)=((out+2^(7*k)*y:Nat):Int):=by
 have h1:y*2^(7*k)<=127*2^56:=Agl (by omega) (Aes (by decide) (by omega));have h2:2^(7*k)<=2^56:=Aes (by decide) (by omega);have h:=(bits_nat .u64 64 (by decide) wraps_u64 out (y*2^(7*k)) (by omega) (by omega)).2;rw[h]
 congr 1
 have h3:=Nat.shiftLeft_add_eq_or_of_lt hout y;rw[Nat.shiftLeft_eq]at h3;rw[Nat.or_comm,<-h3,AgP];omega
set_option maxRecDepth 100000 in
theorem Qe:∀n:Fin 128,bits .andNot .u8 ((n.val+128:Nat):Int) 128=(n.val:Int):=by decide+kernel
theorem Np(c:Nat)(h:128<=c)(h2:c<256):IntKind.u64.wrap (bits .andNot .u8 (c:Int) 128)=((c-128:Nat):Int):=by
 have h1:=Qe ⟨c-128,by omega⟩;have e:c-128+128=c:=by omega
 simp only[e]at h1;rw[h1];exact IntWalk.u64_in _ ⟨by omega,by omega⟩
theorem Nq(out y k:Nat)(hout:out<2^(7*k))(hy:y<128)(hk:k<=8):out+2^(7*k)*y<=9223372036854775807:=by
 have h1:2^(7*k)*y<=2^56*127:=Agl (Aes (by decide) (by omega)) (by omega);have h2:2^(7*k)<=2^56:=Aes (by decide) (by omega);omega
theorem RW(a k N c:Nat)(h:N+2^(7*k)*c<=9223372036854775807):
  Aed (.tuple #[.int .i64 (wrap64 ((N+2^(7*k)*c:Nat):Int)), .int .i64 ((a:Int)+(k:Int)+1), .int .i64 0]) = .returned (Ex a ((some (c,1)).map fun x=>(N+2^(7*k)*x.1,x.2+k))):=by
 rw[IntWalk.wrap64_in _ ⟨by omega,by omega⟩];have e:(a:Int)+(k:Int)+1=((a+(1+k):Nat):Int):=by omega
 rw[e];rfl
set_option maxRecDepth 100000 in
set_option maxHeartbeats 1000000 in
theorem Hk(w:AcE)(v:AcD)(l:Aib)(hr:RB w v l)(a:Nat)(ha:a<=l.length):
  Calls AcF 121 #[v, .int .i64 a] w fun e w' =>e = .returned (Ex a (AS 0 (l.drop a)))/\w=w' :=by
 have HR:=Aen hr;obtain⟨ao,cap,rfl,h2,h3⟩:=hr.len;clear hr;have hd:decide ((a:Int)<0)=false:=by simp
 have hd2:decide (l.length<a)=false:=by simp;omega
 obtain⟨L,hL⟩:∃L,L=l.drop a:=⟨_,rfl⟩;have hLn:l.length-a=L.length:=by rw[hL,Ac5]
 rw[<-hL];have HLn:=Aen hLn;have HL:=Aen hL;clear hLn hL
 go_enter AhT,AhF
 go_wp2_with fail
 go_step3
 go_wp2_with fail
 go_step3
 go_wp2_with (refine G5 (o:=⟨some 21,_,_,_,_,_⟩) rfl _ _ (some _) none rfl G8 Qd _ l rfl HR.out a l.length ha (AcI _) (.inr ⟨.i64,rfl⟩) (.inl ⟨rfl,rfl⟩) ?_)
 intro ao' c' hr';rw[Adj (by rw[Ac5];exact AcI _)]at hr';have HR' :=Aen hr';clear hr' hd hd2;rw[<-HL.out,HLn.out]at HR';rw[HLn.out];by_cases g:L.length=0
 ·have hL0:L= []:=AdB g;have HL0:=Aen hL0;clear hL0 HR' HR;have h00:decide (0<L.length)=false:=by simp[g]
  clear g
  go_wp2_with fail
  refine wp_loop_rounds 1 ?_;rw[rounds_succ]
  go_wp2
  rw[Exit.noGoto_ret]
  all_goals (go_ret3;exact⟨by rw[HL0.out];simp[AS,Ex],rfl⟩)
 obtain⟨b,off,cc,hv,hcap,hcap2,hbw,hcell⟩:=HR'.out.open_ (by omega);simp only[Value.slice.injEq,true_and]at hv;obtain⟨rfl,rfl⟩:=hv;have haL:a+L.length<=9223372036854775807:=by have:=HLn.out;omega
 clear HR' HR
 go_wp2_with fail
 go_loop [7,8,23] (fun vx vs vi=>∃k out:Nat,vi = .int .i64 k/\vs = .int .i64 ((7*k:Nat):Int)/\vx = .int .u64 out/\k<=L.length/\k<=8/\out<2^(7*k)/\AS 0 L=(AS k (L.drop k)).map (fun x=>(out+2^(7*k)*x.1,x.2+k)))
  (fun _ _ vi=>L.length-(intOf vi).toNat)
 case atStart=>exact⟨0,0,rfl,rfl,rfl,by omega,by omega,by decide,by simp⟩
 case round=>
  obtain⟨k,out,rfl,rfl,rfl,hk,f,hout,hdec⟩:=hrel;have HD:=Aen hdec;clear hdec;by_cases hkl:k<L.length
  ·have hc:=hcell k hkl;have hdrop:L.drop k=L[k] :: L.drop (k+1):=Aew hkl;have hg:L.getD k 0=L[k]:=by simp[hkl]
   rw[hg]at hc
   generalize L[k]=c at hc hdrop
   have HDr:=Aen hdrop;have i:=c.toNat_lt;clear hcell hdrop hg;have HO:=Aen hout;clear hout;by_cases h128:128<=c.toNat
   ·by_cases hk8' :k=8
    ·subst hk8'
     go_wp2
     all_goals (go_ret3;exact⟨by rw[HD.out,HDr.out];simp[AS,h128,Ex],rfl⟩)
    ·have m:k<8:=by omega
     clear hk8'
     go_wp2
     go_round
     case rel=>
      have hp:2^(7*(k+1))=2^(7*k)*128:=by rw[show 7*(k+1)=7*k+7 from by omega,Nat.pow_add]
      refine⟨k+1,out+2^(7*k)*(c.toNat-128),by go_num,by go_num,?_,by omega,by omega,?_,?_⟩
      ·rw[Np _ h128 i,HF _ _ (by omega) (by omega),No _ _ _ HO.out (by omega) (by omega)]
      ·have h1:=HO.out;have h2:2^(7*k)*(c.toNat-128)<=2^(7*k)*127:=Nat.mul_le_mul_left _ (by omega);rw[hp];omega
      ·rw[HD.out,HDr.out];have:AS k (c :: L.drop (k+1))=(AS (k+1) (L.drop (k+1))).map (fun x=>(c.toNat-128+128*x.1,x.2+1)):=by
        simp only[AS];rw[if_pos h128,if_neg (by omega)]
       rw[this,Option.map_map]
       congr 1
       funext x
       simp only[Function.comp,Prod.mk.injEq];refine⟨?_,by omega⟩;rw[hp,Nat.mul_add,Nat.mul_assoc];omega
     case measure=>simp[intOf];omega
   ·have hlt:c.toNat<128:=by omega
    by_cases h0:c.toNat=0
    ·have hz:((c.toNat:Int)==0)=true:=by simp[h0]
     have HZ:=Aen h0;clear h0;by_cases h:0<k
     ·go_wp2
      all_goals (go_ret3;exact⟨by rw[HD.out,HDr.out];simp[AS,HZ.out,h,Ex],rfl⟩)
     ·have j:decide (0<k)=false:=by simp;omega
      clear h;have hd:AS k (c :: L.drop (k+1))=some (c.toNat,1):=by
       simp only[AS];rw[if_neg h128,if_neg (by simp at j;omega)]
      have HD2:=Aen hd;clear hd
      go_wp2
      all_goals go_ret3
      all_goals refine⟨?_,rfl⟩
      all_goals rw[HF _ _ hlt f,No _ _ _ HO.out hlt f,HD.out,HDr.out,HD2.out]
      all_goals exact RW a k _ _ (Nq _ _ _ HO.out hlt f)
    ·have hz:((c.toNat:Int)==0)=false:=by simp[h0]
     have HZ:=Aen h0;clear h0;have hd:AS k (c :: L.drop (k+1))=some (c.toNat,1):=by
      simp only[AS];rw[if_neg h128,if_neg (by have:=HZ.out;omega)]
     have HD2:=Aen hd;clear hd
     go_wp2
     all_goals go_ret3
     all_goals refine⟨?_,rfl⟩
     all_goals rw[HF _ _ hlt f,No _ _ _ HO.out hlt f,HD.out,HDr.out,HD2.out]
     all_goals exact RW a k _ _ (Nq _ _ _ HO.out hlt f)
  ·have hkl' :k=L.length:=by omega
   go_wp2
   all_goals (go_ret3;exact⟨by rw[HD.out,hkl'];simp[AS,Ex],rfl⟩)
theorem u5:Tryz.prog.underlying 5=some (.int .u8):=by kernel_rfl

theorem YP(w:AcE)(ao:Option Addr)(n c:Nat)(a:Int)(ha:a<0\/(n:Int)<a):
  Calls AcF 121 #[.slice ao n c, .int .i64 a] w fun e w' =>e = .returned (.tuple #[.int .i64 0, .int .i64 0, .int .i64 1])/\w=w' :=by
 by_cases h0:a<0
 ·have hd:decide (a<0)=true:=by simp[h0]
  clear ha
  go_enter AhT,AhF
  go_wp2_with fail
  go_step3
  go_wp2_with fail
  rw[Exit.noGoto_ret]
  go_ret3
  exact⟨rfl,rfl⟩
 ·have hd:decide (a<0)=false:=by simp[h0]
  have h1:(n:Int)<a:=by omega
  have hd2:decide ((n:Int)<a)=true:=by simp[h1]
  clear ha
  go_enter AhT,AhF
  go_wp2_with fail
  go_step3
  go_wp2_with fail
  rw[Exit.noGoto_ret]
  go_ret3
  exact⟨rfl,rfl⟩
def Bm(l:Aib)(a:Nat)(most:Int):AcD:=
 match AS 0 (l.drop a)with
 | none=> .tuple #[.string ⟨#[]⟩, .int .i64 0, .int .i64 6]
 | some x=>if most<x.1 then .tuple #[.string ⟨#[]⟩, .int .i64 0, .int .i64 2]
  else if l.length<a+x.2+x.1 then .tuple #[.string ⟨#[]⟩, .int .i64 0, .int .i64 6]
  else .tuple #[.string ⟨((l.drop (a+x.2)).take x.1).toArray⟩, .int .i64 ↑(a+x.2+x.1), .int .i64 0]
set_option maxRecDepth 100000 in
set_option maxHeartbeats 1000000 in
theorem CS(w:AcE)(v:AcD)(l:Aib)(hr:RB w v l)(a:Nat)(ha:a<=l.length)(most:Int):
  Calls AcF 76 #[v, .int .i64 a, .int .i64 most] w fun e w' =>e = .returned (Bm l a most)/\w=w' :=by
 have HR:=Aen hr;obtain⟨ao,cap,rfl,h2,h3⟩:=hr.len;clear hr;have HG:=Aen (Hk w _ l HR.out a ha);cases hL:AS 0 (l.drop a)with
 | none=>
  have hR:Bm l a most = .tuple #[.string ⟨#[]⟩, .int .i64 0, .int .i64 6]:=by unfold Bm;rw[hL]
  rw[hR];have HL:=Aen hL;clear hL hR
  go_enter Ahm,AgQ
  go_wp2_with fail
  refine HG.out.mono ?_;rintro e w1 ⟨rfl,rfl⟩;rw[HL.out];unfold Ex
  go_wp2_with fail
  go_ret3
  exact⟨rfl,rfl⟩
 | some x=>
  obtain⟨n,m⟩:=x;have hp:=HE _ _ _ hL;have hlt:=LN _ _ _ hL;rw[Ac5]at hp;have hm9:m<=9:=by have:=hp.2.2;simp at this;exact this
  have b:n<=9223372036854775807:=by
   have h1:128^m<=128^9:=Aes (by decide) hm9;simp only at hlt;omega
  have hm1:1<=m:=hp.1;have hml:a+m<=l.length:=by have:=hp.2.1;simp at this;omega
  have HL:=Aen hL;clear hL hlt hp;by_cases hmost:most<n
  ·have hR:Bm l a most = .tuple #[.string ⟨#[]⟩, .int .i64 0, .int .i64 2]:=by unfold Bm;rw[HL.out];simp only[];rw[if_pos hmost]
   rw[hR];clear hR
   go_enter Ahm,AgQ
   go_wp2_with fail
   refine HG.out.mono ?_;rintro e w1 ⟨rfl,rfl⟩;rw[HL.out];unfold Ex
   go_wp2_with fail
   go_ret3
   exact⟨rfl,rfl⟩
  ·by_cases hlen:l.length<a+m+n
   ·have hR:Bm l a most = .tuple #[.string ⟨#[]⟩, .int .i64 0, .int .i64 6]:=by unfold Bm;rw[HL.out];simp only[];rw[if_neg hmost,if_pos hlen]
    rw[hR];clear hR
    go_enter Ahm,AgQ
    go_wp2_with fail
    refine HG.out.mono ?_;rintro e w1 ⟨rfl,rfl⟩;rw[HL.out];unfold Ex
    go_wp2_with fail
    go_ret3
    exact⟨rfl,rfl⟩
   ·have hR:Bm l a most = .tuple #[.string ⟨((l.drop (a+m)).take n).toArray⟩, .int .i64 ↑(a+m+n), .int .i64 0]:=by unfold Bm;rw[HL.out];simp only[];rw[if_neg hmost,if_neg hlen]
    rw[hR];clear hR
    go_enter Ahm,AgQ
    go_wp2_with fail
    refine HG.out.mono ?_;rintro e w1 ⟨rfl,rfl⟩;rw[HL.out];unfold Ex;have hlh:a+m<=a+m+n:=Nat.le_add_right _ _;have hhl:a+m+n<=l.length:=by omega
    go_wp2_with (refine G5 (o:=⟨some 38,_,_,_,_,_⟩) rfl _ _ (some _) (some _) rfl G8 Qd _ l rfl HR.out (a+m) (a+m+n) hlh hhl (.inr ⟨.i64,rfl⟩) (.inr ⟨.i64,rfl⟩) ?_)
    intro ao' c' hr';have HR' :=Aen hr';clear hr'
    go_wp2_with (refine ON (o:=⟨some 39,_,_,_,_,_⟩) rfl _ _ _ rfl G8 u5 Xj _ _ rfl HR'.out ?_)
    go_ret3
    exact⟨rfl,rfl⟩
theorem VZ:Tryz.prog.underlying 33=some (.array 32 5):=by kernel_rfl
theorem RX:(Tryz.prog.info? 33).map (·.size)=some 32:=by kernel_rfl
theorem Xu:(Tryz.prog.info? 5).map (·.size)=some 1:=by kernel_rfl

def zero32:Aib:=AdK 32 0
theorem E6{l:Aib}(h:l.length=32):(AcH l).toArray.size=32:=by simp[AcH,h]
theorem As{l:Aib}(h:l.length=32):(Tryz.prog.info? 33).map (·.size)=some (AcH l).toArray.size:=by rw[E6 h];exact RX
theorem Qf:zero32.length=32:=Adq

theorem Py(ρ:AcO->AcD)(d:Option Tmp)(ty:AcK)(pos:String)(af:Array Adv)(w:AcE):(execOp ρ ⟨d, .alloc 33,ty,pos,af,none⟩).run AcF w = .ok (.value (.pointer (some ⟨w.heap.size,0,none⟩))) (w.alloc (.cells (AcH zero32).toArray 33)):=by kernel_rfl

def DG(l:Aib)(a:Nat):AcD:=
 if l.length-a<32 then .tuple #[.agg (AcH zero32).toArray, .int .i64 0, .int .i64 6]
 else .tuple #[.agg (AcH ((l.drop a).take 32)).toArray, .int .i64 ↑(a+32), .int .i64 0]
set_option maxRecDepth 100000 in
set_option maxHeartbeats 1000000 in
theorem HH(w:AcE)(v:AcD)(l:Aib)(hr:RB w v l)(a:Nat)(ha:a<=l.length):
  Calls AcF 183 #[v, .int .i64 a] w fun e w' =>e = .returned (DG l a)/\Ext w w' :=by
 have HR:=Aen hr;obtain⟨ao,cap,rfl,h2,h3⟩:=hr.len;clear hr;have hd:decide ((a:Int)<0)=false:=by simp
 have hd2:decide (l.length<a)=false:=by simp;omega
 by_cases hs:l.length-a<32
 ·have hR:DG l a = .tuple #[.agg (AcH zero32).toArray, .int .i64 0, .int .i64 6]:=by unfold DG;rw[if_pos hs]
  rw[hR];clear hR
  go_enter Tryz.func183,Tryz.ntmps183
  have HSI:=Aen (As Qf)
  go_wp2_with (first | (refine In (o:=⟨some 4, .alloc _,_,_,_,_⟩) rfl _ _ (Py _ _ _ _ _ _) ?_) | (refine wpList_load_row (o:=⟨some 21,_,_,_,_,_⟩) rfl _ _ rfl w.heap.size rfl _ _ _ _ (heap_alloc_new w _) VZ rfl HSI.out ?_) | (refine FZ (o:=⟨none, .store _ _ _,_,_,_,_⟩) rfl _ _ _ rfl w.heap.size rfl (AcH zero32).toArray 33 rfl (heap_alloc_new w _) HSI.out (Ax zero32) ?_))
  refine bodyPost_ret (v:= .tuple #[.agg (AcH zero32).toArray, .int .i64 0, .int .i64 6]) (Ie Tryz.results183 _ _ w.heap.size 33 (AcH zero32).toArray (0,0) _ rfl (heap_alloc_new w _) VZ rfl HSI.out) rfl ⟨rfl,(AdA _ _).alloc (AcI _) _⟩
 ·have hR:DG l a = .tuple #[.agg (AcH ((l.drop a).take 32)).toArray, .int .i64 ↑(a+32), .int .i64 0]:=by unfold DG;rw[if_neg hs]
  rw[hR];clear hR
  go_enter Tryz.func183,Tryz.ntmps183
  go_wp2_with (refine In (o:=⟨some 4, .alloc _,_,_,_,_⟩) rfl _ _ (Py _ _ _ _ _ _) ?_)
  have hal:a+32<=l.length:=by omega
  obtain⟨w0,hw0⟩:∃w0,w0=w.alloc (.cells (AcH zero32).toArray 33):=⟨_,rfl⟩;have hbox:w0.heap[w.heap.size]? =some (.cells (AcH zero32).toArray 33 (0,0)):=by rw[hw0];exact heap_alloc_new w _
  have hsz:w0.heap.size=w.heap.size+1:=by rw[hw0];simp
  have b:Below w.heap.size w w0:=by rw[hw0];exact(AdA _ _).alloc (AcI _) _
  rw[<-hw0];clear hw0;have c:((l.drop a).take 32).length=32:=by rw[Ac4,Ac5];omega
  have HL32:=Aen c;clear c hd hd2;refine Lj [4] (fun n=>if n=4 then [3]else []) (fun w' =>Below w.heap.size w0 w' /\∃cur:Array AcD,cur.size=32/\w'.heap[w.heap.size]? =some (.cells cur 33 (0,0)))
   (fun w1 w2=>w1.grownBy w2 (some w.heap.size)/\((∃cur:Array AcD,cur.size=32/\w1.heap[w.heap.size]? =some (.cells cur 33 (0,0)))->∃cur:Array AcD,cur.size=32/\w2.heap[w.heap.size]? =some (.cells cur 33 (0,0))))
   [Is (.slice (some ⟨w.heap.size,0,none⟩) 32 32),Is (.slice ao l.length cap),Is (.int .i64 a),(fun x w' =>RB w' x (l.drop a)),(fun _ w' =>w'.heap[w.heap.size]? =some (.cells (AcH ((l.drop a).take 32)).toArray 33 (0,0)))]
   (by kernel_rfl) _ _ (by kernel_rfl) (by kernel_rfl) [22,23,24,25,26] (by kernel_rfl)
   (fun w1 w2 h k=>⟨h.1.trans (k.mono (by have:=h.1.size;have:=hsz;omega)),by obtain⟨cur,h1,h2⟩:=h.2;exact⟨cur,h1,(k.block _ (Adr.1 h2).1).trans h2⟩⟩)
   (fun w1 w2 h k=>⟨h.1.grown k.1 (by have:=h.1.size;have:=hsz;omega) (fun _ e=>by cases e;exact AcI _),k.2 h.2⟩) (fun w=>⟨World.grownBy.refl _ _,fun h=>h⟩) ⟨(AdA _ _).drew,_,E6 rfl,hbox⟩ ?hst ?hsk ?hs ?hQ
  case hst=>
   refine⟨Zc _,Zc _,Zc _,Stab.rb _,fun v w1 w2 h k=> ?_,trivial⟩;have h' :w1.heap[w.heap.size]? =_:=h;exact(k.block _ (Adr.1 h').1).trans h'
  case hsk=>
   intro n i hn hi hk hne hb;simp at hn;subst hn
   match i,hi,hk,hne,hb with
   | 0,_,_,_,_=>exact Zc _
   | 1,_,_,_,_=>exact Zc _
   | 2,_,_,_,_=>exact Zc _
   | 3,_,hk,_,_=>simp at hk
   | 4,_,_,hne,_=>simp at hne
  case hs=>
   refine⟨?_,?_,?_,?_,?_,trivial⟩
   ·refine Gi rfl fun ρ w1 hC h=> ?_;have h4:ρ 4 = .pointer (some ⟨w.heap.size,0,none⟩):=h 4 (by decide);refine AbU (v:= .slice (some ⟨w.heap.size,0,none⟩) 32 32) (w' :=w1) ?_ ⟨AbN _,rfl⟩;clear h hC;simp[execOp,Ab,h4,go_sem]
   ·refine Gi rfl fun ρ w1 hC h=> ?_;have h0:ρ 0 = .slice ao l.length cap:=h 0 (by decide);exact⟨AbN _,h0⟩
   ·refine Gi rfl fun ρ w1 hC h=> ?_;have h0:ρ 1 = .int .i64 a:=h 1 (by decide);exact⟨AbN _,h0⟩
   ·refine Gi rfl fun ρ w1 hC h=> ?_;have h23:ρ 23 = .slice ao l.length cap:=h 23 (by decide);have h24:ρ 24 = .int .i64 a:=h 24 (by decide);have f:RB w1 (Ab ρ (.tmp 23)) l:=by show RB w1 (ρ 23) l;rw[h23];exact HR.out.keep (b.trans hC.1)
    refine Aa8 G8 Qd f a l.length ha (AcI _) (.inr ⟨.i64,by simp[Ab,h24]⟩) (.inl ⟨rfl,rfl⟩) ?_;intro ao' c' hr';rw[Adj (by rw[Ac5];exact AcI _)]at hr';exact⟨AbN _,hr'⟩
   ·refine Gi rfl fun ρ w1 hC h=> ?_;have h22:ρ 22 = .slice (some ⟨w.heap.size,0,none⟩) 32 32:=h 22 (by decide);have h25:RB w1 (ρ 25) (l.drop a):=h 25 (by decide);obtain⟨hC1,cur,hcs,hcb⟩:=hC;have hm:Afl (l.drop a).length 32=32:=Nat.min_eq_right (by rw[Ac5];exact Nat.le_sub_of_add_le (by rw[Nat.add_comm];exact hal));have hfit:0+Afl (l.drop a).length 32<=cur.size:=by rw[hm,hcs];exact AcI _
    refine Abx (.tmp 22) (.tmp 25) (o:=0) G8 Xu h22 h25 hcb hfit ?_;have e:(cur.toList.take 0++AcH ((l.drop a).take 32)++cur.toList.drop (0+Afl (l.drop a).length 32)).toArray=(AcH ((l.drop a).take 32)).toArray:=by
     have hd0:cur.toList.drop (0+32)= []:=Aef (AfU (by rw[Ad0,hcs]));rw[hm,hd0];simp
    rw[e];have hw:=setRow_heap w1 w.heap.size cur (AcH ((l.drop a).take 32)).toArray 33 (0,0) hcb;exact⟨⟨⟨rfl,rfl,rfl,by simp,fun k _ hk=>setRow_other w1 w.heap.size k _ (fun e=>hk (by rw[e]))⟩,fun _=>⟨_,E6 HL32.out,hw⟩⟩,hw⟩
  case hQ=>
   intro u w1 hC hE;obtain⟨-,-,-,-,h26,-⟩:=hE;have hblk:w1.heap[w.heap.size]? =some (.cells (AcH ((l.drop a).take 32)).toArray 33 (0,0)):=h26;clear h26;simp only[DE,List.foldl_cons,List.foldl_nil,List.setIfInBounds_toArray,List.set_cons_zero,List.set_cons_succ];have hsi:(Tryz.prog.info? 33).map (·.size)=some (AcH ((l.drop a).take 32)).toArray.size:=by rw[E6 HL32.out];exact RX
   have HB:=Aen hblk;clear hblk;have HSI:=Aen hsi;clear hsi
   go_wp2_with (first | (refine wpList_load_row (o:=⟨some 27,_,_,_,_,_⟩) rfl _ _ rfl w.heap.size rfl _ _ _ _ HB.out VZ rfl HSI.out ?_) | (refine FZ (o:=⟨none, .store _ _ _,_,_,_,_⟩) rfl _ _ _ rfl w.heap.size rfl (AcH ((l.drop a).take 32)).toArray 33 rfl HB.out HSI.out (Ax _) ?_))
   refine bodyPost_ret (v:= .tuple #[.agg (AcH ((l.drop a).take 32)).toArray, .int .i64 ↑(a+32), .int .i64 0]) ?_ rfl ⟨rfl,b.trans hC.1⟩;exact Ie Tryz.results183 _ _ w.heap.size 33 _ (0,0) _ rfl HB.out VZ rfl HSI.out
def Ja(c:UInt8):Bool:=((((((decide (97<=c.toNat))&&(decide (c.toNat<=122)))||((decide (65<=c.toNat))&&(decide (c.toNat<=90))))||((decide (48<=c.toNat))&&(decide (c.toNat<=57))))||(decide (c.toNat=45)))||(decide (c.toNat=95)))||(decide (c.toNat=46))
def HI(s:Bs):Bool:=(((decide (s.length<1)||decide (32<s.length))||decide ((s.getD 0 0).toNat=46))||decide ((s.getD 0 0).toNat=45))||decide (s= [72,69,65,68])
def Av(s:Bs):Bool:= !HI s&&s.all Ja
theorem Qg{s:Bs}(h:HI s=true):Av s=false:=by unfold Av;rw[h];rfl
theorem LO{s:Bs}(h:HI s=false):1<=s.length/\s.length<=32:=by
 unfold HI at h;simp only[Bool.or_eq_false_iff,decide_eq_false_iff_not]at h;omega
theorem Ea{s:Bs}(h:Av s=true):1<=s.length/\s.length<=32:=by
 unfold Av at h;refine LO ?_;cases hh:HI s with
 | false=>rfl
 | true=>rw[hh]at h;cases h
theorem RY{s:Bs}{i:Nat}(hi:i<s.length)(h:Ja (s.getD i 0)=false):Av s=false:=by
 unfold Av;rw[Bool.and_eq_false_iff];refine .inr ?_;rw[List.all_eq_false];refine⟨s.getD i 0,?_,by rw[h];decide⟩;rw[AcL,AcQ hi];exact Aee hi
theorem Ug{α:Type}{l:List α}{f:α->Bool}{i:Nat}(d:α)(hi:i<l.length)(h:(l.take i).all f=true)(h1:f (l.getD i d)=true):(l.take (i+1)).all f=true:=by
 rw[List.take_succ_eq_append_getElem hi,List.all_append,h];rw[AcL,AcQ hi]at h1;simp only[Option.getD_some]at h1;simp[h1]
theorem RZ{s:Bs}{i:Nat}(h:HI s=false)(hi:s.length<=i)(ha:(s.take i).all Ja=true):Av s=true:=by
 unfold Av;rw[h,Adj hi]at *;rw[ha];rfl
set_option maxRecDepth 100000
theorem FF:Tryz.prog.underlying 21=some (.int .i32):=by kernel_rfl
theorem EK:Tryz.prog.underlying 9=some (.string):=by kernel_rfl
theorem Kx:Plain AcF 191:=fun _ _=>by kernel_rfl
theorem Qh:Plain AcF 192:=fun _ _=>by kernel_rfl
theorem Qi:Plain AcF 153:=fun _ _=>by kernel_rfl
theorem Ky:Plain AcF 130:=fun _ _=>by kernel_rfl
theorem R2:Plain AcF 88:=fun _ _=>by kernel_rfl
theorem R3:Plain AcF 87:=fun _ _=>by kernel_rfl
set_option maxHeartbeats 1600000
theorem Qj(w:AcE)(r:Nat):
  Calls AcF 192 #[.int .i32 (r:Int)] w fun e w' =>e = .returned (.bool (Nn r))/\Ext w w' :=by
 refine F2 (args:= [.int .i32 ((r:Nat):Int)]) Tryz.func192 rfl 17 rfl rfl ?_;have hE:=AbN w;refine gS (Y7 (a:=(r:Nat)) (b:=(0:Nat)) rfl rfl (Fw _ _ _ _) (gO fun _=>Ae (.int .i32 ((r:Nat):Int)) rfl rfl (gT rfl) (fun hG3=>AbT rfl ⟨rfl,rfl⟩) (At (gO fun _=>Ae (.bool (decide ((r)<=(1114111)))) rfl rfl (gT rfl) (fun hG4=>Y7 (a:=((r:Nat):Int)) (b:=((1114111:Nat):Int)) (Ak rfl hG4) rfl (E1 _ .i32 (r) (1114111)) ⟨rfl,rfl⟩) (At (gS (Zq rfl (fun hA=>(Ak rfl hA)) rfl fun bb5 hbb6=>(gO fun _=>Ae (.int .i32 ((r:Nat):Int)) rfl rfl (gT rfl) (fun hG7=>AbT rfl ⟨rfl,rfl⟩) (At (gO fun _=>Ae (.bool (decide ((r)<(55296)))) rfl rfl (gT rfl) (fun hG8=>Y7 (a:=((r:Nat):Int)) (b:=((55296:Nat):Int)) (Ak rfl hG8) rfl (Bf _ .i32 (r) (55296)) ⟨rfl,rfl⟩) (At (gO fun _=>Ae (.bool (decide ((r)<(55296)))) rfl rfl (gT rfl) (fun hG9=>AbT (Ak rfl hG9) ⟨rfl,rfl⟩) (At (gO fun _=>Ae (.int .i32 ((r:Nat):Int)) rfl rfl (Ff rfl) (fun hG10=>AbT rfl ⟨rfl,rfl⟩) (At (gO fun _=>Ae (.bool (decide ((57343)<(r)))) rfl rfl (Ff rfl) (fun hG11=>Y7 (a:=((r:Nat):Int)) (b:=((57343:Nat):Int)) (Ak rfl hG11) rfl (CQ _ .i32 (r) (57343)) ⟨rfl,rfl⟩) (At (gO fun _=>D6 ((decide ((r)<(55296)))||(decide ((57343)<(r)))) rfl rfl (gT rfl) (fun hG12=>ZO (Ak rfl hG12) rfl (fun hA=>(Ak rfl (F7 hG12 (BI hA)))) ⟨rfl,rfl⟩) fun bb13 hbb14=>At (gS (Zq rfl (fun hA=>(Ak rfl hA)) rfl fun bb15 hbb16=>(AE rfl (vr (.bool (bb15)) rfl) ?_)))))))))))))))))))));subst hbb6 hbb14 hbb16;exact⟨rfl,hE⟩
theorem Nr(w:AcE)(c:UInt8):
  Calls AcF 191 #[B8 c] w fun e w' =>e = .returned (Yh (Dq c))/\Ext w w' :=by
 refine F2 (args:= [B8 (c)]) Tryz.func191 rfl 40 rfl rfl ?_;have hE:=AbN w;refine gS (Y7 (a:=((c).toNat:Nat)) (b:=(128:Nat)) rfl rfl (Bf _ _ _ _) ?_);refine cD rfl (fun f=> ?_) fun f=> ?_
 ·refine gS (ZT u5 FF rfl (Xi .i32 (c) (fun n hn=>EJ n (by omega))) (Ku rfl (vr (NI 0) rfl) (vr (.int .i32 (((c).toNat:Nat):Int)) rfl) (vr (.int .i32 ((0:Nat):Int)) rfl) ?_));refine⟨congrArg Aed ?_,hE⟩;unfold Dq;rw[if_pos f];rfl
 refine gS (Y7 (a:=((c).toNat:Nat)) (b:=(192:Nat)) rfl rfl (Fw _ _ _ _) (gO fun _=>Ae (B8 (c)) rfl rfl (gT rfl) (fun hG6=>AbT rfl ⟨rfl,rfl⟩) (At (gO fun _=>Ae (.bool (decide (((c).toNat)<(224)))) rfl rfl (gT rfl) (fun hG7=>Y7 (a:=(((c).toNat:Nat):Int)) (b:=((224:Nat):Int)) (Ak rfl hG7) rfl (Bf _ .u8 ((c).toNat) (224)) ⟨rfl,rfl⟩) (At (gS (Zq rfl (fun hA=>(Ak rfl hA)) rfl fun bb8 hbb9=> ?_)))))));refine cB (bb8) rfl (fun g=> ?_) fun g=> ?_
 ·subst hbb9;refine gS (Ze (xv:= .int .u8 (((c).toNat:Nat):Int)) (yv:= .int .u8 ((31:Nat):Int)) rfl rfl rfl (Iw _ _ _ (c.toNat_lt) (by decide)) (gS (ZT u5 FF rfl (EJ (((c).toNat)&&&(31)) (AeJ AeH (by decide))) (Ku rfl (vr (NI 1) rfl) (vr (.int .i32 ((((c).toNat)&&&(31):Nat):Int)) rfl) (vr (.int .i32 ((128:Nat):Int)) rfl) ?_))));refine⟨congrArg Aed ?_,hE⟩;unfold Dq;rw[if_neg f];rw[if_pos (by simpa using g)];rfl
 subst hbb9;refine gS (Y7 (a:=((c).toNat:Nat)) (b:=(224:Nat)) rfl rfl (Fw _ _ _ _) (gO fun _=>Ae (B8 (c)) rfl rfl (gT rfl) (fun hG12=>AbT rfl ⟨rfl,rfl⟩) (At (gO fun _=>Ae (.bool (decide (((c).toNat)<(240)))) rfl rfl (gT rfl) (fun hG13=>Y7 (a:=(((c).toNat:Nat):Int)) (b:=((240:Nat):Int)) (Ak rfl hG13) rfl (Bf _ .u8 ((c).toNat) (240)) ⟨rfl,rfl⟩) (At (gS (Zq rfl (fun hA=>(Ak rfl hA)) rfl fun bb14 hbb15=> ?_)))))));refine cB (bb14) rfl (fun h=> ?_) fun h=> ?_
 ·subst hbb15;refine gS (Ze (xv:= .int .u8 (((c).toNat:Nat):Int)) (yv:= .int .u8 ((15:Nat):Int)) rfl rfl rfl (Iw _ _ _ (c.toNat_lt) (by decide)) (gS (ZT u5 FF rfl (EJ (((c).toNat)&&&(15)) (AeJ AeH (by decide))) (Ku rfl (vr (NI 2) rfl) (vr (.int .i32 ((((c).toNat)&&&(15):Nat):Int)) rfl) (vr (.int .i32 ((2048:Nat):Int)) rfl) ?_))));refine⟨congrArg Aed ?_,hE⟩;unfold Dq;rw[if_neg f];rw[if_neg (by simpa using g)];rw[if_pos (by simpa using h)];rfl
 subst hbb15;refine gS (Y7 (a:=((c).toNat:Nat)) (b:=(240:Nat)) rfl rfl (Fw _ _ _ _) (gO fun _=>Ae (B8 (c)) rfl rfl (gT rfl) (fun hG18=>AbT rfl ⟨rfl,rfl⟩) (At (gO fun _=>Ae (.bool (decide (((c).toNat)<(248)))) rfl rfl (gT rfl) (fun hG19=>Y7 (a:=(((c).toNat:Nat):Int)) (b:=((248:Nat):Int)) (Ak rfl hG19) rfl (Bf _ .u8 ((c).toNat) (248)) ⟨rfl,rfl⟩) (At (gS (Zq rfl (fun hA=>(Ak rfl hA)) rfl fun bb20 hbb21=> ?_)))))));refine cB (bb20) rfl (fun i=> ?_) fun i=> ?_
 ·subst hbb21;refine gS (Ze (xv:= .int .u8 (((c).toNat:Nat):Int)) (yv:= .int .u8 ((7:Nat):Int)) rfl rfl rfl (Iw _ _ _ (c.toNat_lt) (by decide)) (gS (ZT u5 FF rfl (EJ (((c).toNat)&&&(7)) (AeJ AeH (by decide))) (Ku rfl (vr (NI 3) rfl) (vr (.int .i32 ((((c).toNat)&&&(7):Nat):Int)) rfl) (vr (.int .i32 ((65536:Nat):Int)) rfl) ?_))));refine⟨congrArg Aed ?_,hE⟩;unfold Dq;rw[if_neg f];rw[if_neg (by simpa using g)];rw[if_neg (by simpa using h)];rw[if_pos (by simpa using i)];rfl
 subst hbb21;refine Ku rfl (vr (.int .i64 (-1:Int)) rfl) (vr (.int .i32 ((0:Nat):Int)) rfl) (vr (.int .i32 ((0:Nat):Int)) rfl) ?_;refine⟨congrArg Aed ?_,hE⟩;unfold Dq;rw[if_neg f];rw[if_neg (by simpa using g)];rw[if_neg (by simpa using h)];rw[if_neg (by simpa using i)];rfl
theorem OS(w:AcE)(l:Bs)(a:Nat)(ha:a<l.length)(hl:l.length<=4611686018427387904):
  Calls AcF 153 #[St l,NI a] w fun e w' =>(∃r b k,e = .returned (.tuple #[.int .i32 ((r:Nat):Int),NI b, .bool k])/\Et l a=if k=true then some b else none)/\Ext w w' :=by
 refine F2 (args:= [St (l),NI a]) Tryz.func153 rfl 62 rfl rfl ?_;have hE:=AbN w;rcases hq:Dq (l.getD a 0)with _ | ⟨n,r,m⟩
 ·refine gS (ZZ (l:=l) (i:=a) EK rfl rfl (ha) (gS (Y9 Kx rfl (((show Calls _ _ _ _ (fun e w2=>e = .returned (.tuple #[.int .i64 ((-1):Int), .int .i32 ((0:Nat):Int), .int .i32 ((0:Nat):Int)])/\Ext w w2)from by have h:=Nr w (l.getD a 0);rw[hq]at h;exact h)).mono ?_))));rintro e w4 ⟨rfl,y⟩;refine⟨_,rfl,?_⟩;refine gS (AbP (vs:= [.int .i64 ((-1):Int), .int .i32 ((0:Nat):Int), .int .i32 ((0:Nat):Int)]) rfl rfl (gS (AbP (vs:= [.int .i64 ((-1):Int), .int .i32 ((0:Nat):Int), .int .i32 ((0:Nat):Int)]) rfl rfl (gS (AbP (vs:= [.int .i64 ((-1):Int), .int .i32 ((0:Nat):Int), .int .i32 ((0:Nat):Int)]) rfl rfl (gS (Y7 rfl rfl (VT _ .i64 ((-1):Int) ((0:Nat):Int)) (kT (by decide) (gN rfl rfl rfl rfl (gN rfl rfl rfl rfl (gN rfl rfl rfl rfl (gN rfl rfl rfl rfl (gN rfl rfl rfl rfl (gN rfl rfl rfl rfl (gS (Zy rfl rfl (cT rfl (Ku rfl (vr (.int .i32 ((0:Nat):Int)) rfl) (vr (NI 0) rfl) (vr (.bool (false)) rfl) ?_))))))))))))))))));have hE:=hE.trans y;exact⟨⟨_,_,_,rfl,RU hq⟩,hE⟩
 obtain⟨p,z,ad,hm⟩:=Qc hq;refine gS (ZZ (l:=l) (i:=a) EK rfl rfl (ha) (gS (Y9 Kx rfl (((show Calls _ _ _ _ (fun e w2=>e = .returned (.tuple #[NI n, .int .i32 ((r:Nat):Int), .int .i32 ((m:Nat):Int)])/\Ext w w2)from by have h:=Nr w (l.getD a 0);rw[hq]at h;exact h)).mono ?_))));rintro e ae ⟨rfl,s⟩;refine⟨_,rfl,?_⟩;refine gS (AbP (vs:= [NI n, .int .i32 ((r:Nat):Int), .int .i32 ((m:Nat):Int)]) rfl rfl (gS (AbP (vs:= [NI n, .int .i32 ((r:Nat):Int), .int .i32 ((m:Nat):Int)]) rfl rfl (gS (AbP (vs:= [NI n, .int .i32 ((r:Nat):Int), .int .i32 ((m:Nat):Int)]) rfl rfl (gS (Y7 (a:=(n:Nat)) (b:=(0:Nat)) rfl rfl (Bf _ _ _ _) (kF (by omega) (gY rfl rfl (gY rfl rfl (gS (ZK (l:=l) EK rfl (gY rfl rfl (gY rfl rfl (gS (Ze (xv:=NI l.length) (yv:=NI a) rfl rfl rfl (Fk _ _ _ (by omega) (by omega)) (gY rfl rfl (gY rfl rfl (gS (Y7 (a:=((l.length)-(a):Nat)) (b:=(n:Nat)) rfl rfl (E1 _ _ _ _) (gS (Zo rfl rfl ?_))))))))))))))))))))));refine cD rfl (fun g=> ?_) fun g=> ?_
 ·refine Ku rfl (vr (.int .i32 ((0:Nat):Int)) rfl) (vr (NI 0) rfl) (vr (.bool (false)) rfl) ?_;have hE:=hE.trans s;exact⟨⟨_,_,_,rfl,Qb hq (of_decide_eq_true (by simpa using g))⟩,hE⟩
 have hs:¬l.length-a<=n:=fun h=>by simp[h]at g
 have hE:=hE.trans s;refine gL (fun(ρ:Aj) (wz:AcE)=>∃i:Nat,∃q:Nat,ρ 0=(St (l):AcD)/\ρ 1=(NI a:AcD)/\ρ 7=(NI n:AcD)/\ρ 9=(.int .i32 ((m:Nat):Int):AcD)/\ρ 30=(NI n:AcD)/\ρ 31=(NI i:AcD)/\ρ 8=(.int .i32 ((q:Nat):Int):AcD)/\Ext w wz/\(i<=n)/\(q<2^(7+6*i))/\(Fz l (a+1) n r=Fz l (a+1+i) (n-i) q)/\True) (fun ρ _=>n-(intOf (ρ 31)).toNat) ⟨0,r,rfl,rfl,rfl,rfl,rfl,rfl,rfl,hE,AcZ _,z,rfl,trivial⟩ ?_;clear hE;rintro aa af ⟨i,q,t,T1,u,v,x,c,f,hE,hi,hqb,ht,-⟩;have q31:=c;refine gS (Y7 (a:=(i:Nat)) (b:=(n:Nat)) c x (Bf _ _ _ _) ?_);refine cD rfl (fun j=> ?_) fun j=> ?_
 ·have hlt:i<n:=j;refine gS (Ze (xv:=NI a) (yv:=NI 1) T1 rfl rfl (AD _ _ _ (by omega)) (gS (Ze (xv:=NI ((a)+(1))) (yv:=NI i) rfl c rfl (AD _ _ _ (by omega)) (gS (ZZ (l:=l) (i:=((a)+(1))+(i)) EK t rfl (by omega) (gS (Ze (xv:= .int .u8 (((l.getD (((a)+(1))+(i)) 0).toNat:Nat):Int)) (yv:= .int .u8 ((192:Nat):Int)) rfl rfl rfl (Iw _ _ _ (UInt8.toNat_lt _) (by decide)) (gS (Y7 (a:=(((l.getD (((a)+(1))+(i)) 0).toNat)&&&(192):Nat)) (b:=(128:Nat)) rfl rfl (AX _ _ _ _) ?_)))))))));refine cD rfl (fun o=> ?_) fun o=> ?_
  ·refine Ku rfl (vr (.int .i32 ((0:Nat):Int)) rfl) (vr (NI 0) rfl) (vr (.bool (false)) rfl) ?_;exact⟨⟨_,_,_,rfl,Uf hq (ht.trans (RT hlt o))⟩,hE⟩
  refine gS (Ze (xv:= .int .i32 ((q:Nat):Int)) (yv:= .int .u64 ((6:Nat):Int)) f rfl rfl (Wm _ (q) _ (6) (by decide) (Js hqb hlt p)) (gS (Ze (xv:= .int .u8 (((l.getD (((a)+(1))+(i)) 0).toNat:Nat):Int)) (yv:= .int .u8 ((63:Nat):Int)) rfl rfl rfl (Iw _ _ _ (UInt8.toNat_lt _) (by decide)) (gS (ZT u5 FF rfl (EJ (((l.getD (((a)+(1))+(i)) 0).toNat)&&&(63)) (VY _)) (gS (Ze (xv:= .int .i32 (((q)*2^(6):Nat):Int)) (yv:= .int .i32 ((((l.getD (((a)+(1))+(i)) 0).toNat)&&&(63):Nat):Int)) rfl rfl rfl (Xt _ ((q)*2^(6)) (((l.getD (((a)+(1))+(i)) 0).toNat)&&&(63)) (Js hqb hlt p) (VY _)) (gS (Ze (xv:=NI i) (yv:=NI 1) c rfl rfl (AD _ _ _ (by omega)) (gK (AdF ⟨i+1,(q*2^6|||((l.getD (a+1+i) 0).toNat&&&63)),t,T1,u,v,x,rfl,rfl,hE,by omega,OR hqb,ht.trans (Qa hlt (Decidable.of_not_not o)),trivial⟩ ?_)))))))))));show n-(intOf (NI ((i)+(1)))).toNat<n-(intOf (aa 31)).toNat;rw[q31];simp only[intOf,Ac8];omega
 have hni:¬i<n:=j;refine gS (Ze (xv:=NI a) (yv:=NI n) T1 u rfl (AD _ _ _ (by omega)) (gS (Ze (xv:=NI ((a)+(n))) (yv:=NI 1) rfl rfl rfl (AD _ _ _ (by omega)) (gS (Y7 (a:=(q:Nat)) (b:=(m:Nat)) f v (Fw _ _ _ _) (gO fun _=>Ae (.int .i32 ((q:Nat):Int)) rfl rfl (gT rfl) (fun hG27=>AbT f ⟨rfl,rfl⟩) (At (gO fun _=>Ci (.bool (Nn q)) rfl rfl (gT rfl) (fun hG28=>Y9 Qh (Ak rfl hG28) ((Qj _ q).mono (by rintro e w2 ⟨rfl,hx⟩;exact⟨_,rfl,rfl,hx⟩))) fun ag ab=>At (gS (Zq rfl (fun hA=>(Ak rfl hA)) rfl fun bb32 hbb33=>(Ku rfl f (vr (NI (((a)+(n))+(1))) rfl) (vr (.bool (bb32)) rfl) ?_)))))))))));subst hbb33;have hE:=hE.trans ab;exact⟨⟨_,_,_,rfl,Wo hq hs (ht.trans (by rw[show n-i=0 by omega];rfl))⟩,hE⟩
theorem LP(w:AcE)(l:Bs)(hl:l.length<=4611686018427387904):
  Calls AcF 130 #[St l] w fun e w' =>(∃p,e = .returned (.tuple #[NI p,NI (if Eu l 0=true then 0 else 5)]))/\Ext w w' :=by
 refine gG (args:= [St (l)]) Tryz.func130 rfl 22 rfl rfl ?_;have hE:=AbN w;refine gL (fun(ρ:Aj) (wz:AcE)=>∃p:Nat,ρ 0=(St (l):AcD)/\ρ 2=(NI p:AcD)/\Ext w wz/\(p<=l.length)/\(Eu l 0=Eu l p)/\True) (fun ρ _=>l.length-(intOf (ρ 2)).toNat) ⟨0,rfl,rfl,hE,AcZ _,rfl,trivial⟩ ?_;clear hE;rintro i j ⟨p,c,T2,hE,hp,ht,-⟩;have q2:=T2;refine gS (ZK (l:=l) EK c (gS (Y7 (a:=(p:Nat)) (b:=(l.length:Nat)) T2 rfl (Bf _ _ _ _) ?_)));refine cD rfl (fun f=> ?_) fun f=> ?_
 ·have hlt:p<l.length:=f;refine gS (Zb Qi c T2 ((OS _ l p hlt hl).mono ?_));rintro e m ⟨⟨r,b,k,rfl,hd⟩,h⟩;refine⟨_,rfl,?_⟩;refine gS (AbP (vs:= [.int .i32 ((r:Nat):Int),NI b, .bool (k)]) rfl rfl (gS (AbP (vs:= [.int .i32 ((r:Nat):Int),NI b, .bool (k)]) rfl rfl (gS (AbP (vs:= [.int .i32 ((r:Nat):Int),NI b, .bool (k)]) rfl rfl (gS (Zn rfl ?_)))))));refine cB (!(k)) rfl (fun g=> ?_) fun g=> ?_
  ·have hk:k=false:=by simpa using g
   rw[hk,if_neg (by decide)]at hd;refine DX rfl T2 (vr (NI 5) rfl) ?_;have hE:=hE.trans h;exact⟨⟨_,by rw[ht,RV hlt hd];rfl⟩,hE⟩
  have hk:k=true:=by simpa using g
  rw[if_pos hk]at hd;have hE:=hE.trans h;refine gK (AdF ⟨b,c,rfl,hE,(Lo hd).2,ht.trans (LM hlt hd),trivial⟩ ?_);show l.length-(intOf (NI b)).toNat<l.length-(intOf (i 2)).toNat;rw[q2];have:=Lo hd;simp only[intOf,Ac8];omega
 have hlt:=f;refine DX rfl (vr (NI 0) rfl) (vr (NI 0) rfl) ?_;exact⟨⟨_,by rw[ht,JW (show ¬p<l.length by omega)];rfl⟩,hE⟩
theorem Ns(w:AcE)(r:Nat):
  Calls AcF 88 #[.int .i32 (r:Int)] w fun e w' =>e = .returned (.bool true)/\Ext w w' :=by
 refine gG (args:= [.int .i32 ((r:Nat):Int)]) Tryz.func88 rfl 3 rfl rfl ?_;have hE:=AbN w;refine AE rfl (vr (.bool (true)) rfl) ?_;exact⟨rfl,hE⟩
theorem R4(w:AcE)(l:Bs)(hl:l.length<=4611686018427387904):
  Calls AcF 87 #[St l, .func (.func 88) #[] #[]] w fun e w' =>e = .returned (.bool (Eu l 0))/\Ext w w' :=by
 refine gG (args:= [St (l), .func (.func 88) #[] #[]]) Tryz.func87 rfl 25 rfl rfl ?_;have hE:=AbN w;rcases hT:Eu l 0 with _ | _
 ·refine gS (Y9 Ky rfl (((show Calls _ _ _ _ (fun e w2=>(∃p,e = .returned (.tuple #[NI p,NI 5]))/\Ext w w2)from by have h:=LP w l hl;rw[hT]at h;exact h)).mono ?_));rintro e w5 ⟨⟨p0,rfl⟩,s⟩;refine⟨_,rfl,?_⟩;refine gS (AbP (vs:= [NI p0,NI 5]) rfl rfl (gS (AbP (vs:= [NI p0,NI 5]) rfl rfl (gS (Y7 (a:=(5:Nat)) (b:=(0:Nat)) rfl rfl (AX _ _ _ _) (kT (by decide) (cT rfl (AE rfl (vr (.bool (false)) rfl) ?_))))))));have hE:=hE.trans s;exact⟨by first | rfl | rw[hT],hE⟩
 refine gS (Y9 Ky rfl (((show Calls _ _ _ _ (fun e w2=>(∃p,e = .returned (.tuple #[NI p,NI 0]))/\Ext w w2)from by have h:=LP w l hl;rw[hT]at h;exact h)).mono ?_));rintro e k ⟨⟨p0,rfl⟩,t⟩;refine⟨_,rfl,?_⟩;refine gS (AbP (vs:= [NI p0,NI 0]) rfl rfl (gS (AbP (vs:= [NI p0,NI 0]) rfl rfl (gS (Y7 (a:=(0:Nat)) (b:=(0:Nat)) rfl rfl (AX _ _ _ _) (kF (by decide) (cF rfl (gS (Abb (l:=l) EK rfl fun f u ae m n af=> ?_)))))))));have c:=AbN k;have hE:=hE.trans t;have v:=hE.size;have o:=m;clear m;have ag:f<u.heap.size:=by omega
 have hE:=hE.trans n;have c:=c.trans n;refine gL (fun(ρ:Aj) (wz:AcE)=>∃p:Nat,ρ 0=(St (l):AcD)/\ρ 1=(.func (.func 88) #[] #[]:AcD)/\ρ 6=(NI 0:AcD)/\ρ 15=(.bool (false):AcD)/\ρ 17=(PQ f 0:AcD)/\Ext w wz/\Ext k wz/\wz.heap[f]? =some (.stringIter ⟨l.toArray⟩ p)/\True) (fun ρ wz=>l.length-wz.iterPos f) ⟨0,rfl,rfl,rfl,rfl,rfl,hE,c,o,trivial⟩ ?_;clear o;clear hE;rintro ah x ⟨p,y,T1,z,aa,i,hE,c,hI,-⟩;have hI0:=Kv hI;by_cases hlt:p<l.length
 ·refine gS (Abo (l:=l) (p:=p) i hI hlt fun ab g ai aj q r ak=> ?_);clear hI;have hI:=q;clear q;have al:=bl hI;refine gS (AbP (vs:= [.bool (true),NI p, .int .i32 ((g:Nat):Int)]) rfl rfl (cT rfl (gS (AbP (vs:= [.bool (true),NI p, .int .i32 ((g:Nat):Int)]) rfl rfl (gS (ZA R2 (caps:= #[]) T1 #[.int .i32 ((g:Nat):Int)] (by simp only[AcT,AcX,Ac2,Adu,Ade,Adm];exact congrArg Adf (Fx rfl)) ((Ns _ g).mono ?_)))))));rintro e ac ⟨rfl,j⟩;refine⟨_,rfl,?_⟩;have hE:=Ad hE r (AcG v (by omega));have hE:=hE.trans j;have c:=Ad c r (AcG (AcI _) (by omega));have c:=c.trans j;have hI:=eb j hI;refine gS (Zn rfl (cF rfl (gK (AdF ⟨ab,y,T1,z,aa,i,hE,c,hI,trivial⟩ ?_))));show l.length-ac.iterPos f<l.length-x.iterPos f;rw[Kv hI,hI0];omega
 refine gS (Abc (l:=l) (p:=p) i hI hlt (gS (AbP (vs:= [.bool (false)]) rfl rfl (cF rfl (AE rfl (vr (.bool (true)) rfl) ?_)))));exact⟨by first | rfl | rw[hT],hE⟩
theorem Nt(w:AcE)(l:Bs):
  Calls AcF 35 #[St l] w fun e w' =>e = .returned (.bool (Cm l))/\Ext w w' :=by
 refine F2 (args:= [St (l)]) Tryz.func35 rfl 10 rfl rfl ?_;have hE:=AbN w;refine gS (ZK (l:=l) EK rfl (gS (Y7 (a:=(l.length:Nat)) (b:=(256:Nat)) rfl rfl (E1 _ _ _ _) (gO fun _=>Ae (St (l)) rfl rfl (gT rfl) (fun hG3=>AbT rfl ⟨rfl,rfl⟩) (At (gO fun _=>Ci (.bool (Eu l 0)) rfl rfl (gT rfl) (fun hG4=>Zb R3 (Ak rfl hG4) rfl ((R4 _ l (by first | omega | (simp only[gA,gB,gC,gD,gE]at hG4;omega))).mono (by rintro e w2 ⟨rfl,hx⟩;exact⟨_,rfl,rfl,hx⟩))) fun f c=>At (gS (Zq rfl (fun hA=>(Ak rfl hA)) rfl fun bb8 hbb9=>(AE rfl (vr (.bool (bb8)) rfl) ?_)))))))));subst hbb9;have hE:=hE.trans c;exact⟨rfl,hE⟩
open Go.WideMaps (KeyLaw)
structure KL (P : AcY) (k : AcK) (OK : AcD -> Prop) : Prop where
 check:∀(w:AcE) (em:Bool) {v:AcD},OK v->(Instr.checkKey em 10000 k v).run P w = .ok () w
 find:∀(w:AcE) {x:AcD},OK x->∀es:List Ae5,(∀e∈es,OK e.key) ->
  ((Instr.findKey k x es).run P w = .ok none w/\∀e∈es,e.key≠x)\/∃j e,(Instr.findKey k x es).run P w = .ok (some (j,e.val)) w/\es[j]? =some e/\e.key=x
 stays:∀(w:AcE) {v:AcD},OK v->(Instr.keyThatStays v v).run P w = .ok v w
theorem AaI{P:AcY}{k:AcK}{d:TypeDesc}(hd:P.underlying k=some d):KL P k (AfM d):=
 ⟨fun w em _ h=>MapKept.run_checkKey hd h em 9999,fun w x h es he=>by
  rcases MapKept.findNow_spec h es 0 he with ⟨h1,h2⟩ | ⟨j,e,h1,h2,h3⟩
  ·exact .inl ⟨AhK hd h1,h2⟩
  ·rw[Aem]at h1;exact .inr ⟨j,e,AhK hd h1,h2,h3⟩,fun w _ h=>MapKept.run_keyThatStays h⟩
section
variable {α β : Type} (ek : α -> AcD) (ev : β -> AcD) (D : α -> Prop)
structure Yi (G : α -> Option β) (es : List Ae5) : Prop where
 keys:(es.map (·.key)).Nodup
 ent:∀e∈es,∃a y,D a/\e.key=ek a/\e.val=ev y/\G a=some y
 all:∀a y,G a=some y->D a/\∃e∈es,e.key=ek a
def MapF(w:AcE)(b:Nat)(G:α->Option β):Prop:=∃es clock,w.heap[b]? =some (.map es.toArray clock)/\Yi ek ev D G es/\Af9 es.toArray clock
end
theorem OT{es es' :List Ae5}{c:Nat}(hs:es'.Sublist es)(h:Af9 es.toArray c):Af9 es'.toArray c:=by
 obtain⟨h1,h2,h3⟩:=h;exact⟨fun x hx=>h1 x (hs.subset hx),(hs.map _).nodup h2,(hs.map _).nodup h3⟩
def updM{α β:Type}[DecidableEq α](G:α->Option β)(a:α)(y:Option β)(c:α):Option β:=if c=a then y else G c
section
variable {α β : Type} {ek : α -> AcD} {ev : β -> AcD} {D : α -> Prop} {P : AcY} {w w' : AcE} {b : Nat} {G : α -> Option β}
theorem MapF.keep(h:MapF ek ev D w b G)(k:Ext w w'):MapF ek ev D w' b G:=by
 obtain⟨es,c,h2,h3⟩:=h;exact⟨es,c,ZP k h2,h3⟩
theorem MapF.lt(h:MapF ek ev D w b G):b<w.heap.size:=by
 obtain⟨es,c,h2,h3⟩:=h;exact(Adr.1 h2).1
theorem MapF.other{r:Option Nat}(h:MapF ek ev D w b G)(k:w.grownBy w' r)(hr:r≠some b):MapF ek ev D w' b G:=by
 have hl:=h.lt;obtain⟨es,c,h2,h3⟩:=h;exact⟨es,c,(k.block b hl (fun e=>hr e.symm)).trans h2,h3⟩
abbrev Ab2:=@MapF.other
theorem Abp{v v' :AcD}(h:MapF ek ev D w b G)(g:Grew w w' v v')(hv:v.ownBlock≠some b):MapF ek ev D w' b G:=h.other g.by_ hv
theorem Abq(ek:α->AcD)(ev:β->AcD)(D:α->Prop)(w:AcE):MapF ek ev D (w.alloc (.map #[] 0)) w.heap.size (fun _=>none):=
 ⟨[],0,heap_alloc_new w _,⟨by simp,by simp,fun _ _ h=>by cases h⟩,MapKept.stamped_empty 0⟩
section
variable {t K E : AcK} {OK : AcD -> Prop} (L : KL P K OK) (hD : ∀ a, D a -> OK (ek a)) (hi : ∀ a c, ek a = ek c -> a = c) (ht : P.underlying t = some (.map K E))
include L hD hi ht
theorem MapF.look{z:AcD}(hz:∀u:AcE,(zeroValue E).run P u = .ok z u)(h:MapF ek ev D w b G){a:α}(ha:D a)(ok:Bool):
  (AhU t (.map (some b)) (ek a) ok).run P w = .ok (if ok then .tuple #[(G a).elim z ev, .bool (G a).isSome]else(G a).elim z ev) w:=by
 obtain⟨es,c,hb,H,hS⟩:=h;have hkeys:∀e∈es,OK e.key:=fun e he=>by
  obtain⟨q,y,k1,k2,-⟩:=H.ent e he;rw[k2];exact hD q k1
 rcases L.find w (hD a ha) es hkeys with ⟨f1,f2⟩ | ⟨j,f,f1,f2,f3⟩
 ·have hG:G a=none:=by
   cases hG:G a with
   | none=>rfl
   | some y=>
    obtain⟨-,e,he,hek⟩:=H.all a y hG;exact absurd hek (f2 e he)
  cases ok <;> simp[AhU,run_underlying ht,AeD hb,L.check w _ (hD a ha),f1,hz,Adw,hG]
 ·obtain⟨q,y,k1,k2,k3,k4⟩:=H.ent f (AeM f2);have:q=a:=hi _ _ (k2.symm.trans f3);subst this;cases ok <;> simp[AhU,run_underlying ht,AeD hb,L.check w _ (hD q ha),f1,Adw,k4,k3]
variable [DecidableEq α]
omit hi in
theorem MapF.put(h:MapF ek ev D w b G){a:α}(ha:D a)(y:β):
  ∃w',(Ahb t (.map (some b)) (ek a) (ev y)).run P w = .ok () w' /\MapF ek ev D w' b (updM G a (some y))/\w.grownBy w' (some b)/\w'.heap.size=w.heap.size:=by
 obtain⟨es,c,hb,H,hS⟩:=h;have hkeys:∀e∈es,OK e.key:=fun e he=>by
  obtain⟨q,y,k1,k2,-⟩:=H.ent e he;rw[k2];exact hD q k1
 have hblt:b<w.heap.size:=(Adr.1 hb).1;have hgr:∀o,w.grownBy { w with heap:=w.heap.setIfInBounds b o } (some b):=fun o=>⟨rfl,rfl,rfl,by simp,fun i _ hi=>by simp only[Aez];rw[if_neg (fun e=>hi (by rw[e]))]⟩;have hnew:∀o,({ w with heap:=w.heap.setIfInBounds b o } :AcE).heap[b]? =some o:=fun o=>by simp[hblt]
 rcases L.find w (hD a ha) es hkeys with ⟨f1,f2⟩ | ⟨j,g,f1,f2,f3⟩
 ·have hnone:∀x,G a≠some x:=fun x hx=>by
   obtain⟨-,e,he,hek⟩:=H.all a x hx;exact f2 e he hek
  refine⟨{ w with heap:=w.heap.setIfInBounds b (.map (es++ [({ key:=ek a,val:=ev y,born:=c } :Ae5)]).toArray (c+1)) },?_,⟨_,_,hnew _,⟨?_,?_,?_⟩,by have:=MapKept.stamped_push hS (key:=ek a) (val:=ev y) (fun x hx=>f2 x (by simpa using hx));simpa using this⟩,hgr _,by simp⟩
  ·simp[Ahb,run_underlying ht,AeD hb,L.check w false (hD a ha),f1,Aft _ hb,Adw]
  ·simp only[List.map_append,AcX,Ac2];refine List.nodup_append.2 ⟨H.keys,by simp,fun x hx z hz e=> ?_⟩;obtain⟨f,he1,rfl⟩:=AdC.1 hx;simp at hz;exact f2 f he1 (e.trans hz)
  ·intro e he;rcases List.mem_append.1 he with h1 | h1
   ·obtain⟨q,z,k1,k2,k3,k4⟩:=H.ent e h1;refine⟨q,z,k1,k2,k3,?_⟩;unfold updM;rw[if_neg (fun f=>f2 e h1 (by rw[k2,f]))];exact k4
   ·rw[Adn.1 h1];exact⟨a,y,ha,rfl,rfl,by unfold updM;rw[if_pos rfl]⟩
  ·intro q z hq;unfold updM at hq;split at hq
   ·rename_i f
    subst f;exact⟨ha,_,List.mem_append_right _ (Adn.2 rfl),rfl⟩
   ·obtain⟨k1,e,he,hek⟩:=H.all q z hq;exact⟨k1,e,List.mem_append_left _ he,hek⟩
 ·obtain⟨q0,y0,k1,k2,k3,k4⟩:=H.ent g (AeM f2);have hjl:j<es.length:=(Ac3.1 f2).1;have hkeq:(es.modify j fun e=> { e with key:=ek a,val:=ev y }).map (·.key)=es.map (·.key):=by
   rw[Go.ChangeMaps.modify_eq_set _ _ _ _ f2,List.map_set];exact Go.WideElems.set_self _ _ _ (by rw[List.getElem?_map,f2];simp[f3])
  have hj:es.toArray[j]? =some g:=by simpa using f2
  refine⟨{ w with heap:=w.heap.setIfInBounds b (.map (es.modify j fun e=> { e with key:=ek a,val:=ev y }).toArray c) },?_,⟨_,_,hnew _,⟨?_,?_,?_⟩,by have:=MapKept.stamped_modify hS j (fun e=> { e with key:=ek a,val:=ev y }) (fun _ _=>rfl) (fun e _ he=>by rw[hj]at he;cases he;exact f3.symm);rwa [List.modify_toArray]at this⟩,hgr _,by simp⟩
  ·simp[Ahb,run_underlying ht,AeD hb,L.check w false (hD a ha),f1,f2,f3,L.stays w (hD a ha),Aft _ hb,Adw]
  ·rw[hkeq];exact H.keys
  ·intro e he;rw[Go.ChangeMaps.modify_eq_set _ _ _ _ f2]at he;obtain⟨i,hil,hie⟩:=AdM.1 he;rw[List.getElem_set]at hie;split at hie
   ·subst hie;exact⟨a,y,ha,rfl,rfl,by unfold updM;rw[if_pos rfl]⟩
   ·rename_i hne
    have hil2:i<es.length:=by simpa using hil
    obtain⟨q,z,m1,m2,m3,m4⟩:=H.ent e (hie▸Aee hil2);refine⟨q,z,m1,m2,m3,?_⟩;unfold updM;rw[if_neg ?_]
    ·exact m4
    ·intro f;subst f
     apply hne
     have hn:=H.keys;have k:(es.map (·.key))[j]'(by simpa using hjl)=(es.map (·.key))[i]'(by simpa using hil2):=by
      simp only[List.getElem_map];rw[hie,m2,<-f3];exact congrArg MapEntry.key (Ac3.1 f2).2
     exact(List.getElem_inj hn).1 k
  ·intro q z hq;have hmem:∀x,x∈es.map (·.key)->∃e∈(es.modify j fun e=> { e with key:=ek a,val:=ev y }),e.key=x:=fun x hx=>by
    rw[<-hkeq]at hx;obtain⟨e,he,rfl⟩:=AdC.1 hx;exact⟨e,he,rfl⟩
   unfold updM at hq;split at hq
   ·rename_i f
    subst f;exact⟨ha,hmem _ (AdC.2 ⟨g,AeM f2,f3⟩)⟩
   ·obtain⟨k1,e,he,hek⟩:=H.all q z hq;exact⟨k1,hmem _ (AdC.2 ⟨e,he,hek⟩)⟩
theorem MapF.del{ty:AcK}(h:MapF ek ev D w b G){a:α}(ha:D a):
  ∃w',(Ahc #[t,K] ty #[.map (some b),ek a]).run P w = .ok (.tuple #[]) w' /\MapF ek ev D w' b (updM G a none)/\w.grownBy w' (some b)/\w'.heap.size=w.heap.size:=by
 obtain⟨es,c,hb,H,hS⟩:=h;have hkeys:∀e∈es,OK e.key:=fun e he=>by
  obtain⟨q,y,k1,k2,-⟩:=H.ent e he;rw[k2];exact hD q k1
 have hblt:b<w.heap.size:=(Adr.1 hb).1;have hgr:∀o,w.grownBy { w with heap:=w.heap.setIfInBounds b o } (some b):=fun o=>⟨rfl,rfl,rfl,by simp,fun i _ hi=>by simp only[Aez];rw[if_neg (fun e=>hi (by rw[e]))]⟩;have hnew:∀o,({ w with heap:=w.heap.setIfInBounds b o } :AcE).heap[b]? =some o:=fun o=>by simp[hblt]
 rcases L.find w (hD a ha) es hkeys with ⟨f1,f2⟩ | ⟨j,k,f1,f2,f3⟩
 ·have hG:G a=none:=by
   cases hG:G a with
   | none=>rfl
   | some y=>
    obtain⟨-,e,he,hek⟩:=H.all a y hG;exact absurd hek (f2 e he)
  have hU:updM G a none=G:=by
   funext x
   unfold updM;split
   ·rename_i e;rw[e,hG]
   ·rfl
  rw[hU];refine⟨{ w with heap:=w.heap.setIfInBounds b (.map es.toArray c) },?_,⟨_,_,hnew _,H,hS⟩,hgr _,by simp⟩;simp[Ahc,run_underlying ht,AeD hb,L.check w _ (hD a ha),f1,Aft _ hb,Adw]
 ·have hjl:j<es.length:=(Ac3.1 f2).1;have hne:∀e∈es.eraseIdx j,e.key≠ek a:=fun e he hk=>by
   obtain⟨i,hil,hie⟩:=Agc.1 he;obtain⟨hij,hie⟩:=hie;have g:(es.map (·.key))[j]'(by simpa using hjl)=(es.map (·.key))[i]'(by simpa using hil):=by
    simp only[List.getElem_map];rw[hie,hk,<-f3];exact congrArg MapEntry.key (Ac3.1 f2).2
   exact hij ((List.getElem_inj H.keys).1 g).symm
  refine⟨{ w with heap:=w.heap.setIfInBounds b (.map (es.eraseIdx j).toArray c) },?_,⟨_,_,hnew _,⟨?_,?_,?_⟩,OT (AfB _ _) hS⟩,hgr _,by simp⟩
  ·simp[Ahc,run_underlying ht,AeD hb,L.check w _ (hD a ha),f1,Aft _ hb,Adw]
  ·exact H.keys.sublist ((AfB _ _).map _)
  ·intro e he;obtain⟨q,z,m1,m2,m3,m4⟩:=H.ent e ((AfB _ _).subset he);refine⟨q,z,m1,m2,m3,?_⟩;unfold updM;rw[if_neg (fun f=>hne e he (by rw[m2,f]))];exact m4
  ·intro q z hq;unfold updM at hq;split at hq
   ·cases hq
   ·rename_i hqa
    obtain⟨k1,e,he,hek⟩:=H.all q z hq;refine⟨k1,e,?_,hek⟩;obtain⟨i,hil,hie⟩:=AdM.1 he;refine Agc.2 ⟨i,hil,fun f=> ?_,hie⟩;subst f
    apply hqa
    refine hi _ _ (hek.symm.trans ?_);rw[<-f3,<-hie];exact congrArg MapEntry.key (Ac3.1 f2).2
end
end
theorem Co{a b:Nat}(h:a≠b):some a≠some b:=fun e=>h (Ac9 e)
def CP(u v:AcD):Prop:=∀k,u.ownBlock=some k->v.ownBlock≠some k
section
variable {N B : Nat} {r : Option Nat} {w w' w1 w0 : AcE} {e t : AcK}
theorem MP{z n:Nat}{v:AcD}{xs:List AcD}(ho:w.ownsRow B e z v n xs)(k:w.grownBy w1 r)(ha:∀k,r=some k->v.ownBlock≠some k):w1.ownsRow B e z v n xs:=
 ho.kept k (by
  cases hv:v.ownBlock with
  | none=>exact .inl rfl
  | some g=>exact .inr (fun e=>ha g e.symm hv))
theorem Kz{u v:AcD}{b:Nat}{e' :AcK}{z n z' n' :Nat}{xs ys:List AcD}(hu:w.ownsRow b e z u n xs)(hv:w'.ownsRow w.heap.size e' z' v n' ys):CP u v:=fun k h1 h2=>by
 have:=(hu.lt k h1).2;have:=(hv.lt k h2).1;omega
theorem OU{u v v' :AcD}{b:Nat}{z n:Nat}{xs:List AcD}(gr:Grew w w' v v')(ha:CP v u)(hu:w.ownsRow b e z u n xs):CP v' u:=fun k h1 h2=>by
 rcases gr.fresh k h1 with h3 | h3
 ·exact ha k h3 h2
 ·have:=(hu.lt k h2).2;omega
theorem JX{v v' u:AcD}{b:Nat}{z n:Nat}{xs:List AcD}(hu:w.ownsRow b e z u n xs)(gr:Grew w w' v v')(ha:CP v u):w'.ownsRow b e z u n xs:=MP hu gr.by_ ha
theorem Hl{α:Type}{k b:Nat}{enc:α->List AcD}{v v' u:AcD}{l:List α}(hu:OG b e k enc w u l)(gr:Grew w w' v v')(ha:CP v u):OG b e k enc w' u l:=⟨hu.1,JX hu.2 gr ha⟩
end
theorem R5:Plain AcF 128:=fun _ _=>by kernel_rfl
theorem R6:Plain AcF 129:=fun _ _=>by kernel_rfl
theorem Uh(w:AcE)(c:UInt8):
  Calls AcF 129 #[B8 c] w fun e w' =>e = .returned (.bool (Ja c))/\Ext w w' :=by
 refine F2 (args:= [B8 (c)]) Tryz.func129 rfl 37 rfl rfl ?_;have hE:=AbN w;refine gS (Y7 (a:=((c).toNat:Nat)) (b:=(97:Nat)) rfl rfl (Fw _ _ _ _) (gO fun _=>Ae (B8 (c)) rfl rfl (gT rfl) (fun hG3=>AbT rfl ⟨rfl,rfl⟩) (At (gO fun _=>Ae (.bool (decide (((c).toNat)<=(122)))) rfl rfl (gT rfl) (fun hG4=>Y7 (a:=(((c).toNat:Nat):Int)) (b:=((122:Nat):Int)) (Ak rfl hG4) rfl (E1 _ .u8 ((c).toNat) (122)) ⟨rfl,rfl⟩) (At (gS (Zq rfl (fun hA=>(Ak rfl hA)) rfl fun bb5 hbb6=>(gO fun _=>Ae (B8 (c)) rfl rfl (gF rfl) (fun hG7=>AbT rfl ⟨rfl,rfl⟩) (At (gO fun _=>Ae (.bool (decide ((65)<=((c).toNat)))) rfl rfl (gF rfl) (fun hG8=>Y7 (a:=(((c).toNat:Nat):Int)) (b:=((65:Nat):Int)) (Ak rfl hG8) rfl (Fw _ .u8 ((c).toNat) (65)) ⟨rfl,rfl⟩) (At (gO fun _=>Ae (.bool (decide ((65)<=((c).toNat)))) rfl rfl (gF rfl) (fun hG9=>AbT (Ak rfl hG9) ⟨rfl,rfl⟩) (At (gO fun _=>Ae (B8 (c)) rfl rfl (F0 rfl) (fun hG10=>AbT rfl ⟨rfl,rfl⟩) (At (gO fun _=>Ae (.bool (decide (((c).toNat)<=(90)))) rfl rfl (F0 rfl) (fun hG11=>Y7 (a:=(((c).toNat:Nat):Int)) (b:=((90:Nat):Int)) (Ak rfl hG11) rfl (E1 _ .u8 ((c).toNat) (90)) ⟨rfl,rfl⟩) (At (gO fun _=>D6 ((decide ((65)<=((c).toNat)))&&(decide (((c).toNat)<=(90)))) rfl rfl (gF rfl) (fun hG12=>ZL (Ak rfl hG12) (fun hA=>(Ak rfl (F7 hG12 hA))) rfl ⟨rfl,rfl⟩) fun bb13 hbb14=>At (gS (Zp rfl rfl (fun hA=>(Ak rfl (BI hA))) fun bb15 hbb16=>(gO fun _=>Ae (B8 (c)) rfl rfl (gF rfl) (fun hG17=>AbT rfl ⟨rfl,rfl⟩) (At (gO fun _=>Ae (.bool (decide ((48)<=((c).toNat)))) rfl rfl (gF rfl) (fun hG18=>Y7 (a:=(((c).toNat:Nat):Int)) (b:=((48:Nat):Int)) (Ak rfl hG18) rfl (Fw _ .u8 ((c).toNat) (48)) ⟨rfl,rfl⟩) (At ?_))))))))))))))))))))))));refine gO fun _=>Ae (.bool (decide ((48)<=((c).toNat)))) rfl rfl (gF rfl) (fun hG19=>AbT (Ak rfl hG19) ⟨rfl,rfl⟩) (At (gO fun _=>Ae (B8 (c)) rfl rfl (F0 rfl) (fun hG20=>AbT rfl ⟨rfl,rfl⟩) (At (gO fun _=>Ae (.bool (decide (((c).toNat)<=(57)))) rfl rfl (F0 rfl) (fun hG21=>Y7 (a:=(((c).toNat:Nat):Int)) (b:=((57:Nat):Int)) (Ak rfl hG21) rfl (E1 _ .u8 ((c).toNat) (57)) ⟨rfl,rfl⟩) (At (gO fun _=>D6 ((decide ((48)<=((c).toNat)))&&(decide (((c).toNat)<=(57)))) rfl rfl (gF rfl) (fun hG22=>ZL (Ak rfl hG22) (fun hA=>(Ak rfl (F7 hG22 hA))) rfl ⟨rfl,rfl⟩) fun bb23 hbb24=>At (gS (Zp rfl rfl (fun hA=>(Ak rfl (BI hA))) fun bb25 hbb26=>(gO fun _=>Ae (B8 (c)) rfl rfl (gF rfl) (fun hG27=>AbT rfl ⟨rfl,rfl⟩) (At (gO fun _=>Ae (.bool (decide (((c).toNat:Nat)=(45)))) rfl rfl (gF rfl) (fun hG28=>Y7 (a:=(((c).toNat:Nat):Int)) (b:=((45:Nat):Int)) (Ak rfl hG28) rfl (AK _ .u8 ((c).toNat) (45)) ⟨rfl,rfl⟩) (At (gS (Zp rfl rfl (fun hA=>(Ak rfl (BI hA))) fun bb29 hbb30=>(gO fun _=>Ae (B8 (c)) rfl rfl (gF rfl) (fun hG31=>AbT rfl ⟨rfl,rfl⟩) (At (gO fun _=>Ae (.bool (decide (((c).toNat:Nat)=(95)))) rfl rfl (gF rfl) (fun hG32=>Y7 (a:=(((c).toNat:Nat):Int)) (b:=((95:Nat):Int)) (Ak rfl hG32) rfl (AK _ .u8 ((c).toNat) (95)) ⟨rfl,rfl⟩) (At (gS (Zp rfl rfl (fun hA=>(Ak rfl (BI hA))) fun bb33 hbb34=>(gO fun _=>Ae (B8 (c)) rfl rfl (gF rfl) (fun hG35=>AbT rfl ⟨rfl,rfl⟩) (At (gO fun _=>Ae (.bool (decide (((c).toNat:Nat)=(46)))) rfl rfl (gF rfl) (fun hG36=>Y7 (a:=(((c).toNat:Nat):Int)) (b:=((46:Nat):Int)) (Ak rfl hG36) rfl (AK _ .u8 ((c).toNat) (46)) ⟨rfl,rfl⟩) (At ?_))))))))))))))))))))))));refine gS (Zp rfl rfl (fun hA=>(Ak rfl (BI hA))) fun bb37 hbb38=>(AE rfl (vr (.bool (bb37)) rfl) ?_));subst hbb6 hbb14 hbb16 hbb24 hbb26 hbb30 hbb34 hbb38;exact⟨rfl,hE⟩
theorem Wp(w:AcE)(s:Bs)(hl:s.length≠64):
  Calls AcF 128 #[St s] w fun e w' =>e = .returned (.bool false)/\Ext w w' :=by
 refine gG (args:= [St (s)]) Tryz.func128 rfl 11 rfl rfl ?_;have hE:=AbN w;refine gS (ZK (l:=s) EK rfl (gS (Y7 (a:=(s.length:Nat)) (b:=(64:Nat)) rfl rfl (AK _ _ _ _) (kF (hl) (gS (Zo rfl rfl (AE rfl (vr (.bool (false)) rfl) ?_)))))));exact⟨rfl,hE⟩
theorem JY(w:AcE)(s:Bs)(hs:s.length<=9223372036854775807):
  Calls AcF 84 #[St s] w fun e w' =>e = .returned (.bool (Av s))/\Ext w w' :=by
 refine F2 (args:= [St (s)]) Tryz.func84 rfl 41 rfl rfl ?_;have hE:=AbN w;refine gS (ZK (l:=s) EK rfl (gS (Y7 (a:=(s.length:Nat)) (b:=(1:Nat)) rfl rfl (Bf _ _ _ _) (gO fun _=>Ae (St (s)) rfl rfl (gF rfl) (fun hG4=>AbT rfl ⟨rfl,rfl⟩) (At (gO fun _=>Ae (NI s.length) rfl rfl (gF rfl) (fun hG5=>ZK (l:=s) EK (Ak rfl hG5) ⟨rfl,rfl⟩) (At (gO fun _=>Ae (.bool (decide ((32)<(s.length)))) rfl rfl (gF rfl) (fun hG6=>Y7 (a:=((s.length:Nat):Int)) (b:=((32:Nat):Int)) (Ak rfl hG6) rfl (CQ _ .i64 (s.length) (32)) ⟨rfl,rfl⟩) (At (gS (Zp rfl rfl (fun hA=>(Ak rfl (BI hA))) fun bb7 hbb8=>(gO fun _=>Ae (St (s)) rfl rfl (gF rfl) (fun hG9=>AbT rfl ⟨rfl,rfl⟩) (At (gO fun _=>Ae (B8 (s.getD (0) 0)) rfl rfl (gF rfl) (fun hG10=>ZZ (l:=s) (i:=0) EK (Ak rfl hG10) rfl (by first | omega | (simp only[hbb8,gA,gB,gC,gD,gE]at hG10;omega)) ⟨rfl,rfl⟩) (At (gO fun _=>Ae (.bool (decide (((s.getD (0) 0).toNat:Nat)=(46)))) rfl rfl (gF rfl) (fun hG11=>Y7 (a:=(((s.getD (0) 0).toNat:Nat):Int)) (b:=((46:Nat):Int)) (Ak rfl hG11) rfl (AK _ .u8 ((s.getD (0) 0).toNat) (46)) ⟨rfl,rfl⟩) (At (gS (Zp rfl rfl (fun hA=>(Ak rfl (BI hA))) fun bb12 hbb13=>(gO fun _=>Ae (St (s)) rfl rfl (gF rfl) (fun hG14=>AbT rfl ⟨rfl,rfl⟩) (At (gO fun _=>Ae (B8 (s.getD (0) 0)) rfl rfl (gF rfl) (fun hG15=>ZZ (l:=s) (i:=0) EK (Ak rfl hG15) rfl (by first | omega | (simp only[hbb8,hbb13,gA,gB,gC,gD,gE]at hG15;omega)) ⟨rfl,rfl⟩) (At (gO fun _=>Ae (.bool (decide (((s.getD (0) 0).toNat:Nat)=(45)))) rfl rfl (gF rfl) (fun hG16=>Y7 (a:=(((s.getD (0) 0).toNat:Nat):Int)) (b:=((45:Nat):Int)) (Ak rfl hG16) rfl (AK _ .u8 ((s.getD (0) 0).toNat) (45)) ⟨rfl,rfl⟩) (At (gS (Zp rfl rfl (fun hA=>(Ak rfl (BI hA))) fun bb17 hbb18=> ?_)))))))))))))))))))))))))));refine gO fun _=>Ae (St (s)) rfl rfl (gF rfl) (fun hG19=>AbT rfl ⟨rfl,rfl⟩) (At (gO fun _=>Ae (.bool (decide (s=(([72,69,65,68]:Aib):Aib)))) rfl rfl (gF rfl) (fun hG20=>Z0 (l:=s) (m:=([72,69,65,68]:Aib)) (.inl rfl) (Ak rfl hG20) rfl (decide (s=(([72,69,65,68]:Aib):Aib))) rfl ⟨rfl,rfl⟩) (At (gS (Zp rfl rfl (fun hA=>(Ak rfl (BI hA))) fun bb21 hbb22=>(gO fun _=>Ae (St (s)) rfl rfl (gF rfl) (fun hG23=>AbT rfl ⟨rfl,rfl⟩) (At (gO fun _=>Ci (.bool (false)) rfl rfl (gF rfl) (fun hG24=>Y9 R5 (Ak rfl hG24) ((Wp _ s (by first | omega | (simp only[hbb8,hbb13,hbb18,hbb22,gA,gB,gC,gD,gE]at hG24;omega))).mono (by rintro e w2 ⟨rfl,hx⟩;exact⟨_,rfl,rfl,hx⟩))) fun q h=>At (gS (Zp rfl rfl (fun hA=>(Ak rfl (BI hA))) fun bb28 hbb29=> ?_))))))))));refine cB (bb28) rfl (fun c=> ?_) fun c=> ?_
 ·subst hbb8 hbb13 hbb18 hbb22 hbb29;rw[Bool.or_false]at c;refine AE rfl (vr (.bool (false)) rfl) ?_;have hE:=hE.trans h;exact⟨by rw[Qg (s:=s) c],hE⟩
 subst hbb8 hbb13 hbb18 hbb22 hbb29;rw[Bool.or_false]at c;have hh:HI s=false:=c;have hsl:=LO hh;have hE:=hE.trans h;refine gS (ZK (l:=s) EK rfl (gL (fun(ρ:Aj) (wz:AcE)=>∃i:Nat,ρ 0=(St (s):AcD)/\ρ 31=(NI s.length:AcD)/\ρ 32=(NI i:AcD)/\Ext w wz/\(i<=s.length)/\((s.take i).all Ja=true)/\True) (fun ρ _=>s.length-(intOf (ρ 32)).toNat) ⟨0,rfl,rfl,rfl,hE,AcZ _,by simp,trivial⟩ ?_));clear hE;rintro o r ⟨i,j,k,f,hE,hi,ha,-⟩;have q32:=f;refine gS (Y7 (a:=(i:Nat)) (b:=(s.length:Nat)) f k (Bf _ _ _ _) ?_);refine cD rfl (fun p=> ?_) fun p=> ?_
 ·refine gS (ZZ (l:=s) (i:=i) EK j f (by omega) (gS (Y9 R6 rfl ((Uh _ (s.getD (i) 0)).mono ?_))));rintro e t ⟨rfl,n⟩;refine⟨_,rfl,?_⟩;refine gS (Zn rfl ?_);refine cB (!(Ja (s.getD (i) 0))) rfl (fun g=> ?_) fun g=> ?_
  ·refine AE rfl (vr (.bool (false)) rfl) ?_;have hE:=hE.trans n;exact⟨by rw[RY (show i<s.length by omega) (Yg g)],hE⟩
  have hE:=hE.trans n;refine gS (Ze (xv:=NI i) (yv:=NI 1) f rfl rfl (AD _ _ _ (by omega)) (gK (AdF ⟨i+1,j,k,rfl,hE,by omega,Ug 0 (by omega) ha (Yf g),trivial⟩ ?_)));show s.length-(intOf (NI ((i)+(1)))).toNat<s.length-(intOf (o 32)).toNat;rw[q32];simp only[intOf,Ac8];omega
 refine AE rfl (vr (.bool (true)) rfl) ?_;exact⟨by rw[RZ hh (by omega) ha],hE⟩
section
variable {P : AcY} {K : AcD -> AcE -> Prop} {ρ : Aj} {w : AcE} {d : Option Tmp} {ty : AcK} {pos : String} {af : Array Adv} {gd : Option (Nat × Bool)}
variable {α β : Type} {ek : α -> AcD} {ev : β -> AcD} {D : α -> Prop} {b : Nat} {G : α -> Option β}
variable {t Kt E : AcK} {OK : AcD -> Prop}
theorem AaJ(L:KL P Kt OK)(hD:∀a,D a->OK (ek a))(hi:∀a c,ek a=ek c->a=c)(ht:P.underlying t=some (.map Kt E)){z:AcD}(hz:∀u:AcE,(zeroValue E).run P u = .ok z u){x y:AcO}{a:α} 
  (hm:Ab ρ x = .map (some b)) (hy:Ab ρ y=ek a) (h:MapF ek ev D w b G) (ha:D a) (hk:K ((G a).elim z ev) w):
  Yk P K ((execOp (Ab ρ) ⟨d, .lookup t x y false,ty,pos,af,gd⟩).run P w):=by
 have hrun:=h.look L hD hi ht hz ha false;refine AbU (v:=(G a).elim z ev) (w' :=w) ?_ hk;unfold execOp;simp only[hm,hy,AcN,hrun,AcM,AcR];rfl
theorem Aaw[DecidableEq α](L:KL P Kt OK)(hD:∀a,D a->OK (ek a))(ht:P.underlying t=some (.map Kt E)){x y z:AcO}{a:α}{c:β} 
  (hm:Ab ρ x = .map (some b)) (hy:Ab ρ y=ek a) (hz:Ab ρ z=ev c) (h:MapF ek ev D w b G) (ha:D a) (hk:∀w',MapF ek ev D w' b (updM G a (some c))->w.grownBy w' (some b)->w'.heap.size=w.heap.size->K undef w'):
  Yk P K ((execOp (Ab ρ) ⟨d, .mapUpdate t x y z,ty,pos,af,gd⟩).run P w):=by
 obtain⟨w',hrun,h1,h2,h3⟩:=h.put L hD ht ha c;have hr:(execOp (Ab ρ) ⟨d, .mapUpdate t x y z,ty,pos,af,gd⟩).run P w = .ok .skip w' \/(execOp (Ab ρ) ⟨d, .mapUpdate t x y z,ty,pos,af,gd⟩).run P w = .ok (.value undef) w' :=by
  unfold execOp;simp only[hm,hy,hz,AcN,hrun,AcM,AcR];simp
 rcases hr with hr | hr <;> rw[hr] <;> exact hk w' h1 h2 h3
theorem Aa4[DecidableEq α](L:KL P Kt OK)(hD:∀a,D a->OK (ek a))(hi:∀a c,ek a=ek c->a=c)(ht:P.underlying t=some (.map Kt E)){x y:AcO}{a:α} 
  (hm:Ab ρ x = .map (some b)) (hy:Ab ρ y=ek a) (h:MapF ek ev D w b G) (ha:D a) (hk:∀w',MapF ek ev D w' b (updM G a none)->w.grownBy w' (some b)->w'.heap.size=w.heap.size->K (.tuple #[]) w'):
  Yk P K ((execOp (Ab ρ) ⟨d, .call ⟨.builtin .delete,#[x,y],#[t,Kt]⟩,ty,pos,af,gd⟩).run P w):=by
 obtain⟨w',hrun,h1,h2,h3⟩:=h.del L hD hi ht (ty:=ty) ha;refine AbU (v:= .tuple #[]) (w' :=w') ?_ (hk w' h1 h2 h3);unfold execOp;simp only[resolve,invoke,builtin,AcN,AcR,AcM,AcT,AcX,Ac2,hm,hy,hrun]
theorem Aab(ek:α->AcD)(ev:β->AcD)(D:α->Prop)(hk:∀g w',w.heap.size=g->MapF ek ev D w' g (fun _=>none)->Ext w w' ->w'.heap.size=g+1->K (.map (some g)) w'):
  Yk P K ((execOp (Ab ρ) ⟨d, .makeMap t none,ty,pos,af,gd⟩).run P w):=by
 refine AbU (v:= .map (some w.heap.size)) (w' :=w.alloc (.map #[] 0)) ?_ (hk _ _ rfl (Abq ek ev D w) ((AdA _ _).alloc (AcI _) _) (by simp));unfold execOp;simp[Instr.makeMap,newObj,Adw];rfl
theorem ZX(L:KL P Kt OK)(hD:∀a,D a->OK (ek a))(hi:∀a c,ek a=ek c->a=c)(ht:P.underlying t=some (.map Kt E)){z:AcD}(hz:∀u:AcE,(zeroValue E).run P u = .ok z u){x y:AcO}{a:α}{c:β} 
  (hm:Ab ρ x = .map (some b)) (hy:Ab ρ y=ek a) (h:MapF ek ev D w b G) (ha:D a) (hG:G a=some c) (hk:K (ev c) w):Yk P K ((execOp (Ab ρ) ⟨d, .lookup t x y false,ty,pos,af,gd⟩).run P w):=
 AaJ L hD hi ht hz hm hy h ha (by rw[hG];exact hk)
theorem AaA(L:KL P Kt OK)(hD:∀a,D a->OK (ek a))(hi:∀a c,ek a=ek c->a=c)(ht:P.underlying t=some (.map Kt E)){z:AcD}(hz:∀u:AcE,(zeroValue E).run P u = .ok z u){x y:AcO}{a:α} 
  (hm:Ab ρ x = .map (some b)) (hy:Ab ρ y=ek a) (h:MapF ek ev D w b G) (ha:D a) (hG:G a=none) (hk:K z w):Yk P K ((execOp (Ab ρ) ⟨d, .lookup t x y false,ty,pos,af,gd⟩).run P w):=
 AaJ L hD hi ht hz hm hy h ha (by rw[hG];exact hk)
theorem Yk.build{parts:Array (Nat × AcO)}{vs:Array (Nat × AcD)}{v:AcD}(hv:(parts.map fun(i,x)=>(i,Ab ρ x))=vs)(hr:∀w:AcE,(AdI t vs).run P w = .ok v w)(hk:K v w):
  Yk P K ((execOp (Ab ρ) ⟨d, .build t parts,ty,pos,af,gd⟩).run P w):=by
 refine AbU (v:=v) (w' :=w) ?_ hk;unfold execOp;simp only[hv,hr,AcN,AcM,AcR]
theorem Z8{i0:Nat}{x0:AcO}{a v:AcD}(h0:Ab ρ x0=a)(hr:∀w:AcE,(AdI t #[(i0,a)]).run P w = .ok v w)(hk:K v w):Yk P K ((execOp (Ab ρ) ⟨d, .build t #[(i0,x0)],ty,pos,af,gd⟩).run P w):=
 Yk.build (by simp[h0]) hr hk
theorem ZU{i0 i1:Nat}{x0 x1:AcO}{a b v:AcD}(h0:Ab ρ x0=a)(h1:Ab ρ x1=b)(hr:∀w:AcE,(AdI t #[(i0,a),(i1,b)]).run P w = .ok v w)(hk:K v w):Yk P K ((execOp (Ab ρ) ⟨d, .build t #[(i0,x0),(i1,x1)],ty,pos,af,gd⟩).run P w):=
 Yk.build (by simp[h0,h1]) hr hk
theorem RG.slice{k:Nat}{enc:α->List AcD}{v:AcD}{l:List α}(h:RG k enc w v l):∃ao n c,v = .slice ao n c:=by
 obtain⟨ao,c,rfl⟩:=h.len;exact⟨ao,_,c,rfl⟩
abbrev Acu:=@RG.slice
theorem Aas{fs}(hu:P.underlying t=some (.struct fs)){x:AcO}{v:AcD}(hx:Ab ρ x=v)(hk:K (.iface t v) w):Yk P K ((execOp (Ab ρ) ⟨d, .makeInterface t x,ty,pos,af,gd⟩).run P w):=by
 refine AbU (v:= .iface t v) (w' :=w) ?_ hk;unfold execOp;simp[Instr.makeInterface,hx,run_underlying hu,Adw]
theorem Z1{k:Nat}{enc:α->List AcD}{e:AcK}{x:AcO}{a:α}(hx:Ab ρ x = .agg (enc a).toArray)(hl:(enc a).length=k) 
  (hr:∀(cs:Array AcD),cs.size=k->∀w:AcE,(Adc t 1 #[(0, .agg cs)]).run P w = .ok (.slice (some ⟨w.heap.size,0,none⟩) 1 1) (w.alloc (.cells cs e)))
  (hk:∀v w',RG k enc w' v [a]->Ext w w' ->K v w'):Yk P K ((execOp (Ab ρ) ⟨d, .buildSlice t 1 #[(0,x)],ty,pos,af,gd⟩).run P w):=by
 have hE:Ext w (w.alloc (.cells (enc a).toArray e)):=(AdA _ _).alloc (AcI _) _;refine AbU (v:= .slice (some ⟨w.heap.size,0,none⟩) 1 1) (w' :=w.alloc (.cells (enc a).toArray e)) ?_ (hk _ _ (Aaz hl (heap_alloc_new w _)) hE);unfold execOp;simp only[AcT,AcX,Ac2,hx,AcN,hr _ (show(enc a).toArray.size=k by rw[Adi];exact hl),AcM,AcR]
theorem RG.elem{k:Nat}{enc:α->List AcD}{v:AcD}{l:List α}(h:RG k enc w v l)(dd:α){i:Nat}(hi:i<l.length):(enc (l.getD i dd)).length=k:=by
 refine h.1 _ ?_;rw[AcL,AcQ hi];exact Aee hi
abbrev AbX:=@RG.elem
theorem RG.cut{k:Nat}{enc:α->List AcD}{v:AcD}{l:List α}(h:∀x∈l,(enc x).length=k){a c:Nat}(ha:a<=c)(hc:c<=l.length)(hR:Reads w k v (c-a) (((l.flatMap enc).drop (a*k)).take ((c-a)*k))):RG k enc w v ((l.drop a).take (c-a)):=by
 have hd:∀(l:List α) (n:Nat),(∀x∈l,(enc x).length=k)->(l.flatMap enc).drop (n*k)=(l.drop n).flatMap enc:=by
  intro l n
  induction n generalizing l with
  | zero=>intro _;simp
  | succ n ih=>
   intro h;cases l with
   | nil=>simp
   | cons x r=>
    have hx:=h x (by simp);rw[Adz,List.drop_succ_cons,<-ih r (fun y hy=>h y (by simp[hy])),show(n+1)*k=(enc x).length+n*k by rw[hx,Ad2];omega,List.drop_append,Aef (by omega),AeQ,Adm]
 have htk:∀(l:List α) (n:Nat),(∀x∈l,(enc x).length=k)->(l.flatMap enc).take (n*k)=(l.take n).flatMap enc:=by
  intro l n
  induction n generalizing l with
  | zero=>intro _;simp
  | succ n ih=>
   intro h;cases l with
   | nil=>simp
   | cons x r=>
    have hx:=h x (by simp);rw[Adz,List.take_succ_cons,Adz,<-ih r (fun y hy=>h y (by simp[hy])),show(n+1)*k=(enc x).length+n*k by rw[hx,Ad2];omega,List.take_append,Adj (by omega),AeQ]
 refine⟨fun x hx=>h x (AfG (List.mem_of_mem_take hx)),?_⟩;rw[hd l a h,htk _ _ (fun x hx=>h x (AfG hx))]at hR;rw[show((l.drop a).take (c-a)).length=c-a by rw[Ac4,Ac5];omega];exact hR
theorem AaV{k:Nat}{enc:α->List AcD}{e:AcK}(ht:P.underlying t=some (.slice e))(he:∀w' :AcE,(sizeOf e).run P w' = .ok k w'){x lo:AcO}{v:AcD}{xs:List α}(hx:Ab ρ x=v)(h:RG k enc w v xs){kd:AdV}{l:Nat}(hlo:Ab ρ lo = .int kd (l:Int))(hl:l<=xs.length) 
  (hk:∀v',RG k enc w v' (xs.drop l)->v'.ownBlock=v.ownBlock->K v' w):Yk P K ((execOp (Ab ρ) ⟨d, .slice t x (some lo) none none,ty,pos,af,gd⟩).run P w):=by
 obtain⟨ao,c,⟨hrun,hb⟩,hR⟩:=Ct ht he h.2 (some (.int kd l)) none l xs.length hl (AcI _) (.inr ⟨kd,rfl⟩) (.inl ⟨rfl,rfl⟩);have hR' :=RG.cut h.1 hl (AcI _) hR;rw[Adj (by rw[Ac5];exact AcI _)]at hR';refine AbU (v:= .slice ao (xs.length-l) c) (w' :=w) ?_ (hk _ hR' hb);unfold execOp;simp only[hx,hlo,Ad4,AeB,hrun,AcN,AcR,AcM]
theorem AaW{k:Nat}{enc:α->List AcD}{e:AcK}(ht:P.underlying t=some (.slice e))(he:∀w' :AcE,(sizeOf e).run P w' = .ok k w'){x hi:AcO}{v:AcD}{xs:List α}(hx:Ab ρ x=v)(h:RG k enc w v xs){kd:AdV}{n:Nat}(hhi:Ab ρ hi = .int kd (n:Int))(hl:n<=xs.length) 
  (hk:∀v',RG k enc w v' (xs.take n)->v'.ownBlock=v.ownBlock->K v' w):Yk P K ((execOp (Ab ρ) ⟨d, .slice t x none (some hi) none,ty,pos,af,gd⟩).run P w):=by
 obtain⟨ao,c,⟨hrun,hb⟩,hR⟩:=Ct ht he h.2 none (some (.int kd n)) 0 n (AcZ _) hl (.inl ⟨rfl,rfl⟩) (.inr ⟨kd,rfl⟩);have hR' :=RG.cut h.1 (AcZ _) hl hR;rw[AeV,Nat.sub_zero]at hR';refine AbU (v:= .slice ao (n-0) c) (w' :=w) ?_ (hk _ hR' hb);unfold execOp;simp only[hx,hhi,Ad4,AeB,hrun,AcN,AcR,AcM]
theorem Zg{f:FuncId}(hp:Plain P f){x0:AcO}{a:AcD}{at_:Array AcK}{J:List PanicEntry->AcE->Prop}(h0:Ab ρ x0=a) 
  (h:Calls P f #[a] w fun e w' =>match e with | .returned v=>K v w' | .panicked ch=>J ch w' | .outgrown=>False):Yp P K J ((execOp (Ab ρ) ⟨d, .call ⟨.value (.func f),#[x0],at_⟩,ty,pos,af,gd⟩).run P w):=
 Yp.call hp [a] (by simp[h0]) h
theorem Aae{f:FuncId}(hp:Plain P f){x0 x1:AcO}{a b:AcD}{at_:Array AcK}{J:List PanicEntry->AcE->Prop}(h0:Ab ρ x0=a)(h1:Ab ρ x1=b) 
  (h:Calls P f #[a,b] w fun e w' =>match e with | .returned v=>K v w' | .panicked ch=>J ch w' | .outgrown=>False):Yp P K J ((execOp (Ab ρ) ⟨d, .call ⟨.value (.func f),#[x0,x1],at_⟩,ty,pos,af,gd⟩).run P w):=
 Yp.call hp [a,b] (by simp[h0,h1]) h
end
section
variable {P : AcY} {K : AcD -> AcE -> Prop} {ρ : Aj} {w : AcE} {d : Option Tmp} {ty : AcK} {pos : String} {af : Array Adv} {gd : Option (Nat × Bool)}
theorem Abd{f:FuncId}{at_:Array AcK}{x y:AcO}{a b v:AcD}(hx:Ab ρ x=a)(hy:Ab ρ y=b)(hr:(callFunc f #[a,b]).run P w = .ok (.value v) w)(hk:K v w):Yk P K ((execOp (Ab ρ) ⟨d, .call ⟨.value (.func f),#[x,y],at_⟩,ty,pos,af,gd⟩).run P w):=by
 refine AbU (v:=v) (w' :=w) ?_ hk;have hf:Ab ρ (.func f) = .func (.func f) #[] #[]:=rfl;unfold execOp;simp[resolve,hf,Deferred.ofValue,invoke,hx,hy,hr]
end
section
variable {P : AcY} {w : AcE}
theorem Abz{g:Nat}{l:Aib}{t:AcK}{fr:Nat × Nat}(h:w.heap[g]? =some (.cells (AcH l).toArray t fr))(hl:l.length<=9223372036854775807):RB w (.slice (some ⟨g,0,none⟩) l.length l.length) l:=
 ⟨by simp[AcH],_,_,rfl,AcI _,by unfold maxLen;omega,(fun h=>by cases h),fun a ha j u hu=>by
  cases ha;rw[Aeb,Aem];exact Ac h hu⟩
theorem Abr{g n:Nat}{l:Aib}{t:AcK}{fr:Nat × Nat}(h:w.heap[g]? =some (.cells (AcH l).toArray t fr))(hn:l.length=n)(hl:n<=9223372036854775807):RB w (.slice (some ⟨g,0,none⟩) n n) l:=by
 subst hn;exact Abz h hl
end
def Ai(x:B7):Bool:=decide (x.1=AdK 32 0)
theorem R7{α:Type}{l:List α}{i:Nat}(d:α)(h:i<l.length):l.drop i=l.getD i d :: l.drop (i+1):=by
 rw[Aew h,AcL,AcQ h];rfl
theorem Ey{l:Aib}(h:(AcH l).length=32):l.length=32:=by rwa [AcS]at h
section
variable {P : AcY} {K : AcD -> AcE -> Prop} {ρ : Aj} {w : AcE} {d : Option Tmp} {ty : AcK} {pos : String} {af : Array Adv} {gd : Option (Nat × Bool)}
variable {α β : Type} {ek : α -> AcD} {ev : β -> AcD} {D : α -> Prop} {b : Nat} {G : α -> Option β}
variable {t Kt E : AcK} {OK : AcD -> Prop}
theorem Aax[DecidableEq α](L:KL P Kt OK)(hD:∀a,D a->OK (ek a))(ht:P.underlying t=some (.map Kt E)){x y z:AcO}{a:α}{c:β} 
  (hm:Ab ρ x = .map (some b)) (hy:Ab ρ y=ek a) (hz:Ab ρ z=ev c) (h:MapF ek ev D w b G) (ha:D a) (hk:∀w',MapF ek ev D w' b (updM G a (some c))->w.grownBy w' (some b)->w'.heap.size=w.heap.size->K undef w'):
  Yk P K ((execOp (Ab ρ) ⟨d, .insert t x y z,ty,pos,af,gd⟩).run P w):=by
 obtain⟨w',hrun,h1,h2,h3⟩:=h.put L hD ht ha c;have hr:(execOp (Ab ρ) ⟨d, .insert t x y z,ty,pos,af,gd⟩).run P w = .ok .skip w' \/(execOp (Ab ρ) ⟨d, .insert t x y z,ty,pos,af,gd⟩).run P w = .ok (.value undef) w' :=by
  unfold execOp;simp only[hm,hy,hz,AcN,hrun,AcM,AcR];simp
 rcases hr with hr | hr <;> rw[hr] <;> exact hk w' h1 h2 h3
theorem Abs{t:AcK}{i0 i1 i2:Nat}{x0 x1 x2:AcO}{a b c v:AcD}(h0:Ab ρ x0=a)(h1:Ab ρ x1=b)(h2:Ab ρ x2=c)(hr:∀w:AcE,(AdI t #[(i0,a),(i1,b),(i2,c)]).run P w = .ok v w)(hk:K v w):Yk P K ((execOp (Ab ρ) ⟨d, .build t #[(i0,x0),(i1,x1),(i2,x2)],ty,pos,af,gd⟩).run P w):=
 Yk.build (by simp[h0,h1,h2]) hr hk
end
theorem M3:KL AcF 5 (AfM (.int .u8)):=AaI (by kernel_rfl)
theorem M4:∀n:UInt8,True->AfM (.int .u8) (B8 n):=fun n _=>by first | exact⟨_,rfl⟩ | simp[AfM]
theorem Xv{a b:UInt8}(h:B8 a=B8 b):a=b:=by
 injection h with _ h
 exact UInt8.toNat_inj.1 (Int.ofNat.inj h)
def nE(l:List AH)(i:Nat):Bool:=((!Av (l.getD i dNmd).name)||Ai (l.getD i dNmd).id)||(decide (0<i)&&(!Adg (l.getD (i-1) dNmd).name (l.getD i dNmd).name))
open Classical in
noncomputable def BW(l:List AH):Bool:=decide ((∀j,j<l.length->nE l j=false)/\l.length<=64)
theorem HJ{l:List AH}{i:Nat}(hi:l.length<=i)(h:∀j,j<i->nE l j=false):BW l=decide (l.length<=64):=by
 classical
 unfold BW;by_cases h2:l.length<=64
 ·rw[decide_eq_true h2,decide_eq_true ⟨fun j hj=>h j (by omega),h2⟩]
 ·rw[decide_eq_false h2,decide_eq_false (fun k=>h2 k.2)]
theorem Qk{l:List AH}{i:Nat}(hi:i<l.length)(h:nE l i=true):BW l=false:=by
 classical
 exact decide_eq_false (fun k=>by have:=k.1 i hi;rw[h]at this;cases this)
theorem Pz{p:Nat->Bool}{i:Nat}(h:∀j,j<i->p j=false)(h1:p i=false):∀j,j<i+1->p j=false:=fun j hj=>by
 by_cases e:j<i
 ·exact h j e
 ·obtain rfl:j=i:=by omega
  exact h1
def DY(k:UInt8):Bool:=(decide (k.toNat=1)||decide (k.toNat=2))||decide (k.toNat=3)
def GT(l:List A9)(i:Nat):Bool:=((!DY (l.getD i Au).kind)||(!Cm (l.getD i Au).note))||decide (32<(l.getD i Au).name.length)
noncomputable def IC(r:Ar):Bool:=((!BW r.branches)||(!BW r.tags))||decide (64<r.log.length)
noncomputable def Hm(r:Ar):Bool:=(decide (r.head≠ [])&&((!Av r.head)||(!Ai r.at_)))||(decide (r.head= [])&&Ai r.at_)
open Classical in
noncomputable def AA(r:Ar):Bool:=(!IC r)&&((!Hm r)&&decide (∀j,j<r.log.length->GT r.log j=false))
theorem Ui{r:Ar}(h:IC r=true):AA r=false:=by unfold AA;rw[h];rfl
theorem Uj{r:Ar}(h1:IC r=false)(h:Hm r=true):AA r=false:=by unfold AA;rw[h1,h];rfl
theorem Ql{r:Ar}{i:Nat}(h1:IC r=false)(h2:Hm r=false)(hi:i<r.log.length)(h:GT r.log i=true):AA r=false:=by
 classical
 unfold AA;rw[h1,h2,decide_eq_false (fun k=>by have:=k i hi;rw[h]at this;cases this)];rfl
theorem F8{r:Ar}{i:Nat}(h1:IC r=false)(h2:Hm r=false)(hi:r.log.length<=i)(h:∀j,j<i->GT r.log j=false):AA r=true:=by
 classical
 unfold AA;rw[h1,h2,decide_eq_true (fun j hj=>h j (by omega))];rfl
structure RefsAt (w : AcE) (x : Af) : Prop where
 branches:RG 33 nmdC w x.2.branches x.1.branches
 tags:RG 33 nmdC w x.2.tags x.1.tags
 log:RG 67 entC w x.2.log x.1.log
theorem RefsAt.keep{w w' :AcE}{x:Af}(h:RefsAt w x)(k:Ext w w'):RefsAt w' x:=⟨h.branches.keep k,h.tags.keep k,h.log.keep k⟩
structure E7 (r : Ar) : Prop where
 branches:r.branches.length<9223372036854775807
 tags:r.tags.length<9223372036854775807
 log:r.log.length<9223372036854775807
 bn:∀u∈r.branches,u.name.length<=9223372036854775807
 tn:∀u∈r.tags,u.name.length<=9223372036854775807
 head:r.head.length<=9223372036854775807
theorem R9:Tryz.prog.eqGuardType Tryz.prog.depth 33=false:=by kernel_rfl
theorem ES:Tryz.prog.underlying 31=some (.slice 94):=by kernel_rfl
theorem KA:∀w' :AcE,(sizeOf 94).run AcF w' = .ok 33 w' :=fun _=>by kernel_rfl
theorem LQ:∃fs,Tryz.prog.underlying 94=some (.struct fs):=Dz (by kernel_rfl)
theorem KB:(Tryz.prog.info? 94).map (·.size)=some 33:=by kernel_rfl
theorem Sa{d:Option Tmp}{ty:AcK}{pos:String}{af:Array Adv}{gd:Option (Nat × Bool)}(σ:AcO->AcD)(w:AcE):(execOp σ ⟨d, .alloc 94,ty,pos,af,gd⟩).run AcF w = .ok (.value (PQ w.heap.size 0)) (w.alloc (.cells (nmdC (⟨[],zid⟩:AH)).toArray 94)):=by kernel_rfl
theorem Sb:Ew AcF 94 nmdC:=⟨⟨_,(LQ).choose_spec⟩,fun x=>AO (BG x) KB⟩
theorem GU:AC AcF 94 0 0:=fun b o w=>by simp[go_sem]
theorem LR:Plain AcF 84:=fun _ _=>by kernel_rfl
theorem OV:AC AcF 94 1 1:=fun b o w=>by simp[go_sem]
theorem ID:Plain AcF 85:=fun _ _=>by kernel_rfl
theorem OW:AC AcF 36 0 0:=fun b o w=>by simp[go_sem]
theorem LS:Plain AcF 83:=fun _ _=>by kernel_rfl
theorem OX:AC AcF 36 1 1:=fun b o w=>by simp[go_sem]
theorem Jt:AC AcF 36 4 35:=fun b o w=>by simp[go_sem]
theorem FG:Tryz.prog.underlying 34=some (.slice 97):=by kernel_rfl
theorem GV:AC AcF 36 2 2:=fun b o w=>by simp[go_sem]
theorem Ju:AC AcF 36 3 3:=fun b o w=>by simp[go_sem]
theorem Qm:∀w' :AcE,(sizeOf 97).run AcF w' = .ok 67 w' :=fun _=>by kernel_rfl
theorem LT:∃fs,Tryz.prog.underlying 97=some (.struct fs):=Dz (by kernel_rfl)
theorem KC:(Tryz.prog.info? 97).map (·.size)=some 67:=by kernel_rfl
theorem Sc{d:Option Tmp}{ty:AcK}{pos:String}{af:Array Adv}{gd:Option (Nat × Bool)}(σ:AcO->AcD)(w:AcE):(execOp σ ⟨d, .alloc 97,ty,pos,af,gd⟩).run AcF w = .ok (.value (PQ w.heap.size 0)) (w.alloc (.cells (entC (⟨0,[],zid,zid,[]⟩:A9)).toArray 97)):=by kernel_rfl
theorem Sd:Ew AcF 97 entC:=⟨⟨_,(LT).choose_spec⟩,fun x=>AO (C8 x) KC⟩
theorem Jv:AC AcF 97 0 0:=fun b o w=>by simp[go_sem]
theorem OY:AC AcF 77 0 0:=fun b o w=>by simp[go_sem]
theorem Se:Plain AcF 86:=fun _ _=>by kernel_rfl
theorem OZ:AC AcF 97 1 66:=fun b o w=>by simp[go_sem]
theorem Sf:Plain AcF 35:=fun _ _=>by kernel_rfl
theorem O2:AC AcF 77 1 1:=fun b o w=>by simp[go_sem]
theorem B3(w:AcE)(u:B7):
  Calls AcF 85 #[AB u.1] w fun e w' =>e = .returned (.bool (Ai u))/\Ext w w' :=by
 refine gG (args:= [AB u.1]) Tryz.func85 rfl 6 rfl rfl ?_;have hE:=AbN w;refine gS (Ab3 (vr (AB u.1) rfl) fun b c h a f i=> ?_);have hE:=hE.trans f;have g:=a;clear a;have j:b<c.heap.size:=by omega
 refine gS (ZC rfl g VZ rfl (by exact As u.2) (gS (Ace (v:=AB (AdK 32 0)) (by kernel_rfl) (gS (AaE (l1:=u.1) (l2:=(AdK 32 0)) VZ u5 Qd R9 rfl rfl (u.2) (Adq) (AE rfl (vr (.bool (decide (u.1=(AdK 32 0)))) rfl) ?_))))));exact⟨rfl,hE⟩
theorem LU(w:AcE)(k:UInt8):
  Calls AcF 86 #[B8 k] w fun e w' =>e = .returned (.bool (DY k))/\Ext w w' :=by
 refine F2 (args:= [B8 (k)]) Tryz.func86 rfl 13 rfl rfl ?_;have hE:=AbN w;refine gS (Y7 (a:=((k).toNat:Nat)) (b:=(1:Nat)) rfl rfl (AK _ _ _ _) (gO fun _=>Ae (B8 (k)) rfl rfl (gF rfl) (fun hG3=>AbT rfl ⟨rfl,rfl⟩) (At (gO fun _=>Ae (.bool (decide (((k).toNat:Nat)=(2)))) rfl rfl (gF rfl) (fun hG4=>Y7 (a:=(((k).toNat:Nat):Int)) (b:=((2:Nat):Int)) (Ak rfl hG4) rfl (AK _ .u8 ((k).toNat) (2)) ⟨rfl,rfl⟩) (At (gS (Zp rfl rfl (fun hA=>(Ak rfl (BI hA))) fun bb5 hbb6=>(gO fun _=>Ae (B8 (k)) rfl rfl (gF rfl) (fun hG7=>AbT rfl ⟨rfl,rfl⟩) (At (gO fun _=>Ae (.bool (decide (((k).toNat:Nat)=(3)))) rfl rfl (gF rfl) (fun hG8=>Y7 (a:=(((k).toNat:Nat):Int)) (b:=((3:Nat):Int)) (Ak rfl hG8) rfl (AK _ .u8 ((k).toNat) (3)) ⟨rfl,rfl⟩) (At (gS (Zp rfl rfl (fun hA=>(Ak rfl (BI hA))) fun bb9 hbb10=>(AE rfl (vr (.bool (bb9)) rfl) ?_))))))))))))));subst hbb6 hbb10;exact⟨rfl,hE⟩
theorem LV(w:AcE)(v:AcD)(l:List AH)(hr:RG 33 nmdC w v l)(hll:l.length<9223372036854775807)(hln:∀u∈l,u.name.length<=9223372036854775807):
  Calls AcF 83 #[v] w fun e w' =>e = .returned (.bool (BW l))/\Ext w w' :=by
 refine gG (args:= [v]) Tryz.func83 rfl 40 rfl rfl ?_;have hE:=AbN w;refine gS (Zh ES (Zf hr rfl) (gL (fun(ρ:Aj) (wz:AcE)=>∃i:Nat,ρ 0=(v:AcD)/\ρ 5=(v:AcD)/\ρ 6=(NI l.length:AcD)/\ρ 7=(NI i:AcD)/\RG 33 nmdC wz v l/\Ext w wz/\(i<=l.length)/\(∀j,j<i->nE l j=false)/\True) (fun ρ _=>l.length-(intOf (ρ 7)).toNat) ⟨0,rfl,rfl,rfl,rfl,hr,hE,AcZ _,fun j hj=>absurd hj (AdN _),trivial⟩ ?_));clear hr hE;rintro af w5 ⟨i,p,T5,r,f,hr,hE,hi,hn,-⟩;have q7:=f;refine gS (Y7 (a:=(i:Nat)) (b:=(l.length:Nat)) f r (Bf _ _ _ _) ?_);refine cD rfl (fun z=> ?_) fun z=> ?_
 ·have hlt:i<l.length:=z;have hnm:=hln _ (Cd dNmd hlt);have bd:(nmdC (l.getD (i) dNmd)).length=33:=(AbX hr dNmd (by omega));refine gS (Zk ES KA (by decide) dNmd (Zf hr T5) f (by omega) fun be aa=>(gS (Zd (Zs aa rfl) (LQ).choose_spec rfl (by rw[BG];exact KB) (gS (AbV Sa fun c ah bf ab ac bg=> ?_)))));have o:=AbN w5;have bh:=hE;have ai:=hE.size;have hE:=hE.trans ac;have o:=o.trans ac;have g:=ab;clear ab;have bi:c<ah.heap.size:=by omega
  refine gS (Zj Sb (vr (PQ c 0) rfl) (vr (.agg (nmdC (l.getD (i) dNmd)).toArray) rfl) g (DR) fun aj ad ae bj=> ?_);have hE:=Ad hE ae (AcG ai (by omega));have o:=Ad o ae (AcG (AcI _) (by omega));clear g;have g:aj.heap[c]? =some (.cells (nmdC (l.getD (i) dNmd)).toArray 94 (0,0)):=ad;clear ad;have bk:=bl g;clear aa;refine gR ?_;refine Fj [Is (PQ c 0),Is (St (((l.getD (i) dNmd)).name)),Is (.bool (Av (((l.getD (i) dNmd)).name))),Is (.bool (!(Av (((l.getD (i) dNmd)).name)))),Is (.bool (!(Av (((l.getD (i) dNmd)).name)))),Is (cond (!(!(Av (((l.getD (i) dNmd)).name)))) (PQ c 1) undef),Is (cond (!(!(Av (((l.getD (i) dNmd)).name)))) (AB (((l.getD (i) dNmd)).id.1)) undef),Is (cond (!(!(Av (((l.getD (i) dNmd)).name)))) (.bool (Ai (((l.getD (i) dNmd)).id))) undef),Is (.bool ((!(Av (((l.getD (i) dNmd)).name)))||(Ai (((l.getD (i) dNmd)).id)))),Is (.bool ((!(Av (((l.getD (i) dNmd)).name)))||(Ai (((l.getD (i) dNmd)).id)))),Is (cond (!((!(Av (((l.getD (i) dNmd)).name)))||(Ai (((l.getD (i) dNmd)).id)))) (NI i) undef),Is (cond (!((!(Av (((l.getD (i) dNmd)).name)))||(Ai (((l.getD (i) dNmd)).id)))) (.bool (decide ((0)<(i)))) undef),Is (cond (!((!(Av (((l.getD (i) dNmd)).name)))||(Ai (((l.getD (i) dNmd)).id)))) (.bool (decide ((0)<(i)))) undef),Is (cond ((!((!(Av (((l.getD (i) dNmd)).name)))||(Ai (((l.getD (i) dNmd)).id))))&&(decide ((0)<(i)))) (v) undef),Is (cond ((!((!(Av (((l.getD (i) dNmd)).name)))||(Ai (((l.getD (i) dNmd)).id))))&&(decide ((0)<(i)))) (NI i) undef),Is (cond ((!((!(Av (((l.getD (i) dNmd)).name)))||(Ai (((l.getD (i) dNmd)).id))))&&(decide ((0)<(i)))) (NI ((i)-(1))) undef),fun x w' =>((!((!(Av (((l.getD (i) dNmd)).name)))||(Ai (((l.getD (i) dNmd)).id))))&&(decide ((0)<(i))))=true->(fun x w' =>PR (nmdC (l.getD ((i)-(1)) dNmd)) x w') x w',fun x w' =>((!((!(Av (((l.getD (i) dNmd)).name)))||(Ai (((l.getD (i) dNmd)).id))))&&(decide ((0)<(i))))=true->(PCell (St ((l.getD ((i)-(1)) dNmd).name))) x w',Is (cond ((!((!(Av (((l.getD (i) dNmd)).name)))||(Ai (((l.getD (i) dNmd)).id))))&&(decide ((0)<(i)))) (St ((l.getD ((i)-(1)) dNmd).name)) undef),Is (cond ((!((!(Av (((l.getD (i) dNmd)).name)))||(Ai (((l.getD (i) dNmd)).id))))&&(decide ((0)<(i)))) (PQ c 0) undef),Is (cond ((!((!(Av (((l.getD (i) dNmd)).name)))||(Ai (((l.getD (i) dNmd)).id))))&&(decide ((0)<(i)))) (St (((l.getD (i) dNmd)).name)) undef),Is (cond ((!((!(Av (((l.getD (i) dNmd)).name)))||(Ai (((l.getD (i) dNmd)).id))))&&(decide ((0)<(i)))) (.bool (!(Adg ((l.getD ((i)-(1)) dNmd).name) (((l.getD (i) dNmd)).name)))) undef),Is (cond (!((!(Av (((l.getD (i) dNmd)).name)))||(Ai (((l.getD (i) dNmd)).id)))) (.bool ((decide ((0)<(i)))&&(!(Adg ((l.getD ((i)-(1)) dNmd).name) (((l.getD (i) dNmd)).name))))) undef),Is (.bool (((!(Av (((l.getD (i) dNmd)).name)))||(Ai (((l.getD (i) dNmd)).id)))||((decide ((0)<(i)))&&(!(Adg ((l.getD ((i)-(1)) dNmd).name) (((l.getD (i) dNmd)).name))))))] (by kernel_rfl) [12,13,14,15,16,17,18,19,20,21,22,23,24,25,26,27,28,29,30,31,32,33,34,35] (by kernel_rfl) (by kernel_rfl) (YR (Ua ⟨(Stab.may ((fun _ _ _ h k=>Ab7 h k))),(Stab.may (Z4 _)),(YS trivial)⟩)) ?ak ?hQ1004
  case ak=>
   refine⟨?_,?_,?_,?_,?_,?_,?_,?_,?_,?_,?_,?_,?_,?_,?_,?_,?_,?_,?_,?_,?_,?_,?_,?_,trivial⟩
   ·refine AJ rfl fun σ w1 hC h=> ?_;have q:σ 4=PQ c 0:=(AM (h 4 (by decide))).trans rfl;exact AbM GU q ⟨AbN _,rfl⟩
   ·refine AJ rfl fun σ w1 hC h=> ?_;have al:=AM (h 12 (by decide));exact Y6 EK rfl al (Ac (eb hC g) (E3 (l.getD (i) dNmd))) ⟨AbN _,rfl⟩
   ·refine AJ rfl fun σ w1 hC h=> ?_;have am:=AM (h 13 (by decide));refine Y9 LR am ((JY _ (((l.getD (i) dNmd)).name) (by have:=hnm;omega)).mono ?_);rintro e w2 ⟨rfl,hx⟩;exact⟨_,rfl,hx,rfl⟩
   ·refine AJ rfl fun σ w1 hC h=> ?_;have an:=AM (h 14 (by decide));exact Zn an ⟨AbN _,rfl⟩
   ·refine AJ rfl fun σ w1 hC h=> ?_;have ao:=AM (h 15 (by decide));exact AbT ao ⟨AbN _,rfl⟩
   ·refine A8 4 false 16 (G:= !(!(Av (((l.getD (i) dNmd)).name)))) rfl rfl (fun x _ (h:x = .bool (!(Av (((l.getD (i) dNmd)).name))))=>gF h) (fun hu_ _=>Bu hu_) fun hG σ w1 hC h=> ?_;have q:σ 4=PQ c 0:=(AM (h 4 (by decide))).trans rfl;exact AbM OV q ⟨AbN _,Bt hG⟩
   ·refine A8 4 false 16 (G:= !(!(Av (((l.getD (i) dNmd)).name)))) rfl rfl (fun x _ (h:x = .bool (!(Av (((l.getD (i) dNmd)).name))))=>gF h) (fun hu_ _=>Bu hu_) fun hG σ w1 hC h=> ?_;have ap:=AM (h 17 (by decide));exact Zd (Ab1 (eb hC g) (He (l.getD (i) dNmd)) (Hf (l.getD (i) dNmd)) (Ak ap hG)) VZ rfl (As ((l.getD (i) dNmd)).id.2) ⟨AbN _,Bt hG⟩
   ·refine A8 4 false 16 (G:= !(!(Av (((l.getD (i) dNmd)).name)))) rfl rfl (fun x _ (h:x = .bool (!(Av (((l.getD (i) dNmd)).name))))=>gF h) (fun hu_ _=>Bu hu_) fun hG σ w1 hC h=> ?_;have aq:=AM (h 18 (by decide));refine Y9 ID (Ak aq hG) ((B3 _ (((l.getD (i) dNmd)).id)).mono ?_);rintro e w2 ⟨rfl,hx⟩;exact⟨_,rfl,hx,Bt hG⟩
   ·refine AJ rfl fun σ w1 hC h=> ?_;have ar:=AM (h 16 (by decide));have au:=AM (h 19 (by decide));exact ZO ar (vr (.bool (true)) rfl) (fun hA=>(Ak au (BI hA))) ⟨AbN _,rfl⟩
   ·refine AJ rfl fun σ w1 hC h=> ?_;have av:=AM (h 20 (by decide));exact AbT av ⟨AbN _,rfl⟩
   ·refine A8 9 false 21 (G:= !((!(Av (((l.getD (i) dNmd)).name)))||(Ai (((l.getD (i) dNmd)).id)))) rfl rfl (fun x _ (h:x = .bool ((!(Av (((l.getD (i) dNmd)).name)))||(Ai (((l.getD (i) dNmd)).id))))=>gF h) (fun hu_ _=>Bu hu_) fun hG σ w1 hC h=> ?_;have s:=(AM (h 3 (by decide))).trans f;exact AbT s ⟨AbN _,Bt hG⟩
   ·refine A8 9 false 21 (G:= !((!(Av (((l.getD (i) dNmd)).name)))||(Ai (((l.getD (i) dNmd)).id)))) rfl rfl (fun x _ (h:x = .bool ((!(Av (((l.getD (i) dNmd)).name)))||(Ai (((l.getD (i) dNmd)).id))))=>gF h) (fun hu_ _=>Bu hu_) fun hG σ w1 hC h=> ?_;have aw:=AM (h 22 (by decide));exact Y7 (a:=((i:Nat):Int)) (b:=((0:Nat):Int)) (Ak aw hG) (vr (NI 0) rfl) (CQ _ .i64 (i) (0)) ⟨AbN _,Bt hG⟩
   ·refine A8 9 false 21 (G:= !((!(Av (((l.getD (i) dNmd)).name)))||(Ai (((l.getD (i) dNmd)).id)))) rfl rfl (fun x _ (h:x = .bool ((!(Av (((l.getD (i) dNmd)).name)))||(Ai (((l.getD (i) dNmd)).id))))=>gF h) (fun hu_ _=>Bu hu_) fun hG σ w1 hC h=> ?_;have ax:=AM (h 23 (by decide));exact AbT (Ak ax hG) ⟨AbN _,Bt hG⟩
   ·refine A8 12 true 24 (G:=(!((!(Av (((l.getD (i) dNmd)).name)))||(Ai (((l.getD (i) dNmd)).id))))&&(decide ((0)<(i)))) rfl rfl (fun x _ (h:x=cond (!((!(Av (((l.getD (i) dNmd)).name)))||(Ai (((l.getD (i) dNmd)).id)))) (.bool (decide ((0)<(i)))) undef)=>F0 h) (fun hu_ _=>Bu hu_) fun hG σ w1 hC h=> ?_;have e0:=(AM (h 0 (by decide))).trans p;exact AbT e0 ⟨AbN _,Bt hG⟩
   ·refine A8 12 true 24 (G:=(!((!(Av (((l.getD (i) dNmd)).name)))||(Ai (((l.getD (i) dNmd)).id))))&&(decide ((0)<(i)))) rfl rfl (fun x _ (h:x=cond (!((!(Av (((l.getD (i) dNmd)).name)))||(Ai (((l.getD (i) dNmd)).id)))) (.bool (decide ((0)<(i)))) undef)=>F0 h) (fun hu_ _=>Bu hu_) fun hG σ w1 hC h=> ?_;have s:=(AM (h 3 (by decide))).trans f;exact AbT s ⟨AbN _,Bt hG⟩
   ·refine A8 12 true 24 (G:=(!((!(Av (((l.getD (i) dNmd)).name)))||(Ai (((l.getD (i) dNmd)).id))))&&(decide ((0)<(i)))) rfl rfl (fun x _ (h:x=cond (!((!(Av (((l.getD (i) dNmd)).name)))||(Ai (((l.getD (i) dNmd)).id)))) (.bool (decide ((0)<(i)))) undef)=>F0 h) (fun hu_ _=>Bu hu_) fun hG σ w1 hC h=> ?_;have az:=AM (h 26 (by decide));exact Ze (xv:=NI i) (yv:=NI 1) (Ak az hG) (vr (NI 1) rfl) rfl (Fk _ (i) (1) (by first | omega | (simp only[gA,gB,gC,gD,gE]at hG;omega)) (by first | omega | (simp only[gA,gB,gC,gD,gE]at hG;omega))) ⟨AbN _,Bt hG⟩
   ·refine A8 12 true 24 (G:=(!((!(Av (((l.getD (i) dNmd)).name)))||(Ai (((l.getD (i) dNmd)).id))))&&(decide ((0)<(i)))) rfl rfl (fun x _ (h:x=cond (!((!(Av (((l.getD (i) dNmd)).name)))||(Ai (((l.getD (i) dNmd)).id)))) (.bool (decide ((0)<(i)))) undef)=>F0 h) (fun hu_ _=>YF hu_) fun hG σ w1 hC h=> ?_;have a0:=AM (h 25 (by decide));have a1:=AM (h 27 (by decide));exact Zk ES KA (by decide) dNmd (Zf (hr.keep (o.trans hC)) (Ak a0 hG)) (Ak a1 hG) (by first | omega | (simp only[gA,gB,gC,gD,gE]at hG;omega)) fun v h=>⟨AbN _,fun _=>h⟩
   ·refine A8 12 true 24 (G:=(!((!(Av (((l.getD (i) dNmd)).name)))||(Ai (((l.getD (i) dNmd)).id))))&&(decide ((0)<(i)))) rfl rfl (fun x _ (h:x=cond (!((!(Av (((l.getD (i) dNmd)).name)))||(Ai (((l.getD (i) dNmd)).id)))) (.bool (decide ((0)<(i)))) undef)=>F0 h) (fun hu_ _=>YF hu_) fun hG σ w1 hC h=> ?_;have a2:(fun x w' =>((!((!(Av (((l.getD (i) dNmd)).name)))||(Ai (((l.getD (i) dNmd)).id))))&&(decide ((0)<(i))))=true->(fun x w' =>PR (nmdC (l.getD ((i)-(1)) dNmd)) x w') x w') (σ 28) w1:=h 28 (by decide);exact ZD (n:=1) GU (a2 hG) fun v h=>⟨AbN _,fun _=>ZI (by rw[Ni]at h;exact h)⟩
   ·refine A8 12 true 24 (G:=(!((!(Av (((l.getD (i) dNmd)).name)))||(Ai (((l.getD (i) dNmd)).id))))&&(decide ((0)<(i)))) rfl rfl (fun x _ (h:x=cond (!((!(Av (((l.getD (i) dNmd)).name)))||(Ai (((l.getD (i) dNmd)).id)))) (.bool (decide ((0)<(i)))) undef)=>F0 h) (fun hu_ _=>Bu hu_) fun hG σ w1 hC h=> ?_;have a3:(fun x w' =>((!((!(Av (((l.getD (i) dNmd)).name)))||(Ai (((l.getD (i) dNmd)).id))))&&(decide ((0)<(i))))=true->(PCell (St ((l.getD ((i)-(1)) dNmd).name))) x w') (σ 29) w1:=h 29 (by decide);exact Zt EK rfl (a3 hG) ⟨AbN _,Bt hG⟩
   ·refine A8 12 true 24 (G:=(!((!(Av (((l.getD (i) dNmd)).name)))||(Ai (((l.getD (i) dNmd)).id))))&&(decide ((0)<(i)))) rfl rfl (fun x _ (h:x=cond (!((!(Av (((l.getD (i) dNmd)).name)))||(Ai (((l.getD (i) dNmd)).id)))) (.bool (decide ((0)<(i)))) undef)=>F0 h) (fun hu_ _=>Bu hu_) fun hG σ w1 hC h=> ?_;have q:σ 4=PQ c 0:=(AM (h 4 (by decide))).trans rfl;exact AbM GU q ⟨AbN _,Bt hG⟩
   ·refine A8 12 true 24 (G:=(!((!(Av (((l.getD (i) dNmd)).name)))||(Ai (((l.getD (i) dNmd)).id))))&&(decide ((0)<(i)))) rfl rfl (fun x _ (h:x=cond (!((!(Av (((l.getD (i) dNmd)).name)))||(Ai (((l.getD (i) dNmd)).id)))) (.bool (decide ((0)<(i)))) undef)=>F0 h) (fun hu_ _=>Bu hu_) fun hG σ w1 hC h=> ?_;have a4:=AM (h 31 (by decide));exact Y6 EK rfl (Ak a4 hG) (Ac (eb hC g) (E3 (l.getD (i) dNmd))) ⟨AbN _,Bt hG⟩
   ·refine A8 12 true 24 (G:=(!((!(Av (((l.getD (i) dNmd)).name)))||(Ai (((l.getD (i) dNmd)).id))))&&(decide ((0)<(i)))) rfl rfl (fun x _ (h:x=cond (!((!(Av (((l.getD (i) dNmd)).name)))||(Ai (((l.getD (i) dNmd)).id)))) (.bool (decide ((0)<(i)))) undef)=>F0 h) (fun hu_ _=>Bu hu_) fun hG σ w1 hC h=> ?_;have a5:=AM (h 30 (by decide));have a6:=AM (h 32 (by decide));exact Aa3 (l:=(l.getD ((i)-(1)) dNmd).name) (m:=((l.getD (i) dNmd)).name) (.inr rfl) (Ak a5 hG) (Ak a6 hG) (!(Adg ((l.getD ((i)-(1)) dNmd).name) (((l.getD (i) dNmd)).name))) rfl ⟨AbN _,Bt hG⟩
   ·refine A8 9 false 21 (G:= !((!(Av (((l.getD (i) dNmd)).name)))||(Ai (((l.getD (i) dNmd)).id)))) rfl rfl (fun x _ (h:x = .bool ((!(Av (((l.getD (i) dNmd)).name)))||(Ai (((l.getD (i) dNmd)).id))))=>gF h) (fun hu_ _=>Bu hu_) fun hG σ w1 hC h=> ?_;have a7:=AM (h 24 (by decide));have a8:=AM (h 33 (by decide));exact ZL (Ak a7 hG) (fun hA=>(Ak a8 (F7 hG hA))) (vr (.bool (false)) rfl) ⟨AbN _,Bt hG⟩
   ·refine AJ rfl fun σ w1 hC h=> ?_;have a9:=AM (h 21 (by decide));have ba:=AM (h 34 (by decide));exact ZO a9 (vr (.bool (true)) rfl) (fun hA=>(Ak ba (BI hA))) ⟨AbN _,rfl⟩
  intro bb bm t he hf;obtain⟨-,-,-,-,-,-,-,-,-,-,-,-,-,-,-,-,-,-,-,-,-,-,-,k35,-⟩:=hf;obtain⟨p,T3,T4,T5,r,f,-⟩:=he.hold [(0,_),(3,_),(4,PQ c 0),(5,_),(6,_),(7,_)] ⟨p,f,rfl,T5,r,f,trivial⟩ rfl;clear he;have hE:=hE.trans t;have o:=o.trans t;have g:=eb t g;have bc:bb 35 = .bool (((!(Av (((l.getD (i) dNmd)).name)))||(Ai (((l.getD (i) dNmd)).id)))||((decide ((0)<(i)))&&(!(Adg ((l.getD ((i)-(1)) dNmd).name) (((l.getD (i) dNmd)).name))))):=k35;clear k35;refine gX ?_;refine cB (((!(Av (((l.getD (i) dNmd)).name)))||(Ai (((l.getD (i) dNmd)).id)))||((decide ((0)<(i)))&&(!(Adg ((l.getD ((i)-(1)) dNmd).name) (((l.getD (i) dNmd)).name))))) bc (fun y=> ?_) fun y=> ?_
  ·have hbad:nE l i=true:=y;refine AE rfl (vr (.bool (false)) rfl) ?_;exact⟨by rw[Qk hlt hbad],hE⟩
  have hbad:nE l i=false:=y;refine gS (Ze (xv:=NI i) (yv:=NI 1) f rfl rfl (AD _ _ _ (by omega)) (gK (AdF ⟨i+1,p,T5,r,rfl,(hr.keep o),hE,by omega,Pz hn hbad,trivial⟩ ?_)));show l.length-(intOf (NI ((i)+(1)))).toNat<l.length-(intOf (af 7)).toNat;rw[q7];simp only[intOf,Ac8];omega
 refine gS (Zh ES (Zf hr p) (gS (Y7 (a:=(l.length:Nat)) (b:=(64:Nat)) rfl rfl (E1 _ _ _ _) (AE rfl (vr (.bool (decide ((l.length)<=(64)))) rfl) ?_))));exact⟨by rw[HJ (show l.length<=i by omega) hn],hE⟩
theorem HK(w:AcE)(x:Af)(hm:RefsAt w x)(hL:E7 x.1):
  Calls AcF 34 #[.agg (refsC x).toArray] w fun e w' =>e = .returned (.bool (AA x.1))/\Ext w w' :=by
 have hmt:=hm.branches;have hmg:=hm.tags;have hml:=hm.log;refine F2 (args:= [.agg (refsC x).toArray]) Tryz.func34 rfl 72 rfl rfl ?_;have hE:=AbN w;refine gS (Ab3 (vr (.agg (refsC x).toArray) rfl) fun f w3 au v ak av=> ?_);have hE:=hE.trans ak;have c:=v;clear v;have aw:f<w3.heap.size:=by omega
 refine gS (AbM OW rfl (gS (Y6 ES rfl rfl (Ac c (C1 x)) (gS (Y9 LS rfl ((LV _ _ x.1.branches (hmt.keep hE) hL.branches hL.bn).mono ?_))))));rintro e ax ⟨rfl,y⟩;refine⟨_,rfl,?_⟩;have hE:=hE.trans y;have c:=eb y c;refine gS (Zn rfl (gO fun _=>Ae (PQ f 1) rfl rfl (gF rfl) (fun hG14=>AbM OX rfl ⟨rfl,rfl⟩) (At (gO fun _=>Ae (x.2.tags) rfl rfl (gF rfl) (fun hG15=>Y6 ES rfl (Ak rfl hG15) (Ac c (Du x)) ⟨rfl,rfl⟩) (At (gO fun _=>Ci (.bool (BW x.1.tags)) rfl rfl (gF rfl) (fun hG16=>Y9 LS (Ak rfl hG16) ((LV _ _ x.1.tags (hmg.keep hE) hL.tags hL.tn).mono (by rintro e w2 ⟨rfl,hx⟩;exact⟨_,rfl,rfl,hx⟩))) fun ay z=>At ?_))))));have hE:=hE.trans z;have c:=eb z c;refine gO fun _=>Ae (.bool (!(BW x.1.tags))) rfl rfl (gF rfl) (fun hG20=>Zn (Ak rfl hG20) ⟨rfl,rfl⟩) (At (gS (Zp rfl rfl (fun hA=>(Ak rfl (BI hA))) fun bb21 hbb22=>(gO fun _=>Ae (PQ f 35) rfl rfl (gF rfl) (fun hG23=>AbM Jt rfl ⟨rfl,rfl⟩) (At (gO fun _=>Ae (x.2.log) rfl rfl (gF rfl) (fun hG24=>Y6 FG rfl (Ak rfl hG24) (Ac c (B2 x)) ⟨rfl,rfl⟩) (At (gO fun _=>Ae (NI ((x.1.log).length)) rfl rfl (gF rfl) (fun hG25=>Zh FG (Zf (hml.keep hE) (Ak rfl hG25)) ⟨rfl,rfl⟩) (At (gO fun _=>Ae (.bool (decide ((64)<((x.1.log).length)))) rfl rfl (gF rfl) (fun hG26=>Y7 (a:=(((x.1.log).length:Nat):Int)) (b:=((64:Nat):Int)) (Ak rfl hG26) rfl (CQ _ .i64 ((x.1.log).length) (64)) ⟨rfl,rfl⟩) (At (gS (Zp rfl rfl (fun hA=>(Ak rfl (BI hA))) fun bb27 hbb28=> ?_)))))))))))));refine cB (bb27) rfl (fun q=> ?_) fun q=> ?_
 ·subst hbb22 hbb28;have h1c:IC x.1=true:=q;refine AE rfl (vr (.bool (false)) rfl) ?_;exact⟨by rw[Ui h1c],hE⟩
 subst hbb22 hbb28;have h1c:IC x.1=false:=q;refine gS (AbM GV rfl (gS (Y6 EK rfl rfl (Ac c (EP x)) (gS (Z0 (l:=x.1.head) (m:=([]:Aib)) (.inr rfl) rfl rfl (decide ((x.1.head:Aib)≠(([]:Aib):Aib))) rfl (gO fun _=>Ae (PQ f 2) rfl rfl (gT rfl) (fun hG32=>AbM GV rfl ⟨rfl,rfl⟩) (At (gO fun _=>Ae (St (x.1.head)) rfl rfl (gT rfl) (fun hG33=>Y6 EK rfl (Ak rfl hG33) (Ac c (EP x)) ⟨rfl,rfl⟩) (At (gO fun _=>Ci (.bool (Av x.1.head)) rfl rfl (gT rfl) (fun hG34=>Y9 LR (Ak rfl hG34) ((JY _ x.1.head hL.head).mono (by rintro e w2 ⟨rfl,hx⟩;exact⟨_,rfl,rfl,hx⟩))) fun az aa=>At ?_))))))))));have hE:=hE.trans aa;have c:=eb aa c;refine gO fun _=>Ae (.bool (!(Av x.1.head))) rfl rfl (gT (vr (.bool (decide ((x.1.head:Aib)≠(([]:Aib):Aib)))) rfl)) (fun hG38=>Zn (Ak (vr (cond ((decide ((x.1.head:Aib)≠(([]:Aib):Aib)))) (.bool (Av x.1.head)) undef) rfl) hG38) ⟨rfl,rfl⟩) (At (gO fun _=>Ae (.bool (!(Av x.1.head))) rfl rfl (gT (vr (.bool (decide ((x.1.head:Aib)≠(([]:Aib):Aib)))) rfl)) (fun hG39=>AbT (Ak (vr (cond ((decide ((x.1.head:Aib)≠(([]:Aib):Aib)))) (.bool (!(Av x.1.head))) undef) rfl) hG39) ⟨rfl,rfl⟩) (At (gO fun _=>Ae (PQ f 3) rfl rfl (Ff (vr (cond ((decide ((x.1.head:Aib)≠(([]:Aib):Aib)))) (.bool (!(Av x.1.head))) undef) rfl)) (fun hG40=>AbM Ju (vr (PQ f 0) rfl) ⟨rfl,rfl⟩) (At (gO fun _=>Ae (AB x.1.at_.1) rfl rfl (Ff (vr (cond ((decide ((x.1.head:Aib)≠(([]:Aib):Aib)))) (.bool (!(Av x.1.head))) undef) rfl)) (fun hG41=>Zd (Ab1 c (DS x) (Ej x) (Ak (vr (cond ((decide ((x.1.head:Aib)≠(([]:Aib):Aib)))&& !(!(Av x.1.head))) (PQ f 3) undef) rfl) hG41)) VZ rfl (As x.1.at_.2) ⟨rfl,rfl⟩) (At (gO fun _=>Ci (.bool (Ai x.1.at_)) rfl rfl (Ff (vr (cond ((decide ((x.1.head:Aib)≠(([]:Aib):Aib)))) (.bool (!(Av x.1.head))) undef) rfl)) (fun hG42=>Y9 ID (Ak (vr (cond ((decide ((x.1.head:Aib)≠(([]:Aib):Aib)))&& !(!(Av x.1.head))) (AB x.1.at_.1) undef) rfl) hG42) ((B3 _ x.1.at_).mono (by rintro e w2 ⟨rfl,hx⟩;exact⟨_,rfl,rfl,hx⟩))) fun a0 ab=>At ?_))))))));have hE:=hE.trans ab;have c:=eb ab c;refine gO fun _=>Ae (.bool (!(Ai x.1.at_))) rfl rfl (Ff rfl) (fun hG46=>Zn (Ak rfl hG46) ⟨rfl,rfl⟩) (At (gO fun _=>D6 ((!(Av x.1.head))||(!(Ai x.1.at_))) rfl rfl (gT rfl) (fun hG47=>ZO (Ak rfl hG47) rfl (fun hA=>(Ak rfl (F7 hG47 (BI hA)))) ⟨rfl,rfl⟩) fun bb48 hbb49=>At (gS (Zq rfl (fun hA=>(Ak rfl hA)) rfl fun bb50 hbb51=>(gO fun _=>Ae (PQ f 2) rfl rfl (gF rfl) (fun hG52=>AbM GV rfl ⟨rfl,rfl⟩) (At (gO fun _=>Ae (St (x.1.head)) rfl rfl (gF rfl) (fun hG53=>Y6 EK rfl (Ak rfl hG53) (Ac c (EP x)) ⟨rfl,rfl⟩) (At (gO fun _=>Ae (.bool (decide ((x.1.head:Aib)=(([]:Aib):Aib)))) rfl rfl (gF rfl) (fun hG54=>Z0 (l:=x.1.head) (m:=([]:Aib)) (.inl rfl) (Ak rfl hG54) rfl (decide ((x.1.head:Aib)=(([]:Aib):Aib))) rfl ⟨rfl,rfl⟩) (At (gO fun _=>Ae (.bool (decide ((x.1.head:Aib)=(([]:Aib):Aib)))) rfl rfl (gF rfl) (fun hG55=>AbT (Ak rfl hG55) ⟨rfl,rfl⟩) (At (gO fun _=>Ae (PQ f 3) rfl rfl (F0 rfl) (fun hG56=>AbM Ju rfl ⟨rfl,rfl⟩) (At (gO fun _=>Ae (AB x.1.at_.1) rfl rfl (F0 rfl) (fun hG57=>Zd (Ab1 c (DS x) (Ej x) (Ak rfl hG57)) VZ rfl (As x.1.at_.2) ⟨rfl,rfl⟩) (At (gO fun _=>Ci (.bool (Ai x.1.at_)) rfl rfl (F0 rfl) (fun hG58=>Y9 ID (Ak rfl hG58) ((B3 _ x.1.at_).mono (by rintro e w2 ⟨rfl,hx⟩;exact⟨_,rfl,rfl,hx⟩))) fun a1 ac=>At ?_)))))))))))))))));have hE:=hE.trans ac;have c:=eb ac c;refine gO fun _=>D6 ((decide ((x.1.head:Aib)=(([]:Aib):Aib)))&&(Ai x.1.at_)) rfl rfl (gF rfl) (fun hG62=>ZL (Ak rfl hG62) (fun hA=>(Ak rfl (F7 hG62 hA))) rfl ⟨rfl,rfl⟩) fun bb63 hbb64=>At (gS (Zp rfl rfl (fun hA=>(Ak rfl (BI hA))) fun bb65 hbb66=> ?_));refine cB (bb65) rfl (fun r=> ?_) fun r=> ?_
 ·subst hbb49 hbb51 hbb64 hbb66;have h2c:Hm x.1=true:=r;refine AE rfl (vr (.bool (false)) rfl) ?_;exact⟨by rw[Uj h1c h2c],hE⟩
 subst hbb49 hbb51 hbb64 hbb66;have h2c:Hm x.1=false:=r;refine gS (AbM Jt rfl (gS (Y6 FG rfl rfl (Ac c (B2 x)) (gS (Zh FG (Zf (hml.keep hE) rfl) (gL (fun(ρ:Aj) (wz:AcE)=>∃i:Nat,ρ 0=(.agg (refsC x).toArray:AcD)/\ρ 1=(PQ f 0:AcD)/\ρ 47=(x.2.log:AcD)/\ρ 48=(NI ((x.1.log).length):AcD)/\ρ 49=(NI i:AcD)/\Ext w wz/\wz.heap[f]? =some (.cells (refsC x).toArray 36 (0,0))/\(i<=x.1.log.length)/\(∀j,j<i->GT x.1.log j=false)/\True) (fun ρ _=>x.1.log.length-(intOf (ρ 49)).toNat) ⟨0,rfl,rfl,rfl,rfl,rfl,hE,c,AcZ _,fun j hj=>absurd hj (AdN _),trivial⟩ ?_))))));clear hE c;rintro al am ⟨i,T0,T1,ad,ae,n,hE,c,hi,hn,-⟩;have q49:=n;refine gS (Y7 (a:=(i:Nat)) (b:=((x.1.log).length:Nat)) n ae (Bf _ _ _ _) ?_);refine cD rfl (fun af=> ?_) fun af=> ?_
 ·have hlt:i<x.1.log.length:=af;have a2:(entC ((x.1.log).getD (i) Au)).length=67:=(AbX (hml.keep hE) Au (by omega));refine gS (Zk FG Qm (by decide) Au (Zf (hml.keep hE) ad) n (by omega) fun a3 ag=>(gS (Zd (Zs ag rfl) (LT).choose_spec rfl (by rw[C8];exact KC) (gS (AbV Sc fun k ao ap ah s a4=> ?_)))));have h:=AbN am;have a5:=hE;have aq:=hE.size;have a6:=AR (bl c) ap;have hE:=hE.trans s;have c:=eb s c;have h:=h.trans s;have g:=ah;clear ah;have a7:k<ao.heap.size:=by omega
  refine gS (Zj Sd (vr (PQ k 0) rfl) (vr (.agg (entC ((x.1.log).getD (i) Au)).toArray) rfl) g (Gb) fun ar ai t a8=> ?_);have hE:=Ad hE t (AcG aq (by omega));have c:=kb t c (by omega);have h:=Ad h t (AcG (AcI _) (by omega));clear g;have g:ar.heap[k]? =some (.cells (entC ((x.1.log).getD (i) Au)).toArray 97 (0,0)):=ai;clear ai;have a9:=bl g;clear ag;refine gS (AbM Jv rfl (gS (AbM OY rfl (gS (Y6 u5 rfl rfl (Ac g (RM ((x.1.log).getD (i) Au))) (gS (Y9 Se rfl ((LU _ ((((x.1.log).getD (i) Au)).kind)).mono ?_))))))));rintro e ba ⟨rfl,o⟩;refine⟨_,rfl,?_⟩;have hE:=hE.trans o;have c:=eb o c;have h:=h.trans o;have g:=eb o g;refine gS (Zn rfl (gO fun _=>Ae (PQ k 66) rfl rfl (gF rfl) (fun hG99=>AbM OZ rfl ⟨rfl,rfl⟩) (At (gO fun _=>Ae (St ((((x.1.log).getD (i) Au)).note)) rfl rfl (gF rfl) (fun hG100=>Y6 EK rfl (Ak rfl hG100) (Ac g (Ko ((x.1.log).getD (i) Au))) ⟨rfl,rfl⟩) (At (gO fun _=>Ci (.bool (Cm ((((x.1.log).getD (i) Au)).note))) rfl rfl (gF rfl) (fun hG101=>Y9 Sf (Ak rfl hG101) ((Nt _ ((((x.1.log).getD (i) Au)).note)).mono (by rintro e w2 ⟨rfl,hx⟩;exact⟨_,rfl,rfl,hx⟩))) fun bb p=>At ?_))))));have hE:=hE.trans p;have c:=eb p c;have h:=h.trans p;have g:=eb p g;refine gO fun _=>Ae (.bool (!(Cm ((((x.1.log).getD (i) Au)).note)))) rfl rfl (gF rfl) (fun hG105=>Zn (Ak rfl hG105) ⟨rfl,rfl⟩) (At (gS (Zp rfl rfl (fun hA=>(Ak rfl (BI hA))) fun bb106 hbb107=>(gO fun _=>Ae (PQ k 0) rfl rfl (gF rfl) (fun hG108=>AbM Jv rfl ⟨rfl,rfl⟩) (At (gO fun _=>Ae (PQ k 1) rfl rfl (gF rfl) (fun hG109=>AbM O2 (Ak rfl hG109) ⟨rfl,rfl⟩) (At (gO fun _=>Ae (St ((((x.1.log).getD (i) Au)).name)) rfl rfl (gF rfl) (fun hG110=>Y6 EK rfl (Ak rfl hG110) (Ac g (RN ((x.1.log).getD (i) Au))) ⟨rfl,rfl⟩) (At (gO fun _=>Ae (NI (((((x.1.log).getD (i) Au)).name:Aib).length)) rfl rfl (gF rfl) (fun hG111=>ZK (l:=(((x.1.log).getD (i) Au)).name) EK (Ak rfl hG111) ⟨rfl,rfl⟩) (At (gO fun _=>Ae (.bool (decide ((32)<(((((x.1.log).getD (i) Au)).name:Aib).length)))) rfl rfl (gF rfl) (fun hG112=>Y7 (a:=((((((x.1.log).getD (i) Au)).name:Aib).length:Nat):Int)) (b:=((32:Nat):Int)) (Ak rfl hG112) rfl (CQ _ .i64 (((((x.1.log).getD (i) Au)).name:Aib).length) (32)) ⟨rfl,rfl⟩) (At (gS (Zp rfl rfl (fun hA=>(Ak rfl (BI hA))) fun bb113 hbb114=> ?_)))))))))))))));refine cB (bb113) rfl (fun u=> ?_) fun u=> ?_
  ·subst hbb107 hbb114;have hbad:GT x.1.log i=true:=u;refine AE rfl (vr (.bool (false)) rfl) ?_;exact⟨by rw[Ql h1c h2c hlt hbad],hE⟩
  subst hbb107 hbb114;have hbad:GT x.1.log i=false:=u;refine gS (Ze (xv:=NI i) (yv:=NI 1) n rfl rfl (AD _ _ _ (by have:=hL.log;omega)) (gK (AdF ⟨i+1,T0,T1,ad,ae,rfl,hE,c,by omega,Pz hn hbad,trivial⟩ ?_)));show x.1.log.length-(intOf (NI ((i)+(1)))).toNat<x.1.log.length-(intOf (al 49)).toNat;rw[q49];simp only[intOf,Ac8];omega
 refine AE rfl (vr (.bool (true)) rfl) ?_;exact⟨by rw[F8 h1c h2c (show x.1.log.length<=i by omega) hn],hE⟩
set_option maxHeartbeats 400000 in
theorem O3(w:AcE)(v:AcD)(l:Aib)(hr:RB w v l)(s:ByteArray)(hl:l.length+s.size+16<=140737488355328):
  Calls AcF 58 #[v, .string s] w fun e w' =>∃v',e = .returned v' /\NewB 5 w w' v' (l++Ac6 s.size++s.data.toList):=by
 obtain⟨i0,hi,a,b,c⟩:=info_parts P5;have h9:=If s.size (by omega);have hss:s.data.toList.length=s.size:=by simp
 have HSS:=Aen hss;clear hss
 go_enter Tryz.func58,Tryz.ntmps58
 go_wp2_with fail
 refine(Lk _ _ l hr (by omega)).mono ?_;rintro e w1 ⟨f,rfl,h1⟩
 go_wp2_with fail
 refine(Ki w.heap.size l.length s.size (by omega) f _ w1 h1.own h1.by_.size (by omega)).mono ?_;rintro e w2 ⟨h,rfl,ho,g⟩;have h2:=h1.more g ho
 go_wp2_with (at_builtin;refine Dm _ rfl _ _ 43 9 rfl w.heap.size 5 i0 (.int .u8 0) 1 1 G8 hi a b c rfl _ _ _ rfl h2.own (.string s) _ _ rfl (RD Xj _ s) ?c1 ?c2 ?c3 ?_)
 case c1=>have:=HSS.out;rw[this,AcJ];unfold maxLen;omega
 case c2=>have:=HSS.out;rw[this,AcJ];omega
 case c3=>exact h2.by_.size
 intro v' i hown' hgrow
 go_wp2
 go_ret
 exact⟨v',rfl,h2.more hgrow (by rw[HSS.out,AcJ];exact hown')⟩
def AF(s:Bs):Bs:=Ac6 s.length++s
theorem HM(w:AcE)(v:AcD)(l:Bs)(hr:RB w v l)(s:Bs)(hl:l.length+s.length+16<=140737488355328):
  Calls AcF 58 #[v,St s] w fun e w' =>∃v',e = .returned v' /\NewB 5 w w' v' (l++AF s):=by
 have hs:(⟨s.toArray⟩:ByteArray).size=s.length:=by show s.toArray.size=_;rw[Adi]
 have h:=O3 w v l hr ⟨s.toArray⟩ (by rw[hs];omega);have e:l++Ac6 (⟨s.toArray⟩:ByteArray).size++(⟨s.toArray⟩:ByteArray).data.toList=l++AF s:=by
  unfold AF;rw[hs,Ac7]
 rw[e]at h;exact h
theorem BX{n:Nat}(h:n<=9223372036854775807):(Ac6 n).length<=9:=If n (by omega)
def SB(g k lo n c:Nat)(v:AcD):Prop:=∃o,v = .slice (some ⟨g,o,none⟩) n c/\(0<c->o=lo*k)
def Qn(w:AcE)(v:AcD)(n c:Nat)(news:List AcD):Prop:=∃a,v = .slice (some a) n c/\∀j u,news[j]? =some u->w.cell? (a.add j)=some u
theorem SB.src{w:AcE}{g k lo n c:Nat}{v:AcD}{C:List AcD}{T:AcK}{fr:Nat × Nat}(h:SB g k lo n c v)(m:Nat)(hc:0<c\/m=0)(hC:w.heap[g]? =some (.cells C.toArray T fr)){D:List AcD}(hD:(C.drop (lo*k)).take m=D):Qn w v n c D:=by
 obtain⟨o,rfl,ho⟩:=h;subst hD;refine⟨_,rfl,fun j u hu=> ?_⟩;rcases hc with hc | rfl
 ·obtain rfl:=ho hc;rw[Aeb];rw[AeI]at hu;split at hu
  ·rw[AeX]at hu;exact Ac hC hu
  ·cases hu
 ·simp at hu
theorem Zv{g k lo n c:Nat}{v x:AcD}(h:SB g k lo n c v)(e:x=v):SB g k lo n c x:=by rw[e];exact h
theorem Z6(g k n c:Nat):SB g k 0 n c (.slice (some ⟨g,0,none⟩) n c):=⟨0,rfl,fun _=>(Afg _).symm⟩
theorem SB.eq{g k lo lo' n n' c c' :Nat}{v:AcD}(h:SB g k lo n c v)(a:lo=lo')(b:n=n')(e:c=c'):SB g k lo' n' c' v:=by subst a b e;exact h
abbrev Aco:=@SB.eq
theorem Uk{P:AcY}{e:AcK}{k b:Nat}(h:(P.info? e).map (fun i=>(i.size,i.bytes,i.zero.map fun z=>(z.cells.size,z.cells.toList.all fun u=>u.oneCell')))=some (k,b,some (k,true))):∃i z,P.info? e=some i/\i.size=k/\i.bytes=b/\i.zero=some z/\z.cells.size=k/\∀u∈z.cells.toList,u.oneCell' =true:=by
 cases hi:P.info? e with
 | none=>rw[hi]at h;cases h
 | some i=>
  rw[hi]at h;simp only[Ad4,Aea,Prod.mk.injEq]at h;obtain⟨h1,h2,h3⟩:=h;cases hz:i.zero with
  | none=>rw[hz]at h3;cases h3
  | some z=>
   rw[hz]at h3;simp only[Ad4,Aea,Prod.mk.injEq,List.all_eq_true]at h3;exact⟨i,z,rfl,h1,h2,hz,h3.1,h3.2⟩
theorem MQ{z:AcD}(h:∀u∈z.cells.toList,u.oneCell' =true)(n:Nat):∀u∈(AdD z.cells n).toList,u.oneCell' =true:=by
 intro u hu;simp only[AdD,Array.mem_toList_iff,Array.mem_map,Array.mem_range]at hu;obtain⟨i,hi,rfl⟩:=hu;have h0:0<z.cells.size:=by
  rcases Nat.eq_zero_or_pos z.cells.size with e | e
  ·rw[e]at hi;omega
  ·exact e
 have hl:=Nat.mod_lt i h0;rw[getElem!_pos z.cells _ hl];exact h _ (Array.getElem_mem_toList hl)
theorem Gn{w:AcE}{g:Nat}{C:Array AcD}:w.grownBy (w.setRow g C) (some g):=⟨rfl,rfl,rfl,by simp,fun k _ hk=>setRow_other w g k _ (fun e=>hk (by rw[e]))⟩
section
variable {P : AcY} {K : AcD -> AcE -> Prop} {ρ : Aj} {w : AcE} {d : Option Tmp} {ty : AcK} {pos : String} {af : Array Adv} {gd : Option (Nat × Bool)}
variable {g k lo n c : Nat} {s x : AcO}
theorem Zz{t e:AcK}(ht:P.underlying t=some (.slice e))(he:∀w' :AcE,(sizeOf e).run P w' = .ok k w'){a b:Option AcO}(h:SB g k lo n c (Ab ρ x))(l r:Nat) 
  (ha:a.map (Ab ρ)=none/\l=0\/∃q,a.map (Ab ρ)=some (.int q (l:Int))) (hb:b.map (Ab ρ)=none/\r=n\/∃q,b.map (Ab ρ)=some (.int q (r:Int))) (h1:l<=r) (h2:r<=c)
  (hk:∀v,SB g k (lo+l) (r-l) (c-l) v->K v w):Yk P K ((execOp (Ab ρ) ⟨d, .slice t x a b none,ty,pos,af,gd⟩).run P w):=by
 obtain⟨o,hx,ho⟩:=h;have hE:P.elem t=e:=by simp[AeW,ht]
 have ht' :P.underlying t=some (.slice (P.elem t)):=by rw[hE];exact ht
 refine AbU (v:=sliced (some ⟨g,o,none⟩) l r c k) (w' :=w) ?_ (hk _ ?_)
 ·unfold execOp;have h1' :(l:Int)<=(r:Int):=by omega
  have h2' :(r:Int)<=(c:Int):=by omega
  have hr:(Ae4 t (.slice (some ⟨g,o,none⟩) n c) (a.map (Ab ρ)) (b.map (Ab ρ)) none).run P w = .ok (sliced (some ⟨g,o,none⟩) l r c k) w:=by
   rw[run_sliceAt_slice (P:=P) w t _ _ _ _ ht'];rcases ha with ⟨f,rfl⟩ | ⟨q,f⟩ <;> rcases hb with ⟨i,rfl⟩ | ⟨q',i⟩ <;> rw[f,i]
   ·rw[run_slice_all (P:=P) w t _ _ _ ht',hE,he];rfl
   ·rw[run_slice_h (P:=P) w t _ _ _ ht' q' r (by omega) h2',hE,he];rfl
   ·rw[run_slice_l (P:=P) w t _ _ _ ht' q l (by omega) h1',hE,he];rfl
   ·rw[run_slice_lh (P:=P) w t _ _ _ ht' q q' l r (by omega) h1' h2',hE,he];rfl
  simp only[hx,AeB,hr,AcN,AcR,AcM]
 ·refine⟨if c=l then o else o+l*k,?_,fun h=> ?_⟩
  ·unfold sliced;split <;> simp[Aeb]
  ·rw[if_neg (by omega),ho (by omega),Ad2]
theorem AaX{t e:AcK}(ht:P.underlying t=some (.slice e))(he:∀w' :AcE,(sizeOf e).run P w' = .ok k w'){a b y:AcO}(h:SB g k lo n c (Ab ρ x)){l r m:Nat}{q1 q2 q3:AdV} 
  (ha:Ab ρ a = .int q1 (l:Int)) (hb:Ab ρ b = .int q2 (r:Int)) (hm:Ab ρ y = .int q3 (m:Int)) (h1:l<=r) (h2:r<=m) (h3:m<=c)
  (hk:∀v,SB g k (lo+l) (r-l) (m-l) v->K v w):Yk P K ((execOp (Ab ρ) ⟨d, .slice t x (some a) (some b) (some y),ty,pos,af,gd⟩).run P w):=by
 obtain⟨o,hx,ho⟩:=h;have hE:P.elem t=e:=by simp[AeW,ht]
 have ht' :P.underlying t=some (.slice (P.elem t)):=by rw[hE];exact ht
 refine AbU (v:=sliced (some ⟨g,o,none⟩) l r m k) (w' :=w) ?_ (hk _ ?_)
 ·unfold execOp;have hr:(Ae4 t (.slice (some ⟨g,o,none⟩) n c) (some (.int q1 (l:Int))) (some (.int q2 (r:Int))) (some (.int q3 (m:Int)))).run P w = .ok (sliced (some ⟨g,o,none⟩) l r m k) w:=by
   rw[run_sliceAt_slice (P:=P) w t _ _ _ _ ht',run_slice_lhm (P:=P) w t _ _ _ ht' q1 q2 q3 l r m (by omega) (by omega) (by omega) (by omega),hE,he];rfl
  simp only[hx,ha,hb,hm,Ad4,hr,AcN,AcR,AcM]
 ·refine⟨if m=l then o else o+l*k,?_,fun h=> ?_⟩
  ·unfold sliced;split <;> simp[Aeb]
  ·rw[if_neg (by omega),ho (by omega),Ad2]
theorem Z7{t e:AcK}(ht:P.underlying t=some (.slice e))(h:SB g k lo n c (Ab ρ x))(hk:K (NI n) w):Yk P K ((execOp (Ab ρ) ⟨d, .call ⟨.builtin .len,#[x],#[t]⟩,ty,pos,af,gd⟩).run P w):=by
 obtain⟨o,hx,-⟩:=h;exact Aan ht hx hk
theorem AaK{t e:AcK}(ht:P.underlying t=some (.slice e))(h:SB g k lo n c (Ab ρ x))(hk:K (NI c) w):Yk P K ((execOp (Ab ρ) ⟨d, .call ⟨.builtin .cap,#[x],#[t]⟩,ty,pos,af,gd⟩).run P w):=by
 obtain⟨o,hx,-⟩:=h;have hE:P.elem t=e:=by simp[AeW,ht]
 refine AbU (v:=NI c) (w' :=w) ?_ hk;have hr:=run_cap_slice (P:=P) w t ty (some ⟨g,o,none⟩) n c (by rw[hE];exact ht);unfold execOp;simp only[resolve,invoke,builtin,hx,AcT,AcX,Ac2,AcN,hr,AcM,AcR];rfl
theorem Z9{dT sT e T:AcK}(ht:P.underlying dT=some (.slice e))(he:∀w' :AcE,(sizeOf e).run P w' = .ok k w')(hd:SB g k lo n c (Ab ρ s))(hc:0<c){C:List AcD}(hC:w.heap[g]? =some (.cells C.toArray T (0,0))) 
  {b c2:Nat} (m:Nat) {news:List AcD} (hs:Qn w (Ab ρ x) b c2 news) (hm:Afl b n=m) (hl:news.length=m*k) (h1:∀u∈news,u.oneCell' =true) (hfit:lo*k+m*k<=C.length)
  (hk:∀w',w'.heap[g]? =some (.cells (C.take (lo*k)++news++C.drop (lo*k+m*k)).toArray T (0,0))->w.grownBy w' (some g)->w'.heap.size=w.heap.size->K (NI m) w'):
  Yk P K ((execOp (Ab ρ) ⟨d, .call ⟨.builtin .copy,#[s,x],#[dT,sT]⟩,ty,pos,af,gd⟩).run P w):=by
 obtain⟨o,hx,ho⟩:=hd;obtain rfl:=ho hc;obtain⟨a,hy,hn⟩:=hs;have hst:=run_storeCells_at P g (lo*k) T news 0 C.toArray w hC (by simp only[Adi];omega) h1;simp only[Af7,hl]at hst;have hf:=run_firstCells_some (P:=P) w k m a b c2 news hl hn;refine AbU (v:=NI m) (w' :=w.setRow g (C.take (lo*k)++news++C.drop (lo*k+m*k)).toArray) ?_ (hk _ (setRow_heap w g C.toArray _ T (0,0) hC) Gn (by simp));unfold execOp;have hr:(AhC #[dT,sT] ty #[.slice (some ⟨g,lo*k,none⟩) n c, .slice (some a) b c2]).run P w = .ok (NI m) (w.setRow g (C.take (lo*k)++news++C.drop (lo*k+m*k)).toArray):=by
  simp only[AhC,List.getElem?_toArray,List.getElem?_cons_zero,List.getElem?_cons_succ,AcN,run_underlying ht,AcM,he,Builtin.lenOf,AcR,hm,hf,hst];rfl
 simp only[resolve,invoke,builtin,hx,hy,AcT,AcX,Ac2,AcN,hr,AcM,AcR]
theorem AaY{t e:AcK}{i:TypeInfo}(ht:P.underlying t=some (.slice e))(hi:P.info? e=some i)(hik:i.size=k)(hd:SB g k 0 n c (Ab ρ s))(hc:0<c){C:List AcD}(hC:w.heap[g]? =some (.cells C.toArray e (0,0))) 
  {m c2:Nat} {news:List AcD} (hs:Qn w (Ab ρ x) m c2 news) (hl:news.length=m*k) (h1:∀u∈news,u.oneCell' =true) (hroom:n+m<=c) (hfit:(n+m)*k<=C.length)
  (hk:∀w',w'.heap[g]? =some (.cells (C.take (n*k)++news++C.drop (n*k+m*k)).toArray e (0,0))->w.grownBy w' (some g)->w'.heap.size=w.heap.size->K (.slice (some ⟨g,0,none⟩) (n+m) c) w'):
  Yk P K ((execOp (Ab ρ) ⟨d, .call ⟨.builtin .append,#[s,x],#[t,t]⟩,ty,pos,af,gd⟩).run P w):=by
 obtain⟨o,hx,ho⟩:=hd;obtain rfl:o=0:=by rw[ho hc,Afg]
 obtain⟨a,hy,hn⟩:=hs;subst hik;have hr:=run_append_room (P:=P) w t ty e i ht hi g n c C.toArray hC a m c2 news hl hn h1 hroom (by rw[hl,Adi,<-Ad2];exact hfit);simp only[hl]at hr;refine AbU (v:= .slice (some ⟨g,0,none⟩) (n+m) c) (w' :=w.setRow g (C.take (n*i.size)++news++C.drop (n*i.size+m*i.size)).toArray) ?_ (hk _ (setRow_heap w g C.toArray _ e (0,0) hC) Gn (by simp));unfold execOp;simp only[resolve,invoke,builtin,hx,hy,AcT,AcX,Ac2,AcN,hr,AcM,AcR]
theorem Abe{t e T:AcK}{i:TypeInfo}{z:AcD}(ht:P.underlying t=some (.slice e))(hi:P.info? e=some i)(hz:i.zero=some z)(hzs:z.cells.size=k)(hd:SB g k lo n c (Ab ρ s))(hc:0<c)(hn:0<n){C:List AcD}(hC:w.heap[g]? =some (.cells C.toArray T (0,0))) 
  (h1:∀u∈(AdD z.cells n).toList,u.oneCell' =true) (hfit:lo*k+n*k<=C.length)
  (hk:∀w' Z,Z.length=n*k->w'.heap[g]? =some (.cells (C.take (lo*k)++Z++C.drop (lo*k+n*k)).toArray T (0,0))->w.grownBy w' (some g)->w'.heap.size=w.heap.size->K (.tuple #[]) w'):
  Yk P K ((execOp (Ab ρ) ⟨d, .call ⟨.builtin .clear,#[s],#[t]⟩,ty,pos,af,gd⟩).run P w):=by
 obtain⟨o,hx,ho⟩:=hd;obtain rfl:=ho hc;have hZ:(AdD z.cells n).toList.length=n*k:=by rw[Ad0,size_zeroCells,hzs]
 have hst:=run_storeCells_at P g (lo*k) T (AdD z.cells n).toList 0 C.toArray w hC (by rw[hZ];simp only[Adi];omega) h1;simp only[Af7,hZ]at hst;obtain⟨m,rfl⟩:∃m,n=m+1:=⟨n-1,by omega⟩;have hr:(Builtin.clear_ #[t] ty #[.slice (some ⟨g,lo*k,none⟩) (m+1) c]).run P w = .ok (.tuple #[]) (w.setRow g (C.take (lo*k)++(AdD z.cells (m+1)).toList++C.drop (lo*k+(m+1)*k)).toArray):=by
  simp[Builtin.clear_,run_underlying ht,zeroValue,typeInfo,hi,hz,hst]
 refine AbU (v:= .tuple #[]) (w' :=_) ?_ (hk _ _ hZ (setRow_heap w g C.toArray _ T (0,0) hC) Gn (by simp));unfold execOp;simp only[resolve,invoke,builtin,hx,AcT,AcX,Ac2,AcN,hr,AcM,AcR]
theorem Aat{t tn e T:AcK}{kn kq:AdV}{i:TypeInfo}{z:AcD}(ht:P.underlying t=some (.slice e))(htn:P.underlying tn=some (.int kn))(hi:P.info? e=some i)(hz:i.zero=some z)(hik:i.size=k)(hzs:z.cells.size=k)(a:0<k)(hd:SB g k 0 n c (Ab ρ s))(hc:0<c){C:List AcD}(hC:w.heap[g]? =some (.cells C.toArray T (0,0))) 
  {m:Nat} (hy:Ab ρ x = .int kq (m:Int)) (hm:0<m) (hroom:c<n+m) (hfit:n*k<=C.length) (hb:(n+m)*i.bytes<=140737488355328) (h63:n+m<=maxLen)
  (hk:∀b w' cap Z,w.heap.size=b->cap<=maxLen->n+m<=cap->Z.length=cap*k-n*k->w'.heap[b]? =some (.cells (C.take (n*k)++Z).toArray e (0,0))->Ext w w' ->w'.heap.size=w.heap.size+1->K (.slice (some ⟨b,0,none⟩) (n+m) cap) w'):
  Yk P K ((execOp (Ab ρ) ⟨d, .call ⟨.builtin .append,#[s,x],#[t,tn]⟩,ty,pos,af,gd⟩).run P w):=by
 obtain⟨o,hx,ho⟩:=hd;obtain rfl:o=0:=by rw[ho hc,Afg]
 subst hik;have holds:∀j u,(C.take (n*i.size))[j]? =some u->w.drew.cell? ((⟨g,0,none⟩:Addr).add j)=some u:=fun j u hu=>by
  rw[AeI]at hu;split at hu
  ·rw[Aeb,Aem];exact Ac (w:=w.drew) hC hu
  ·cases hu
 have hl:(C.take (n*i.size)).length=n*i.size:=by rw[Ac4];omega
 have hr:=Lib.run_append_grow_zeros (P:=P) w t tn ty e i z kq kn ht htn hi hz (some ⟨g,0,none⟩) n c (C.take (n*i.size)) (run_firstCells_some w.drew i.size n ⟨g,0,none⟩ n c _ hl holds) m hm a hroom (by have:=h63;simp only[maxLen]at this;omega)
  (AcG (Ae7 _ (Nat.le_add_left m n)) (AcG hb (by decide))) (growslice_fits hroom hb)
 have hge:=grownCap_ge w (n+m) c e;have hcm:=grownCap_le_maxLen w (n+m) c e h63;refine AbU (v:= .slice (some ⟨w.heap.size,0,none⟩) (n+m) (grownCap w (n+m) c e)) (w' :=w.drew.alloc (.cells ((C.take (n*i.size)).toArray++AdD z.cells m++AdD z.cells (grownCap w (n+m) c e-(n+m))) e)) ?_
  (hk w.heap.size _ _ ((AdD z.cells m).toList++(AdD z.cells (grownCap w (n+m) c e-(n+m))).toList) rfl hcm hge ?_ ?_ (Abk ⟨rfl,rfl,rfl,by simp,fun k hk _=>heap_alloc_old w.drew _ hk⟩) (by simp))
 ·unfold execOp;simp only[resolve,invoke,builtin,hx,hy,AcT,AcX,Ac2,AcN,hr,AcM,AcR]
 ·rw[AcJ,Ad0,Ad0,size_zeroCells,size_zeroCells,hzs,<-Ad2,<-Nat.sub_mul]
  congr 1
  omega
 ·have:=heap_alloc_new w.drew (.cells ((C.take (n*i.size)).toArray++AdD z.cells m++AdD z.cells (grownCap w (n+m) c e-(n+m))) e);rw[show(C.take (n*i.size)++((AdD z.cells m).toList++(AdD z.cells (grownCap w (n+m) c e-(n+m))).toList)).toArray=(C.take (n*i.size)).toArray++AdD z.cells m++AdD z.cells (grownCap w (n+m) c e-(n+m))from by
   apply Array.toList_inj.1
   simp]
  exact this
end
theorem Lp{P:AcY}{w:AcE}{tS tR e:AcK}(ht:P.underlying tS=some (.slice e)){k:Nat}(hz:∀w,(Go.sizeOf e).run P w = .ok k w){a b:Nat}{v x:AcD}{lo' n' c' lo n c:Nat}(hv:SB a k lo' n' c' v)(hx:SB b k lo n c x)(hne:a≠b){A B:List AcD}{tA tB:AcK} 
  (hA:w.heap[a]? =some (.cells A.toArray tA (0,0))) (hB:w.heap[b]? =some (.cells B.toArray tB (0,0))) (h0:B≠ []):
  (Extern.SlicesOverlaps.overlaps #[tS,tS] #[tR] #[v,x]).run P w = .ok (.bool false) w:=by
 obtain⟨o,rfl,-⟩:=hx;obtain⟨oa,rfl,-⟩:=hv;exact Lib.run_overlaps_apart w tS tR e ht k hz ⟨a,oa,none⟩ ⟨b,o,none⟩ n' c' n c hne tA tB A.length B.length (by simp[World.shape?,hA]) (by simp[World.shape?,hB]) (by simpa using h0) (by simp[World.frozen?,hA]) (by simp[World.frozen?,hA])
theorem Hn{P:AcY}{e:AcK}{k b:Nat}(h:(P.info? e).map (fun i=>(i.zero.map (fun z=>z.cells.size),i.size,i.bytes))=some (some k,k,b)):∃z,(P.info? e).map (fun i=>(i.zero,i.size,i.bytes))=some (some z,k,b)/\z.cells.size=k:=by
 cases hi:P.info? e with
 | none=>rw[hi]at h;cases h
 | some i=>
  rw[hi]at h;simp only[Ad4,Aea,Prod.mk.injEq]at h;cases hz:i.zero with
  | none=>rw[hz]at h;cases h.1
  | some z=>
   rw[hz]at h;simp only[Ad4,Aea]at h;exact⟨z,by simp[hz,h.2.1,h.2.2],h.1⟩
section
variable {P : AcY} {K : AcD -> AcE -> Prop} {ρ : Aj} {w : AcE} {d : Option Tmp} {ty : AcK} {pos : String} {af : Array Adv} {gd : Option (Nat × Bool)}
theorem Abf{t e s:AcK}{u:TypeDesc}(hs:P.underlying s=some u)(ht:P.underlying t=some (.slice e))(he:P.underlying e=some (.int .u8)){x:AcO}{l:Aib}(hx:Ab ρ x=St l)(hl:l.length<=9223372036854775807) 
  (hk:∀v w',RB w' v l->Ext w w' ->(∀k,v.ownBlock=some k->w.heap.size<=k/\k<w'.heap.size)->K v w'):Yk P K ((execOp (Ab ρ) ⟨d, .convert s t x,ty,pos,af,gd⟩).run P w):=by
 have hr:=Lib.run_convert_string_bytes (P:=P) w s t e ⟨l.toArray⟩ hs ht he;have hsz:(⟨l.toArray⟩:ByteArray).size=l.length:=by simp[ByteArray.size]
 rw[hsz]at hr;refine AbU (v:= .slice (some ⟨w.heap.size,0,none⟩) l.length (grownCap w l.length 0 e)) (w' :=Lib.bytesWorld w e ⟨l.toArray⟩) ?_ (hk _ _ ?_ (Lib.bytesWorld_below w e _) ?_)
 ·unfold execOp;simp only[hx,hr,AcN,AcR,AcM]
 ·refine⟨by rw[AcS,Nat.mul_one],_,_,rfl,grownCap_ge w _ _ _,grownCap_le_maxLen w _ _ _ (by simpa [maxLen] using hl),(fun h=>by cases h),fun a ha j u hu=> ?_⟩;cases ha;have hj:j<l.length:=by have:=(Ac3.1 hu).1;rwa [AcS]at this
  have hc:=Lib.bytesWorld_cell w e ⟨l.toArray⟩ j (by rw[hsz];exact hj);rw[show(⟨w.heap.size,0,none⟩:Addr).add j=⟨w.heap.size,j,none⟩ by simp[Addr.add];exact fun h=>h.symm];rw[hc,<-hu,Wi hj]
 ·intro k hk;cases hk;rw[Lib.bytesWorld_size];exact⟨AcI _,Nat.lt_succ_self _⟩
end
theorem LW{α:Type}{l:List α}{i:Nat}{d:α}(h:i<l.length):l.take i++ [l.getD i d]=l.take (i+1):=by
 rw[List.take_add_one,AcQ h,AcL,AcQ h];rfl
open Go.ChangeShapes Go.WideShapes Go.ChangeAt Go.Deep
instance:Inhabited Aw:=⟨Ay⟩
theorem Nu{H:Type}{enc:AcK × AcD->H}{W:AcE}:Opn enc AcF W 77 updC (fun x:Aw=>x.name.length<=9223372036854775807):=fun fuel cs x h=>by
 have ht:Tryz.prog.underlying 77=some (.struct (Tryz.prog.fieldsOf 77)):=by kernel_rfl
 obtain⟨a0,a,k0⟩:=Cq (i:=0) (ty:=5) (o:=0) (k:=1) ht h (by kernel_rfl) (by kernel_rfl) (Opn.u8 (by kernel_rfl));obtain⟨a1,b,k1⟩:=Cq (i:=1) (ty:=9) (o:=1) (k:=1) ht h (by kernel_rfl) (by kernel_rfl) (AaG (by kernel_rfl));obtain⟨a2,c,k2⟩:=Cq (i:=2) (ty:=33) (o:=2) (k:=32) ht h (by kernel_rfl) (by kernel_rfl) (Opn.id (e:=5) (by kernel_rfl) (by kernel_rfl) (by kernel_rfl) (by kernel_rfl));obtain⟨a3,f,k3⟩:=Cq (i:=3) (ty:=33) (o:=34) (k:=32) ht h (by kernel_rfl) (by kernel_rfl) (Opn.id (e:=5) (by kernel_rfl) (by kernel_rfl) (by kernel_rfl) (by kernel_rfl));have hl:cs.drop 66= []:=Aef (AfU ((Kr ht h).trans (by kernel_rfl)));refine⟨⟨a0,a1,a2,a3⟩,?_,k1⟩;rw[show cs=cs.drop 0 from rfl];rw[a];rw[show cs.drop (0+1)=_ from b];rw[show cs.drop (1+1)=_ from c];rw[show cs.drop (2+32)=_ from f];rw[show cs.drop (34+32)= []from hl];simp[updC]
section
variable {P : AcY} {K : AcD -> AcE -> Prop} {ρ : Aj} {w : AcE} {d : Option Tmp} {ty : AcK} {pos : String} {af : Array Adv} {gd : Option (Nat × Bool)}
theorem AbG{t ty2:AcK}{x y:AcO}{l m:Aib}(hx:Ab ρ x=St l)(hy:Ab ρ y=St m)(hk:K (.bool (!(Adg l m||l==m))) w):Yk P K ((execOp (Ab ρ) ⟨d, .binOp .gtr t x y ty2,ty,pos,af,gd⟩).run P w):=by
 refine AbU (v:= .bool (!(Adg l m||l==m))) (w' :=w) ?_ hk;unfold execOp;simp only[hx,hy,eqGuard,Ado,Op.stringOp,Fl,AcN,AcR];rfl
end
def DT(a b:Aib):Int:=if Adg a b=true then -1 else if(!(Adg a b||a==b))=true then 1 else 0
theorem Nv{a b:Aib}:DT a b<0↔a<b:=by
 unfold DT;rw[bytesLess_eq];by_cases h:a<b
 ·simp[h]
 ·simp only[h,decide_false,Bool.false_eq_true,if_false,iff_false];split <;> omega
theorem Sg{a b:Aib}:DT a b=0↔a=b:=by
 unfold DT;rw[bytesLess_eq];by_cases h:a<b
 ·simp only[h,decide_true,if_true];constructor
  ·intro e;omega
  ·rintro rfl;exact absurd h (List.lt_irrefl _)
 ·simp only[h,decide_false,Bool.false_eq_true,if_false,Bool.false_or];by_cases e:a=b
  ·subst e;simp
  ·simp[e]
def DH(l:List AH):Prop:=∀i j,i<j->j<l.length->(l.getD i dNmd).name<(l.getD j dNmd).name
def Jb(l:List AH)(s:Aib)(p:Nat):Prop:=p<=l.length/\(∀j,j<p->(l.getD j dNmd).name<s)/\(∀j,p<=j->j<l.length->¬(l.getD j dNmd).name<s)
theorem Sh{l:List AH}{s:Aib}{m:Nat}(hs:DH l)(hm:m<l.length)(h:(l.getD m dNmd).name<s):∀j,j<m+1->(l.getD j dNmd).name<s:=fun j hj=>by
 by_cases e:j=m
 ·rw[e];exact h
 ·exact Agy (hs j m (by omega) hm) h
theorem KD{l:List AH}{s:Aib}{m:Nat}(hs:DH l)(h:¬(l.getD m dNmd).name<s):∀j,m<=j->j<l.length->¬(l.getD j dNmd).name<s:=fun j hj hl hk=>by
 by_cases e:m=j
 ·subst e;exact h hk
 ·exact h (Agy (hs m j (by omega) hl) hk)
theorem Nw:Tryz.prog.underlying 3=some (.int .i64):=by kernel_rfl
theorem KE:Tryz.prog.underlying 198=some (.int .u64):=by kernel_rfl
theorem KF:Plain AcF 194:=fun _ _=>by kernel_rfl
theorem IE(w:AcE)(n:AH)(s:Bs):
  Calls AcF 194 #[.agg (nmdC n).toArray,St s] w fun e w' =>e = .returned (.int .i64 (DT n.name s))/\Ext w w' :=by
 refine gG (args:= [.agg (nmdC n).toArray,St (s)]) Tryz.func194 rfl 15 rfl rfl ?_;have hE:=AbN w;refine gS (Ab3 (vr (.agg (nmdC n).toArray) rfl) fun h i j f b k=> ?_);have g:=f;clear f;have o:h<i.heap.size:=by omega
 refine gS (AbM GU rfl (gS (Y6 EK rfl rfl (Ac g (E3 n)) (gS (Aa3 (l:=n.name) (m:=s) (.inl rfl) rfl rfl (Adg n.name s) rfl ?_)))));refine cB (Adg n.name s) rfl (fun a=> ?_) fun a=> ?_
 ·refine AE rfl (vr (.int .i64 (-1:Int)) rfl) ?_;have hE:=hE.trans b;exact⟨congrArg Aed (congrArg (AeY .i64) (by unfold DT;(rw[if_pos a]) <;> rfl)),hE⟩
 refine gS (AbM GU rfl (gS (Y6 EK rfl rfl (Ac g (E3 n)) (gS (AbG (l:=n.name) (m:=s) rfl rfl ?_)))));refine cB (!(Adg n.name s||n.name==s)) rfl (fun c=> ?_) fun c=> ?_
 ·refine AE rfl (vr (NI 1) rfl) ?_;have hE:=hE.trans b;exact⟨congrArg Aed (congrArg (AeY .i64) (by unfold DT;(rw[if_neg (by rw[a];decide),if_pos c]) <;> rfl)),hE⟩
 refine AE rfl (vr (NI 0) rfl) ?_;have hE:=hE.trans b;exact⟨congrArg Aed (congrArg (AeY .i64) (by unfold DT;(rw[if_neg (by rw[a];decide),if_neg (by rw[c];decide)]) <;> rfl)),hE⟩
theorem Qo(w:AcE)(v:AcD)(l:List AH)(hr:RG 33 nmdC w v l)(hl:l.length<=1000)(hs:DH l)(s:Bs):
  Calls AcF 193 #[v,St s, .func (.func 194) #[] #[]] w fun e w' =>(∃p,e = .returned (.tuple #[NI p, .bool (decide (p<l.length)&&decide ((DT (l.getD p dNmd).name s)=((0:Nat):Int)))])/\Jb l s p)/\Ext w w' :=by
 refine F2 (args:= [v,St (s), .func (.func 194) #[] #[]]) Tryz.func193 rfl 49 rfl rfl ?_;have hE:=AbN w;refine gS (Zh ES (Zf hr rfl) (gL (fun(ρ:Aj) (wz:AcE)=>∃i:Nat,∃k:Nat,ρ 0=(v:AcD)/\ρ 1=(St (s):AcD)/\ρ 2=(.func (.func 194) #[] #[]:AcD)/\ρ 6=(NI 0:AcD)/\ρ 7=(.bool (false):AcD)/\ρ 8=(NI l.length:AcD)/\ρ 9=(NI i:AcD)/\ρ 10=(NI k:AcD)/\RG 33 nmdC wz v l/\Ext w wz/\(i<=k)/\(k<=l.length)/\(∀j,j<i->(l.getD j dNmd).name<s)/\(∀j,k<=j->j<l.length->¬(l.getD j dNmd).name<s)/\True) (fun ρ _=>(intOf (ρ 10)).toNat-(intOf (ρ 9)).toNat) ⟨0,l.length,rfl,rfl,rfl,rfl,rfl,rfl,rfl,rfl,hr,hE,AcZ _,AcI _,fun j hj=>absurd hj (AdN _),fun j h1 h2=>by omega,trivial⟩ ?_));clear hr hE;rintro f w6 ⟨i,k,n,T1,T2,x,y,r,c,g,hr,hE,hik,hkl,hlo,hhi,-⟩;have q10:=g;have q9:=c;refine gS (Y7 (a:=(i:Nat)) (b:=(k:Nat)) c g (Bf _ _ _ _) ?_);refine cD rfl (fun z=> ?_) fun z=> ?_
 ·have hlt:i<k:=z;have hm0:((i+k)/2^(1))<l.length:=by omega
  refine gS (Ze (xv:=NI i) (yv:=NI k) c g rfl (AD _ _ _ (by omega)) (gS (ZT Nw KE rfl (Ue ((i)+(k)) (by omega)) (gS (Ze (xv:= .int .u64 (((i)+(k):Nat):Int)) (yv:= .int .u64 ((1:Nat):Int)) rfl rfl rfl (Wj _ _ _ _ (by omega)) (gS (ZT KE Nw rfl (HA (((i)+(k))/2^(1)) (by omega)) ?_)))))));have ac:(nmdC (l.getD (((i)+(k))/2^(1)) dNmd)).length=33:=(AbX hr dNmd (by omega));refine gS (Zk ES KA (by decide) dNmd (Zf hr n) rfl (by omega) fun ad o=>(gS (Zd (Zs o rfl) (LQ).choose_spec rfl (by rw[BG];exact KB) (gS (ZA KF (caps:= #[]) T2 #[.agg (nmdC (l.getD (((i)+(k))/2^(1)) dNmd)).toArray,St (s)] (by simp only[AcT,AcX,Ac2,Adu,Ade,Adm];exact congrArg Adf (B6 rfl T1)) ((IE _ (l.getD (((i)+(k))/2^(1)) dNmd) s).mono ?_))))));rintro e ae ⟨rfl,m⟩;refine⟨_,rfl,?_⟩;have o:=Ab7 o m;refine gS (Y7 rfl rfl (VT _ .i64 ((DT (l.getD (((i)+(k))/2^(1)) dNmd).name s):Int) ((0:Nat):Int)) ?_);clear o;refine cD rfl (fun t=> ?_) fun t=> ?_
  ·have hr:=hr.keep m;have hE:=hE.trans m;refine gS (Ze (xv:=NI (((i)+(k))/2^(1))) (yv:=NI 1) rfl rfl rfl (AD _ _ _ (by omega)) (gK (AdF ⟨((i+k)/2^(1))+1,k,n,T1,T2,x,y,r,rfl,g,hr,hE,by omega,by omega,Sh hs (by omega) (Nv.1 t),hhi,trivial⟩ ?_)));show(intOf (f 10)).toNat-(intOf (NI ((((i)+(k))/2^(1))+(1)))).toNat<(intOf (f 10)).toNat-(intOf (f 9)).toNat;rw[g,q9];simp only[intOf,Ac8];omega
  have hr:=hr.keep m;have hE:=hE.trans m;refine gK (AdF ⟨i,((i+k)/2^(1)),n,T1,T2,x,y,r,c,rfl,hr,hE,by omega,by omega,hlo,KD hs (fun h=>t (Nv.2 h)),trivial⟩ ?_);show(intOf (NI (((i)+(k))/2^(1)))).toNat-(intOf (f 9)).toNat<(intOf (f 10)).toNat-(intOf (f 9)).toNat;rw[c,q10];simp only[intOf,Ac8];omega
 refine gS (Y7 (a:=(i:Nat)) (b:=(l.length:Nat)) c r (Bf _ _ _ _) (gO fun _=>Ae (.func (.func 194) #[] #[]) rfl rfl (gT rfl) (fun hG17=>AbT T2 ⟨rfl,rfl⟩) (At (gO fun _=>Ae (v) rfl rfl (gT rfl) (fun hG18=>AbT n ⟨rfl,rfl⟩) (At (gO fun _=>Ae (NI i) rfl rfl (gT rfl) (fun hG19=>AbT c ⟨rfl,rfl⟩) (At ?_)))))));have af:((decide ((i)<(l.length))))=true->(nmdC (l.getD (i) dNmd)).length=33:=fun hG20=>(AbX hr dNmd (by first | omega | (simp only[gA,gB,gC,gD,gE]at hG20;omega)));refine gO fun _=>D5 (fun u=>PR (nmdC (l.getD (i) dNmd)) u w6) rfl rfl (gT (vr (.bool (decide ((i)<(l.length)))) rfl)) (fun hG20=>Zk ES KA (by decide) dNmd (Zf hr (Ak (vr (cond ((decide ((i)<(l.length)))) (v) undef) rfl) hG20)) (Ak (vr (cond ((decide ((i)<(l.length)))) (NI i) undef) rfl) hG20) (by first | omega | (simp only[gA,gB,gC,gD,gE]at hG20;omega)) fun _ h=>⟨h,rfl⟩) fun u q=>At (gO fun _=>Ae (.agg (nmdC (l.getD (i) dNmd)).toArray) rfl rfl (gT (vr (.bool (decide ((i)<(l.length)))) rfl)) (fun hG24=>Zd (Zs (q hG24) (vr u rfl)) (LQ).choose_spec rfl (by rw[BG];exact KB) ⟨rfl,rfl⟩) (At (gO fun _=>Ae (St (s)) rfl rfl (gT (vr (.bool (decide ((i)<(l.length)))) rfl)) (fun hG25=>AbT T1 ⟨rfl,rfl⟩) (At (gO fun _=>Ci (.int .i64 ((DT (l.getD (i) dNmd).name s):Int)) rfl rfl (gT (vr (.bool (decide ((i)<(l.length)))) rfl)) (fun hG26=>ZA KF (caps:= #[]) (Ak (vr (cond ((decide ((i)<(l.length)))) (.func (.func 194) #[] #[]) undef) rfl) hG26) #[.agg (nmdC (l.getD (i) dNmd)).toArray,St (s)] (by simp only[AcT,AcX,Ac2,Adu,Ade,Adm];exact congrArg Adf (B6 (Ak (vr (cond ((decide ((i)<(l.length)))) (.agg (nmdC (l.getD (i) dNmd)).toArray) undef) rfl) hG26) (Ak (vr (cond ((decide ((i)<(l.length)))) (St (s)) undef) rfl) hG26))) ((IE _ (l.getD (i) dNmd) s).mono (by rintro e w2 ⟨rfl,hx⟩;exact⟨_,rfl,rfl,hx⟩))) fun ag aa=>At ?_)))));have q:=fun(e_:((decide ((i)<(l.length))))=true)=>(Ab7 (q e_) aa);refine gO fun _=>Ae (.bool (decide (((DT (l.getD (i) dNmd).name s):Int)=((0:Nat):Int)))) rfl rfl (gT rfl) (fun hG30=>Y7 (Ak rfl hG30) rfl (Yc _ .i64 ((DT (l.getD (i) dNmd).name s):Int) ((0:Nat):Int)) ⟨rfl,rfl⟩) (At (gS (Zq rfl (fun hA=>(Ak rfl hA)) rfl fun bb31 hbb32=> ?_)));clear q;refine DX rfl c (vr (.bool (bb31)) rfl) ?_;subst hbb32;have hE:=hE.trans aa;exact⟨⟨i,rfl,by omega,hlo,fun j hj=>hhi j (by omega)⟩,hE⟩
section
variable {P : AcY} {K : AcD -> AcE -> Prop} {ρ : Aj} {w : AcE} {d : Option Tmp} {ty : AcK} {pos : String} {af : Array Adv} {gd : Option (Nat × Bool)}
theorem Si{t e:AcK}(ht:P.underlying t=some (.slice e))(a:Option Addr)(n c:Nat)(w:AcE):(Op.equal t (.slice a n c) (.slice none 0 0)).run P w = .ok a.isNone w:=by
 unfold Op.equal;rw[show Op.maxDepth=(Op.maxDepth-1)+1 from rfl];cases a <;> simp[Op.equalIn,run_underlying ht,AcN,AcR]
theorem ZS{t e ty2:AcK}(ht:P.underlying t=some (.slice e)){x:AcO}{a:Option Addr}{n c:Nat}(hx:Ab ρ x = .slice a n c)(hk:K (.bool a.isNone) w):Yk P K ((execOp (Ab ρ) ⟨d, .binOp .eql t x (.const (.slice none 0 0)) ty2,ty,pos,af,gd⟩).run P w):=by
 have hy:Ab ρ (.const (.slice none 0 0)) = .slice none 0 0:=rfl;refine AbU (v:= .bool a.isNone) (w' :=w) ?_ hk;have hr:=Si ht a n c w;unfold execOp;simp only[hx,hy];cases a <;> simp[eqGuard,Ado,hr]
end
def PA(u:Aw):Bool:=(decide (u.kind.toNat=2)&&(!Ai u.old))&&(!Ai u.new)
def PB(u:Aw):Bool:=decide (u.kind.toNat=3)&&((!Ai u.old)||(decide (u.name= [])==Ai u.new))
def PC(u:Aw):Bool:=(!Av u.name)&&(decide (u.kind.toNat≠3)||decide (u.name≠ []))
def Bl(u:Aw):Nat:=if(!DY u.kind)=true then 1 else if PA u=true then 1 else if PB u=true then 1 else if PC u=true then 10 else 0
def BL(l:List AH)(s:Bs)(p:Nat):Bool:=decide (p<l.length)&&decide ((l.getD p dNmd).name=s)
theorem Ul(l:List AH)(s:Bs)(p:Nat):(decide (p<l.length)&&decide ((DT (l.getD p dNmd).name s)=((0:Nat):Int)))=BL l s p:=by
 unfold BL;rw[show decide ((DT (l.getD p dNmd).name s)=((0:Nat):Int))=decide ((l.getD p dNmd).name=s)from decide_eq_decide.2 Sg]
theorem Qp(w:AcE):(Adc 31 0 #[]).run AcF w = .ok (.slice (some ⟨w.heap.size,0,none⟩) 0 0) (w.alloc (.cells #[] 94)):=by kernel_rfl
theorem wr30_ig94:∃z,(Tryz.prog.info? 94).map (fun i=>(i.zero,i.size,i.bytes))=some (some z,33,48)/\z.cells.size=33:=Hn (by kernel_rfl)
theorem Qq(w:AcE):(Adc 34 0 #[]).run AcF w = .ok (.slice (some ⟨w.heap.size,0,none⟩) 0 0) (w.alloc (.cells #[] 97)):=by kernel_rfl
theorem wr30_ig97:∃z,(Tryz.prog.info? 97).map (fun i=>(i.zero,i.size,i.bytes))=some (some z,67,104)/\z.cells.size=67:=Hn (by kernel_rfl)
theorem Qr:Plain AcF 193:=fun _ _=>by kernel_rfl
theorem Jw:AC AcF 77 2 2:=fun b o w=>by simp[go_sem]
theorem Jx:AC AcF 77 3 34:=fun b o w=>by simp[go_sem]
theorem Um:Tryz.prog.underlying 4=some (.bool):=by kernel_rfl
theorem Sj(w:AcE):
  Calls AcF 36 #[(.slice none 0 0)] w fun e w' =>∃v',e = .returned v' /\OG w.heap.size 94 33 nmdC w' v' []/\Ext w w' :=by
 refine gG (args:= [(.slice none 0 0)]) Tryz.func36 rfl 8 rfl rfl ?_;have hE:=AbN w;refine gS (ZS ES rfl (cT rfl (AE rfl (vr (AcU none 0 0) rfl) ?_)));exact⟨_,rfl,AbZ _ _ _ _ _,hE⟩
theorem Sk(w:AcE)(a:Addr)(c:Nat)(l:List AH)(hr:RG 33 nmdC w (.slice (some a) l.length c) l)(hl:l.length<1000000):
  Calls AcF 36 #[(.slice (some a) l.length c)] w fun e w' =>∃v',e = .returned v' /\OG w.heap.size 94 33 nmdC w' v' l/\Ext w w' :=by
 refine gG (args:= [(.slice (some a) l.length c)]) Tryz.func36 rfl 8 rfl rfl ?_;have hE:=AbN w;refine gS (ZS ES rfl (cF rfl (gS (AaF (k:=33) (enc:=nmdC) Qp fun g i b j=> ?_))));have hE:=hE.trans j;refine gS (ZB _ _ w.heap.size _ 48 ES wr30_ig94.choose_spec.1 wr30_ig94.choose_spec.2 ES ([]) (l) (ZY b (vr g rfl)) (Zf (hr.keep hE) (vr (.slice (some a) l.length c) rfl)) (fun _ _=>DR) (by simp only[Ac1];omega) (by simp only[Ac1];omega) hE.size fun h m n f=> ?_);have f:Grew i m g h:=f;have hE:=Br hE f b.2 (AcI _);clear b;refine AE rfl (vr h rfl) ?_;exact⟨_,rfl,(show OG _ _ _ _ _ _ _ from by simpa using n),hE⟩
theorem Dw(w:AcE)(v:AcD)(l:List AH)(h:RG 33 nmdC w v l)(hl:l.length<1000000):
  Calls AcF 36 #[v] w fun e w' =>∃v',e = .returned v' /\OG w.heap.size 94 33 nmdC w' v' l/\Ext w w' :=by
 obtain⟨h0,h1,ao,cap,rfl,h2,h3,h4,h5⟩:=id h;cases ao with
 | none=>
  have hl:=h4 rfl;have:l= []:=AdB hl.1;subst this;rw[show cap=0 from hl.2];exact Sj w
 | some a=>exact Sk w a cap l h hl
theorem Sl(w:AcE):
  Calls AcF 37 #[(.slice none 0 0)] w fun e w' =>∃v',e = .returned v' /\OG w.heap.size 97 67 entC w' v' []/\Ext w w' :=by
 refine gG (args:= [(.slice none 0 0)]) Tryz.func37 rfl 8 rfl rfl ?_;have hE:=AbN w;refine gS (ZS FG rfl (cT rfl (AE rfl (vr (AcU none 0 0) rfl) ?_)));exact⟨_,rfl,AbZ _ _ _ _ _,hE⟩
theorem Sm(w:AcE)(a:Addr)(c:Nat)(l:List A9)(hr:RG 67 entC w (.slice (some a) l.length c) l)(hl:l.length<1000000):
  Calls AcF 37 #[(.slice (some a) l.length c)] w fun e w' =>∃v',e = .returned v' /\OG w.heap.size 97 67 entC w' v' l/\Ext w w' :=by
 refine gG (args:= [(.slice (some a) l.length c)]) Tryz.func37 rfl 8 rfl rfl ?_;have hE:=AbN w;refine gS (ZS FG rfl (cF rfl (gS (AaF (k:=67) (enc:=entC) Qq fun g i b j=> ?_))));have hE:=hE.trans j;refine gS (ZB _ _ w.heap.size _ 104 FG wr30_ig97.choose_spec.1 wr30_ig97.choose_spec.2 FG ([]) (l) (ZY b (vr g rfl)) (Zf (hr.keep hE) (vr (.slice (some a) l.length c) rfl)) (fun _ _=>Gb) (by simp only[Ac1];omega) (by simp only[Ac1];omega) hE.size fun h m n f=> ?_);have f:Grew i m g h:=f;have hE:=Br hE f b.2 (AcI _);clear b;refine AE rfl (vr h rfl) ?_;exact⟨_,rfl,(show OG _ _ _ _ _ _ _ from by simpa using n),hE⟩
theorem Gp(w:AcE)(v:AcD)(l:List A9)(h:RG 67 entC w v l)(hl:l.length<1000000):
  Calls AcF 37 #[v] w fun e w' =>∃v',e = .returned v' /\OG w.heap.size 97 67 entC w' v' l/\Ext w w' :=by
 obtain⟨h0,h1,ao,cap,rfl,h2,h3,h4,h5⟩:=id h;cases ao with
 | none=>
  have hl:=h4 rfl;have:l= []:=AdB hl.1;subst this;rw[show cap=0 from hl.2];exact Sl w
 | some a=>exact Sm w a cap l h hl
theorem Sn(w:AcE)(v:AcD)(l:List AH)(hr:RG 33 nmdC w v l)(hl:l.length<=1000)(hs:DH l)(s:Bs):
  Calls AcF 154 #[v,St s] w fun e w' =>(∃p,e = .returned (.tuple #[NI p, .bool (BL l s p)])/\Jb l s p)/\Ext w w' :=by
 refine gG (args:= [v,St (s)]) Tryz.func154 rfl 11 rfl rfl ?_;have hE:=AbN w;refine gS (Zi Qr rfl rfl rfl ((Qo _ v l hr hl hs s).mono ?_));rintro e b ⟨⟨p,rfl,hp⟩,a⟩;refine⟨_,rfl,?_⟩;have hr:=hr.keep a;have hE:=hE.trans a;refine gS (AbP (vs:= [NI p, .bool ((decide (p<l.length)&&decide ((DT (l.getD p dNmd).name s)=((0:Nat):Int))))]) rfl rfl (gS (AbP (vs:= [NI p, .bool ((decide (p<l.length)&&decide ((DT (l.getD p dNmd).name s)=((0:Nat):Int))))]) rfl rfl (DX rfl (vr (NI p) rfl) (vr (.bool ((decide (p<l.length)&&decide ((DT (l.getD p dNmd).name s)=((0:Nat):Int))))) rfl) ?_))));exact⟨⟨p,by rw[<-Ul],hp⟩,hE⟩
theorem Qs(w:AcE)(y:Aw)(hl:y.name.length<=9223372036854775807):
  Calls AcF 39 #[.agg (updC y).toArray] w fun e w' =>e = .returned (NI (Bl y))/\Ext w w' :=by
 refine F2 (args:= [.agg (updC y).toArray]) Tryz.func39 rfl 56 rfl rfl ?_;have hE:=AbN w;refine gS (Ab3 (vr (.agg (updC y).toArray) rfl) fun f u av o v aw=> ?_);have hE:=hE.trans v;have c:=o;clear o;have ax:f<u.heap.size:=by omega
 refine gS (AbM OY rfl (gS (Y6 u5 rfl rfl (Ac c (FD y)) (gS (Y9 Se rfl ((LU _ y.kind).mono ?_))))));rintro e ay ⟨rfl,p⟩;refine⟨_,rfl,?_⟩;have hE:=hE.trans p;have c:=eb p c;refine gS (Zn rfl ?_);refine cB (!(DY y.kind)) rfl (fun i=> ?_) fun i=> ?_
 ·have h0c:(!DY y.kind)=true:=i;refine cT (vr (.bool (true)) ((show _=Aek ((!DY y.kind))from rfl).trans (congrArg Aek h0c))) (AE rfl (vr (NI 1) rfl) ?_);exact⟨by unfold Bl;rw[if_pos h0c],hE⟩
 have h0c:(!DY y.kind)=false:=i;refine gS (AbM OY rfl (gS (Y6 u5 rfl rfl (Ac c (FD y)) (gS (Y7 (a:=((y.kind).toNat:Nat)) (b:=(2:Nat)) rfl rfl (AK _ _ _ _) (gO fun _=>Ae (PQ f 2) rfl rfl (gT rfl) (fun hG17=>AbM Jw rfl ⟨rfl,rfl⟩) (At (gO fun _=>Ae (AB y.old.1) rfl rfl (gT rfl) (fun hG18=>Zd (Ab1 c (Ev y) (E2 y) (Ak rfl hG18)) VZ rfl (As y.old.2) ⟨rfl,rfl⟩) (At (gO fun _=>Ci (.bool (Ai y.old)) rfl rfl (gT rfl) (fun hG19=>Y9 ID (Ak rfl hG19) ((B3 _ y.old).mono (by rintro e w2 ⟨rfl,hx⟩;exact⟨_,rfl,rfl,hx⟩))) fun az q=>At ?_))))))))));have hE:=hE.trans q;have c:=eb q c;refine gO fun _=>Ae (.bool (!(Ai y.old))) rfl rfl (gT rfl) (fun hG23=>Zn (Ak rfl hG23) ⟨rfl,rfl⟩) (At (gS (Zq rfl (fun hA=>(Ak rfl hA)) rfl fun bb24 hbb25=>(gO fun _=>Ae (PQ f 34) rfl rfl (gT rfl) (fun hG26=>AbM Jx rfl ⟨rfl,rfl⟩) (At (gO fun _=>Ae (AB y.new.1) rfl rfl (gT rfl) (fun hG27=>Zd (Ab1 c (C3 y) (Db y) (Ak rfl hG27)) VZ rfl (As y.new.2) ⟨rfl,rfl⟩) (At (gO fun _=>Ci (.bool (Ai y.new)) rfl rfl (gT rfl) (fun hG28=>Y9 ID (Ak rfl hG28) ((B3 _ y.new).mono (by rintro e w2 ⟨rfl,hx⟩;exact⟨_,rfl,rfl,hx⟩))) fun a0 r=>At ?_))))))));have hE:=hE.trans r;have c:=eb r c;refine gO fun _=>Ae (.bool (!(Ai y.new))) rfl rfl (gT rfl) (fun hG32=>Zn (Ak rfl hG32) ⟨rfl,rfl⟩) (At (gS (Zq rfl (fun hA=>(Ak rfl hA)) rfl fun bb33 hbb34=> ?_)));refine cB (bb33) rfl (fun j=> ?_) fun j=> ?_
 ·subst hbb25 hbb34;have h1c:PA y=true:=j;refine cT (vr (.bool (true)) ((show _=Aek (PA y)from rfl).trans (congrArg Aek h1c))) (AE rfl (vr (NI 1) rfl) ?_);exact⟨by unfold Bl;rw[if_neg (by rw[h0c];decide),if_pos h1c],hE⟩
 subst hbb25 hbb34;have h1c:PA y=false:=j;refine gR ?_;refine Fj [Is (PQ f 0),Is (B8 (y.kind)),Is (.bool (decide (((y.kind).toNat:Nat)=(3)))),Is (.bool (decide (((y.kind).toNat:Nat)=(3)))),Is (cond ((decide (((y.kind).toNat:Nat)=(3)))) (PQ f 2) undef),Is (cond ((decide (((y.kind).toNat:Nat)=(3)))) (AB y.old.1) undef),Is (cond ((decide (((y.kind).toNat:Nat)=(3)))) (.bool (Ai y.old)) undef),Is (cond ((decide (((y.kind).toNat:Nat)=(3)))) (.bool (!(Ai y.old))) undef),Is (cond ((decide (((y.kind).toNat:Nat)=(3)))) (.bool (!(Ai y.old))) undef),Is (cond ((decide (((y.kind).toNat:Nat)=(3)))&& !(!(Ai y.old))) (PQ f 1) undef),Is (cond ((decide (((y.kind).toNat:Nat)=(3)))&& !(!(Ai y.old))) (St (y.name)) undef),Is (cond ((decide (((y.kind).toNat:Nat)=(3)))&& !(!(Ai y.old))) (.bool (decide ((y.name:Aib)=(([]:Aib):Aib)))) undef),Is (cond ((decide (((y.kind).toNat:Nat)=(3)))&& !(!(Ai y.old))) (PQ f 34) undef),Is (cond ((decide (((y.kind).toNat:Nat)=(3)))&& !(!(Ai y.old))) (AB y.new.1) undef),Is (cond ((decide (((y.kind).toNat:Nat)=(3)))&& !(!(Ai y.old))) (.bool (Ai y.new)) undef),Is (cond ((decide (((y.kind).toNat:Nat)=(3)))&& !(!(Ai y.old))) (.bool ((decide ((y.name:Aib)=(([]:Aib):Aib)))==(Ai y.new))) undef),Is (cond ((decide (((y.kind).toNat:Nat)=(3)))) (.bool ((!(Ai y.old))||((decide ((y.name:Aib)=(([]:Aib):Aib)))==(Ai y.new)))) undef),Is (.bool ((decide (((y.kind).toNat:Nat)=(3)))&&((!(Ai y.old))||((decide ((y.name:Aib)=(([]:Aib):Aib)))==(Ai y.new))))),Is (.bool ((decide (((y.kind).toNat:Nat)=(3)))&&((!(Ai y.old))||((decide ((y.name:Aib)=(([]:Aib):Aib)))==(Ai y.new)))))] (by kernel_rfl) [23,24,25,26,27,28,29,30,31,32,33,34,35,36,37,38,39,40,3] (by kernel_rfl) (by kernel_rfl) (YT (Ua trivial)) ?z ?hQ1003
 case z=>
  refine⟨?_,?_,?_,?_,?_,?_,?_,?_,?_,?_,?_,?_,?_,?_,?_,?_,?_,?_,?_,trivial⟩
  ·refine AJ rfl fun σ w1 hC h=> ?_;have g:σ 1=PQ f 0:=(AM (h 1 (by decide))).trans rfl;exact AbM OY g ⟨AbN _,rfl⟩
  ·refine AJ rfl fun σ w1 hC h=> ?_;have aa:=AM (h 23 (by decide));exact Y6 u5 rfl aa (Ac (eb hC c) (FD y)) ⟨AbN _,rfl⟩
  ·refine AJ rfl fun σ w1 hC h=> ?_;have ab:=AM (h 24 (by decide));exact Y7 (a:=((y.kind).toNat:Nat)) (b:=(3:Nat)) ab rfl (AK _ _ _ _) ⟨AbN _,rfl⟩
  ·refine AJ rfl fun σ w1 hC h=> ?_;have ac:=AM (h 25 (by decide));exact AbT ac ⟨AbN _,rfl⟩
  ·refine A8 3 true 26 (G:=(decide (((y.kind).toNat:Nat)=(3)))) rfl rfl (fun x _ (h:x = .bool (decide (((y.kind).toNat:Nat)=(3))))=>gT h) (fun hu_ _=>Bu hu_) fun hG σ w1 hC h=> ?_;have g:σ 1=PQ f 0:=(AM (h 1 (by decide))).trans rfl;exact AbM Jw g ⟨AbN _,Bt hG⟩
  ·refine A8 3 true 26 (G:=(decide (((y.kind).toNat:Nat)=(3)))) rfl rfl (fun x _ (h:x = .bool (decide (((y.kind).toNat:Nat)=(3))))=>gT h) (fun hu_ _=>Bu hu_) fun hG σ w1 hC h=> ?_;have ad:=AM (h 27 (by decide));exact Zd (Ab1 (eb hC c) (Ev y) (E2 y) (Ak ad hG)) VZ rfl (As y.old.2) ⟨AbN _,Bt hG⟩
  ·refine A8 3 true 26 (G:=(decide (((y.kind).toNat:Nat)=(3)))) rfl rfl (fun x _ (h:x = .bool (decide (((y.kind).toNat:Nat)=(3))))=>gT h) (fun hu_ _=>Bu hu_) fun hG σ w1 hC h=> ?_;have ae:=AM (h 28 (by decide));refine Y9 ID (Ak ae hG) ((B3 _ y.old).mono ?_);rintro e w2 ⟨rfl,hx⟩;exact⟨_,rfl,hx,Bt hG⟩
  ·refine A8 3 true 26 (G:=(decide (((y.kind).toNat:Nat)=(3)))) rfl rfl (fun x _ (h:x = .bool (decide (((y.kind).toNat:Nat)=(3))))=>gT h) (fun hu_ _=>Bu hu_) fun hG σ w1 hC h=> ?_;have af:=AM (h 29 (by decide));exact Zn (Ak af hG) ⟨AbN _,Bt hG⟩
  ·refine A8 3 true 26 (G:=(decide (((y.kind).toNat:Nat)=(3)))) rfl rfl (fun x _ (h:x = .bool (decide (((y.kind).toNat:Nat)=(3))))=>gT h) (fun hu_ _=>Bu hu_) fun hG σ w1 hC h=> ?_;have ag:=AM (h 30 (by decide));exact AbT (Ak ag hG) ⟨AbN _,Bt hG⟩
  ·refine A8 8 false 31 (G:=(decide (((y.kind).toNat:Nat)=(3)))&& !(!(Ai y.old))) rfl rfl (fun x _ (h:x=cond ((decide (((y.kind).toNat:Nat)=(3)))) (.bool (!(Ai y.old))) undef)=>Ff h) (fun hu_ _=>Bu hu_) fun hG σ w1 hC h=> ?_;have g:σ 1=PQ f 0:=(AM (h 1 (by decide))).trans rfl;exact AbM O2 g ⟨AbN _,Bt hG⟩
  ·refine A8 8 false 31 (G:=(decide (((y.kind).toNat:Nat)=(3)))&& !(!(Ai y.old))) rfl rfl (fun x _ (h:x=cond ((decide (((y.kind).toNat:Nat)=(3)))) (.bool (!(Ai y.old))) undef)=>Ff h) (fun hu_ _=>Bu hu_) fun hG σ w1 hC h=> ?_;have ah:=AM (h 32 (by decide));exact Y6 EK rfl (Ak ah hG) (Ac (eb hC c) (D4 y)) ⟨AbN _,Bt hG⟩
  ·refine A8 8 false 31 (G:=(decide (((y.kind).toNat:Nat)=(3)))&& !(!(Ai y.old))) rfl rfl (fun x _ (h:x=cond ((decide (((y.kind).toNat:Nat)=(3)))) (.bool (!(Ai y.old))) undef)=>Ff h) (fun hu_ _=>Bu hu_) fun hG σ w1 hC h=> ?_;have ai:=AM (h 33 (by decide));exact Z0 (l:=y.name) (m:=([]:Aib)) (.inl rfl) (Ak ai hG) (vr (St (([]:Aib))) rfl) (decide ((y.name:Aib)=(([]:Aib):Aib))) rfl ⟨AbN _,Bt hG⟩
  ·refine A8 8 false 31 (G:=(decide (((y.kind).toNat:Nat)=(3)))&& !(!(Ai y.old))) rfl rfl (fun x _ (h:x=cond ((decide (((y.kind).toNat:Nat)=(3)))) (.bool (!(Ai y.old))) undef)=>Ff h) (fun hu_ _=>Bu hu_) fun hG σ w1 hC h=> ?_;have g:σ 1=PQ f 0:=(AM (h 1 (by decide))).trans rfl;exact AbM Jx g ⟨AbN _,Bt hG⟩
  ·refine A8 8 false 31 (G:=(decide (((y.kind).toNat:Nat)=(3)))&& !(!(Ai y.old))) rfl rfl (fun x _ (h:x=cond ((decide (((y.kind).toNat:Nat)=(3)))) (.bool (!(Ai y.old))) undef)=>Ff h) (fun hu_ _=>Bu hu_) fun hG σ w1 hC h=> ?_;have aj:=AM (h 35 (by decide));exact Zd (Ab1 (eb hC c) (C3 y) (Db y) (Ak aj hG)) VZ rfl (As y.new.2) ⟨AbN _,Bt hG⟩
  ·refine A8 8 false 31 (G:=(decide (((y.kind).toNat:Nat)=(3)))&& !(!(Ai y.old))) rfl rfl (fun x _ (h:x=cond ((decide (((y.kind).toNat:Nat)=(3)))) (.bool (!(Ai y.old))) undef)=>Ff h) (fun hu_ _=>Bu hu_) fun hG σ w1 hC h=> ?_;have ak:=AM (h 36 (by decide));refine Y9 ID (Ak ak hG) ((B3 _ y.new).mono ?_);rintro e w2 ⟨rfl,hx⟩;exact⟨_,rfl,hx,Bt hG⟩
  ·refine A8 8 false 31 (G:=(decide (((y.kind).toNat:Nat)=(3)))&& !(!(Ai y.old))) rfl rfl (fun x _ (h:x=cond ((decide (((y.kind).toNat:Nat)=(3)))) (.bool (!(Ai y.old))) undef)=>Ff h) (fun hu_ _=>Bu hu_) fun hG σ w1 hC h=> ?_;have al:=AM (h 34 (by decide));have am:=AM (h 37 (by decide));exact Abn (a:=decide ((y.name:Aib)=(([]:Aib):Aib))) (b:=Ai y.new) Um (Ak al hG) (Ak am hG) ⟨AbN _,Bt hG⟩
  ·refine A8 3 true 26 (G:=(decide (((y.kind).toNat:Nat)=(3)))) rfl rfl (fun x _ (h:x = .bool (decide (((y.kind).toNat:Nat)=(3))))=>gT h) (fun hu_ _=>Bu hu_) fun hG σ w1 hC h=> ?_;have an:=AM (h 31 (by decide));have ao:=AM (h 38 (by decide));exact ZO (Ak an hG) (vr (.bool (true)) rfl) (fun hA=>(Ak ao (F7 hG (BI hA)))) ⟨AbN _,Bt hG⟩
  ·refine AJ rfl fun σ w1 hC h=> ?_;have ap:=AM (h 26 (by decide));have aq:=AM (h 39 (by decide));exact ZL ap (fun hA=>(Ak aq hA)) (vr (.bool (false)) rfl) ⟨AbN _,rfl⟩
  ·refine AJ rfl fun σ w1 hC h=> ?_;have ar:=AM (h 40 (by decide));exact Ab6 ar ⟨AbN _,rfl⟩
 intro au a1 s he hf;obtain⟨-,-,-,-,-,-,-,-,-,-,-,-,-,-,-,-,-,-,k3,-⟩:=hf;obtain⟨T0,T1,T2,-⟩:=he.hold [(0, .agg (updC y).toArray),(1,PQ f 0),(2,NI 0)] ⟨rfl,rfl,rfl,trivial⟩ rfl;clear he;have hE:=hE.trans s;have c:=eb s c;have T3:au 3 = .bool ((decide (((y.kind).toNat:Nat)=(3)))&&((!(Ai y.old))||((decide ((y.name:Aib)=(([]:Aib):Aib)))==(Ai y.new)))):=k3;clear k3;refine YW ?_;refine cB ((decide (((y.kind).toNat:Nat)=(3)))&&((!(Ai y.old))||((decide ((y.name:Aib)=(([]:Aib):Aib)))==(Ai y.new)))) T3 (fun k=> ?_) fun k=> ?_
 ·have h2c:PB y=true:=k;refine AE rfl (vr (NI 1) rfl) ?_;exact⟨by unfold Bl;rw[if_neg (by rw[h0c];decide),if_neg (by rw[h1c];decide),if_pos h2c],hE⟩
 have h2c:PB y=false:=k;refine gS (AbM O2 T1 (gS (Y6 EK rfl rfl (Ac c (D4 y)) (gS (Y9 LR rfl ((JY _ y.name hl).mono ?_))))));rintro e a3 ⟨rfl,t⟩;refine⟨_,rfl,?_⟩;have hE:=hE.trans t;have c:=eb t c;refine gS (Zn rfl (gO fun _=>Ae (PQ f 0) rfl rfl (gT rfl) (fun hG43=>AbM OY T1 ⟨rfl,rfl⟩) (At (gO fun _=>Ae (B8 (y.kind)) rfl rfl (gT rfl) (fun hG44=>Y6 u5 rfl (Ak rfl hG44) (Ac c (FD y)) ⟨rfl,rfl⟩) (At (gO fun _=>Ae (.bool (decide (((y.kind).toNat:Nat)≠(3)))) rfl rfl (gT rfl) (fun hG45=>Y7 (a:=(((y.kind).toNat:Nat):Int)) (b:=((3:Nat):Int)) (Ak rfl hG45) rfl (AX _ .u8 ((y.kind).toNat) (3)) ⟨rfl,rfl⟩) (At (gO fun _=>Ae (.bool (decide (((y.kind).toNat:Nat)≠(3)))) rfl rfl (gT rfl) (fun hG46=>AbT (Ak rfl hG46) ⟨rfl,rfl⟩) (At (gO fun _=>Ae (PQ f 1) rfl rfl (Ff rfl) (fun hG47=>AbM O2 T1 ⟨rfl,rfl⟩) (At (gO fun _=>Ae (St (y.name)) rfl rfl (Ff rfl) (fun hG48=>Y6 EK rfl (Ak rfl hG48) (Ac c (D4 y)) ⟨rfl,rfl⟩) (At (gO fun _=>Ae (.bool (decide ((y.name:Aib)≠(([]:Aib):Aib)))) rfl rfl (Ff rfl) (fun hG49=>Z0 (l:=y.name) (m:=([]:Aib)) (.inr rfl) (Ak rfl hG49) rfl (decide ((y.name:Aib)≠(([]:Aib):Aib))) rfl ⟨rfl,rfl⟩) (At (gO fun _=>D6 ((decide (((y.kind).toNat:Nat)≠(3)))||(decide ((y.name:Aib)≠(([]:Aib):Aib)))) rfl rfl (gT rfl) (fun hG50=>ZO (Ak rfl hG50) rfl (fun hA=>(Ak rfl (F7 hG50 (BI hA)))) ⟨rfl,rfl⟩) fun bb51 hbb52=>At (gS (Zq rfl (fun hA=>(Ak rfl hA)) rfl fun bb53 hbb54=> ?_))))))))))))))))));refine cB (bb53) rfl (fun n=> ?_) fun n=> ?_
 ·subst hbb52 hbb54;have h3c:PC y=true:=n;refine AE rfl (vr (NI 10) rfl) ?_;exact⟨by unfold Bl;rw[if_neg (by rw[h0c];decide),if_neg (by rw[h1c];decide),if_neg (by rw[h2c];decide),if_pos h3c],hE⟩
 subst hbb52 hbb54;have h3c:PC y=false:=n;refine AE rfl (vr (NI 0) rfl) ?_;exact⟨by unfold Bl;rw[if_neg (by rw[h0c];decide),if_neg (by rw[h1c];decide),if_neg (by rw[h2c];decide),if_neg (by rw[h3c];decide)],hE⟩
structure Un where
 kind:Int
 L:List Aw
 note:Bs
 n:Int
 fates:List Int
 bytes:Bs
structure Yj where
 L:AcD
 fates:AcD
 bytes:AcD
abbrev CF:=Un × Yj
def BZ(x:CF):List AcD:= .int .i64 (x.1.kind) :: x.2.L :: St (x.1.note) :: .int .i64 (x.1.n) :: x.2.fates :: x.2.bytes :: []
theorem Wq(x:CF):(BZ x).length=6:=by simp[BZ,AcS]
theorem Xw(x:CF):(BZ x)[1]? =some (x.2.L):=by
 rfl
theorem IF(x:CF):((BZ x).drop 1).take 1= [x.2.L]:=by
 exact I9 (Xw x)
theorem Xx(x:CF):(BZ x)[2]? =some (St (x.1.note)):=by
 rfl
theorem Nx(x:CF):((BZ x).drop 2).take 1= [St (x.1.note)]:=by
 exact I9 (Xx x)
theorem Xy(x:CF):(BZ x)[4]? =some (x.2.fates):=by
 rfl
theorem Xz(x:CF):((BZ x).drop 4).take 1= [x.2.fates]:=by
 exact I9 (Xy x)
theorem XA(x:CF):(BZ x)[5]? =some (x.2.bytes):=by
 rfl
theorem XB(x:CF):((BZ x).drop 5).take 1= [x.2.bytes]:=by
 exact I9 (XA x)
abbrev Ah:CF:=(⟨0,[],[],0,[],[]⟩,⟨.slice none 0 0, .slice none 0 0, .slice none 0 0⟩)
theorem OG.block{α:Type}{b k:Nat}{t:AcK}{enc:α->List AcD}{w:AcE}{v:AcD}{l:List α}(h:OG b t k enc w v l){i:Nat}(hi:i<l.length):∃g,v.ownBlock=some g:=by
 obtain⟨-,-,⟨-,h⟩ | ⟨g,cap,cur,rfl,-⟩⟩:=h
 ·omega
 ·exact⟨g,rfl⟩
theorem YH{b:Nat}{t:AcK}{w:AcE}{v:AcD}{n z:Nat}{xs:List AcD}(h:w.ownsRow b t z v n xs){i:Nat}(hi:i<n):∃g,v.ownBlock=some g:=by
 obtain⟨-,⟨-,h⟩ | ⟨g,cap,cur,rfl,-⟩⟩:=h
 ·omega
 ·exact⟨g,rfl⟩
section
variable {P : AcY} {K : AcD -> AcE -> Prop} {ρ : Aj} {w : AcE} {d : Option Tmp} {ty : AcK} {pos : String} {af : Array Adv} {gd : Option (Nat × Bool)}
theorem Abt{k:Nat}{t e:AcK}(ht:P.underlying t=some (.slice e))(he:∀w' :AcE,(sizeOf e).run P w' = .ok k w'){b n g:Nat}{xs:List AcD}{e' :AcK}{v:AcD}{x y:AcO}(hx:Ab ρ x=v)(h:w.ownsRow b e' k v n xs)(hg:v.ownBlock=some g){kd:AdV}{i:Nat}(hy:Ab ρ y = .int kd (i:Int))(hi:i<n) 
  (hk:K (PQ g (i*k)) w):Yk P K ((execOp (Ab ρ) ⟨d, .indexAddr t x y,ty,pos,af,gd⟩).run P w):=by
 obtain⟨-,⟨-,h0⟩ | ⟨g',cap,cur,rfl,-⟩⟩:=h
 ·omega
 ·obtain rfl:g' =g:=by simpa [Adp] using hg
  refine AbU (v:=PQ g' (i*k)) (w' :=w) ?_ hk;have hE:P.elem t=e:=by simp[AeW,ht]
  have hr:=run_indexAt_slice (P:=P) w t ⟨g',0,none⟩ n cap kd (i:Int) (by rw[hE];exact ht);rw[if_pos (by omega),hE,he]at hr;unfold execOp;simp only[hx,hy,AcN,hr,AcM,AcR];simp[Aeb]
end
section
variable {P : AcY}
theorem IG{t e:AcK}{size:Nat}(ht:P.underlying t=some (.slice e))(he:∀w' :AcE,(sizeOf e).run P w' = .ok size w'){w:AcE}{v:AcD}{n:Nat}{xs:List AcD}(hr:Reads w size v n xs)(lo hi:Option AcD)(l h:Nat)(hlh:l<=h)(hn:h<=n) 
  (hlo:lo=none/\l=0\/∃k,lo=some (.int k l)) (hhi:hi=none/\h=n\/∃k,hi=some (.int k h)):
  ∃ao c,((∀w:AcE,(Ae4 t v lo hi none).run P w = .ok (.slice ao (h-l) c) w)/\(AcU ao (h-l) c).ownBlock=v.ownBlock)/\Reads w size (.slice ao (h-l) c) (h-l) ((xs.drop (l*size)).take ((h-l)*size)):=by
 obtain⟨h1,ao,cap,rfl,h2,h3,h4,h5⟩:=hr;have hE:P.elem t=e:=by simp[AeW,ht]
 have ht' :P.underlying t=some (.slice (P.elem t)):=by rw[hE];exact ht
 refine⟨if cap=l then ao else ao.map (·.add (l*size)),cap-l,⟨?_,?_⟩,?_,_,_,rfl,by omega,by omega,?_,?_⟩
 ·intro w;rw[run_sliceAt_slice (P:=P) w t _ _ _ _ ht'];have hl' :(l:Int)<=(h:Int):=by omega
  have hh' :(h:Int)<=(cap:Int):=by omega
  have hn' :(l:Int)<=(n:Int):=by omega
  rcases hlo with ⟨rfl,rfl⟩ | ⟨k,rfl⟩ <;> rcases hhi with ⟨rfl,rfl⟩ | ⟨k',rfl⟩
  ·rw[run_slice_all (P:=P) w t ao h cap ht',hE,he];simp[Adw,sliced]
  ·rw[run_slice_h (P:=P) w t ao n cap ht' k' h (by omega) hh',hE,he];simp[Adw,sliced]
  ·rw[run_slice_l (P:=P) w t ao h cap ht' k l (by omega) hl',hE,he];simp[Adw,sliced]
  ·rw[run_slice_lh (P:=P) w t ao n cap ht' k k' l h (by omega) hl' hh',hE,he];simp[Adw,sliced]
 ·cases ao with
  | none=>simp[Adp]
  | some x=>
   split
   ·rfl
   ·simp only[Ad4,Adp,Aea];unfold Addr.add;split <;> rfl
 ·rw[Ac4,Ac5,h1];have:(h-l)*size<=n*size-l*size:=by rw[<-Nat.sub_mul];exact Ae7 _ (by omega)
  omega
 ·intro hnone;have:ao=none:=by
   cases ao with
   | none=>rfl
   | some x=>split at hnone <;> simp at hnone
  obtain⟨h6,h7⟩:=h4 this;omega
 ·intro a ha j u hu;have hj:j<((xs.drop (l*size)).take ((h-l)*size)).length:=(Ac3.1 hu).1;have hj2:j<(h-l)*size:=by rw[Ac4]at hj;omega
  have hhl:h-l≠0:=fun e=>by rw[e]at hj2;simp at hj2
  rw[if_neg (by omega)]at ha;cases ao with
  | none=>simp at ha
  | some x=>
   simp at ha;subst ha;rw[Gj];refine h5 x rfl _ _ ?_;rw[AeI,if_pos hj2,AeX]at hu;exact hu
end
section
variable {P : AcY} {K : AcD -> AcE -> Prop} {ρ : Aj} {w w0 : AcE} {d : Option Tmp} {ty : AcK} {pos : String} {af : Array Adv} {gd : Option (Nat × Bool)}
variable {α : Type} {k : Nat} {enc : α -> List AcD} {t e : AcK}
theorem Aak(ht:P.underlying t=some (.slice e))(he:∀w' :AcE,(sizeOf e).run P w' = .ok k w'){x lo:AcO}{v:AcD}{xs:List α}(hx:Ab ρ x=v)(h:RG k enc w0 v xs){kd:AdV}{l:Nat}(hlo:Ab ρ lo = .int kd (l:Int))(hl:l<=xs.length) 
  (hk:∀v',RG k enc w0 v' (xs.drop l)->v'.ownBlock=v.ownBlock->K v' w):Yk P K ((execOp (Ab ρ) ⟨d, .slice t x (some lo) none none,ty,pos,af,gd⟩).run P w):=by
 obtain⟨ao,c,⟨hrun,hb⟩,hR⟩:=IG ht he h.2 (some (.int kd l)) none l xs.length hl (AcI _) (.inr ⟨kd,rfl⟩) (.inl ⟨rfl,rfl⟩);have hR' :=RG.cut h.1 hl (AcI _) hR;rw[Adj (by rw[Ac5];exact AcI _)]at hR';refine AbU (v:= .slice ao (xs.length-l) c) (w' :=w) ?_ (hk _ hR' hb);unfold execOp;simp only[hx,hlo,Ad4,AeB,hrun,AcN,AcR,AcM]
end
theorem PD:∃i z,Tryz.prog.info? 94=some i/\i.size=33/\i.bytes=48/\i.zero=some z/\z.cells.size=33/\∀u∈z.cells.toList,u.oneCell' =true:=Uk (by kernel_rfl)
section
variable {A X D R : List AcD} {i j : Nat}
theorem Wr(hA:A.length=i)(hX:X.length=33)(hD:D.length=j):((A++X++D++R).drop (i+33)).take j=D:=by
 rw[Ac7,Af8 (by rw[AcJ,hA,hX]),AdW hD]
theorem PE(hA:A.length=i)(hD:D.length=j):((A++D++R).drop i).take j=D:=by rw[Ac7,Af8 hA,AdW hD]
theorem Uo{C:List AcD}{m:Nat}(hm:i<=m)(hC:C.take i=A):C.take m=A++(C.take m).drop i:=by rw[<-hC,show C.take i=(C.take m).take i by rw[List.take_take,Afo hm],AdX]
theorem Uq(hA:A.length=i)(hX:X.length=33){Y:List AcD}:(A++X++R).take i++Y++(A++X++R).drop (i+1*33)=A++Y++R:=by rw[Af8 (by rw[AcJ];omega),Ac7 A X R,AdW hA]
theorem Ny{w:AcE}{a b:Nat}{v x:AcD}{lo' n' c' lo n c:Nat}(hv:SB a 33 lo' n' c' v)(hx:SB b 33 lo n c x)(hne:a≠b){A B:List AcD}{tA tB:AcK}(hA:w.heap[a]? =some (.cells A.toArray tA (0,0)))(hB:w.heap[b]? =some (.cells B.toArray tB (0,0)))(h0:B≠ []):
  (callFunc 195 #[v,x]).run AcF w = .ok (.value (.bool false)) w:=by
 rw[run_callFunc_extern (e:=Extern.SlicesOverlaps.overlaps #[31,31] #[4]) Tryz.func195 (by kernel_rfl) (by kernel_rfl) (by kernel_rfl) (by kernel_rfl),Lp (e:=94) rfl (fun _=>by kernel_rfl) hv hx hne hA hB h0];rfl
theorem So(hA:A.length=i):(A++X++D++R).take i=A:=by rw[Ac7,Ac7,AdW hA]
theorem LX(h:(A++D).length=i):(A++D++R).take i=A++D:=AdW h
end
theorem Qt(w:AcE)(v:AcD)(g c i j:Nat)(A X D R:List AcD)(hA:A.length=i*33)(hX:X.length=33)(hD:D.length=j*33)(hv:SB g 33 0 (i+1+j) c v)(hCb:w.heap[g]? =some (.cells (A++X++D++R).toArray 94 (0,0)))(hL:(A++X++D++R).length=c*33)(hc:i+1+j<=c)(hm:c<=maxLen)(h1:∀u∈D,u.oneCell' =true):
  Calls AcF 155 #[v,NI i,NI (i+1)] w fun e w' =>∃R',e = .returned (.slice (some ⟨g,0,none⟩) (i+j) c)/\w'.heap[g]? =some (.cells (A++D++R').toArray 94 (0,0))/\(A++D++R').length=c*33/\w.grownBy w' (some g):=by
 obtain⟨ri,rz,ri1,ri2,ri3,ri4,ri5,ri6⟩:=PD;have hgr:w.grownBy w (some g):=⟨rfl,rfl,rfl,AcI _,fun _ _ _=>rfl⟩;have hgl:=(bl hCb);unfold maxLen at hm;refine gG (args:= [v,NI i,NI (i+1)]) Tryz.func155 rfl 33 rfl rfl ?_;have hE:=AbN w;refine gS (Z7 ES (Zv hv rfl) (gS (AaX (l:=i) (r:=i+1) (m:=i+1+j) ES KA (Zv hv rfl) rfl rfl rfl (by omega) (by omega) (by omega) fun y n=> ?_)));have n:SB g 33 (i) (i+1-(i)) (i+1+j-(i)) y:=(Aco n (by omega) (by omega) (by omega));refine gS (Y7 (a:=(i:Nat)) (b:=(i+1:Nat)) rfl rfl (AK _ _ _ _) (kF (by omega) (cF rfl (gS (Z7 ES (Zv hv rfl) (gM0 [0,1,2,3,4,5,6,7] [6,7] [] fun z o=> ?_))))));have hgr:w.grownBy z (some g):=Aa hgr o.grown (fun _ e=>by cases e);refine yS (Zz ES KA (a:=none) (b:=some _) (Zv hv rfl) (0) (i) (.inl ⟨rfl,rfl⟩) (.inr ⟨_,congrArg some rfl⟩) (by omega) (by omega) fun p f=> ?_);have f:SB g 33 (0) (i) (c) p:=(Aco f (by omega) (by omega) (by omega));refine yS (Zz ES KA (a:=some _) (b:=none) (Zv hv rfl) (i+1) (i+1+j) (.inr ⟨_,congrArg some rfl⟩) (.inl ⟨rfl,rfl⟩) (by omega) (by omega) fun q h=> ?_);have h:SB g 33 (i+1) (j) (c-(i+1)) q:=(Aco h (by omega) (by omega) (by omega));have hCb:=eb o hCb;refine yC (AaY ES ri1 ri2 (Zv f (vr p rfl)) (by omega) hCb (SB.src (Zv h (vr q rfl)) (j*33) (if hj:j=0 then .inr (by omega)else .inl (by omega)) hCb (by rw[show(i+1)*33=i*33+33 by omega];exact Wr hA hX hD)) (hD) (h1) (by omega) (by rw[hL];omega) fun s aa ab af=> ?_);have hgr:w.grownBy s (some g):=Aa hgr ab (fun _ e=> .inl e);clear hE;clear hCb;refine Afc (⟨_,rfl⟩:∃T,T=(A++X++D++R).drop (i*33+j*33)) fun T hT=> ?_;have hLT:(A++D++T).length=c*33:=by rw[hT];simp only[AcJ,Ac5]at hL ⊢;omega
 have hCb:s.heap[g]? =some (.cells (A++D++T).toArray 94 (0,0)):=Az aa (by rw[hT,So hA]);have ag:=bl hCb;have t:SB g 33 0 (i+j) (c) (AcU (some ⟨g,0,none⟩) (i+(j)) (c)):=(Z6 _ _ _ _).eq rfl (by omega) rfl;refine yC (Ab6 rfl (gS (Z7 ES (Zv t rfl) (gS (Zz ES KA (a:=some _) (b:=some _) (Zv t rfl) (i+j) (i+1+j) (.inr ⟨_,congrArg some rfl⟩) (.inr ⟨_,congrArg some rfl⟩) (by omega) (by omega) fun ac k=> ?_)))));have k:SB g 33 (i+j) (1) (c-(i+j)) ac:=(Aco k (by omega) (by omega) (by omega));refine gS (Abe ES ri1 ri4 ri5 (Zv k rfl) (by omega) (by omega) hCb (MQ ri6 _) (by rw[hLT];omega) fun x Z29 hZ30 ad ae ah=> ?_);have hgr:w.grownBy x (some g):=Aa hgr ae (fun _ e=> .inl e);clear hCb;refine Afc (⟨_,rfl⟩:∃U,U=Z29++(A++D++T).drop ((i+j)*33+1*33)) fun U hU=> ?_;have hLU:(A++D++U).length=c*33:=by rw[hU];simp only[AcJ,Ac5]at hLT ⊢;omega
 have hCb:x.heap[g]? =some (.cells (A++D++U).toArray 94 (0,0)):=Az ad (by rw[hU,LX (by rw[AcJ];omega),Ac7 (A++D)]);have ai:=bl hCb;refine AE rfl (vr (AcU (some ⟨g,0,none⟩) (i+(j)) (c)) rfl) ?_;exact⟨_,rfl,hCb,hLU,hgr⟩
theorem Qu(w:AcE)(v r:AcD)(g b c i j:Nat)(TX:AcK)(A X D R:List AcD)(hA:A.length=i*33)(hXl:X.length=33)(hD:D.length=j*33)(hv:SB g 33 0 (i+j) c v)(hCb:w.heap[g]? =some (.cells (A++D++R).toArray 94 (0,0)))(hL:(A++D++R).length=c*33)(hc:i+j<=c)(hm:c<=maxLen)(hj:0<j)(h1:∀u∈D,u.oneCell' =true)(hX1:∀u∈X,u.oneCell' =true) 
  (hv2:SB b 33 0 1 1 r) (hX:w.heap[b]? =some (.cells X.toArray TX (0,0))) (hne:b≠g) (hs:i+j<=1000):
  Calls AcF 156 #[v,NI i,r] w fun e w' =>∃g' c' R',e = .returned (.slice (some ⟨g',0,none⟩) (i+1+j) c')/\w'.heap[g']? =some (.cells (A++X++D++R').toArray 94 (0,0))/\(A++X++D++R').length=c' *33/\i+1+j<=c' /\c' <=2^63-1/\w.grownBy w' (some g)/\(g' =g\/w.heap.size<=g'):=by
 obtain⟨ri,rz,ri1,ri2,ri3,ri4,ri5,ri6⟩:=PD;have hgr:w.grownBy w (some g):=⟨rfl,rfl,rfl,AcI _,fun _ _ _=>rfl⟩;have hgl:=(bl hCb);have hbl:=(bl hX);unfold maxLen at hm;refine gG (args:= [v,NI i,r]) Tryz.func156 rfl 95 rfl rfl ?_;have hE:=AbN w;refine gS (Zz ES KA (a:=some _) (b:=none) (Zv hv rfl) (i) (i+j) (.inr ⟨_,congrArg some rfl⟩) (.inl ⟨rfl,rfl⟩) (by omega) (by omega) fun v3 ah=> ?_);have ah:SB g 33 (i) (i+j-(i)) (c-(i)) v3:=(Aco ah (by omega) (by omega) (by omega));refine gS (Z7 ES (Zv hv2 rfl) (gS (Y7 (a:=(1:Nat)) (b:=(0:Nat)) rfl rfl (AK _ _ _ _) (kF (by omega) (cF rfl (gS (Z7 ES (Zv hv rfl) ?_)))))));by_cases hroom:i+j+1<=c
 ·refine gS (Y7 (a:=(i:Nat)) (b:=(i+j:Nat)) rfl rfl (AK _ _ _ _) (kF (by omega) (cF rfl (gS (Ze (xv:=NI (i+j)) (yv:=NI 1) rfl rfl rfl (AD _ _ _ (by omega)) (gS (AaK ES (Zv hv rfl) (gS (Y7 (a:=((i+j)+(1):Nat)) (b:=(c:Nat)) rfl rfl (CQ _ _ _ _) (kF (by omega) (cF rfl (gS (Ze (xv:=NI (i+j)) (yv:=NI 1) rfl rfl rfl (AD _ _ _ (by omega)) (gS (Zz ES KA (a:=none) (b:=some _) (Zv hv rfl) (0) ((i+j)+(1)) (.inl ⟨rfl,rfl⟩) (.inr ⟨_,congrArg some rfl⟩) (by omega) (by omega) fun ai n=> ?_)))))))))))))));have n:SB g 33 (0) (i+1+j) (c) ai:=(Aco n (by omega) (by omega) (by omega));refine gS (Ze (xv:=NI i) (yv:=NI 1) rfl rfl rfl (AD _ _ _ (by omega)) (gS (Zz ES KA (a:=some _) (b:=none) (Zv n rfl) ((i)+(1)) (i+1+j) (.inr ⟨_,congrArg some rfl⟩) (.inl ⟨rfl,rfl⟩) (by omega) (by omega) fun au s=> ?_)));have s:SB g 33 (i+1) (j) (c-(i+1)) au:=(Aco s (by omega) (by omega) (by omega));refine gS (Abd rfl rfl (Ny (Zv hv2 rfl) (Zv s rfl) hne hX hCb (by intro e;rw[e]at hL;simp at hL;omega)) (gS (Zn rfl (cT rfl (gM0 [0,1,2,3,4,5,6,7,8] [8] [] fun av t=> ?_)))));have hgr:w.grownBy av (some g):=Aa hgr t.grown (fun _ e=>by cases e);refine ys (Ze (xv:=NI i) (yv:=NI 1) rfl rfl rfl (AD _ _ _ (by omega)) zz) (yS (Zz ES KA (a:=some _) (b:=none) (Zv n rfl) ((i)+(1)) (i+1+j) (.inr ⟨_,congrArg some rfl⟩) (.inl ⟨rfl,rfl⟩) (by omega) (by omega) fun aw x=> ?_));have x:SB g 33 (i+1) (j) (c-(i+1)) aw:=(Aco x (by omega) (by omega) (by omega));refine yS (Zz ES KA (a:=some _) (b:=none) (Zv n rfl) (i) (i+1+j) (.inr ⟨_,congrArg some rfl⟩) (.inl ⟨rfl,rfl⟩) (by omega) (by omega) fun ax y=> ?_);have y:SB g 33 (i) (j+1) (c-i) ax:=(Aco y (by omega) (by omega) (by omega));have hCb:=eb t hCb;refine yC (Z9 ES KA (Zv x rfl) (by omega) hCb (j) (SB.src (Zv y rfl) (j*33) (.inl (by omega)) hCb (PE hA hD)) (by simp only[Ahn];split <;> omega) (hD) (h1) (by rw[hL];omega) fun aj ay ak a8=> ?_);have hgr:w.grownBy aj (some g):=Aa hgr ak (fun _ e=> .inl e);clear hE;clear hCb;refine Afc (⟨_,rfl⟩:∃T,T=(A++D++R).drop ((i+1)*33+j*33)) fun T hT=>(Afc (⟨_,rfl⟩:∃Y0,Y0=((A++D++R).take ((i+1)*33)).drop (i*33)) fun Y0 hY0=> ?_);have hY0l:Y0.length=33:=by rw[hY0,Ac5,Ac4,hL];omega
  have hLT:(A++Y0++(D++T)).length=c*33:=by rw[hT];simp only[AcJ,Ac5]at hL ⊢;omega
  have hCb:aj.heap[g]? =some (.cells (A++Y0++(D++T)).toArray 94 (0,0)):=Az ay (by rw[hT,hY0,<-Uo (C:=A++D++R) (m:=(i+1)*33) (by omega) (by rw[Ac7,AdW hA]),Ac7]);have a9:=bl hCb;refine gS (Zz ES KA (a:=some _) (b:=none) (Zv n rfl) (i) (i+1+j) (.inr ⟨_,congrArg some rfl⟩) (.inl ⟨rfl,rfl⟩) (by omega) (by omega) fun az z=> ?_);have z:SB g 33 (i) (j+1) (c-i) az:=(Aco z (by omega) (by omega) (by omega));have hX:=eb t hX;have hX:=kb ak hX (by omega);refine gS (Z9 ES KA (Zv z rfl) (by omega) hCb (1) (SB.src (Zv hv2 rfl) 33 (.inl (by omega)) hX (by rw[Afg,AeV,Adj (by omega)])) (by simp only[Ahn];split <;> omega) (by omega) (hX1) (by rw[hLT];omega) fun al a0 a1 ba=> ?_);have hgr:w.grownBy al (some g):=Aa hgr a1 (fun _ e=> .inl e);clear hCb;have hLF:(A++X++D++T).length=c*33:=by simp only[AcJ]at hLT ⊢;omega
  have hCb:al.heap[g]? =some (.cells (A++X++D++T).toArray 94 (0,0)):=Az a0 (by rw[Uq hA hY0l,Ac7 (A++X)]);have bb:=bl hCb;refine AE rfl (vr ai rfl) ?_;obtain⟨o,rfl,ho⟩:=n;obtain rfl:o=0:=by rw[ho (by omega),Afg]
  exact⟨_,_,_,rfl,hCb,hLF,(by omega),(by omega),hgr, .inl rfl⟩
 refine gS (Y7 (a:=(i:Nat)) (b:=(i+j:Nat)) rfl rfl (AK _ _ _ _) (kF (by omega) (cF rfl (gS (Ze (xv:=NI (i+j)) (yv:=NI 1) rfl rfl rfl (AD _ _ _ (by omega)) (gS (AaK ES (Zv hv rfl) (gS (Y7 (a:=((i+j)+(1):Nat)) (b:=(c:Nat)) rfl rfl (CQ _ _ _ _) (kT (by omega) (cT rfl (gS (Zz ES KA (a:=none) (b:=some _) (Zv hv rfl) (0) (i) (.inl ⟨rfl,rfl⟩) (.inr ⟨_,congrArg some rfl⟩) (by omega) (by omega) fun am aa=> ?_)))))))))))));have aa:SB g 33 (0) (i) (c) am:=(Aco aa (by omega) (by omega) (by omega));refine gS (Ze (xv:=NI (i+j)) (yv:=NI 1) rfl rfl rfl (AD _ _ _ (by omega)) (gS (Ze (xv:=NI ((i+j)+(1))) (yv:=NI i) rfl rfl rfl (Fk _ _ _ (by omega) (by omega)) (gS (Aat (m:=((i+j)+(1))-(i)) ES Nw ri1 ri4 ri2 ri5 (by decide) (Zv aa (vr am rfl)) (by omega) hCb (vr (NI (((i+j)+(1))-(i))) rfl) (by omega) (by omega) (by rw[hL];omega) (by rw[ri3];omega) (by unfold maxLen;omega) fun h ab l Z54 ac hm56 hm57 hZ58 f p bc=> ?_)))));have hgr:w.grownBy ab (some g):=Aa hgr p.grown (fun _ e=>by cases e);have f:ab.heap[h]? =some (.cells (A++Z54).toArray 94 (0,0)):=Az f (by rw[Ac7,AdW hA]);have bd:h<ab.heap.size:=by omega
 have an:SB h 33 0 (i+1+j) (l) (AcU (some ⟨h,0,none⟩) (i+(((i+j)+(1))-(i))) l):=(Z6 _ _ _ _).eq rfl (by omega) rfl;unfold maxLen at hm56;refine gS (Zz ES KA (a:=some _) (b:=none) (Zv an rfl) (i) (i+1+j) (.inr ⟨_,congrArg some rfl⟩) (.inl ⟨rfl,rfl⟩) (by omega) (by omega) fun a2 ad=> ?_);have ad:SB h 33 (i) (j+1) (l-i) a2:=(Aco ad (by omega) (by omega) (by omega));have be:=AR (bl hX) ac;have hX:=eb p hX;refine gS (Z9 ES KA (Zv ad rfl) (by omega) f (1) (SB.src (Zv hv2 rfl) 33 (.inl (by omega)) hX (by rw[Afg,AeV,Adj (by omega)])) (by simp only[Ahn];split <;> omega) (by omega) (hX1) (by rw[AcJ,hA,hZ58];omega) fun ao a3 ae bf=> ?_);have hgr:w.grownBy ao (some g):=Aa hgr ae (fun _ e=> .inr (by cases e;omega));clear f;refine Afc (⟨_,rfl⟩:∃T,T=(A++Z54).drop (i*33+1*33)) fun T hT=> ?_;have hLT:(A++X++T).length=l*33:=by rw[hT];simp only[AcJ,Ac5];omega
 have f:ao.heap[h]? =some (.cells (A++X++T).toArray 94 (0,0)):=Az a3 (by rw[hT,AdW hA]);have bg:=bl f;refine gM0 [0,1,2,3,4,5,6,7,8] [8] [] fun a4 q=> ?_;have hgr:w.grownBy a4 (some g):=Aa hgr q.grown (fun _ e=>by cases e);refine ys (Ze (xv:=NI i) (yv:=NI 1) rfl rfl rfl (AD _ _ _ (by omega)) zz) (yS (Zz ES KA (a:=some _) (b:=none) (Zv an rfl) ((i)+(1)) (i+1+j) (.inr ⟨_,congrArg some rfl⟩) (.inl ⟨rfl,rfl⟩) (by omega) (by omega) fun a5 af=> ?_));have af:SB h 33 (i+1) (j) (l-(i+1)) a5:=(Aco af (by omega) (by omega) (by omega));refine yS (Zz ES KA (a:=some _) (b:=none) (Zv hv rfl) (i) (i+j) (.inr ⟨_,congrArg some rfl⟩) (.inl ⟨rfl,rfl⟩) (by omega) (by omega) fun a6 ag=> ?_);have ag:SB g 33 (i) (j) (c-i) a6:=(Aco ag (by omega) (by omega) (by omega));have bh:=AR (bl hCb) ac;have hCb:=eb p hCb;have hCb:=kb ae hCb (by omega);have hCb:=eb q hCb;have f:=eb q f;refine yC (Z9 ES KA (Zv af rfl) (by omega) f (j) (SB.src (Zv ag rfl) (j*33) (.inl (by omega)) hCb (PE hA hD)) (by simp only[Ahn];split <;> omega) (hD) (h1) (by rw[hLT];omega) fun ap a7 aq bi=> ?_);have hgr:w.grownBy ap (some g):=Aa hgr aq (fun _ e=> .inr (by cases e;omega));clear f;refine Afc (⟨_,rfl⟩:∃U,U=(A++X++T).drop ((i+1)*33+j*33)) fun U hU=> ?_;have hLU:(A++X++D++U).length=l*33:=by rw[hU];simp only[AcJ,Ac5]at hLT ⊢;omega
 have f:ap.heap[h]? =some (.cells (A++X++D++U).toArray 94 (0,0)):=Az a7 (by rw[hU,LX (by rw[AcJ];omega)]);have bj:=bl f;refine AE rfl (vr (AcU (some ⟨h,0,none⟩) (i+(((i+j)+(1))-(i))) l) rfl) ?_;have hE:=hE.trans p;have hE:=Ad hE ae (AcG (AcI _) (by omega));have hE:=hE.trans q;have hE:=Ad hE aq (AcG (AcI _) (by omega));exact⟨_,_,_,(congrArg (fun k:Nat=>Aed (AcU (some ⟨h,0,none⟩) k l)) (show i+(i+j+1-i)=i+1+j by omega)),f,hLU,(by omega),(by omega),hgr, .inr (AfU ac)⟩
theorem Qv(w0 w:AcE)(v c:AcD)(l:List AH)(x:AH)(f:Ext w0 w)(ho:OG w0.heap.size 94 33 nmdC w v l)(g:RG 33 nmdC w c [x])(hl:l.length<=1000):
  Calls AcF 156 #[v,NI l.length,c] w fun e w' =>∃v',e = .returned v' /\OG w0.heap.size 94 33 nmdC w' v' (l++ [x])/\Ext w0 w' :=by
 refine gG (args:= [v,NI l.length,c]) Tryz.func156 rfl 95 rfl rfl ?_;have hE:=AbN w;refine gS (Aak ES KA rfl (Y8 ho) rfl (AcI _) fun n j ha5=>(gS (Zh ES (Zf g rfl) (gS (Y7 (a:=(([x]).length:Nat)) (b:=(0:Nat)) rfl rfl (AK _ _ _ _) (kF (by simp) (cF rfl (gS (Zh ES (Zf (Y8 ho) rfl) (gS (Y7 (a:=(l.length:Nat)) (b:=(l.length:Nat)) rfl rfl (AK _ _ _ _) (kT (rfl) (cT rfl (gS (ZB _ _ w0.heap.size _ 48 ES wr30_ig94.choose_spec.1 wr30_ig94.choose_spec.2 ES (l) ([x]) (ZY ho (vr v rfl)) (Zf g (vr c rfl)) (fun _ _=>DR) (by simp only[AcV,Ac1];omega) (by simp only[AcV,Ac1];omega) f.size fun i k m h=> ?_)))))))))))))));have h:Grew w k v i:=h;clear g;clear hE;have f:=Br f h ho.2 (AcI _);clear j;clear ho;refine AE rfl (vr i rfl) ?_;exact⟨_,rfl,m,f⟩
section
variable {α : Type} {b k g c : Nat} {t : AcK} {enc : α -> List AcD} {w : AcE} {v : AcD} {l : List α} {R : List AcD}
theorem OG.row(h:OG b t k enc w v l)(h0:0<l.length):∃g c R,v = .slice (some ⟨g,0,none⟩) l.length c/\b<=g/\w.heap[g]? =some (.cells (l.flatMap enc++R).toArray t (0,0))/\(l.flatMap enc++R).length=c*k/\l.length<=c/\c<=maxLen:=by
 obtain⟨-,hx,⟨-,h1⟩ | ⟨g,c,cur,rfl,hb,hg,hn,hm,hs,ht⟩⟩:=h
 ·omega
 ·refine⟨g,c,cur.toList.drop (l.length*k),rfl,hb,?_,?_,hn,hm⟩
  ·rw[<-ht,AdX];exact hg
  ·rw[<-ht,AdX,Ad0,hs]
theorem Aap(hl:∀x∈l,(enc x).length=k)(hb:b<=g)(hg:w.heap[g]? =some (.cells (l.flatMap enc++R).toArray t (0,0)))(hL:(l.flatMap enc++R).length=c*k)(hn:l.length<=c)(hm:c<=maxLen):OG b t k enc w (.slice (some ⟨g,0,none⟩) l.length c) l:=
 ⟨hl,HC hl, .inr ⟨g,c,_,rfl,hb,hg,hn,hm,by rw[Adi,hL],by rw[List.toList_toArray,AdW (HC hl)]⟩⟩
theorem Nz(d:α){p:Nat}(hp:p<l.length):l.flatMap enc=(l.take p).flatMap enc++enc (l.getD p d)++(l.drop (p+1)).flatMap enc:=by
 conv=>lhs;rw[<-AdX p l,Aew hp]
 rw[Aei,Adz,<-Ac7,AcL,AcQ hp];rfl
end
section
variable {P : AcY} {K : AcD -> AcE -> Prop} {ρ : Aj} {w : AcE} {d : Option Tmp} {ty : AcK} {pos : String} {af : Array Adv} {gd : Option (Nat × Bool)} {α : Type} {t : AcK}
theorem AbA{k:Nat}{enc:α->List AcD}{e:AcK}{x:AcO}{a:α}(hx:Ab ρ x = .agg (enc a).toArray)(hl:(enc a).length=k) 
  (hr:∀(cs:Array AcD),cs.size=k->∀w:AcE,(Adc t 1 #[(0, .agg cs)]).run P w = .ok (.slice (some ⟨w.heap.size,0,none⟩) 1 1) (w.alloc (.cells cs e)))
  (hk:∀b w',w.heap.size=b->w'.heap[b]? =some (.cells (enc a).toArray e (0,0))->Ext w w' ->w'.heap.size=w.heap.size+1->K (.slice (some ⟨b,0,none⟩) 1 1) w'):Yk P K ((execOp (Ab ρ) ⟨d, .buildSlice t 1 #[(0,x)],ty,pos,af,gd⟩).run P w):=by
 have hE:Ext w (w.alloc (.cells (enc a).toArray e)):=(AdA _ _).alloc (AcI _) _;refine AbU (v:= .slice (some ⟨w.heap.size,0,none⟩) 1 1) (w' :=w.alloc (.cells (enc a).toArray e)) ?_ (hk _ _ rfl (heap_alloc_new w _) hE (by simp));unfold execOp;simp only[AcT,AcX,Ac2,hx,AcN,hr _ (show(enc a).toArray.size=k by rw[Adi];exact hl),AcM,AcR]
theorem Sp{l:List α}{p:Nat}{x:α}(hp:p<l.length):l.set p x=l.take p++x :: l.drop (p+1):=by rw[List.set_eq_take_append_cons_drop,if_pos hp]
theorem AaD{b:Nat}{t' e:AcK}{v:AcD}{l:List AH}{g p:Nat}{i:B7}{x y:AcO}(hx:Ab ρ x=PQ g (p*33+1))(hy:Ab ρ y = .agg (AcH i.1).toArray)(h:OG b e 33 nmdC w v l)(hg:v.ownBlock=some g)(hp:p<l.length)(hinfo:(P.info? t').map (·.size)=some 32) 
  (hk:∀w',OG b e 33 nmdC w' v (l.set p ⟨(l.getD p dNmd).name,i⟩)->Grew w w' v v->K undef w'):Yk P K ((execOp (Ab ρ) ⟨d, .store t' x y,ty,pos,af,gd⟩).run P w):=by
 obtain⟨g',c,R,rfl,hb,hC,hL,hc,hm⟩:=h.row (by omega);obtain rfl:g' =g:=by simpa [Adp] using hg
 have h1:=i.2;have h2:=(l.getD p dNmd).id.2;have a:l.flatMap nmdC++R=((l.take p).flatMap nmdC++ [St (l.getD p dNmd).name])++AcH (l.getD p dNmd).id.1++((l.drop (p+1)).flatMap nmdC++R):=by
  rw[Nz dNmd hp];simp[nmdC]
 have f:((l.set p ⟨(l.getD p dNmd).name,i⟩).flatMap nmdC)++R=((l.take p).flatMap nmdC++ [St (l.getD p dNmd).name])++AcH i.1++((l.drop (p+1)).flatMap nmdC++R):=by
  rw[Sp hp,Aei,Adz];simp[nmdC]
 have hn:((l.take p).flatMap nmdC).length=p*33:=by rw[HC (fun x _=>BG x),Ac4];congr 1;omega
 rw[a]at hC;refine ZG hx hy hC (by rw[AcJ,hn];rfl) (by rw[AcS,AcS,h1,h2]) (by rw[AcS,h1];exact hinfo) (Ax _) fun w' k1 k2 _=>hk w' ?_ ⟨k2,fun k hk=> .inl hk⟩;rw[<-f]at k1;rw[show l.length=(l.set p (⟨(l.getD p dNmd).name,i⟩:AH)).length by rw[AeO]];refine Aap (fun x _=>BG x) hb k1 ?_ (by rw[AeO];exact hc) hm;rw[<-hL,a,f];simp only[AcJ,AcS,h1,h2]
end
theorem NA{l:List AH}:∀u∈l.flatMap nmdC,u.oneCell' =true:=fun u hu=>by
 obtain⟨x,-,hx⟩:=List.mem_flatMap.1 hu;exact DR u hx
theorem nmds_len(l:List AH):(l.flatMap nmdC).length=l.length*33:=HC (fun x _=>BG x)
theorem Sq(w0 w:AcE)(v:AcD)(l:List AH)(p:Nat)(hE:Ext w0 w)(h:OG w0.heap.size 94 33 nmdC w v l)(hp:p<l.length):
  Calls AcF 155 #[v,NI p,NI (p+1)] w fun e w' =>∃v',e = .returned v' /\OG w0.heap.size 94 33 nmdC w' v' (l.eraseIdx p)/\Ext w0 w' :=by
 obtain⟨g,c,R,rfl,hb,hC,hL,hc,hm⟩:=h.row (by omega);have hl:l.length=p+1+(l.length-(p+1)):=by omega
 rw[Nz dNmd hp]at hC hL;refine Calls.mono (Qt w _ g c p (l.length-(p+1)) _ _ _ R (by rw[nmds_len,Ac4];omega) (BG _) (by rw[nmds_len,Ac5]) ((Z6 _ _ _ _).eq rfl hl rfl) hC hL (by omega) hm NA) fun e w' ⟨R',f,a,b,i⟩=> ?_;rw[<-Aei,<-List.eraseIdx_eq_take_drop_succ]at a b;have hle:(l.eraseIdx p).length=p+(l.length-(p+1)):=by rw[List.length_eraseIdx_of_lt hp];omega
 refine⟨_,f,?_,Ad hE i hb⟩;rw[<-hle];exact Aap (fun x _=>BG x) hb a b (by omega) hm
theorem Sr(w0 w:AcE)(v f:AcD)(l:List AH)(p b:Nat)(x:AH)(TX:AcK)(hE:Ext w0 w)(h:OG w0.heap.size 94 33 nmdC w v l)(hp:p<=l.length)(hl:l.length<=1000) 
  (hv2:f = .slice (some ⟨b,0,none⟩) 1 1) (hX:w.heap[b]? =some (.cells (nmdC x).toArray TX (0,0))) (hne:v.ownBlock≠some b):
  Calls AcF 156 #[v,NI p,f] w fun e w' =>∃v',e = .returned v' /\OG w0.heap.size 94 33 nmdC w' v' (l.take p++x :: l.drop p)/\Ext w0 w' :=by
 subst hv2;by_cases hpe:p=l.length
 ·subst hpe;rw[List.take_length,List.drop_length];exact Qv w0 w v _ l x hE h (Aaz (BG x) hX) hl
 ·obtain⟨g,c,R,rfl,hb,hC,hL,hc,hm⟩:=h.row (by omega);have k:l.flatMap nmdC=(l.take p).flatMap nmdC++(l.drop p).flatMap nmdC:=by rw[<-Aei,AdX]
  rw[k]at hC hL;refine Calls.mono (Qu w _ _ g b c p (l.length-p) TX _ (nmdC x) _ R (by rw[nmds_len,Ac4];omega) (BG x) (by rw[nmds_len,Ac5]) ((Z6 _ _ _ _).eq rfl (by omega) rfl) hC hL (by omega) hm (by omega) NA DR (Z6 _ _ _ _) hX (fun e=>hne (by rw[e];rfl)) (by omega)) fun e w' ⟨g',c',R',m,i,j,r,n,o,a⟩=> ?_;have q:(l.take p).flatMap nmdC++nmdC x++(l.drop p).flatMap nmdC=(l.take p++x :: l.drop p).flatMap nmdC:=by rw[Aei,Adz,Ac7]
  rw[q]at i j;have hle:(l.take p++x :: l.drop p).length=p+1+(l.length-p):=by rw[AcJ,AcV,Ac4,Ac5];omega
  refine⟨_,m,?_,Ad hE o hb⟩;rw[<-hle];refine Aap (fun x _=>BG x) ?_ i j (by omega) n;rcases a with rfl | a
  ·exact hb
  ·exact AcG hE.size a
def Cr(l:List AH)(p:Nat)(y:Aw):Nat × List AH:=
 if(if BL l y.name p=true then(l.getD p dNmd).id else zid).1≠y.old.1 then(15,[])
 else if Ai y.new=true then(if BL l y.name p=true then(0,l.eraseIdx p)else(0,l))
 else if BL l y.name p=true then(0,l.set p ⟨(l.getD p dNmd).name,y.new⟩)
 else if 64<=l.length then(3,[])else(0,l.take p++⟨y.name,y.new⟩ :: l.drop p)
def BA(l:List AH)(s:Aib):Nat:=(l.takeWhile fun n=>decide (n.name<s)).length
theorem De:∀ {l:List AH} {s:Aib} {p:Nat},Jb l s p->p=BA l s
 | [],s,p,h=>by have:=h.1;simp at this;subst this;rfl
 | a :: l,s,p,h=>by
  by_cases ha:a.name<s
  ·cases p with
   | zero=>exact absurd ha (h.2.2 0 (AcI _) (by simp))
   | succ p=>
    have hp:=h.1;have ih:p=BA l s:=De ⟨by simpa using hp,fun j hj=>h.2.1 (j+1) (by omega),fun j hj hl=>h.2.2 (j+1) (by omega) (by simpa using hl)⟩;unfold BA at ih ⊢;rw[Afh,if_pos (by simpa using ha),AcV,<-ih]
  ·cases p with
   | zero=>unfold BA;rw[Afh,if_neg (by simpa using ha)];rfl
   | succ p=>exact absurd (h.2.1 0 (by omega)) ha
def Am(l:List AH)(y:Aw):Nat × List AH:=Cr l (BA l y.name) y
end Go.Proofs.YtbbbblinjomajaaGreatDoor
