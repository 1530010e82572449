/- Part 2 of what stands behind these statements: laws and walks of the functions that are reached. Conditions: those that each theorem names. -/
import Derived.Test.YtbbbblinjomajaaGreatDoorR1
set_option linter.unusedVariables false
set_option linter.unusedSimpArgs false
namespace Go.Proofs.YtbbbblinjomajaaGreatDoor
open _root_.Go renaming World->Acs,Program->AcN,Oper->AcM,TypeId->Acz,Edge->Adk,Value->Acr,Ending->Aej,Operand->AcD,binOp->Adb,IntKind->AdI,MapEntry->AeQ
open _root_.List renaming contains_iff_mem->AdL,getElem?_take->Aes,getElem?_drop->AeI,cons_append->Ac3,length_drop->AcU,take_of_length_le->Ac7,eq_nil_of_length_eq_zero->Adn,drop_eq_getElem_cons->Aeu,replicate->Ady,length_replicate->Ade,length_take->AcS,drop_of_length_le->Ael,getD_eq_getElem?_getD->AcA,getElem?_eq_getElem->AcG,getElem_mem->AdX,map_toArray->AcJ,map_cons->AcL,map_nil->AcR,append_toArray->Adh,nil_append->Ac9,toArray->Ac4,mem_of_getElem?->AeU,mem_map->Ado,mem_singleton->Ada,getElem?_eq_some_iff->AcW,mem_iff_getElem->AdA,mem_eraseIdx_iff_getElem->AfW,eraseIdx_sublist->Afi,size_toArray->Ac6,flatMap_cons->Adm,mem_of_mem_drop->Afp,drop_zero->AeD,length_append->Acx,append_assoc->AcV,lt_trans->Agf,length_nil->AcQ,drop_left'->AfR,take_left'->AdJ,take_append_drop->AdT,length_cons->AcK,flatMap_append->Ad0,length_set->Aez,takeWhile_cons->Ae3
open _root_.Go.RowKit.Below renaming refl->Adp
open _root_.Nat renaming le_of_ble_eq_true->AcF,mod_eq_of_lt->AfJ,min_eq_left->Ae7,le_refl->Acy,lt_of_le_of_lt->Aet,and_le_right->Aer,pow_le_pow_right->Aeb,mul_comm->Agu,mul_le_mul->Af4,min->Ae5,le_of_eq->AfS,zero_le->AcO,le_trans->Acw,zero_add->Aec,add_mul->AdN,add_sub_cancel_left->AeB,not_lt_zero->AdB,zero_mul->Ae2,add_zero->AfP,mul_le_mul_right->AeS,min_def->Ag4
open _root_.Option.some renaming inj->AcY,injEq->Ad2
open _root_.BitVec renaming ofNat->Ae1,toNat_ofNat->AfB
open _root_.Go.Value renaming int->AeJ,slice->AcI,bool->Ad3,ownBlock->Adc
open _root_.Int renaming toNat_natCast->AcX
open _root_.Go.Sem renaming run_bind->AcC,run_pure->AcE
open _root_.Go.Result renaming andThen_ok->AcB,andThen->Adj
open _root_.Go.Instr renaming next->Afo,lookup->AhC,mapUpdate->AgR,build->Adu,buildSlice->Ac1,sliceAt->AeP
open _root_.Array renaming getElem?_eq_some_iff->Adg,length_toList->AdZ,getElem?_setIfInBounds->Aei
open _root_.Option renaming map_eq_some_iff->Aem,map_some->AdP,map_none->Aek
open _root_.Go.Lib renaming uvarint->AcT,hid->Ad6,byteCells->Acv,byteCells_length->AcH
open _root_.Go.Proofs.Tryz renaming prog->Acu,func121->AhB,ntmps121->Ahm,func76->Ag3,ntmps76->Agv
open _root_.Go.Ending renaming returned->AdW
open _root_.And renaming intro->Adv
open _root_.Go.MapKept renaming IsKey->Afv,run_findKey->Ahr,Stamped->AfT,run_getObj_map->Aen,run_setObj_map->Afb
open _root_.Go.Builtin renaming delete_->AgS,zeroCells->Adq,copy_->Ahj
open _root_.Go.Addr renaming add_lit->AdU
open _root_.Go.Op renaming bytesLess->Ac5
open _root_.Go.Program renaming elem->AeH
open _root_.Exists renaming elim->AeF
open Go.RowKit
inductive Fr where
 | seq (y:Code)
 | block (id:Nat)
 | scope
 | fin (K:Ah->Acs->Prop)
def B5(P:AcN)(n:Nat)(Q:Be):List Fr->Be
 | []=>fun e ρ w=>match e with
  | .normal=>Q .ret ρ w
  | e=>Q e ρ w
 | .seq y :: k=>Ee (Cg P n y (B5 P n Q k)) (B5 P n Q k)
 | .block id :: k=>CI id (B5 P n Q k)
 | .scope :: k=>Pq (B5 P n Q k)
 | .fin K :: k=>Ee K (B5 P n Q k)
inductive Nq where
 | code (c:Code)
 | ops (a:Array AcM) (l:List AcM)
 | pop
 | mix (l:List AcM) (cs pf fl:List Nat) (I:Acs->Prop) (r:List Nat)
inductive MK where
 | pure
 | here
 | float
inductive Tg where
 | op (a:Array AcM) (o:AcM) (r:List AcM) (k:List Fr) (ρ:Ah)
 | code (c:Code) (k:List Fr) (ρ:Ah)
 | fin (K:Ah->Acs->Prop) (k:List Fr) (ρ:Ah)
 | chain (l:List AcM) (cs pf fl:List Nat) (I:Acs->Prop) (i:Nat) (o:AcM) (r:List Nat) (k:List Fr) (ρ:Ah)
 | still (κ:MK) (l:List AcM) (cs pf fl:List Nat) (I:Acs->Prop) (i:Nat) (o:AcM) (r:List Nat) (k:List Fr) (ρ:Ah)
 | ret (ρ:Ah)
 | bad
def room(n:Nat):Option Tmp->Bool
 | some d=>Nat.blt d n
 | none=>true
def Yx:Bool->Bool->Bool
 | true,true=>true
 | false,false=>true
 | _,_=>false
def A8(n:Nat)(u:Bool):Nat->Nq->List Fr->Ah->Tg
 | 0,_,_,_=> .bad
 | f+1, .code c,k,ρ=>match c with
  | .seq x y=>A8 n u f (.code x) (.seq y :: k) ρ
  | .block id x=>A8 n u f (.code x) (.block id :: k) ρ
  | .scope x=>A8 n u f (.code x) (.scope :: k) ρ
  | .skip=>A8 n u f .pop k ρ
  | .ret=> .ret ρ
  | .exit id=>match k with
   | []=> .bad
   | .block i :: k=>cond (Nat.beq id i) (A8 n u f .pop k ρ) (A8 n u f (.code (.exit id)) k ρ)
   | _ :: k=>A8 n u f (.code (.exit id)) k ρ
  | .region _ a d=>cond d (.code c k ρ) (A8 n u f (.ops a a.toList) k ρ)
  | c=> .code c k ρ
 | f+1, .pop,k,ρ=>match k with
  | []=> .ret ρ
  | .seq y :: k=>A8 n u f (.code y) k ρ
  | .fin K :: k=> .fin K k ρ
  | _ :: k=>A8 n u f .pop k ρ
 | f+1, .ops a l,k,ρ=>match l with
  | []=>A8 n u f .pop k ρ
  | o :: r=>cond (room n o.dst) (match o.guard with
   | some (g,want)=>cond u (match (a[g]?).bind (·.dst)with
    | some d=>match ρ d with
     | .bool b=>match Yx b want with
      | true=>match o.op with
       | .move x=>A8 n u f (.ops a r) k (updO ρ o.dst (Ab ρ x))
       | .assign x=>A8 n u f (.ops a r) k (updO ρ o.dst (Ab ρ x))
       | _=> .op a { o with guard:=none } r k ρ
      | false=>A8 n u f (.ops a r) k (updO ρ o.dst undef)
     | _=> .op a o r k ρ
    | none=> .op a o r k ρ) (.op a o r k ρ)
   | none=>match o.op with
    | .move x=>A8 n u f (.ops a r) k (updO ρ o.dst (Ab ρ x))
    | .assign x=>A8 n u f (.ops a r) k (updO ρ o.dst (Ab ρ x))
    | _=> .op a o r k ρ) .bad
 | f+1, .mix l cs pf fl I r,k,ρ=>match r with
  | []=>A8 n u f .pop k ρ
  | i :: r=>match l[i]? with
   | none=> .bad
   | some o=>cond (AY l o ρ) (cond (cs.contains i) (.chain l cs pf fl I i o r k ρ) (match o.op with
    | .move x=>A8 n u f (.mix l cs pf fl I r) k (updO ρ o.dst (Ab ρ x))
    | .assign x=>A8 n u f (.mix l cs pf fl I r) k (updO ρ o.dst (Ab ρ x))
    | _=> .still (cond (pf.contains i) .pure (cond (fl.contains i) .float .here)) l cs pf fl I i o r k ρ))
    (A8 n u f (.mix l cs pf fl I r) k (updO ρ o.dst undef))
def JK(P:AcN)(n:Nat)(Q:Be)(k:List Fr)(ch:List PanicEntry)(w:Acs):Prop:=∀ρ,B5 P n Q k (.panic ch) ρ w
def Nr(P:AcN)(n:Nat)(Q:Be)(l:List AcM)(cs pf fl:List Nat)(I:Acs->Prop)(r:List Nat)(k:List Fr)(ρ:Ah)(w:Acs):Prop:=
 DA P l cs pf fl (JK P n Q k) (fun ρ w=>B5 P n Q k .normal ρ w) r I ρ w
def AU(P:AcN)(n:Nat)(_:Bool)(Q:Be)(w:Acs):Tg->Prop
 | .op a o r k ρ=>room n o.dst=true->BX P a n (B5 P n Q k) (o :: r) ρ w
 | .code c k ρ=>Cg P n c (B5 P n Q k) ρ w
 | .fin K _ ρ=>K ρ w
 | .chain l cs pf fl I i o r k ρ=>l[i]? =some o->AY l o ρ=true->i∈cs->Nr P n Q l cs pf fl I (i :: r) k ρ w
 | .still κ l cs pf fl I i o r k ρ=>l[i]? =some o->AY l o ρ=true->i∉cs->(match κ with | .pure=>Dl l pf i=true | .here=>Dl l pf i=false/\i∉fl | .float=>Dl l pf i=false/\i∈fl)->Nr P n Q l cs pf fl I (i :: r) k ρ w
 | .ret ρ=>Q .ret ρ w
 | .bad=>False
def CmdOk(P:AcN)(n:Nat)(Q:Be)(w:Acs)(k:List Fr)(ρ:Ah):Nq->Prop
 | .code (.exit i)=>B5 P n Q k (.exit i) ρ w
 | .code c=>Cg P n c (B5 P n Q k) ρ w
 | .ops a l=>BX P a n (B5 P n Q k) l ρ w
 | .pop=>B5 P n Q k .normal ρ w
 | .mix l cs pf fl I r=>Nr P n Q l cs pf fl I r k ρ w
section
variable {P : AcN} {n : Nat} {u : Bool} {Q : Be} {ρ : Ah} {w : Acs} {k : List Fr}
theorem Fv:∀ {d:Option Tmp},room n d=true->(match d with | some d=>Nat.blt d n | none=>true)=true
 | some _,h=>h
 | none,_=>rfl
theorem CmdOk.wp{c:Code}(h:CmdOk P n Q w k ρ (.code c)):Cg P n c (B5 P n Q k) ρ w:=by
 cases c with
 | exit i=>exact TP h
 | _=>exact h
theorem LO{Q:Be}{a:Array AcM}{dst:Option Tmp}{op:Op}{ty:Acz}{pos:String}{af:Array Adk}{r:List AcM}{g:Nat}{want:Bool}{d:Tmp}(hg:(a[g]?).bind (·.dst)=some d)(hv:ρ d = .bool want) 
  (h:BX P a n Q (⟨dst,op,ty,pos,af,none⟩ :: r) ρ w):BX P a n Q (⟨dst,op,ty,pos,af,some (g,want)⟩ :: r) ρ w:=fun c hc=>by
 have h1:=h c hc;have hw:Region.wanted ⟨dst,op,ty,pos,af,some (g,want)⟩ (yielded a c.tmps)=true:=by
  have:=Im ((hc.get d).trans hv);simp only[Region.wanted,yielded,hg];simp[this]
 unfold wpList at h1 ⊢;rw[if_pos hw];exact h1
theorem Bv:∀(f:Nat) (u:Bool) (c:Nq) (k:List Fr) (ρ:Ah),AU P n u Q w (A8 n u f c k ρ)->CmdOk P n Q w k ρ c
 | 0,u,c,k,ρ,h=>h.elim
 | f+1,u, .code c,k,ρ,h=>by
  match c,h with
  | .seq x y,h=>exact Pr (Bv f u (.code x) (.seq y :: k) ρ h).wp
  | .block id x,h=>exact Rz (Bv f u (.code x) (.block id :: k) ρ h).wp
  | .scope x,h=>exact RA (Bv f u (.code x) (.scope :: k) ρ h).wp
  | .skip,h=>exact Gd (Bv f u .pop k ρ h)
  | .ret,h=>
   have:∀k,B5 P n Q k .ret ρ w=Q .ret ρ w:=fun k=>by
    induction k with
    | nil=>rfl
    | cons x k ih=>cases x <;> exact ih
   exact Wa (by rw[this];exact h)
  | .exit id,h=>
   match k,h with
   | .block i :: k,h=>
    cases hb:Nat.beq id i with
    | true=>
     obtain rfl:=Nat.eq_of_beq_eq_true hb;unfold A8 at h;simp only[hb,cond_true]at h;exact Ir (Bv f u .pop k ρ h)
    | false=>
     unfold A8 at h;simp only[hb,cond_false]at h;exact MS hb (Bv f u (.code (.exit id)) k ρ h)
   | .seq y :: k,h=>exact Bv f u (.code (.exit id)) k ρ h
   | .scope :: k,h=>exact Bv f u (.code (.exit id)) k ρ h
   | .fin K :: k,h=>exact Bv f u (.code (.exit id)) k ρ h
  | .region id a d,h=>
   cases d with
   | true=>exact h
   | false=>exact wt (l:=a.toList) (Bv f u (.ops a a.toList) k ρ h)
  | .cond ..,h=>exact h
  | .loop ..,h=>exact h
  | .rangeFunc ..,h=>exact h
  | .label ..,h=>exact h
  | .goto ..,h=>exact h
  | .refuse ..,h=>exact h
 | f+1,u, .pop,k,ρ,h=>by
  match k,h with
  | [],h=>exact h
  | .seq y :: k,h=>exact(Bv f u (.code y) k ρ h).wp
  | .fin K :: k,h=>exact h
  | .block i :: k,h=>exact Bv f u .pop k ρ h
  | .scope :: k,h=>exact Bv f u .pop k ρ h
 | f+1,u, .ops a l,k,ρ,h=>by
  match l,h with
  | [],h=>exact oZ (Bv f u .pop k ρ h)
  | o :: r,h=>
   cases hr:room n o.dst with
   | false=>unfold A8 at h;simp only[hr,cond_false]at h;exact h.elim
   | true=>
    unfold A8 at h;simp only[hr,cond_true]at h;obtain⟨dst,op,ty,pos,af,gd⟩:=o;cases gd with
    | some g=>
     obtain⟨g,want⟩:=g;cases u with
     | false=>exact h hr
     | true=>
      cases hg:(a[g]?).bind (·.dst)with
      | none=>simp only[hg,cond_true]at h;exact h hr
      | some d=>
       simp only[hg,cond_true]at h;cases hv:ρ d with
       | bool b=>
        simp only[hv]at h;cases hb:Yx b want with
        | true=>
         obtain rfl:b=want:=by cases b <;> cases want <;> first | rfl | cases hb
         simp only[hb]at h;refine LO hg hv ?_;cases op with
         | move x=>exact oS (Fv hr) (AbL rfl (Bv f true (.ops a r) k _ h))
         | assign x=>exact oS (Fv hr) (AbX rfl (Bv f true (.ops a r) k _ h))
         | _=>exact h hr
        | false=>
         simp only[hb]at h;exact oN rfl (Fv hr) hg hv (by cases b <;> cases want <;> first | rfl | cases hb) (Bv f true (.ops a r) k _ h)
       | _=>simp only[hv]at h;exact h hr
    | none=>
     cases op with
     | move x=>exact oS (Fv hr) (AbL rfl (Bv f u (.ops a r) k _ h))
     | assign x=>exact oS (Fv hr) (AbX rfl (Bv f u (.ops a r) k _ h))
     | _=>exact h hr
 | f+1,u, .mix l cs pf fl I r,k,ρ,h=>by
  match r,h with
  | [],h=>exact Bv f u .pop k ρ h
  | i :: r,h=>
   cases ho:l[i]? with
   | none=>unfold A8 at h;simp only[ho]at h;exact h.elim
   | some o=>
    unfold A8 at h;simp only[ho]at h;cases hw:AY l o ρ with
    | false=>
     simp only[hw,cond_false]at h;show DA _ _ _ _ _ _ _ _ _ _ _;unfold DA;rw[ho];simp only;rw[if_pos hw];exact Bv f u (.mix l cs pf fl I r) k _ h
    | true=>
     simp only[hw,cond_true]at h;cases hc:cs.contains i with
     | true=>simp only[hc,cond_true]at h;exact h ho hw (AdL.1 hc)
     | false=>
      simp only[hc,cond_false]at h;have hc' :i∉cs:=fun x=>by rw[AdL.2 x]at hc;cases hc
      have mv:∀(v:Acr),(∀w',Yk P (fun x w'' =>x=v/\w'' =w') ((execOp (Ab ρ) o).run P w'))->AU P n u Q w (A8 n u f (.mix l cs pf fl I r) k (updO ρ o.dst v))->Nr P n Q l cs pf fl I (i :: r) k ρ w:=fun v hv h=>by
       show DA _ _ _ _ _ _ _ _ _ _ _;unfold DA;rw[ho];simp only;rw[if_neg (by rw[hw];simp),if_neg hc'];exact⟨v,fun w' _=>hv w',Bv f u (.mix l cs pf fl I r) k _ h⟩
      have st:(match o.op with | .move _ | .assign _=>true | _=>false)=false->AU P n u Q w (.still (cond (pf.contains i) .pure (cond (fl.contains i) .float .here)) l cs pf fl I i o r k ρ)->Nr P n Q l cs pf fl I (i :: r) k ρ w:=fun hm h=>by
       refine h ho hw hc' ?_;cases hp:pf.contains i with
       | true=>show Dl l pf i=true;unfold Dl;rw[hp];rfl
       | false=>
        have hb:Dl l pf i=false:=by unfold Dl;rw[hp,ho];exact hm
        cases hf:fl.contains i with
        | true=>exact⟨hb,AdL.1 hf⟩
        | false=>exact⟨hb,fun x=>by rw[AdL.2 x]at hf;cases hf⟩
      obtain⟨dst,op,ty,pos,af,gd⟩:=o;cases op with
      | move x=>exact mv _ (fun w' =>AbL rfl ⟨rfl,rfl⟩) h
      | assign x=>exact mv _ (fun w' =>AbX rfl ⟨rfl,rfl⟩) h
      | _=>exact st rfl h
theorem adv_ok{u:Bool}(f:Nat)(c:Nq)(k:List Fr)(ρ:Ah)(h:AU P n u Q w (A8 n u f c k ρ)):CmdOk P n Q w k ρ c:=Bv f u c k ρ h
theorem Fo{ch:List PanicEntry}(h:Q (.panic ch) ρ w):∀k,B5 P n Q k (.panic ch) ρ w
 | []=>h
 | x :: k=>by cases x <;> exact Fo h k
theorem gM{id:Nat}{l:List AcM}(ord cs pf fl:List Nat){I:Acs->Prop}(hm:P.follows .mixedOrders=true)(hg:DR l n=true)(hb:E0 l cs pf fl ord=true)(hI:I w.drew) 
  (h:AU P n u Q w.drew (A8 n u 1000 (.mix l cs pf fl I ord) k ρ)):AU P n u Q w (.code (.region id l.toArray true) k ρ):=fun a ha=>by
 have h0:MInv P l cs pf fl ord n (JK P n Q k) (fun ρ w=>B5 P n Q k .normal ρ w) [] ord I ρ (Array.replicate l.length false) a w.drew:=
  ⟨by simp,fun i o _ h=>absurd h Zt,ha.size,ha.defers,rfl,fun i _=>Zt,(fun i hi=>by cases hi),fun t _=>ha.get t,hI,adv_ok _ _ _ _ h⟩
 obtain⟨u',r',ρ',hp,hr⟩:=h0.place hb;exact wp_region_any hm (Pt hg hb _ _ _ _ u' r' I ρ' (by simp) hp hr)
theorem gM0{id:Nat}{l:List AcM}(ord cs pf:List Nat)(h:∀w1,Ext w w1->AU P n u Q w1 (A8 n u 1000 (.mix l cs pf [] (fun _=>True) ord) k ρ))(hm:P.follows .mixedOrders=true:=by kernel_rfl)(hg:DR l n=true:=by kernel_rfl)(hb:E0 l cs pf [] ord=true:=by kernel_rfl):AU P n u Q w (.code (.region id l.toArray true) k ρ):=
 gM ord cs pf [] hm hg hb trivial (h _ (Adp _ _).drew)
theorem FS{id:Nat}{l:List AcM}(ord cs pf fl:List Nat)(h:∀w1,Ext w w1->∃I:Acs->Prop,I w1/\AU P n u Q w1 (A8 n u 1000 (.mix l cs pf fl I ord) k ρ))(hm:P.follows .mixedOrders=true:=by kernel_rfl)(hg:DR l n=true:=by kernel_rfl)(hb:E0 l cs pf fl ord=true:=by kernel_rfl):AU P n u Q w (.code (.region id l.toArray true) k ρ):=by
 obtain⟨I,hI,h⟩:=h _ (Adp _ _).drew;exact gM ord cs pf fl hm hg hb hI h
theorem RL{l:List AcM}{ord cs pf fl:List Nat}{g0:Nat}{o0:Obj}(b0:w.heap[g0]? =some o0)(h:AU P n u Q w (A8 n u 1000 (.mix l cs pf fl (fun w=>w.heap[g0]? =some o0/\True) ord) k ρ)):∃I:Acs->Prop,I w/\AU P n u Q w (A8 n u 1000 (.mix l cs pf fl I ord) k ρ):=⟨(fun w=>w.heap[g0]? =some o0/\True),⟨b0,trivial⟩,h⟩
theorem Gf{l:List AcM}{ord cs pf fl:List Nat}{x0:Acs}(a:Ext x0 w)(h:AU P n u Q w (A8 n u 1000 (.mix l cs pf fl (fun w=>Ext x0 w/\True) ord) k ρ)):∃I:Acs->Prop,I w/\AU P n u Q w (A8 n u 1000 (.mix l cs pf fl I ord) k ρ):=⟨(fun w=>Ext x0 w/\True),⟨a,trivial⟩,h⟩
section
variable {l : List AcM} {cs pf fl : List Nat} {I : Acs -> Prop} {i : Nat} {o : AcM} {r : List Nat} {κ : MK}
theorem E1{J:List PanicEntry->Acs->Prop}{K:Ah->Acs->Prop}(ho:l[i]? =some o)(hw:AY l o ρ=true)(hc:i∈cs) 
  (h:Yp P (fun v w' =>∃I' :Acs->Prop,I' w' /\((∀x,I' x->I x)\/P4 l fl r i=true)/\DA P l cs pf fl J K r I' (updO ρ o.dst v) w') J ((execOp (Ab ρ) o).run P w)):DA P l cs pf fl J K (i :: r) I ρ w:=by
 unfold DA;rw[ho];simp only;rw[if_neg (by rw[hw];simp),if_pos hc];exact h
theorem Eg{J:List PanicEntry->Acs->Prop}{K:Ah->Acs->Prop}(ho:l[i]? =some o)(hw:AY l o ρ=true)(hc:i∉cs) 
  (v:Acr) (hv:∀w',Lq l pf fl I w i w' ->Yk P (fun x w'' =>x=v/\w'' =w') ((execOp (Ab ρ) o).run P w')) (h:DA P l cs pf fl J K r I (updO ρ o.dst v) w):DA P l cs pf fl J K (i :: r) I ρ w:=by
 unfold DA;rw[ho];simp only;rw[if_neg (by rw[hw];simp),if_neg hc];exact⟨v,hv,h⟩
theorem zz{x:Acr}{w:Acs}:x=x/\w=w:=⟨rfl,rfl⟩
theorem yC(h:Yk P (fun v w' =>AU P n u Q w' (A8 n u 1000 (.mix l cs pf [] (fun _=>True) r) k (updO ρ o.dst v))) ((execOp (Ab ρ) o).run P w)):AU P n u Q w (.chain l cs pf [] I i o r k ρ):=fun ho hw hc=>
 E1 ho hw hc (.ofK (Acd h fun _ _ h=>⟨fun _=>True,trivial, .inr rfl,adv_ok _ _ _ _ h⟩))
theorem Pu{fn:Func}{R:Aej->Acs->Prop}(h:Yp P (fun v w' =>AU P n u (C9 P fn R) w' (A8 n u 1000 (.mix l cs pf [] (fun _=>True) r) k (updO ρ o.dst v))) (fun ch w' =>C9 P fn R (.panic ch) ρ w') ((execOp (Ab ρ) o).run P w)):AU P n u (C9 P fn R) w (.chain l cs pf [] I i o r k ρ):=fun ho hw hc=>
 E1 ho hw hc (Aaw h (fun _ _ h=>⟨fun _=>True,trivial, .inr rfl,adv_ok _ _ _ _ h⟩) fun _ _ h ρ' =>Fo (Ao (ρ:=ρ') h) _)
theorem yI(h:Yk P (fun v w' =>I w' /\AU P n u Q w' (A8 n u 1000 (.mix l cs pf fl I r) k (updO ρ o.dst v))) ((execOp (Ab ρ) o).run P w)):AU P n u Q w (.chain l cs pf fl I i o r k ρ):=fun ho hw hc=>
 E1 ho hw hc (.ofK (Acd h fun _ _ h=>⟨I,h.1, .inl fun _ h=>h,adv_ok _ _ _ _ h.2⟩))
theorem yE{w1:Acs}(h:Yk P (fun v w' =>Ext w1 w' /\AU P n u Q w' (A8 n u 1000 (.mix l cs pf fl (fun x=>Ext w' x/\True) r) k (updO ρ o.dst v))) ((execOp (Ab ρ) o).run P w)):AU P n u Q w (.chain l cs pf fl (fun x=>Ext w1 x/\True) i o r k ρ):=fun ho hw hc=>
 E1 ho hw hc (.ofK (Acd h fun _ w' h=>⟨fun x=>Ext w' x/\True,⟨AbE _,trivial⟩, .inl fun _ e=>⟨h.1.trans e.1,trivial⟩,adv_ok _ _ _ _ h.2⟩))
theorem yD(hc:P4 l fl r i=true)(h:Yk P (fun v w' =>AU P n u Q w' (A8 n u 1000 (.mix l cs pf fl (fun _=>True) r) k (updO ρ o.dst v))) ((execOp (Ab ρ) o).run P w)):AU P n u Q w (.chain l cs pf fl I i o r k ρ):=fun ho hw hi=>
 E1 ho hw hi (.ofK (Acd h fun _ _ h=>⟨fun _=>True,trivial, .inr hc,adv_ok _ _ _ _ h⟩))
theorem ys{v:Acr}(h:Yk P (fun x w'' =>x=v/\w'' =w) ((execOp (Ab ρ) o).run P w))(hn:AU P n u Q w (A8 n u 1000 (.mix l cs pf fl I r) k (updO ρ o.dst v))):AU P n u Q w (.still .here l cs pf fl I i o r k ρ):=fun ho hw hc hf=>
 Eg ho hw hc v (fun w' hw' =>by
  rcases hw' with hp | hw'
  ·rw[hf.1]at hp;cases hp
  ·rw[if_neg hf.2]at hw';subst hw';exact h) (adv_ok _ _ _ _ hn)
theorem yp{v:Acr}(h:∀ {w' :Acs},Yk P (fun x w'' =>x=v/\w'' =w') ((execOp (Ab ρ) o).run P w'))(hn:AU P n u Q w (A8 n u 1000 (.mix l cs pf fl I r) k (updO ρ o.dst v))):AU P n u Q w (.still κ l cs pf fl I i o r k ρ):=fun ho hw hc _=>
 Eg ho hw hc v (fun _ _=>h) (adv_ok _ _ _ _ hn)
theorem yf{v:Acr}(h:∀w',I w' ->Yk P (fun x w'' =>x=v/\w'' =w') ((execOp (Ab ρ) o).run P w'))(hn:AU P n u Q w (A8 n u 1000 (.mix l cs pf fl I r) k (updO ρ o.dst v))):AU P n u Q w (.still .float l cs pf fl I i o r k ρ):=fun ho hw hc hf=>
 Eg ho hw hc v (fun w' hw' =>by
  rcases hw' with hp | hw'
  ·rw[hf.1]at hp;cases hp
  ·rw[if_pos hf.2]at hw';exact h w' hw') (adv_ok _ _ _ _ hn)
theorem yA{dst:Option Tmp}{t:Acz}{x y:AcD}{ty:Acz}{pos:String}{af:Array Adk}{gd:Option (Nat × Bool)}(h:Yk P (fun v _=>AU P n u Q w (A8 n u 1000 (.mix l cs pf fl I r) k (updO ρ dst v))) ((execOp (Ab ρ) ⟨dst, .indexAddr t x y,ty,pos,af,gd⟩).run P w)):AU P n u Q w (.still κ l cs pf fl I i ⟨dst, .indexAddr t x y,ty,pos,af,gd⟩ r k ρ):=fun ho hw hc _=>by
 obtain⟨v,hn,hv⟩:=LN (.indexAt _ _ _) h;exact Eg ho hw hc v (fun w' _=>hv w') (adv_ok _ _ _ _ hn)
theorem yS{dst:Option Tmp}{t:Acz}{x:AcD}{lo hi mx:Option AcD}{ty:Acz}{pos:String}{af:Array Adk}{gd:Option (Nat × Bool)}(h:Yk P (fun v _=>AU P n u Q w (A8 n u 1000 (.mix l cs pf fl I r) k (updO ρ dst v))) ((execOp (Ab ρ) ⟨dst, .slice t x lo hi mx,ty,pos,af,gd⟩).run P w)):AU P n u Q w (.still κ l cs pf fl I i ⟨dst, .slice t x lo hi mx,ty,pos,af,gd⟩ r k ρ):=fun ho hw hc _=>by
 obtain⟨v,hn,hv⟩:=LN (.sliceAt _ _ _ _ _) h;exact Eg ho hw hc v (fun w' _=>hv w') (adv_ok _ _ _ _ hn)
theorem yF{dst:Option Tmp}{s:Acz}{f off m:Nat}{x:AcD}{ty:Acz}{pos:String}{af:Array Adk}{gd:Option (Nat × Bool)}{xs:List Acr}(hf:AC P s f off)(hp:PR xs (Ab ρ x) w) 
  (hn:∀v,PR ((xs.drop off).take m) v w->AU P n u Q w (A8 n u 1000 (.mix l cs pf fl I r) k (updO ρ dst v))):AU P n u Q w (.still κ l cs pf fl I i ⟨dst, .fieldAddr s x f,ty,pos,af,gd⟩ r k ρ):=fun ho hw hc _=>by
 obtain⟨b,o,hx,hr⟩:=hp;refine Eg ho hw hc (.pointer (some ⟨b,o+off,none⟩)) (fun w' _=>AbD hf hx ⟨rfl,rfl⟩) (adv_ok _ _ _ _ (hn _ ⟨b,o+off,rfl,fun j v hv=> ?_⟩));rw[Aes]at hv;split at hv
 ·rw[AeI]at hv;have:=hr _ _ hv;rw[<-Nat.add_assoc]at this;exact this
 ·cases hv
end
theorem gS{a:Array AcM}{dst:Option Tmp}{op:Op}{ty:Acz}{pos:String}{af:Array Adk}{r:List AcM} 
  (h:Yk P (fun v w' =>AU P n u Q w' (A8 n u 1000 (.ops a r) k (updO ρ dst v))) ((execOp (Ab ρ) ⟨dst,op,ty,pos,af,none⟩).run P w)):AU P n u Q w (.op a ⟨dst,op,ty,pos,af,none⟩ r k ρ):=fun hr=>
 oS (Fv hr) (Acd h fun _ _ h=>adv_ok _ _ _ _ h)
theorem gP{a:Array AcM}{dst:Option Tmp}{op:Op}{ty:Acz}{pos:String}{af:Array Adk}{r:List AcM} 
  (h:Yp P (fun v w' =>AU P n u Q w' (A8 n u 1000 (.ops a r) k (updO ρ dst v))) (fun ch w' =>Q (.panic ch) ρ w') ((execOp (Ab ρ) ⟨dst,op,ty,pos,af,none⟩).run P w)):AU P n u Q w (.op a ⟨dst,op,ty,pos,af,none⟩ r k ρ):=fun hr=>by
 refine oP (Fv hr) ?_
 revert h
 generalize (execOp (Ab ρ) ⟨dst,op,ty,pos,af,none⟩).run P w=x
 intro h
 match x,h with
 | .ok (.value v) w',h=>exact adv_ok _ _ _ _ h
 | .ok .skip w',h=>exact adv_ok _ _ _ _ h
 | .halt (.panic v) w',h=>exact Fo h _
 | .ok (.enter f args) w',h=>
  refine Calls.mono h ?_;intro e w'' hx
  match e,hx with
  | .returned v,hx=>exact adv_ok _ _ _ _ hx
  | .panicked ch,hx=>exact Fo hx _
theorem gY{a:Array AcM}{dst:Option Tmp}{op:Op}{ty:Acz}{pos:String}{af:Array Adk}{r:List AcM}{g:Nat}{want:Bool}{d:Tmp}(hg:(a[g]?).bind (·.dst)=some d)(hv:ρ d = .bool want) 
 (h:AU P n u Q w (A8 n u 1000 (.ops a (⟨dst,op,ty,pos,af,none⟩ :: r)) k ρ)):AU P n u Q w (.op a ⟨dst,op,ty,pos,af,some (g,want)⟩ r k ρ):=fun _=>LO hg hv (adv_ok _ _ _ _ h)
theorem gN{a:Array AcM}{o:AcM}{r:List AcM}{g:Nat}{want b:Bool}{d:Tmp}(hgd:o.guard=some (g,want))(hg:(a[g]?).bind (·.dst)=some d)(hv:ρ d = .bool b)(hb:(b==want)=false) 
 (h:AU P n u Q w (A8 n u 1000 (.ops a r) k (updO ρ o.dst undef))):AU P n u Q w (.op a o r k ρ):=fun hr=>oN hgd (Fv hr) hg hv hb (adv_ok _ _ _ _ h)
theorem kB{f:Nat}{c:Nq}{d:Option Tmp}{b b' :Bool}(e:b=b')(h:AU P n u Q w (A8 n u f c k (updO ρ d (.bool b')))):AU P n u Q w (A8 n u f c k (updO ρ d (.bool b))):=e▸h
theorem kT{f:Nat}{c:Nq}{d:Option Tmp}{p:Prop}[Decidable p](e:p)(h:AU P n u Q w (A8 n u f c k (updO ρ d (.bool true)))):AU P n u Q w (A8 n u f c k (updO ρ d (.bool (decide p)))):=kB (decide_eq_true e) h
theorem kF{f:Nat}{c:Nq}{d:Option Tmp}{p:Prop}[Decidable p](e:¬p)(h:AU P n u Q w (A8 n u f c k (updO ρ d (.bool false)))):AU P n u Q w (A8 n u f c k (updO ρ d (.bool (decide p)))):=kB (decide_eq_false e) h
theorem gO{a:Array AcM}{o:AcM}{r:List AcM}(h:room n o.dst=true->BX P a n (B5 P n Q k) (o :: r) ρ w):AU P n u Q w (.op a o r k ρ):=h
theorem As{a:Array AcM}{l:List AcM}(h:AU P n false Q w (A8 n false 1000 (.ops a l) k ρ)):BX P a n (B5 P n Q k) l ρ w:=adv_ok _ _ _ _ h
theorem gX(h:AU P n true Q w (A8 n true 1000 .pop k ρ)):B5 P n Q k .normal ρ w:=adv_ok _ _ _ _ h
theorem YN(h:AU P n false Q w (A8 n false 1000 .pop k ρ)):B5 P n Q k .normal ρ w:=adv_ok _ _ _ _ h
theorem gR{id:Nat}{a:Array AcM}(h:Cg P n (.region id a true) (B5 P n Q k) ρ w):AU P n u Q w (.code (.region id a true) k ρ):=h
theorem cT{c:AcD}{x y:Code}(hc:Ab ρ c = .bool true)(h:AU P n u Q w (A8 n u 1000 (.code x) k ρ)):AU P n u Q w (.code (.cond c x y) k ρ):=Ge hc (adv_ok _ _ _ _ h).wp
theorem cF{c:AcD}{x y:Code}(hc:Ab ρ c = .bool false)(h:AU P n u Q w (A8 n u 1000 (.code y) k ρ)):AU P n u Q w (.code (.cond c x y) k ρ):=DU hc (adv_ok _ _ _ _ h).wp
theorem cD{c:AcD}{x y:Code}{p:Prop}[Decidable p](hc:Ab ρ c = .bool (decide p))(h1:p->AU P n u Q w (A8 n u 1000 (.code x) k ρ))(h2:¬p->AU P n u Q w (A8 n u 1000 (.code y) k ρ)):AU P n u Q w (.code (.cond c x y) k ρ):=
 TQ p hc (fun h=>(adv_ok _ _ _ _ (h1 h)).wp) fun h=>(adv_ok _ _ _ _ (h2 h)).wp
theorem cB{c:AcD}{x y:Code}(b:Bool)(hc:Ab ρ c = .bool b)(h1:b=true->AU P n u Q w (A8 n u 1000 (.code x) k ρ))(h2:b=false->AU P n u Q w (A8 n u 1000 (.code y) k ρ)):AU P n u Q w (.code (.cond c x y) k ρ):=
 Ry b hc (fun h=>(adv_ok _ _ _ _ (h1 h)).wp) fun h=>(adv_ok _ _ _ _ (h2 h)).wp
theorem gL{c:Code}(I:Ah->Acs->Prop)(μ:Ah->Acs->Nat)(h0:I ρ w) 
  (round:∀ρ w,I ρ w->AU P n u Q w (A8 n u 1000 (.code c) (.fin (fun ρ' w' =>I ρ' w' /\μ ρ' w' <μ ρ w) :: k) ρ)):AU P n u Q w (.code (.loop c) k ρ):=
 TS I μ h0 fun ρ w hI=>(adv_ok _ _ _ _ (round ρ w hI)).wp
theorem gK{K:Ah->Acs->Prop}(h:K ρ w):AU P n u Q w (.fin K k ρ):=h
def RM:Nat->List Fr->Option (Code × List Fr)
 | 0, .seq y :: k=>some (y,k)
 | d+1,_ :: k=>RM d k
 | _,_=>none
theorem gJ{a:Array AcM}{o:AcM}{r:List AcM}(I:Ah->Acs->Prop)(d:Nat){y:Code}{k2:List Fr}(_:RM d k=some (y,k2))(hJ:∀ρ w,I ρ w->AU P n u Q w (A8 n u 1000 (.code y) k2 ρ)) 
 (h:(∀ρ w,I ρ w->AU P n u Q w (A8 n u 1000 (.code y) k2 ρ))->AU P n u Q w (.op a o r k ρ)):AU P n u Q w (.op a o r k ρ):=h hJ
def M6(l:List Acr):Ah:=fun t=>l.getD t undef
theorem gG{f:FuncId}{fn:Func}{c:Code}{args:List Acr}{R:Aej->Acs->Prop}(hf:P.funcs[f]? =some fn)(hb:fn.body=some c)(m:Nat)(hm:fn.ntmps=m)(hn:Nat.ble args.length m=true) 
  (h:AU P m true (C9 P fn R) w (A8 m true 1000 (.code c) [] (M6 args))):Calls P f args.toArray w R:=
 Iw hf hb m hm (AcF hn) fun ρ hB=>by
  obtain rfl:ρ=M6 args:=funext hB.get;refine wpF_mono (adv_ok _ _ _ _ h).wp fun e ρ w hx=> ?_;cases e <;> exact hx
theorem FT{f:FuncId}{fn:Func}{c:Code}{args:List Acr}{R:Aej->Acs->Prop}(hf:P.funcs[f]? =some fn)(hb:fn.body=some c)(m:Nat)(hm:fn.ntmps=m)(hn:Nat.ble args.length m=true) 
  (h:AU P m false (C9 P fn R) w (A8 m false 1000 (.code c) [] (M6 args))):Calls P f args.toArray w R:=
 Iw hf hb m hm (AcF hn) fun ρ hB=>by
  obtain rfl:ρ=M6 args:=funext hB.get;refine wpF_mono (adv_ok _ _ _ _ h).wp fun e ρ w hx=> ?_;cases e <;> exact hx
theorem Gg{fn:Func}{R:Aej->Acs->Prop}(hrs:fn.results = #[])(hR:R (.returned (.tuple #[])) w):AU P n u (C9 P fn R) w (.ret ρ):=EP [] hrs [] _ rfl trivial hR
theorem AD{fn:Func}{R:Aej->Acs->Prop}{t:Tmp}{v:Acr}(hrs:fn.results = #[.tmp t])(h:ρ t=v)(hR:R (.returned v) w):AU P n u (C9 P fn R) w (.ret ρ):=EP [.tmp t] hrs [v] v rfl ⟨h,trivial⟩ hR
theorem DS{fn:Func}{R:Aej->Acs->Prop}{t t2:Tmp}{v x:Acr}(hrs:fn.results = #[.tmp t, .tmp t2])(h:ρ t=v)(hx:ρ t2=x)(hR:R (.returned (.tuple #[v,x])) w):AU P n u (C9 P fn R) w (.ret ρ):=EP [.tmp t, .tmp t2] hrs [v,x] _ rfl ⟨h,hx,trivial⟩ hR
theorem Ky{fn:Func}{R:Aej->Acs->Prop}{t t2 t3:Tmp}{v x z:Acr}(hrs:fn.results = #[.tmp t, .tmp t2, .tmp t3])(h:ρ t=v)(hx:ρ t2=x)(hz:ρ t3=z)(hR:R (.returned (.tuple #[v,x,z])) w):AU P n u (C9 P fn R) w (.ret ρ):=EP [.tmp t, .tmp t2, .tmp t3] hrs [v,x,z] _ rfl ⟨h,hx,hz,trivial⟩ hR
theorem Ie{fn:Func}{R:Aej->Acs->Prop}{r:ResultVar}{v:Acr}(hrs:fn.results = #[r])(h:ResF P ρ w r v)(hR:R (.returned v) w):AU P n u (C9 P fn R) w (.ret ρ):=EP [r] hrs [v] v rfl ⟨h,trivial⟩ hR
theorem VR{fn:Func}{R:Aej->Acs->Prop}{r r2:ResultVar}{v x:Acr}(hrs:fn.results = #[r,r2])(h:ResF P ρ w r v)(hx:ResF P ρ w r2 x)(hR:R (.returned (.tuple #[v,x])) w):AU P n u (C9 P fn R) w (.ret ρ):=EP [r,r2] hrs [v,x] _ rfl ⟨h,hx,trivial⟩ hR
end
structure Eu {α : Type} (P : AcN) (t : Acz) (enc : α -> List Acr) : Prop where
 ty:∃fs,P.underlying t=some (.struct fs)
 sz:∀x,(P.info? t).map (·.size)=some (enc x).toArray.size
section
variable {P : AcN} {K : Acr -> Acs -> Prop} {ρ : Ah} {w : Acs} {d : Option Tmp} {ty : Acz} {pos : String} {af : Array Adk} {gd : Option (Nat × Bool)} {α : Type} {enc : α -> List Acr} {t : Acz} {p q : AcD} {g : Nat} {a b : α}
theorem Zg{fr:Nat × Nat}(hT:Eu P t enc)(hx:Ab ρ p = .pointer (some ⟨g,0,none⟩))(hg:w.heap[g]? =some (.cells (enc a).toArray t fr))(hk:K (.agg (enc a).toArray) w):Yk P K ((execOp (Ab ρ) ⟨d, .load t p,ty,pos,af,gd⟩).run P w):=by
 obtain⟨fs,h⟩:=hT.ty;exact Zs hx hg h rfl (hT.sz a) hk
theorem Za(hT:Eu P t enc)(hx:Ab ρ p = .pointer (some ⟨g,0,none⟩))(hy:Ab ρ q = .agg (enc a).toArray)(hg:w.heap[g]? =some (.cells (enc b).toArray t (0,0)))(h1:∀v∈(enc a).toArray.toList,v.oneCell' =true) 
  (hk:∀w',w'.heap[g]? =some (.cells (enc a).toArray t (0,0))->w.grownBy w' (some g)->w'.heap.size=w.heap.size->K undef w'):Yk P K ((execOp (Ab ρ) ⟨d, .store t p q,ty,pos,af,gd⟩).run P w):=
 Zb hx hy hg (AcY ((hT.sz a).symm.trans (hT.sz b))) (hT.sz a) h1 hk
end
theorem EH(n:Nat)(h:n<2147483648):IntKind.i32.wrap (n:Int)=(n:Int):=IntWalk.i32_in _ ⟨by omega,by omega⟩
theorem Xm(t:Acz)(a b:Nat)(ha:a<2147483648)(hb:b<2147483648):Adb .or t (.int .i32 (a:Int)) (.int .i32 (b:Int))=pure (.int .i32 ((a|||b:Nat):Int)):=by
 unfold Adb;simp only[ne_eq,not_true_eq_false,if_false,Op.intBits,IntKind.bits,BitVec.ofInt_natCast];have h1:(Ae1 32 a|||Ae1 32 b).toNat=a|||b:=by
  rw[BitVec.toNat_or,AfB,AfB,AfJ (by omega),AfJ (by omega)]
 show pure (AeJ .i32 (IntKind.i32.wrap (((Ae1 32 a|||Ae1 32 b).toNat:Nat):Int)))=_;rw[h1,EH _ (Nat.or_lt_two_pow (n:=31) ha hb)]
theorem Wg(t:Acz)(a:Nat)(j:AdI)(n:Nat)(hn:n<32)(h:a*2^n<2147483648):Adb .shl t (.int .i32 (a:Int)) (.int j (n:Int))=pure (.int .i32 ((a*2^n:Nat):Int)):=by
 unfold Adb;simp only[Op.shift,IntKind.bits];rw[if_neg (by omega),AcX,Ae7 (by omega)];have:(a:Int)*2^n=((a*2^n:Nat):Int):=by simp
 rw[this,EH _ h]
/-! ### A string, rune by rune -/
theorem Kz{w:Acs}{g p:Nat}{s:ByteArray}(h:w.heap[g]? =some (.stringIter s p)):w.iterPos g=p:=by simp[World.iterPos,h]
theorem KA(l:AhU):(⟨l.toArray⟩:ByteArray).size=l.length:=by show l.toArray.size=_;simp
theorem Wh(s:ByteArray)(p:Nat)(h:p<s.size):1<=(Utf8.decode s p).2:=by
 by_cases hc:(s[p]'h).toNat<128
 ·rw[decode_ascii s p h hc];exact Acy 1
 ·exact(decode_high s p h (by omega)).2
section
variable {P : AcN} {K : Acr -> Acs -> Prop} {ρ : Ah} {w : Acs} {d : Option Tmp} {ty : Acz} {pos : String} {af : Array Adk} {gd : Option (Nat × Bool)}
theorem Aa2{t:Acz}(ht:P.underlying t=some .string){x:AcD}{l:AhU}(hx:Ab ρ x=St l) 
  (hk:∀n w',w.heap.size=n->w'.heap[n]? =some (.stringIter ⟨l.toArray⟩ 0)->Ext w w' ->w'.heap.size=n+1->K (.pointer (some ⟨n,0,none⟩)) w'):Yk P K ((execOp (Ab ρ) ⟨d, .range t x,ty,pos,af,gd⟩).run P w):=by
 have hr:(execOp (Ab ρ) ⟨d, .range t x,ty,pos,af,gd⟩).run P w = .ok (.value (.pointer (some ⟨w.heap.size,0,none⟩))) (w.iter ⟨l.toArray⟩ 0):=by
  unfold execOp;simp only[hx,AcC,show(Instr.range t (St l)).run P w=_ from run_range_string w t _ ht,AcB,AcE]
 rw[hr];exact hk _ _ rfl (World.iter_heap _ _ _) ((Adp _ _).alloc (Acy _) _) (by simp[World.iter])
theorem Abf{x:AcD}{g:Nat}{l:AhU}{p:Nat}(hx:Ab ρ x = .pointer (some ⟨g,0,none⟩))(hg:w.heap[g]? =some (.stringIter ⟨l.toArray⟩ p))(hp:p<l.length) 
  (hk:∀q r w',p<q->w'.heap[g]? =some (.stringIter ⟨l.toArray⟩ q)->w.grownBy w' (some g)->w'.heap.size=w.heap.size->K (.tuple #[.bool true,NI p, .int .i32 ((r:Nat):Int)]) w'):Yk P K ((execOp (Ab ρ) ⟨d, .next x true,ty,pos,af,gd⟩).run P w):=by
 have hlt:p<(⟨l.toArray⟩:ByteArray).size:=by rw[KA];exact hp
 have hr:(Afo (.pointer (some ⟨g,0,none⟩)) true ty).run P w = .ok (.tuple #[.bool true,NI p, .int .i32 ((Utf8.decode ⟨l.toArray⟩ p).1:Nat)]) { w with heap:=w.heap.setIfInBounds g (.stringIter ⟨l.toArray⟩ (p+(Utf8.decode ⟨l.toArray⟩ p).2)) } :=by
  simp only[Afo,getObj,setObj,AcC,Sem.run,hg,Adj,hlt,if_true];simp[goInt,NI]
 unfold execOp;simp only[hx,hr,AcC,AcB,AcE];have hb:=(Adg.1 hg).1;refine hk _ _ _ (Nat.lt_add_of_pos_right (Wh _ _ hlt)) ?_ ⟨rfl,rfl,rfl,by simp,fun k _ hk=> ?_⟩ (by simp)
 ·simp[hb]
 ·exact Array.getElem?_setIfInBounds_ne (fun e=>hk (by rw[e]))
theorem Aa3{x:AcD}{g:Nat}{l:AhU}{p:Nat}(hx:Ab ρ x = .pointer (some ⟨g,0,none⟩))(hg:w.heap[g]? =some (.stringIter ⟨l.toArray⟩ p))(hp:¬p<l.length) 
  (hk:K (.tuple #[.bool false]) w):Yk P K ((execOp (Ab ρ) ⟨d, .next x true,ty,pos,af,gd⟩).run P w):=by
 have hlt:¬p<(⟨l.toArray⟩:ByteArray).size:=by rw[KA];exact hp
 have hr:(Afo (.pointer (some ⟨g,0,none⟩)) true ty).run P w = .ok (.tuple #[.bool false]) w:=by
  simp[Afo,getObj,Sem.run,hg,hlt]
 unfold execOp;simp only[hx,hr,AcC,AcB,AcE];exact hk
end
/-! ### Is it a text? -/
def Dm(c:UInt8):Option (Nat × Nat × Nat):=
 if c.toNat<128 then some (0,c.toNat,0)else if 192<=c.toNat/\c.toNat<224 then some (1,c.toNat&&&31,128)
 else if 224<=c.toNat/\c.toNat<240 then some (2,c.toNat&&&15,2048)else if 240<=c.toNat/\c.toNat<248 then some (3,c.toNat&&&7,65536)else none
def Fp(l:AhU)(p:Nat):Nat->Nat->Option Nat
 | 0,r=>some r
 | k+1,r=>if(l.getD p 0).toNat&&&192≠128 then none else Fp l (p+1) k (r*2^6|||((l.getD p 0).toNat&&&63))
def Ns(r:Nat):Bool:=(decide (0<=r)&&decide (r<=1114111))&&(decide (r<55296)||decide (57343<r))
def Er(l:AhU)(a:Nat):Option Nat:=
 match Dm (l.getD a 0)with
 | none=>none
 | some (n,r,m)=>if l.length-a<=n then none else
  match Fp l (a+1) n r with
  | none=>none
  | some q=>if m<=q/\Ns q=true then some (a+n+1)else none
def X9(o:Option (Nat × Nat × Nat)):Acr:=match o with
 | none=> .tuple #[.int .i64 (-1), .int .i32 0, .int .i32 0]
 | some (n,r,m)=> .tuple #[NI n, .int .i32 (r:Int), .int .i32 (m:Int)]
theorem RN{l:AhU}{p i n q:Nat}(hi:i<n)(h:(l.getD (p+i) 0).toNat&&&192≠128):Fp l (p+i) (n-i) q=none:=by
 rw[show n-i=(n-i-1)+1 by omega];exact if_pos h
theorem P5{l:AhU}{p i n q:Nat}(hi:i<n)(h:(l.getD (p+i) 0).toNat&&&192=128):Fp l (p+i) (n-i) q=Fp l (p+(i+1)) (n-(i+1)) (q*2^6|||((l.getD (p+i) 0).toNat&&&63)):=by
 rw[show n-i=(n-(i+1))+1 by omega];exact if_neg (fun e=>e h)
theorem OT{q i c:Nat}(h:q<2^(7+6*i)):q*2^6|||(c&&&63)<2^(7+6*(i+1)):=by
 refine Nat.or_lt_two_pow ?_ (Aet Aer ?_)
 ·rw[show 7+6*(i+1)=(7+6*i)+6 by omega,Nat.pow_add];exact Nat.mul_lt_mul_of_pos_right h (by decide)
 ·exact Nat.lt_of_lt_of_le (show 63<2^7 by decide) (Aeb (by decide) (by omega))
theorem Jt{q i n:Nat}(h:q<2^(7+6*i))(hi:i<n)(hn:n<=3):q*2^6<2147483648:=by
 have:2^(7+6*i)<=2^19:=Aeb (by decide) (by omega);omega
theorem VS(c:Nat):c&&&63<2147483648:=Aet Aer (by decide)
theorem RO{l:AhU}{a:Nat}(h:Dm (l.getD a 0)=none):Er l a=none:=by unfold Er;rw[h]
theorem P6{l:AhU}{a n r m:Nat}(h:Dm (l.getD a 0)=some (n,r,m))(hs:l.length-a<=n):Er l a=none:=by unfold Er;rw[h];exact if_pos hs
theorem TU{l:AhU}{a n r m:Nat}(h:Dm (l.getD a 0)=some (n,r,m))(ht:Fp l (a+1) n r=none):Er l a=none:=by
 unfold Er;rw[h];simp only[ht];exact ite_self _
theorem Wi{l:AhU}{a n r m q:Nat}(h:Dm (l.getD a 0)=some (n,r,m))(hs:¬l.length-a<=n)(ht:Fp l (a+1) n r=some q):Er l a=if(decide (m<=q)&&Ns q)=true then some (a+n+1)else none:=by
 unfold Er;rw[h];simp only[ht,if_neg hs,Bool.and_eq_true,decide_eq_true_eq]
theorem Lr{l:AhU}{a b:Nat}(h:Er l a=some b):a<b/\b<=l.length:=by
 unfold Er at h;split at h
 ·cases h
 ·split at h
  ·cases h
  ·split at h
   ·cases h
   ·split at h
    ·cases h;omega
    ·cases h
def Es(l:AhU)(a:Nat):Bool:=
 if a<l.length then
  match _h:Er l a with
  | none=>false
  | some b=>Es l b
 else true
termination_by l.length-a
decreasing_by have:=Lr (by assumption);omega
theorem J3{l:AhU}{a:Nat}(h:¬a<l.length):Es l a=true:=by rw[Es,if_neg h]
theorem RP{l:AhU}{a:Nat}(ha:a<l.length)(h:Er l a=none):Es l a=false:=by
 rw[Es,if_pos ha];split
 ·rfl
 ·rename_i h2;rw[h]at h2;cases h2
theorem LP{l:AhU}{a b:Nat}(ha:a<l.length)(h:Er l a=some b):Es l a=Es l b:=by
 rw[Es,if_pos ha];split
 ·rename_i h2;rw[h]at h2;cases h2
 ·rename_i h2;rw[h]at h2;cases h2;rfl
def Cl(l:AhU):Bool:=decide (l.length<=256)&&Es l 0
theorem P7{c:UInt8}{n r m:Nat}(h:Dm c=some (n,r,m)):n<=3/\r<2^7/\(0<n->r<2^5)/\m<=65536:=by
 have hm:c.toNat&&&31<=31/\c.toNat&&&15<=15/\c.toNat&&&7<=7:=⟨Aer,Aer,Aer⟩;unfold Dm at h;split at h
 ·cases h;omega
 ·split at h
  ·cases h;omega
  ·split at h
   ·cases h;omega
   ·split at h
    ·cases h;omega
    ·cases h
def AP(k:Nat):AhU->Option (Nat × Nat)
 | []=>none
 | c :: r=>if 128<=c.toNat then(if 8<=k then none else(AP (k+1) r).map (fun x=>(c.toNat-128+128*x.1,x.2+1)))
  else if c.toNat=0/\0<k then none else some (c.toNat,1)
theorem Hu:∀(l:AhU) (k:Nat) (x:Nat × Nat),AP k l=some x->1<=x.2/\x.2<=l.length/\x.2+k<=max 9 (k+1)
 | [],k,x,h=>by simp[AP]at h
 | c :: r,k,x,h=>by
  unfold AP at h;split at h
  ·split at h
   ·cases h
   ·obtain⟨y,hy,rfl⟩:=Aem.1 h;have:=Hu r (k+1) y hy;simp;omega
  ·split at h
   ·cases h
   ·cases h;simp;omega
theorem LQ:∀(l:AhU) (k:Nat) (x:Nat × Nat),AP k l=some x->x.1<128^x.2
 | [],k,x,h=>by simp[AP]at h
 | c :: r,k,x,h=>by
  unfold AP at h;split at h
  ·split at h
   ·cases h
   ·obtain⟨y,hy,rfl⟩:=Aem.1 h;have:=LQ r (k+1) y hy;have hc:=c.toNat_lt;simp only[Nat.pow_succ];omega
  ·split at h
   ·cases h
   ·cases h;simp;omega
theorem Eh(rest:AhU):∀(m n k:Nat),n<128^(m+1)->m+k<=8->(0<k->0<n)->AP k (AcT n++rest)=some (n,(AcT n).length)
 | m,n,k,hn,hk,h0=>by
  by_cases h:n<128
  ·rw[Lib.uvarint_small h];have:(n.toUInt8).toNat=n:=by simp[Nat.toUInt8,UInt8.toNat_ofNat'];omega
   simp only[Ac3,AP,this];rw[if_neg (by omega),if_neg (by omega)];simp
  ·have hb:((n%128+128).toUInt8).toNat=n%128+128:=by simp[Nat.toUInt8,UInt8.toNat_ofNat'];omega
   rw[Lib.uvarint_big (by omega)];simp only[Ac3,AP,hb]
   match m,hn,hk with
   | 0,hn,_=>simp at hn;omega
   | m+1,hn,hk=>
    rw[if_pos (by omega),if_neg (by omega),Eh rest m (n/128) (k+1) (by rw[Nat.pow_succ]at hn;exact Nat.div_lt_of_lt_mul (by rw[Agu];exact hn)) (by omega) (fun _=>by omega)];simp;omega
theorem P8:∀w' :Acs,(sizeOf 5).run Acu w' = .ok 1 w' :=fun _=>by kernel_rfl
def Ev(a:Nat):Option (Nat × Nat)->Acr
 | some x=> .tuple #[.int .i64 x.1, .int .i64 ↑(a+x.2), .int .i64 0]
 | none=> .tuple #[.int .i64 0, .int .i64 0, .int .i64 6]
theorem Hv(y k:Nat)(hy:y<128)(hk:k<=8):IntKind.u64.wrap ((y:Int)*2^(7*k))=((y*2^(7*k):Nat):Int):=by
 have h1:y*2^(7*k)<=127*2^56:=Af4 (by omega) (Aeb (by decide) (by omega));have e:((y:Int)*2^(7*k))=((y*2^(7*k):Nat):Int):=by push_cast;rfl
 rw[e];exact IntWalk.u64_in _ ⟨by omega,by omega⟩
theorem Nt(out y k:Nat)(hout:out<2^(7*k))(hy:y<128)(hk:k<=8):bits .or .u64 (out:Int) ((y*2^(7*k):Nat):Int)=((out+2^(7*k)*y:Nat):Int):=by
 have h1:y*2^(7*k)<=127*2^56:=Af4 (by omega) (Aeb (by decide) (by omega));have h2:2^(7*k)<=2^56:=Aeb (by decide) (by omega);have h:=(bits_nat .u64 64 (by decide) wraps_u64 out (y*2^(7*k)) (by omega) (by omega)).2;rw[h]
 congr 1
 have h3:=Nat.shiftLeft_add_eq_or_of_lt hout y;rw[Nat.shiftLeft_eq]at h3;rw[Nat.or_comm,<-h3,Agu];omega
set_option maxRecDepth 100000 in
theorem P9:∀n:Fin 128,bits .andNot .u8 ((n.val+128:Nat):Int) 128=(n.val:Int):=by decide+kernel
theorem Nu(c:Nat)(h:128<=c)(h2:c<256):IntKind.u64.wrap (bits .andNot .u8 (c:Int) 128)=((c-128:Nat):Int):=by
 have h1:=P9 ⟨c-128,by omega⟩;have e:c-128+128=c:=by omega
 simp only[e]at h1;rw[h1];exact IntWalk.u64_in _ ⟨by omega,by omega⟩
theorem Nv(out y k:Nat)(hout:out<2^(7*k))(hy:y<128)(hk:k<=8):out+2^(7*k)*y<=9223372036854775807:=by
 have h1:2^(7*k)*y<=2^56*127:=Af4 (Aeb (by decide) (by omega)) (by omega);have h2:2^(7*k)<=2^56:=Aeb (by decide) (by omega);omega
theorem RQ(a k N c:Nat)(h:N+2^(7*k)*c<=9223372036854775807):
  AdW (.tuple #[.int .i64 (wrap64 ((N+2^(7*k)*c:Nat):Int)), .int .i64 ((a:Int)+(k:Int)+1), .int .i64 0]) = .returned (Ev a ((some (c,1)).map fun x=>(N+2^(7*k)*x.1,x.2+k))):=by
 rw[IntWalk.wrap64_in _ ⟨by omega,by omega⟩];have e:(a:Int)+(k:Int)+1=((a+(1+k):Nat):Int):=by omega
 rw[e];rfl
set_option maxRecDepth 100000 in
set_option maxHeartbeats 1000000 in
theorem Hc(w:Acs)(v:Acr)(l:AhU)(hr:RB w v l)(a:Nat)(ha:a<=l.length):
  Calls Acu 121 #[v, .int .i64 a] w fun e w' =>e = .returned (Ev a (AP 0 (l.drop a)))/\w=w' :=by
 have HR:=Ad6 hr;obtain⟨ao,cap,rfl,h2,h3⟩:=hr.len;clear hr;have hd:decide ((a:Int)<0)=false:=by simp
 have hd2:decide (l.length<a)=false:=by simp;omega
 obtain⟨L,hL⟩:∃L,L=l.drop a:=⟨_,rfl⟩;have hLn:l.length-a=L.length:=by rw[hL,AcU]
 rw[<-hL];have HLn:=Ad6 hLn;have HL:=Ad6 hL;clear hLn hL
 go_enter AhB,Ahm
 go_wp2_with fail
 go_step3
 go_wp2_with fail
 go_step3
 go_wp2_with (refine GY (o:=⟨some 21,_,_,_,_,_⟩) rfl _ _ (some _) none rfl G1 P8 _ l rfl HR.out a l.length ha (Acy _) (.inr ⟨.i64,rfl⟩) (.inl ⟨rfl,rfl⟩) ?_)
 intro ao' c' hr';rw[Ac7 (by rw[AcU];exact Acy _)]at hr';have HR' :=Ad6 hr';clear hr' hd hd2;rw[<-HL.out,HLn.out]at HR';rw[HLn.out];by_cases g:L.length=0
 ·have hL0:L= []:=Adn g;have HL0:=Ad6 hL0;clear hL0 HR' HR;have h00:decide (0<L.length)=false:=by simp[g]
  clear g
  go_wp2_with fail
  refine wp_loop_rounds 1 ?_;rw[rounds_succ]
  go_wp2
  rw[Exit.noGoto_ret]
  all_goals (go_ret3;exact⟨by rw[HL0.out];simp[AP,Ev],rfl⟩)
 obtain⟨b,off,cc,hv,hcap,hcap2,hbw,hcell⟩:=HR'.out.open_ (by omega);simp only[Value.slice.injEq,true_and]at hv;obtain⟨rfl,rfl⟩:=hv;have haL:a+L.length<=9223372036854775807:=by have:=HLn.out;omega
 clear HR' HR
 go_wp2_with fail
 go_loop [7,8,23] (fun vx vs vi=>∃k out:Nat,vi = .int .i64 k/\vs = .int .i64 ((7*k:Nat):Int)/\vx = .int .u64 out/\k<=L.length/\k<=8/\out<2^(7*k)/\AP 0 L=(AP k (L.drop k)).map (fun x=>(out+2^(7*k)*x.1,x.2+k)))
  (fun _ _ vi=>L.length-(intOf vi).toNat)
 case atStart=>exact⟨0,0,rfl,rfl,rfl,by omega,by omega,by decide,by simp⟩
 case round=>
  obtain⟨k,out,rfl,rfl,rfl,hk,f,hout,hdec⟩:=hrel;have HD:=Ad6 hdec;clear hdec;by_cases hkl:k<L.length
  ·have hc:=hcell k hkl;have hdrop:L.drop k=L[k] :: L.drop (k+1):=Aeu hkl;have hg:L.getD k 0=L[k]:=by simp[hkl]
   rw[hg]at hc
   generalize L[k]=c at hc hdrop
   have HDr:=Ad6 hdrop;have i:=c.toNat_lt;clear hcell hdrop hg;have HO:=Ad6 hout;clear hout;by_cases h128:128<=c.toNat
   ·by_cases hk8' :k=8
    ·subst hk8'
     go_wp2
     all_goals (go_ret3;exact⟨by rw[HD.out,HDr.out];simp[AP,h128,Ev],rfl⟩)
    ·have m:k<8:=by omega
     clear hk8'
     go_wp2
     go_round
     case rel=>
      have hp:2^(7*(k+1))=2^(7*k)*128:=by rw[show 7*(k+1)=7*k+7 from by omega,Nat.pow_add]
      refine⟨k+1,out+2^(7*k)*(c.toNat-128),by go_num,by go_num,?_,by omega,by omega,?_,?_⟩
      ·rw[Nu _ h128 i,Hv _ _ (by omega) (by omega),Nt _ _ _ HO.out (by omega) (by omega)]
      ·have h1:=HO.out;have h2:2^(7*k)*(c.toNat-128)<=2^(7*k)*127:=Nat.mul_le_mul_left _ (by omega);rw[hp];omega
      ·rw[HD.out,HDr.out];have:AP k (c :: L.drop (k+1))=(AP (k+1) (L.drop (k+1))).map (fun x=>(c.toNat-128+128*x.1,x.2+1)):=by
        simp only[AP];rw[if_pos h128,if_neg (by omega)]
       rw[this,Option.map_map]
       congr 1
       funext x
       simp only[Function.comp,Prod.mk.injEq];refine⟨?_,by omega⟩;rw[hp,Nat.mul_add,Nat.mul_assoc];omega
     case measure=>simp[intOf];omega
   ·have hlt:c.toNat<128:=by omega
    by_cases h0:c.toNat=0
    ·have hz:((c.toNat:Int)==0)=true:=by simp[h0]
     have HZ:=Ad6 h0;clear h0;by_cases h:0<k
     ·go_wp2
      all_goals (go_ret3;exact⟨by rw[HD.out,HDr.out];simp[AP,HZ.out,h,Ev],rfl⟩)
     ·have j:decide (0<k)=false:=by simp;omega
      clear h;have hd:AP k (c :: L.drop (k+1))=some (c.toNat,1):=by
       simp only[AP];rw[if_neg h128,if_neg (by simp at j;omega)]
      have HD2:=Ad6 hd;clear hd
      go_wp2
      all_goals go_ret3
      all_goals refine⟨?_,rfl⟩
      all_goals rw[Hv _ _ hlt f,Nt _ _ _ HO.out hlt f,HD.out,HDr.out,HD2.out]
      all_goals exact RQ a k _ _ (Nv _ _ _ HO.out hlt f)
    ·have hz:((c.toNat:Int)==0)=false:=by simp[h0]
     have HZ:=Ad6 h0;clear h0;have hd:AP k (c :: L.drop (k+1))=some (c.toNat,1):=by
      simp only[AP];rw[if_neg h128,if_neg (by have:=HZ.out;omega)]
     have HD2:=Ad6 hd;clear hd
     go_wp2
     all_goals go_ret3
     all_goals refine⟨?_,rfl⟩
     all_goals rw[Hv _ _ hlt f,Nt _ _ _ HO.out hlt f,HD.out,HDr.out,HD2.out]
     all_goals exact RQ a k _ _ (Nv _ _ _ HO.out hlt f)
  ·have hkl' :k=L.length:=by omega
   go_wp2
   all_goals (go_ret3;exact⟨by rw[HD.out,hkl'];simp[AP,Ev],rfl⟩)
theorem u5:Tryz.prog.underlying 5=some (.int .u8):=by kernel_rfl

theorem YG(w:Acs)(ao:Option Addr)(n c:Nat)(a:Int)(ha:a<0\/(n:Int)<a):
  Calls Acu 121 #[.slice ao n c, .int .i64 a] w fun e w' =>e = .returned (.tuple #[.int .i64 0, .int .i64 0, .int .i64 1])/\w=w' :=by
 by_cases h0:a<0
 ·have hd:decide (a<0)=true:=by simp[h0]
  clear ha
  go_enter AhB,Ahm
  go_wp2_with fail
  go_step3
  go_wp2_with fail
  rw[Exit.noGoto_ret]
  go_ret3
  exact⟨rfl,rfl⟩
 ·have hd:decide (a<0)=false:=by simp[h0]
  have h1:(n:Int)<a:=by omega
  have hd2:decide ((n:Int)<a)=true:=by simp[h1]
  clear ha
  go_enter AhB,Ahm
  go_wp2_with fail
  go_step3
  go_wp2_with fail
  rw[Exit.noGoto_ret]
  go_ret3
  exact⟨rfl,rfl⟩
def Bm(l:AhU)(a:Nat)(most:Int):Acr:=
 match AP 0 (l.drop a)with
 | none=> .tuple #[.string ⟨#[]⟩, .int .i64 0, .int .i64 6]
 | some x=>if most<x.1 then .tuple #[.string ⟨#[]⟩, .int .i64 0, .int .i64 2]
  else if l.length<a+x.2+x.1 then .tuple #[.string ⟨#[]⟩, .int .i64 0, .int .i64 6]
  else .tuple #[.string ⟨((l.drop (a+x.2)).take x.1).toArray⟩, .int .i64 ↑(a+x.2+x.1), .int .i64 0]
set_option maxRecDepth 100000 in
set_option maxHeartbeats 1000000 in
theorem CP(w:Acs)(v:Acr)(l:AhU)(hr:RB w v l)(a:Nat)(ha:a<=l.length)(most:Int):
  Calls Acu 76 #[v, .int .i64 a, .int .i64 most] w fun e w' =>e = .returned (Bm l a most)/\w=w' :=by
 have HR:=Ad6 hr;obtain⟨ao,cap,rfl,h2,h3⟩:=hr.len;clear hr;have HG:=Ad6 (Hc w _ l HR.out a ha);cases hL:AP 0 (l.drop a)with
 | none=>
  have hR:Bm l a most = .tuple #[.string ⟨#[]⟩, .int .i64 0, .int .i64 6]:=by unfold Bm;rw[hL]
  rw[hR];have HL:=Ad6 hL;clear hL hR
  go_enter Ag3,Agv
  go_wp2_with fail
  refine HG.out.mono ?_;rintro e w1 ⟨rfl,rfl⟩;rw[HL.out];unfold Ev
  go_wp2_with fail
  go_ret3
  exact⟨rfl,rfl⟩
 | some x=>
  obtain⟨n,m⟩:=x;have hp:=Hu _ _ _ hL;have hlt:=LQ _ _ _ hL;rw[AcU]at hp;have hm9:m<=9:=by have:=hp.2.2;simp at this;exact this
  have b:n<=9223372036854775807:=by
   have h1:128^m<=128^9:=Aeb (by decide) hm9;simp only at hlt;omega
  have hm1:1<=m:=hp.1;have hml:a+m<=l.length:=by have:=hp.2.1;simp at this;omega
  have HL:=Ad6 hL;clear hL hlt hp;by_cases hmost:most<n
  ·have hR:Bm l a most = .tuple #[.string ⟨#[]⟩, .int .i64 0, .int .i64 2]:=by unfold Bm;rw[HL.out];simp only[];rw[if_pos hmost]
   rw[hR];clear hR
   go_enter Ag3,Agv
   go_wp2_with fail
   refine HG.out.mono ?_;rintro e w1 ⟨rfl,rfl⟩;rw[HL.out];unfold Ev
   go_wp2_with fail
   go_ret3
   exact⟨rfl,rfl⟩
  ·by_cases hlen:l.length<a+m+n
   ·have hR:Bm l a most = .tuple #[.string ⟨#[]⟩, .int .i64 0, .int .i64 6]:=by unfold Bm;rw[HL.out];simp only[];rw[if_neg hmost,if_pos hlen]
    rw[hR];clear hR
    go_enter Ag3,Agv
    go_wp2_with fail
    refine HG.out.mono ?_;rintro e w1 ⟨rfl,rfl⟩;rw[HL.out];unfold Ev
    go_wp2_with fail
    go_ret3
    exact⟨rfl,rfl⟩
   ·have hR:Bm l a most = .tuple #[.string ⟨((l.drop (a+m)).take n).toArray⟩, .int .i64 ↑(a+m+n), .int .i64 0]:=by unfold Bm;rw[HL.out];simp only[];rw[if_neg hmost,if_neg hlen]
    rw[hR];clear hR
    go_enter Ag3,Agv
    go_wp2_with fail
    refine HG.out.mono ?_;rintro e w1 ⟨rfl,rfl⟩;rw[HL.out];unfold Ev;have hlh:a+m<=a+m+n:=Nat.le_add_right _ _;have hhl:a+m+n<=l.length:=by omega
    go_wp2_with (refine GY (o:=⟨some 38,_,_,_,_,_⟩) rfl _ _ (some _) (some _) rfl G1 P8 _ l rfl HR.out (a+m) (a+m+n) hlh hhl (.inr ⟨.i64,rfl⟩) (.inr ⟨.i64,rfl⟩) ?_)
    intro ao' c' hr';have HR' :=Ad6 hr';clear hr'
    go_wp2_with (refine OP (o:=⟨some 39,_,_,_,_,_⟩) rfl _ _ _ rfl G1 u5 Xc _ _ rfl HR'.out ?_)
    go_ret3
    exact⟨rfl,rfl⟩
theorem VT:Tryz.prog.underlying 33=some (.array 32 5):=by kernel_rfl
theorem RR:(Tryz.prog.info? 33).map (·.size)=some 32:=by kernel_rfl
theorem Xn:(Tryz.prog.info? 5).map (·.size)=some 1:=by kernel_rfl

def zero32:AhU:=Ady 32 0
theorem E2{l:AhU}(h:l.length=32):(Acv l).toArray.size=32:=by simp[Acv,h]
theorem Ar{l:AhU}(h:l.length=32):(Tryz.prog.info? 33).map (·.size)=some (Acv l).toArray.size:=by rw[E2 h];exact RR
theorem Qa:zero32.length=32:=Ade

theorem Pv(ρ:AcD->Acr)(d:Option Tmp)(ty:Acz)(pos:String)(af:Array Adk)(w:Acs):(execOp ρ ⟨d, .alloc 33,ty,pos,af,none⟩).run Acu w = .ok (.value (.pointer (some ⟨w.heap.size,0,none⟩))) (w.alloc (.cells (Acv zero32).toArray 33)):=by kernel_rfl

def DB(l:AhU)(a:Nat):Acr:=
 if l.length-a<32 then .tuple #[.agg (Acv zero32).toArray, .int .i64 0, .int .i64 6]
 else .tuple #[.agg (Acv ((l.drop a).take 32)).toArray, .int .i64 ↑(a+32), .int .i64 0]
set_option maxRecDepth 100000 in
set_option maxHeartbeats 1000000 in
theorem Hw(w:Acs)(v:Acr)(l:AhU)(hr:RB w v l)(a:Nat)(ha:a<=l.length):
  Calls Acu 183 #[v, .int .i64 a] w fun e w' =>e = .returned (DB l a)/\Ext w w' :=by
 have HR:=Ad6 hr;obtain⟨ao,cap,rfl,h2,h3⟩:=hr.len;clear hr;have hd:decide ((a:Int)<0)=false:=by simp
 have hd2:decide (l.length<a)=false:=by simp;omega
 by_cases hs:l.length-a<32
 ·have hR:DB l a = .tuple #[.agg (Acv zero32).toArray, .int .i64 0, .int .i64 6]:=by unfold DB;rw[if_pos hs]
  rw[hR];clear hR
  go_enter Tryz.func183,Tryz.ntmps183
  have HSI:=Ad6 (Ar Qa)
  go_wp2_with (first | (refine Il (o:=⟨some 4, .alloc _,_,_,_,_⟩) rfl _ _ (Pv _ _ _ _ _ _) ?_) | (refine wpList_load_row (o:=⟨some 21,_,_,_,_,_⟩) rfl _ _ rfl w.heap.size rfl _ _ _ _ (heap_alloc_new w _) VT rfl HSI.out ?_) | (refine FQ (o:=⟨none, .store _ _ _,_,_,_,_⟩) rfl _ _ _ rfl w.heap.size rfl (Acv zero32).toArray 33 rfl (heap_alloc_new w _) HSI.out (Ax zero32) ?_))
  refine bodyPost_ret (v:= .tuple #[.agg (Acv zero32).toArray, .int .i64 0, .int .i64 6]) (Ic Tryz.results183 _ _ w.heap.size 33 (Acv zero32).toArray (0,0) _ rfl (heap_alloc_new w _) VT rfl HSI.out) rfl ⟨rfl,(Adp _ _).alloc (Acy _) _⟩
 ·have hR:DB l a = .tuple #[.agg (Acv ((l.drop a).take 32)).toArray, .int .i64 ↑(a+32), .int .i64 0]:=by unfold DB;rw[if_neg hs]
  rw[hR];clear hR
  go_enter Tryz.func183,Tryz.ntmps183
  go_wp2_with (refine Il (o:=⟨some 4, .alloc _,_,_,_,_⟩) rfl _ _ (Pv _ _ _ _ _ _) ?_)
  have hal:a+32<=l.length:=by omega
  obtain⟨w0,hw0⟩:∃w0,w0=w.alloc (.cells (Acv zero32).toArray 33):=⟨_,rfl⟩;have hbox:w0.heap[w.heap.size]? =some (.cells (Acv zero32).toArray 33 (0,0)):=by rw[hw0];exact heap_alloc_new w _
  have hsz:w0.heap.size=w.heap.size+1:=by rw[hw0];simp
  have b:Below w.heap.size w w0:=by rw[hw0];exact(Adp _ _).alloc (Acy _) _
  rw[<-hw0];clear hw0;have c:((l.drop a).take 32).length=32:=by rw[AcS,AcU];omega
  have HL32:=Ad6 c;clear c hd hd2;refine Lm [4] (fun n=>if n=4 then [3]else []) (fun w' =>Below w.heap.size w0 w' /\∃cur:Array Acr,cur.size=32/\w'.heap[w.heap.size]? =some (.cells cur 33 (0,0)))
   (fun w1 w2=>w1.grownBy w2 (some w.heap.size)/\((∃cur:Array Acr,cur.size=32/\w1.heap[w.heap.size]? =some (.cells cur 33 (0,0)))->∃cur:Array Acr,cur.size=32/\w2.heap[w.heap.size]? =some (.cells cur 33 (0,0))))
   [Is (.slice (some ⟨w.heap.size,0,none⟩) 32 32),Is (.slice ao l.length cap),Is (.int .i64 a),(fun x w' =>RB w' x (l.drop a)),(fun _ w' =>w'.heap[w.heap.size]? =some (.cells (Acv ((l.drop a).take 32)).toArray 33 (0,0)))]
   (by kernel_rfl) _ _ (by kernel_rfl) (by kernel_rfl) [22,23,24,25,26] (by kernel_rfl)
   (fun w1 w2 h k=>⟨h.1.trans (k.mono (by have:=h.1.size;have:=hsz;omega)),by obtain⟨cur,h1,h2⟩:=h.2;exact⟨cur,h1,(k.block _ (Adg.1 h2).1).trans h2⟩⟩)
   (fun w1 w2 h k=>⟨h.1.grown k.1 (by have:=h.1.size;have:=hsz;omega) (fun _ e=>by cases e;exact Acy _),k.2 h.2⟩) (fun w=>⟨World.grownBy.refl _ _,fun h=>h⟩) ⟨(Adp _ _).drew,_,E2 rfl,hbox⟩ ?hst ?hsk ?hs ?hQ
  case hst=>
   refine⟨Y7 _,Y7 _,Y7 _,Stab.rb _,fun v w1 w2 h k=> ?_,trivial⟩;have h' :w1.heap[w.heap.size]? =_:=h;exact(k.block _ (Adg.1 h').1).trans h'
  case hsk=>
   intro n i hn hi hk hne hb;simp at hn;subst hn
   match i,hi,hk,hne,hb with
   | 0,_,_,_,_=>exact Y7 _
   | 1,_,_,_,_=>exact Y7 _
   | 2,_,_,_,_=>exact Y7 _
   | 3,_,hk,_,_=>simp at hk
   | 4,_,_,hne,_=>simp at hne
  case hs=>
   refine⟨?_,?_,?_,?_,?_,trivial⟩
   ·refine Gb rfl fun ρ w1 hC h=> ?_;have h4:ρ 4 = .pointer (some ⟨w.heap.size,0,none⟩):=h 4 (by decide);refine AbK (v:= .slice (some ⟨w.heap.size,0,none⟩) 32 32) (w' :=w1) ?_ ⟨AbE _,rfl⟩;clear h hC;simp[execOp,Ab,h4,go_sem]
   ·refine Gb rfl fun ρ w1 hC h=> ?_;have h0:ρ 0 = .slice ao l.length cap:=h 0 (by decide);exact⟨AbE _,h0⟩
   ·refine Gb rfl fun ρ w1 hC h=> ?_;have h0:ρ 1 = .int .i64 a:=h 1 (by decide);exact⟨AbE _,h0⟩
   ·refine Gb rfl fun ρ w1 hC h=> ?_;have h23:ρ 23 = .slice ao l.length cap:=h 23 (by decide);have h24:ρ 24 = .int .i64 a:=h 24 (by decide);have f:RB w1 (Ab ρ (.tmp 23)) l:=by show RB w1 (ρ 23) l;rw[h23];exact HR.out.keep (b.trans hC.1)
    refine AaZ G1 P8 f a l.length ha (Acy _) (.inr ⟨.i64,by simp[Ab,h24]⟩) (.inl ⟨rfl,rfl⟩) ?_;intro ao' c' hr';rw[Ac7 (by rw[AcU];exact Acy _)]at hr';exact⟨AbE _,hr'⟩
   ·refine Gb rfl fun ρ w1 hC h=> ?_;have h22:ρ 22 = .slice (some ⟨w.heap.size,0,none⟩) 32 32:=h 22 (by decide);have h25:RB w1 (ρ 25) (l.drop a):=h 25 (by decide);obtain⟨hC1,cur,hcs,hcb⟩:=hC;have hm:Ae5 (l.drop a).length 32=32:=Nat.min_eq_right (by rw[AcU];exact Nat.le_sub_of_add_le (by rw[Nat.add_comm];exact hal));have hfit:0+Ae5 (l.drop a).length 32<=cur.size:=by rw[hm,hcs];exact Acy _
    refine Abo (.tmp 22) (.tmp 25) (o:=0) G1 Xn h22 h25 hcb hfit ?_;have e:(cur.toList.take 0++Acv ((l.drop a).take 32)++cur.toList.drop (0+Ae5 (l.drop a).length 32)).toArray=(Acv ((l.drop a).take 32)).toArray:=by
     have hd0:cur.toList.drop (0+32)= []:=Ael (AfS (by rw[AdZ,hcs]));rw[hm,hd0];simp
    rw[e];have hw:=setRow_heap w1 w.heap.size cur (Acv ((l.drop a).take 32)).toArray 33 (0,0) hcb;exact⟨⟨⟨rfl,rfl,rfl,by simp,fun k _ hk=>setRow_other w1 w.heap.size k _ (fun e=>hk (by rw[e]))⟩,fun _=>⟨_,E2 HL32.out,hw⟩⟩,hw⟩
  case hQ=>
   intro u w1 hC hE;obtain⟨-,-,-,-,h26,-⟩:=hE;have hblk:w1.heap[w.heap.size]? =some (.cells (Acv ((l.drop a).take 32)).toArray 33 (0,0)):=h26;clear h26;simp only[Dz,List.foldl_cons,List.foldl_nil,List.setIfInBounds_toArray,List.set_cons_zero,List.set_cons_succ];have hsi:(Tryz.prog.info? 33).map (·.size)=some (Acv ((l.drop a).take 32)).toArray.size:=by rw[E2 HL32.out];exact RR
   have HB:=Ad6 hblk;clear hblk;have HSI:=Ad6 hsi;clear hsi
   go_wp2_with (first | (refine wpList_load_row (o:=⟨some 27,_,_,_,_,_⟩) rfl _ _ rfl w.heap.size rfl _ _ _ _ HB.out VT rfl HSI.out ?_) | (refine FQ (o:=⟨none, .store _ _ _,_,_,_,_⟩) rfl _ _ _ rfl w.heap.size rfl (Acv ((l.drop a).take 32)).toArray 33 rfl HB.out HSI.out (Ax _) ?_))
   refine bodyPost_ret (v:= .tuple #[.agg (Acv ((l.drop a).take 32)).toArray, .int .i64 ↑(a+32), .int .i64 0]) ?_ rfl ⟨rfl,b.trans hC.1⟩;exact Ic Tryz.results183 _ _ w.heap.size 33 _ (0,0) _ rfl HB.out VT rfl HSI.out
def I9(c:UInt8):Bool:=((((((decide (97<=c.toNat))&&(decide (c.toNat<=122)))||((decide (65<=c.toNat))&&(decide (c.toNat<=90))))||((decide (48<=c.toNat))&&(decide (c.toNat<=57))))||(decide (c.toNat=45)))||(decide (c.toNat=95)))||(decide (c.toNat=46))
def Hx(s:Bs):Bool:=(((decide (s.length<1)||decide (32<s.length))||decide ((s.getD 0 0).toNat=46))||decide ((s.getD 0 0).toNat=45))||decide (s= [72,69,65,68])
def Au(s:Bs):Bool:= !Hx s&&s.all I9
theorem Qb{s:Bs}(h:Hx s=true):Au s=false:=by unfold Au;rw[h];rfl
theorem LR{s:Bs}(h:Hx s=false):1<=s.length/\s.length<=32:=by
 unfold Hx at h;simp only[Bool.or_eq_false_iff,decide_eq_false_iff_not]at h;omega
theorem D5{s:Bs}(h:Au s=true):1<=s.length/\s.length<=32:=by
 unfold Au at h;refine LR ?_;cases hh:Hx s with
 | false=>rfl
 | true=>rw[hh]at h;cases h
theorem RS{s:Bs}{i:Nat}(hi:i<s.length)(h:I9 (s.getD i 0)=false):Au s=false:=by
 unfold Au;rw[Bool.and_eq_false_iff];refine .inr ?_;rw[List.all_eq_false];refine⟨s.getD i 0,?_,by rw[h];decide⟩;rw[AcA,AcG hi];exact AdX hi
theorem TV{α:Type}{l:List α}{f:α->Bool}{i:Nat}(d:α)(hi:i<l.length)(h:(l.take i).all f=true)(h1:f (l.getD i d)=true):(l.take (i+1)).all f=true:=by
 rw[List.take_succ_eq_append_getElem hi,List.all_append,h];rw[AcA,AcG hi]at h1;simp only[Option.getD_some]at h1;simp[h1]
theorem RT{s:Bs}{i:Nat}(h:Hx s=false)(hi:s.length<=i)(ha:(s.take i).all I9=true):Au s=true:=by
 unfold Au;rw[h,Ac7 hi]at *;rw[ha];rfl
set_option maxRecDepth 100000
theorem Fw:Tryz.prog.underlying 21=some (.int .i32):=by kernel_rfl
theorem EI:Tryz.prog.underlying 9=some (.string):=by kernel_rfl
theorem KB:Plain Acu 191:=fun _ _=>by kernel_rfl
theorem Qc:Plain Acu 192:=fun _ _=>by kernel_rfl
theorem Qd:Plain Acu 153:=fun _ _=>by kernel_rfl
theorem KC:Plain Acu 130:=fun _ _=>by kernel_rfl
theorem RU:Plain Acu 88:=fun _ _=>by kernel_rfl
theorem RV:Plain Acu 87:=fun _ _=>by kernel_rfl
set_option maxHeartbeats 1600000
theorem Qe(w:Acs)(r:Nat):
  Calls Acu 192 #[.int .i32 (r:Int)] w fun e w' =>e = .returned (.bool (Ns r))/\Ext w w' :=by
 refine FT (args:= [.int .i32 ((r:Nat):Int)]) Tryz.func192 rfl 17 rfl rfl ?_;have hE:=AbE w;refine gS (YX (a:=(r:Nat)) (b:=(0:Nat)) rfl rfl (Fl _ _ _ _) (gO fun _=>Ae (.int .i32 ((r:Nat):Int)) rfl rfl (gT rfl) (fun hG3=>AbL rfl ⟨rfl,rfl⟩) (As (gO fun _=>Ae (.bool (decide ((r)<=(1114111)))) rfl rfl (gT rfl) (fun hG4=>YX (a:=((r:Nat):Int)) (b:=((1114111:Nat):Int)) (Ai rfl hG4) rfl (EA _ .i32 (r) (1114111)) ⟨rfl,rfl⟩) (As (gS (Zf rfl (fun hA=>(Ai rfl hA)) rfl fun bb5 hbb6=>(gO fun _=>Ae (.int .i32 ((r:Nat):Int)) rfl rfl (gT rfl) (fun hG7=>AbL rfl ⟨rfl,rfl⟩) (As (gO fun _=>Ae (.bool (decide ((r)<(55296)))) rfl rfl (gT rfl) (fun hG8=>YX (a:=((r:Nat):Int)) (b:=((55296:Nat):Int)) (Ai rfl hG8) rfl (Bf _ .i32 (r) (55296)) ⟨rfl,rfl⟩) (As (gO fun _=>Ae (.bool (decide ((r)<(55296)))) rfl rfl (gT rfl) (fun hG9=>AbL (Ai rfl hG9) ⟨rfl,rfl⟩) (As (gO fun _=>Ae (.int .i32 ((r:Nat):Int)) rfl rfl (Fb rfl) (fun hG10=>AbL rfl ⟨rfl,rfl⟩) (As (gO fun _=>Ae (.bool (decide ((57343)<(r)))) rfl rfl (Fb rfl) (fun hG11=>YX (a:=((r:Nat):Int)) (b:=((57343:Nat):Int)) (Ai rfl hG11) rfl (CD _ .i32 (r) (57343)) ⟨rfl,rfl⟩) (As (gO fun _=>DY ((decide ((r)<(55296)))||(decide ((57343)<(r)))) rfl rfl (gT rfl) (fun hG12=>ZF (Ai rfl hG12) rfl (fun hA=>(Ai rfl (FZ hG12 (BH hA)))) ⟨rfl,rfl⟩) fun bb13 hbb14=>As (gS (Zf rfl (fun hA=>(Ai rfl hA)) rfl fun bb15 hbb16=>(AD rfl (vr (.bool (bb15)) rfl) ?_)))))))))))))))))))));subst hbb6 hbb14 hbb16;exact⟨rfl,hE⟩
theorem Nw(w:Acs)(c:UInt8):
  Calls Acu 191 #[B8 c] w fun e w' =>e = .returned (X9 (Dm c))/\Ext w w' :=by
 refine FT (args:= [B8 (c)]) Tryz.func191 rfl 40 rfl rfl ?_;have hE:=AbE w;refine gS (YX (a:=((c).toNat:Nat)) (b:=(128:Nat)) rfl rfl (Bf _ _ _ _) ?_);refine cD rfl (fun f=> ?_) fun f=> ?_
 ·refine gS (ZM u5 Fw rfl (Xb .i32 (c) (fun n hn=>EH n (by omega))) (Ky rfl (vr (NI 0) rfl) (vr (.int .i32 (((c).toNat:Nat):Int)) rfl) (vr (.int .i32 ((0:Nat):Int)) rfl) ?_));refine⟨congrArg AdW ?_,hE⟩;unfold Dm;rw[if_pos f];rfl
 refine gS (YX (a:=((c).toNat:Nat)) (b:=(192:Nat)) rfl rfl (Fl _ _ _ _) (gO fun _=>Ae (B8 (c)) rfl rfl (gT rfl) (fun hG6=>AbL rfl ⟨rfl,rfl⟩) (As (gO fun _=>Ae (.bool (decide (((c).toNat)<(224)))) rfl rfl (gT rfl) (fun hG7=>YX (a:=(((c).toNat:Nat):Int)) (b:=((224:Nat):Int)) (Ai rfl hG7) rfl (Bf _ .u8 ((c).toNat) (224)) ⟨rfl,rfl⟩) (As (gS (Zf rfl (fun hA=>(Ai rfl hA)) rfl fun bb8 hbb9=> ?_)))))));refine cB (bb8) rfl (fun g=> ?_) fun g=> ?_
 ·subst hbb9;refine gS (Y4 (xv:= .int .u8 (((c).toNat:Nat):Int)) (yv:= .int .u8 ((31:Nat):Int)) rfl rfl rfl (Iu _ _ _ (c.toNat_lt) (by decide)) (gS (ZM u5 Fw rfl (EH (((c).toNat)&&&(31)) (Aet Aer (by decide))) (Ky rfl (vr (NI 1) rfl) (vr (.int .i32 ((((c).toNat)&&&(31):Nat):Int)) rfl) (vr (.int .i32 ((128:Nat):Int)) rfl) ?_))));refine⟨congrArg AdW ?_,hE⟩;unfold Dm;rw[if_neg f];rw[if_pos (by simpa using g)];rfl
 subst hbb9;refine gS (YX (a:=((c).toNat:Nat)) (b:=(224:Nat)) rfl rfl (Fl _ _ _ _) (gO fun _=>Ae (B8 (c)) rfl rfl (gT rfl) (fun hG12=>AbL rfl ⟨rfl,rfl⟩) (As (gO fun _=>Ae (.bool (decide (((c).toNat)<(240)))) rfl rfl (gT rfl) (fun hG13=>YX (a:=(((c).toNat:Nat):Int)) (b:=((240:Nat):Int)) (Ai rfl hG13) rfl (Bf _ .u8 ((c).toNat) (240)) ⟨rfl,rfl⟩) (As (gS (Zf rfl (fun hA=>(Ai rfl hA)) rfl fun bb14 hbb15=> ?_)))))));refine cB (bb14) rfl (fun h=> ?_) fun h=> ?_
 ·subst hbb15;refine gS (Y4 (xv:= .int .u8 (((c).toNat:Nat):Int)) (yv:= .int .u8 ((15:Nat):Int)) rfl rfl rfl (Iu _ _ _ (c.toNat_lt) (by decide)) (gS (ZM u5 Fw rfl (EH (((c).toNat)&&&(15)) (Aet Aer (by decide))) (Ky rfl (vr (NI 2) rfl) (vr (.int .i32 ((((c).toNat)&&&(15):Nat):Int)) rfl) (vr (.int .i32 ((2048:Nat):Int)) rfl) ?_))));refine⟨congrArg AdW ?_,hE⟩;unfold Dm;rw[if_neg f];rw[if_neg (by simpa using g)];rw[if_pos (by simpa using h)];rfl
 subst hbb15;refine gS (YX (a:=((c).toNat:Nat)) (b:=(240:Nat)) rfl rfl (Fl _ _ _ _) (gO fun _=>Ae (B8 (c)) rfl rfl (gT rfl) (fun hG18=>AbL rfl ⟨rfl,rfl⟩) (As (gO fun _=>Ae (.bool (decide (((c).toNat)<(248)))) rfl rfl (gT rfl) (fun hG19=>YX (a:=(((c).toNat:Nat):Int)) (b:=((248:Nat):Int)) (Ai rfl hG19) rfl (Bf _ .u8 ((c).toNat) (248)) ⟨rfl,rfl⟩) (As (gS (Zf rfl (fun hA=>(Ai rfl hA)) rfl fun bb20 hbb21=> ?_)))))));refine cB (bb20) rfl (fun i=> ?_) fun i=> ?_
 ·subst hbb21;refine gS (Y4 (xv:= .int .u8 (((c).toNat:Nat):Int)) (yv:= .int .u8 ((7:Nat):Int)) rfl rfl rfl (Iu _ _ _ (c.toNat_lt) (by decide)) (gS (ZM u5 Fw rfl (EH (((c).toNat)&&&(7)) (Aet Aer (by decide))) (Ky rfl (vr (NI 3) rfl) (vr (.int .i32 ((((c).toNat)&&&(7):Nat):Int)) rfl) (vr (.int .i32 ((65536:Nat):Int)) rfl) ?_))));refine⟨congrArg AdW ?_,hE⟩;unfold Dm;rw[if_neg f];rw[if_neg (by simpa using g)];rw[if_neg (by simpa using h)];rw[if_pos (by simpa using i)];rfl
 subst hbb21;refine Ky rfl (vr (.int .i64 (-1:Int)) rfl) (vr (.int .i32 ((0:Nat):Int)) rfl) (vr (.int .i32 ((0:Nat):Int)) rfl) ?_;refine⟨congrArg AdW ?_,hE⟩;unfold Dm;rw[if_neg f];rw[if_neg (by simpa using g)];rw[if_neg (by simpa using h)];rw[if_neg (by simpa using i)];rfl
theorem OU(w:Acs)(l:Bs)(a:Nat)(ha:a<l.length)(hl:l.length<=4611686018427387904):
  Calls Acu 153 #[St l,NI a] w fun e w' =>(∃r b k,e = .returned (.tuple #[.int .i32 ((r:Nat):Int),NI b, .bool k])/\Er l a=if k=true then some b else none)/\Ext w w' :=by
 refine FT (args:= [St (l),NI a]) Tryz.func153 rfl 62 rfl rfl ?_;have hE:=AbE w;rcases hq:Dm (l.getD a 0)with _ | ⟨n,r,m⟩
 ·refine gS (ZQ (l:=l) (i:=a) EI rfl rfl (ha) (gS (YZ KB rfl (((show Calls _ _ _ _ (fun e w2=>e = .returned (.tuple #[.int .i64 ((-1):Int), .int .i32 ((0:Nat):Int), .int .i32 ((0:Nat):Int)])/\Ext w w2)from by have h:=Nw w (l.getD a 0);rw[hq]at h;exact h)).mono ?_))));rintro e w4 ⟨rfl,y⟩;refine⟨_,rfl,?_⟩;refine gS (AbG (vs:= [.int .i64 ((-1):Int), .int .i32 ((0:Nat):Int), .int .i32 ((0:Nat):Int)]) rfl rfl (gS (AbG (vs:= [.int .i64 ((-1):Int), .int .i32 ((0:Nat):Int), .int .i32 ((0:Nat):Int)]) rfl rfl (gS (AbG (vs:= [.int .i64 ((-1):Int), .int .i32 ((0:Nat):Int), .int .i32 ((0:Nat):Int)]) rfl rfl (gS (YX rfl rfl (VN _ .i64 ((-1):Int) ((0:Nat):Int)) (kT (by decide) (gN rfl rfl rfl rfl (gN rfl rfl rfl rfl (gN rfl rfl rfl rfl (gN rfl rfl rfl rfl (gN rfl rfl rfl rfl (gN rfl rfl rfl rfl (gS (Zi rfl rfl (cT rfl (Ky rfl (vr (.int .i32 ((0:Nat):Int)) rfl) (vr (NI 0) rfl) (vr (.bool (false)) rfl) ?_))))))))))))))))));have hE:=hE.trans y;exact⟨⟨_,_,_,rfl,RO hq⟩,hE⟩
 obtain⟨p,z,ad,hm⟩:=P7 hq;refine gS (ZQ (l:=l) (i:=a) EI rfl rfl (ha) (gS (YZ KB rfl (((show Calls _ _ _ _ (fun e w2=>e = .returned (.tuple #[NI n, .int .i32 ((r:Nat):Int), .int .i32 ((m:Nat):Int)])/\Ext w w2)from by have h:=Nw w (l.getD a 0);rw[hq]at h;exact h)).mono ?_))));rintro e ae ⟨rfl,s⟩;refine⟨_,rfl,?_⟩;refine gS (AbG (vs:= [NI n, .int .i32 ((r:Nat):Int), .int .i32 ((m:Nat):Int)]) rfl rfl (gS (AbG (vs:= [NI n, .int .i32 ((r:Nat):Int), .int .i32 ((m:Nat):Int)]) rfl rfl (gS (AbG (vs:= [NI n, .int .i32 ((r:Nat):Int), .int .i32 ((m:Nat):Int)]) rfl rfl (gS (YX (a:=(n:Nat)) (b:=(0:Nat)) rfl rfl (Bf _ _ _ _) (kF (by omega) (gY rfl rfl (gY rfl rfl (gS (Zz (l:=l) EI rfl (gY rfl rfl (gY rfl rfl (gS (Y4 (xv:=NI l.length) (yv:=NI a) rfl rfl rfl (Ff _ _ _ (by omega) (by omega)) (gY rfl rfl (gY rfl rfl (gS (YX (a:=((l.length)-(a):Nat)) (b:=(n:Nat)) rfl rfl (EA _ _ _ _) (gS (Zx rfl rfl ?_))))))))))))))))))))));refine cD rfl (fun g=> ?_) fun g=> ?_
 ·refine Ky rfl (vr (.int .i32 ((0:Nat):Int)) rfl) (vr (NI 0) rfl) (vr (.bool (false)) rfl) ?_;have hE:=hE.trans s;exact⟨⟨_,_,_,rfl,P6 hq (of_decide_eq_true (by simpa using g))⟩,hE⟩
 have hs:¬l.length-a<=n:=fun h=>by simp[h]at g
 have hE:=hE.trans s;refine gL (fun(ρ:Ah) (wz:Acs)=>∃i:Nat,∃q:Nat,ρ 0=(St (l):Acr)/\ρ 1=(NI a:Acr)/\ρ 7=(NI n:Acr)/\ρ 9=(.int .i32 ((m:Nat):Int):Acr)/\ρ 30=(NI n:Acr)/\ρ 31=(NI i:Acr)/\ρ 8=(.int .i32 ((q:Nat):Int):Acr)/\Ext w wz/\(i<=n)/\(q<2^(7+6*i))/\(Fp l (a+1) n r=Fp l (a+1+i) (n-i) q)/\True) (fun ρ _=>n-(intOf (ρ 31)).toNat) ⟨0,r,rfl,rfl,rfl,rfl,rfl,rfl,rfl,hE,AcO _,z,rfl,trivial⟩ ?_;clear hE;rintro aa af ⟨i,q,t,T1,u,v,x,c,f,hE,hi,hqb,ht,-⟩;have q31:=c;refine gS (YX (a:=(i:Nat)) (b:=(n:Nat)) c x (Bf _ _ _ _) ?_);refine cD rfl (fun j=> ?_) fun j=> ?_
 ·have hlt:i<n:=j;refine gS (Y4 (xv:=NI a) (yv:=NI 1) T1 rfl rfl (AG _ _ _ (by omega)) (gS (Y4 (xv:=NI ((a)+(1))) (yv:=NI i) rfl c rfl (AG _ _ _ (by omega)) (gS (ZQ (l:=l) (i:=((a)+(1))+(i)) EI t rfl (by omega) (gS (Y4 (xv:= .int .u8 (((l.getD (((a)+(1))+(i)) 0).toNat:Nat):Int)) (yv:= .int .u8 ((192:Nat):Int)) rfl rfl rfl (Iu _ _ _ (UInt8.toNat_lt _) (by decide)) (gS (YX (a:=(((l.getD (((a)+(1))+(i)) 0).toNat)&&&(192):Nat)) (b:=(128:Nat)) rfl rfl (Ba _ _ _ _) ?_)))))))));refine cD rfl (fun o=> ?_) fun o=> ?_
  ·refine Ky rfl (vr (.int .i32 ((0:Nat):Int)) rfl) (vr (NI 0) rfl) (vr (.bool (false)) rfl) ?_;exact⟨⟨_,_,_,rfl,TU hq (ht.trans (RN hlt o))⟩,hE⟩
  refine gS (Y4 (xv:= .int .i32 ((q:Nat):Int)) (yv:= .int .u64 ((6:Nat):Int)) f rfl rfl (Wg _ (q) _ (6) (by decide) (Jt hqb hlt p)) (gS (Y4 (xv:= .int .u8 (((l.getD (((a)+(1))+(i)) 0).toNat:Nat):Int)) (yv:= .int .u8 ((63:Nat):Int)) rfl rfl rfl (Iu _ _ _ (UInt8.toNat_lt _) (by decide)) (gS (ZM u5 Fw rfl (EH (((l.getD (((a)+(1))+(i)) 0).toNat)&&&(63)) (VS _)) (gS (Y4 (xv:= .int .i32 (((q)*2^(6):Nat):Int)) (yv:= .int .i32 ((((l.getD (((a)+(1))+(i)) 0).toNat)&&&(63):Nat):Int)) rfl rfl rfl (Xm _ ((q)*2^(6)) (((l.getD (((a)+(1))+(i)) 0).toNat)&&&(63)) (Jt hqb hlt p) (VS _)) (gS (Y4 (xv:=NI i) (yv:=NI 1) c rfl rfl (AG _ _ _ (by omega)) (gK (Adv ⟨i+1,(q*2^6|||((l.getD (a+1+i) 0).toNat&&&63)),t,T1,u,v,x,rfl,rfl,hE,by omega,OT hqb,ht.trans (P5 hlt (Decidable.of_not_not o)),trivial⟩ ?_)))))))))));show n-(intOf (NI ((i)+(1)))).toNat<n-(intOf (aa 31)).toNat;rw[q31];simp only[intOf,AcX];omega
 have hni:¬i<n:=j;refine gS (Y4 (xv:=NI a) (yv:=NI n) T1 u rfl (AG _ _ _ (by omega)) (gS (Y4 (xv:=NI ((a)+(n))) (yv:=NI 1) rfl rfl rfl (AG _ _ _ (by omega)) (gS (YX (a:=(q:Nat)) (b:=(m:Nat)) f v (Fl _ _ _ _) (gO fun _=>Ae (.int .i32 ((q:Nat):Int)) rfl rfl (gT rfl) (fun hG27=>AbL f ⟨rfl,rfl⟩) (As (gO fun _=>Ch (.bool (Ns q)) rfl rfl (gT rfl) (fun hG28=>YZ Qc (Ai rfl hG28) ((Qe _ q).mono (by rintro e w2 ⟨rfl,hx⟩;exact⟨_,rfl,rfl,hx⟩))) fun ag ab=>As (gS (Zf rfl (fun hA=>(Ai rfl hA)) rfl fun bb32 hbb33=>(Ky rfl f (vr (NI (((a)+(n))+(1))) rfl) (vr (.bool (bb32)) rfl) ?_)))))))))));subst hbb33;have hE:=hE.trans ab;exact⟨⟨_,_,_,rfl,Wi hq hs (ht.trans (by rw[show n-i=0 by omega];rfl))⟩,hE⟩
theorem LS(w:Acs)(l:Bs)(hl:l.length<=4611686018427387904):
  Calls Acu 130 #[St l] w fun e w' =>(∃p,e = .returned (.tuple #[NI p,NI (if Es l 0=true then 0 else 5)]))/\Ext w w' :=by
 refine gG (args:= [St (l)]) Tryz.func130 rfl 22 rfl rfl ?_;have hE:=AbE w;refine gL (fun(ρ:Ah) (wz:Acs)=>∃p:Nat,ρ 0=(St (l):Acr)/\ρ 2=(NI p:Acr)/\Ext w wz/\(p<=l.length)/\(Es l 0=Es l p)/\True) (fun ρ _=>l.length-(intOf (ρ 2)).toNat) ⟨0,rfl,rfl,hE,AcO _,rfl,trivial⟩ ?_;clear hE;rintro i j ⟨p,c,T2,hE,hp,ht,-⟩;have q2:=T2;refine gS (Zz (l:=l) EI c (gS (YX (a:=(p:Nat)) (b:=(l.length:Nat)) T2 rfl (Bf _ _ _ _) ?_)));refine cD rfl (fun f=> ?_) fun f=> ?_
 ·have hlt:p<l.length:=f;refine gS (Y2 Qd c T2 ((OU _ l p hlt hl).mono ?_));rintro e m ⟨⟨r,b,k,rfl,hd⟩,h⟩;refine⟨_,rfl,?_⟩;refine gS (AbG (vs:= [.int .i32 ((r:Nat):Int),NI b, .bool (k)]) rfl rfl (gS (AbG (vs:= [.int .i32 ((r:Nat):Int),NI b, .bool (k)]) rfl rfl (gS (AbG (vs:= [.int .i32 ((r:Nat):Int),NI b, .bool (k)]) rfl rfl (gS (Zh rfl ?_)))))));refine cB (!(k)) rfl (fun g=> ?_) fun g=> ?_
  ·have hk:k=false:=by simpa using g
   rw[hk,if_neg (by decide)]at hd;refine DS rfl T2 (vr (NI 5) rfl) ?_;have hE:=hE.trans h;exact⟨⟨_,by rw[ht,RP hlt hd];rfl⟩,hE⟩
  have hk:k=true:=by simpa using g
  rw[if_pos hk]at hd;have hE:=hE.trans h;refine gK (Adv ⟨b,c,rfl,hE,(Lr hd).2,ht.trans (LP hlt hd),trivial⟩ ?_);show l.length-(intOf (NI b)).toNat<l.length-(intOf (i 2)).toNat;rw[q2];have:=Lr hd;simp only[intOf,AcX];omega
 have hlt:=f;refine DS rfl (vr (NI 0) rfl) (vr (NI 0) rfl) ?_;exact⟨⟨_,by rw[ht,J3 (show ¬p<l.length by omega)];rfl⟩,hE⟩
theorem Nx(w:Acs)(r:Nat):
  Calls Acu 88 #[.int .i32 (r:Int)] w fun e w' =>e = .returned (.bool true)/\Ext w w' :=by
 refine gG (args:= [.int .i32 ((r:Nat):Int)]) Tryz.func88 rfl 3 rfl rfl ?_;have hE:=AbE w;refine AD rfl (vr (.bool (true)) rfl) ?_;exact⟨rfl,hE⟩
theorem RW(w:Acs)(l:Bs)(hl:l.length<=4611686018427387904):
  Calls Acu 87 #[St l, .func (.func 88) #[] #[]] w fun e w' =>e = .returned (.bool (Es l 0))/\Ext w w' :=by
 refine gG (args:= [St (l), .func (.func 88) #[] #[]]) Tryz.func87 rfl 25 rfl rfl ?_;have hE:=AbE w;rcases hT:Es l 0 with _ | _
 ·refine gS (YZ KC rfl (((show Calls _ _ _ _ (fun e w2=>(∃p,e = .returned (.tuple #[NI p,NI 5]))/\Ext w w2)from by have h:=LS w l hl;rw[hT]at h;exact h)).mono ?_));rintro e w5 ⟨⟨p0,rfl⟩,s⟩;refine⟨_,rfl,?_⟩;refine gS (AbG (vs:= [NI p0,NI 5]) rfl rfl (gS (AbG (vs:= [NI p0,NI 5]) rfl rfl (gS (YX (a:=(5:Nat)) (b:=(0:Nat)) rfl rfl (Ba _ _ _ _) (kT (by decide) (cT rfl (AD rfl (vr (.bool (false)) rfl) ?_))))))));have hE:=hE.trans s;exact⟨by first | rfl | rw[hT],hE⟩
 refine gS (YZ KC rfl (((show Calls _ _ _ _ (fun e w2=>(∃p,e = .returned (.tuple #[NI p,NI 0]))/\Ext w w2)from by have h:=LS w l hl;rw[hT]at h;exact h)).mono ?_));rintro e k ⟨⟨p0,rfl⟩,t⟩;refine⟨_,rfl,?_⟩;refine gS (AbG (vs:= [NI p0,NI 0]) rfl rfl (gS (AbG (vs:= [NI p0,NI 0]) rfl rfl (gS (YX (a:=(0:Nat)) (b:=(0:Nat)) rfl rfl (Ba _ _ _ _) (kF (by decide) (cF rfl (gS (Aa2 (l:=l) EI rfl fun f u ae m n af=> ?_)))))))));have c:=AbE k;have hE:=hE.trans t;have v:=hE.size;have o:=m;clear m;have ag:f<u.heap.size:=by omega
 have hE:=hE.trans n;have c:=c.trans n;refine gL (fun(ρ:Ah) (wz:Acs)=>∃p:Nat,ρ 0=(St (l):Acr)/\ρ 1=(.func (.func 88) #[] #[]:Acr)/\ρ 6=(NI 0:Acr)/\ρ 15=(.bool (false):Acr)/\ρ 17=(PQ f 0:Acr)/\Ext w wz/\Ext k wz/\wz.heap[f]? =some (.stringIter ⟨l.toArray⟩ p)/\True) (fun ρ wz=>l.length-wz.iterPos f) ⟨0,rfl,rfl,rfl,rfl,rfl,hE,c,o,trivial⟩ ?_;clear o;clear hE;rintro ah x ⟨p,y,T1,z,aa,i,hE,c,hI,-⟩;have hI0:=Kz hI;by_cases hlt:p<l.length
 ·refine gS (Abf (l:=l) (p:=p) i hI hlt fun ab g ai aj q r ak=> ?_);clear hI;have hI:=q;clear q;have al:=bl hI;refine gS (AbG (vs:= [.bool (true),NI p, .int .i32 ((g:Nat):Int)]) rfl rfl (cT rfl (gS (AbG (vs:= [.bool (true),NI p, .int .i32 ((g:Nat):Int)]) rfl rfl (gS (Zq RU (caps:= #[]) T1 #[.int .i32 ((g:Nat):Int)] (by simp only[AcJ,AcL,AcR,Adh,Ac3,Ac9];exact congrArg Ac4 (Fm rfl)) ((Nx _ g).mono ?_)))))));rintro e ac ⟨rfl,j⟩;refine⟨_,rfl,?_⟩;have hE:=Ad hE r (Acw v (by omega));have hE:=hE.trans j;have c:=Ad c r (Acw (Acy _) (by omega));have c:=c.trans j;have hI:=eb j hI;refine gS (Zh rfl (cF rfl (gK (Adv ⟨ab,y,T1,z,aa,i,hE,c,hI,trivial⟩ ?_))));show l.length-ac.iterPos f<l.length-x.iterPos f;rw[Kz hI,hI0];omega
 refine gS (Aa3 (l:=l) (p:=p) i hI hlt (gS (AbG (vs:= [.bool (false)]) rfl rfl (cF rfl (AD rfl (vr (.bool (true)) rfl) ?_)))));exact⟨by first | rfl | rw[hT],hE⟩
theorem Ny(w:Acs)(l:Bs):
  Calls Acu 35 #[St l] w fun e w' =>e = .returned (.bool (Cl l))/\Ext w w' :=by
 refine FT (args:= [St (l)]) Tryz.func35 rfl 10 rfl rfl ?_;have hE:=AbE w;refine gS (Zz (l:=l) EI rfl (gS (YX (a:=(l.length:Nat)) (b:=(256:Nat)) rfl rfl (EA _ _ _ _) (gO fun _=>Ae (St (l)) rfl rfl (gT rfl) (fun hG3=>AbL rfl ⟨rfl,rfl⟩) (As (gO fun _=>Ch (.bool (Es l 0)) rfl rfl (gT rfl) (fun hG4=>Y2 RV (Ai rfl hG4) rfl ((RW _ l (by first | omega | (simp only[gA,gB,gC,gD,gE]at hG4;omega))).mono (by rintro e w2 ⟨rfl,hx⟩;exact⟨_,rfl,rfl,hx⟩))) fun f c=>As (gS (Zf rfl (fun hA=>(Ai rfl hA)) rfl fun bb8 hbb9=>(AD rfl (vr (.bool (bb8)) rfl) ?_)))))))));subst hbb9;have hE:=hE.trans c;exact⟨rfl,hE⟩
open Go.WideMaps (KeyLaw)
structure KL (P : AcN) (k : Acz) (OK : Acr -> Prop) : Prop where
 check:∀(w:Acs) (em:Bool) {v:Acr},OK v->(Instr.checkKey em 10000 k v).run P w = .ok () w
 find:∀(w:Acs) {x:Acr},OK x->∀es:List AeQ,(∀e∈es,OK e.key) ->
  ((Instr.findKey k x es).run P w = .ok none w/\∀e∈es,e.key≠x)\/∃j e,(Instr.findKey k x es).run P w = .ok (some (j,e.val)) w/\es[j]? =some e/\e.key=x
 stays:∀(w:Acs) {v:Acr},OK v->(Instr.keyThatStays v v).run P w = .ok v w
theorem Aax{P:AcN}{k:Acz}{d:TypeDesc}(hd:P.underlying k=some d):KL P k (Afv d):=
 ⟨fun w em _ h=>MapKept.run_checkKey hd h em 9999,fun w x h es he=>by
  rcases MapKept.findNow_spec h es 0 he with ⟨h1,h2⟩ | ⟨j,e,h1,h2,h3⟩
  ·exact .inl ⟨Ahr hd h1,h2⟩
  ·rw[Aec]at h1;exact .inr ⟨j,e,Ahr hd h1,h2,h3⟩,fun w _ h=>MapKept.run_keyThatStays h⟩
section
variable {α β : Type} (ek : α -> Acr) (ev : β -> Acr) (D : α -> Prop)
structure Ya (G : α -> Option β) (es : List AeQ) : Prop where
 keys:(es.map (·.key)).Nodup
 ent:∀e∈es,∃a y,D a/\e.key=ek a/\e.val=ev y/\G a=some y
 all:∀a y,G a=some y->D a/\∃e∈es,e.key=ek a
def MapF(w:Acs)(b:Nat)(G:α->Option β):Prop:=∃es clock,w.heap[b]? =some (.map es.toArray clock)/\Ya ek ev D G es/\AfT es.toArray clock
end
theorem OV{es es' :List AeQ}{c:Nat}(hs:es'.Sublist es)(h:AfT es.toArray c):AfT es'.toArray c:=by
 obtain⟨h1,h2,h3⟩:=h;exact⟨fun x hx=>h1 x (hs.subset hx),(hs.map _).nodup h2,(hs.map _).nodup h3⟩
def updM{α β:Type}[DecidableEq α](G:α->Option β)(a:α)(y:Option β)(c:α):Option β:=if c=a then y else G c
section
variable {α β : Type} {ek : α -> Acr} {ev : β -> Acr} {D : α -> Prop} {P : AcN} {w w' : Acs} {b : Nat} {G : α -> Option β}
theorem MapF.keep(h:MapF ek ev D w b G)(k:Ext w w'):MapF ek ev D w' b G:=by
 obtain⟨es,c,h2,h3⟩:=h;exact⟨es,c,ZG k h2,h3⟩
theorem MapF.lt(h:MapF ek ev D w b G):b<w.heap.size:=by
 obtain⟨es,c,h2,h3⟩:=h;exact(Adg.1 h2).1
theorem MapF.other{r:Option Nat}(h:MapF ek ev D w b G)(k:w.grownBy w' r)(hr:r≠some b):MapF ek ev D w' b G:=by
 have hl:=h.lt;obtain⟨es,c,h2,h3⟩:=h;exact⟨es,c,(k.block b hl (fun e=>hr e.symm)).trans h2,h3⟩
abbrev AbT:=@MapF.other
theorem Abg{v v' :Acr}(h:MapF ek ev D w b G)(g:Grew w w' v v')(hv:v.ownBlock≠some b):MapF ek ev D w' b G:=h.other g.by_ hv
theorem Abh(ek:α->Acr)(ev:β->Acr)(D:α->Prop)(w:Acs):MapF ek ev D (w.alloc (.map #[] 0)) w.heap.size (fun _=>none):=
 ⟨[],0,heap_alloc_new w _,⟨by simp,by simp,fun _ _ h=>by cases h⟩,MapKept.stamped_empty 0⟩
section
variable {t K E : Acz} {OK : Acr -> Prop} (L : KL P K OK) (hD : ∀ a, D a -> OK (ek a)) (hi : ∀ a c, ek a = ek c -> a = c) (ht : P.underlying t = some (.map K E))
include L hD hi ht
theorem MapF.look{z:Acr}(hz:∀u:Acs,(zeroValue E).run P u = .ok z u)(h:MapF ek ev D w b G){a:α}(ha:D a)(ok:Bool):
  (AhC t (.map (some b)) (ek a) ok).run P w = .ok (if ok then .tuple #[(G a).elim z ev, .bool (G a).isSome]else(G a).elim z ev) w:=by
 obtain⟨es,c,hb,H,hS⟩:=h;have hkeys:∀e∈es,OK e.key:=fun e he=>by
  obtain⟨q,y,k1,k2,-⟩:=H.ent e he;rw[k2];exact hD q k1
 rcases L.find w (hD a ha) es hkeys with ⟨f1,f2⟩ | ⟨j,f,f1,f2,f3⟩
 ·have hG:G a=none:=by
   cases hG:G a with
   | none=>rfl
   | some y=>
    obtain⟨-,e,he,hek⟩:=H.all a y hG;exact absurd hek (f2 e he)
  cases ok <;> simp[AhC,run_underlying ht,Aen hb,L.check w _ (hD a ha),f1,hz,Adj,hG]
 ·obtain⟨q,y,k1,k2,k3,k4⟩:=H.ent f (AeU f2);have:q=a:=hi _ _ (k2.symm.trans f3);subst this;cases ok <;> simp[AhC,run_underlying ht,Aen hb,L.check w _ (hD q ha),f1,Adj,k4,k3]
variable [DecidableEq α]
omit hi in
theorem MapF.put(h:MapF ek ev D w b G){a:α}(ha:D a)(y:β):
  ∃w',(AgR t (.map (some b)) (ek a) (ev y)).run P w = .ok () w' /\MapF ek ev D w' b (updM G a (some y))/\w.grownBy w' (some b)/\w'.heap.size=w.heap.size:=by
 obtain⟨es,c,hb,H,hS⟩:=h;have hkeys:∀e∈es,OK e.key:=fun e he=>by
  obtain⟨q,y,k1,k2,-⟩:=H.ent e he;rw[k2];exact hD q k1
 have hblt:b<w.heap.size:=(Adg.1 hb).1;have hgr:∀o,w.grownBy { w with heap:=w.heap.setIfInBounds b o } (some b):=fun o=>⟨rfl,rfl,rfl,by simp,fun i _ hi=>by simp only[Aei];rw[if_neg (fun e=>hi (by rw[e]))]⟩;have hnew:∀o,({ w with heap:=w.heap.setIfInBounds b o } :Acs).heap[b]? =some o:=fun o=>by simp[hblt]
 rcases L.find w (hD a ha) es hkeys with ⟨f1,f2⟩ | ⟨j,g,f1,f2,f3⟩
 ·have hnone:∀x,G a≠some x:=fun x hx=>by
   obtain⟨-,e,he,hek⟩:=H.all a x hx;exact f2 e he hek
  refine⟨{ w with heap:=w.heap.setIfInBounds b (.map (es++ [({ key:=ek a,val:=ev y,born:=c } :AeQ)]).toArray (c+1)) },?_,⟨_,_,hnew _,⟨?_,?_,?_⟩,by have:=MapKept.stamped_push hS (key:=ek a) (val:=ev y) (fun x hx=>f2 x (by simpa using hx));simpa using this⟩,hgr _,by simp⟩
  ·simp[AgR,run_underlying ht,Aen hb,L.check w false (hD a ha),f1,Afb _ hb,Adj]
  ·simp only[List.map_append,AcL,AcR];refine List.nodup_append.2 ⟨H.keys,by simp,fun x hx z hz e=> ?_⟩;obtain⟨f,he1,rfl⟩:=Ado.1 hx;simp at hz;exact f2 f he1 (e.trans hz)
  ·intro e he;rcases List.mem_append.1 he with h1 | h1
   ·obtain⟨q,z,k1,k2,k3,k4⟩:=H.ent e h1;refine⟨q,z,k1,k2,k3,?_⟩;unfold updM;rw[if_neg (fun f=>f2 e h1 (by rw[k2,f]))];exact k4
   ·rw[Ada.1 h1];exact⟨a,y,ha,rfl,rfl,by unfold updM;rw[if_pos rfl]⟩
  ·intro q z hq;unfold updM at hq;split at hq
   ·rename_i f
    subst f;exact⟨ha,_,List.mem_append_right _ (Ada.2 rfl),rfl⟩
   ·obtain⟨k1,e,he,hek⟩:=H.all q z hq;exact⟨k1,e,List.mem_append_left _ he,hek⟩
 ·obtain⟨q0,y0,k1,k2,k3,k4⟩:=H.ent g (AeU f2);have hjl:j<es.length:=(AcW.1 f2).1;have hkeq:(es.modify j fun e=> { e with key:=ek a,val:=ev y }).map (·.key)=es.map (·.key):=by
   rw[Go.ChangeMaps.modify_eq_set _ _ _ _ f2,List.map_set];exact Go.WideElems.set_self _ _ _ (by rw[List.getElem?_map,f2];simp[f3])
  have hj:es.toArray[j]? =some g:=by simpa using f2
  refine⟨{ w with heap:=w.heap.setIfInBounds b (.map (es.modify j fun e=> { e with key:=ek a,val:=ev y }).toArray c) },?_,⟨_,_,hnew _,⟨?_,?_,?_⟩,by have:=MapKept.stamped_modify hS j (fun e=> { e with key:=ek a,val:=ev y }) (fun _ _=>rfl) (fun e _ he=>by rw[hj]at he;cases he;exact f3.symm);rwa [List.modify_toArray]at this⟩,hgr _,by simp⟩
  ·simp[AgR,run_underlying ht,Aen hb,L.check w false (hD a ha),f1,f2,f3,L.stays w (hD a ha),Afb _ hb,Adj]
  ·rw[hkeq];exact H.keys
  ·intro e he;rw[Go.ChangeMaps.modify_eq_set _ _ _ _ f2]at he;obtain⟨i,hil,hie⟩:=AdA.1 he;rw[List.getElem_set]at hie;split at hie
   ·subst hie;exact⟨a,y,ha,rfl,rfl,by unfold updM;rw[if_pos rfl]⟩
   ·rename_i hne
    have hil2:i<es.length:=by simpa using hil
    obtain⟨q,z,m1,m2,m3,m4⟩:=H.ent e (hie▸AdX hil2);refine⟨q,z,m1,m2,m3,?_⟩;unfold updM;rw[if_neg ?_]
    ·exact m4
    ·intro f;subst f
     apply hne
     have hn:=H.keys;have k:(es.map (·.key))[j]'(by simpa using hjl)=(es.map (·.key))[i]'(by simpa using hil2):=by
      simp only[List.getElem_map];rw[hie,m2,<-f3];exact congrArg MapEntry.key (AcW.1 f2).2
     exact(List.getElem_inj hn).1 k
  ·intro q z hq;have hmem:∀x,x∈es.map (·.key)->∃e∈(es.modify j fun e=> { e with key:=ek a,val:=ev y }),e.key=x:=fun x hx=>by
    rw[<-hkeq]at hx;obtain⟨e,he,rfl⟩:=Ado.1 hx;exact⟨e,he,rfl⟩
   unfold updM at hq;split at hq
   ·rename_i f
    subst f;exact⟨ha,hmem _ (Ado.2 ⟨g,AeU f2,f3⟩)⟩
   ·obtain⟨k1,e,he,hek⟩:=H.all q z hq;exact⟨k1,hmem _ (Ado.2 ⟨e,he,hek⟩)⟩
theorem MapF.del{ty:Acz}(h:MapF ek ev D w b G){a:α}(ha:D a):
  ∃w',(AgS #[t,K] ty #[.map (some b),ek a]).run P w = .ok (.tuple #[]) w' /\MapF ek ev D w' b (updM G a none)/\w.grownBy w' (some b)/\w'.heap.size=w.heap.size:=by
 obtain⟨es,c,hb,H,hS⟩:=h;have hkeys:∀e∈es,OK e.key:=fun e he=>by
  obtain⟨q,y,k1,k2,-⟩:=H.ent e he;rw[k2];exact hD q k1
 have hblt:b<w.heap.size:=(Adg.1 hb).1;have hgr:∀o,w.grownBy { w with heap:=w.heap.setIfInBounds b o } (some b):=fun o=>⟨rfl,rfl,rfl,by simp,fun i _ hi=>by simp only[Aei];rw[if_neg (fun e=>hi (by rw[e]))]⟩;have hnew:∀o,({ w with heap:=w.heap.setIfInBounds b o } :Acs).heap[b]? =some o:=fun o=>by simp[hblt]
 rcases L.find w (hD a ha) es hkeys with ⟨f1,f2⟩ | ⟨j,k,f1,f2,f3⟩
 ·have hG:G a=none:=by
   cases hG:G a with
   | none=>rfl
   | some y=>
    obtain⟨-,e,he,hek⟩:=H.all a y hG;exact absurd hek (f2 e he)
  have hU:updM G a none=G:=by
   funext x
   unfold updM;split
   ·rename_i e;rw[e,hG]
   ·rfl
  rw[hU];refine⟨{ w with heap:=w.heap.setIfInBounds b (.map es.toArray c) },?_,⟨_,_,hnew _,H,hS⟩,hgr _,by simp⟩;simp[AgS,run_underlying ht,Aen hb,L.check w _ (hD a ha),f1,Afb _ hb,Adj]
 ·have hjl:j<es.length:=(AcW.1 f2).1;have hne:∀e∈es.eraseIdx j,e.key≠ek a:=fun e he hk=>by
   obtain⟨i,hil,hie⟩:=AfW.1 he;obtain⟨hij,hie⟩:=hie;have g:(es.map (·.key))[j]'(by simpa using hjl)=(es.map (·.key))[i]'(by simpa using hil):=by
    simp only[List.getElem_map];rw[hie,hk,<-f3];exact congrArg MapEntry.key (AcW.1 f2).2
   exact hij ((List.getElem_inj H.keys).1 g).symm
  refine⟨{ w with heap:=w.heap.setIfInBounds b (.map (es.eraseIdx j).toArray c) },?_,⟨_,_,hnew _,⟨?_,?_,?_⟩,OV (Afi _ _) hS⟩,hgr _,by simp⟩
  ·simp[AgS,run_underlying ht,Aen hb,L.check w _ (hD a ha),f1,Afb _ hb,Adj]
  ·exact H.keys.sublist ((Afi _ _).map _)
  ·intro e he;obtain⟨q,z,m1,m2,m3,m4⟩:=H.ent e ((Afi _ _).subset he);refine⟨q,z,m1,m2,m3,?_⟩;unfold updM;rw[if_neg (fun f=>hne e he (by rw[m2,f]))];exact m4
  ·intro q z hq;unfold updM at hq;split at hq
   ·cases hq
   ·rename_i hqa
    obtain⟨k1,e,he,hek⟩:=H.all q z hq;refine⟨k1,e,?_,hek⟩;obtain⟨i,hil,hie⟩:=AdA.1 he;refine AfW.2 ⟨i,hil,fun f=> ?_,hie⟩;subst f
    apply hqa
    refine hi _ _ (hek.symm.trans ?_);rw[<-f3,<-hie];exact congrArg MapEntry.key (AcW.1 f2).2
end
end
theorem Cn{a b:Nat}(h:a≠b):some a≠some b:=fun e=>h (AcY e)
def CN(u v:Acr):Prop:=∀k,u.ownBlock=some k->v.ownBlock≠some k
section
variable {N B : Nat} {r : Option Nat} {w w' w1 w0 : Acs} {e t : Acz}
theorem MV{z n:Nat}{v:Acr}{xs:List Acr}(ho:w.ownsRow B e z v n xs)(k:w.grownBy w1 r)(ha:∀k,r=some k->v.ownBlock≠some k):w1.ownsRow B e z v n xs:=
 ho.kept k (by
  cases hv:v.ownBlock with
  | none=>exact .inl rfl
  | some g=>exact .inr (fun e=>ha g e.symm hv))
theorem KD{u v:Acr}{b:Nat}{e' :Acz}{z n z' n' :Nat}{xs ys:List Acr}(hu:w.ownsRow b e z u n xs)(hv:w'.ownsRow w.heap.size e' z' v n' ys):CN u v:=fun k h1 h2=>by
 have:=(hu.lt k h1).2;have:=(hv.lt k h2).1;omega
theorem OW{u v v' :Acr}{b:Nat}{z n:Nat}{xs:List Acr}(gr:Grew w w' v v')(ha:CN v u)(hu:w.ownsRow b e z u n xs):CN v' u:=fun k h1 h2=>by
 rcases gr.fresh k h1 with h3 | h3
 ·exact ha k h3 h2
 ·have:=(hu.lt k h2).2;omega
theorem J4{v v' u:Acr}{b:Nat}{z n:Nat}{xs:List Acr}(hu:w.ownsRow b e z u n xs)(gr:Grew w w' v v')(ha:CN v u):w'.ownsRow b e z u n xs:=MV hu gr.by_ ha
theorem Hd{α:Type}{k b:Nat}{enc:α->List Acr}{v v' u:Acr}{l:List α}(hu:OG b e k enc w u l)(gr:Grew w w' v v')(ha:CN v u):OG b e k enc w' u l:=⟨hu.1,J4 hu.2 gr ha⟩
end
theorem RX:Plain Acu 128:=fun _ _=>by kernel_rfl
theorem RY:Plain Acu 129:=fun _ _=>by kernel_rfl
theorem TW(w:Acs)(c:UInt8):
  Calls Acu 129 #[B8 c] w fun e w' =>e = .returned (.bool (I9 c))/\Ext w w' :=by
 refine FT (args:= [B8 (c)]) Tryz.func129 rfl 37 rfl rfl ?_;have hE:=AbE w;refine gS (YX (a:=((c).toNat:Nat)) (b:=(97:Nat)) rfl rfl (Fl _ _ _ _) (gO fun _=>Ae (B8 (c)) rfl rfl (gT rfl) (fun hG3=>AbL rfl ⟨rfl,rfl⟩) (As (gO fun _=>Ae (.bool (decide (((c).toNat)<=(122)))) rfl rfl (gT rfl) (fun hG4=>YX (a:=(((c).toNat:Nat):Int)) (b:=((122:Nat):Int)) (Ai rfl hG4) rfl (EA _ .u8 ((c).toNat) (122)) ⟨rfl,rfl⟩) (As (gS (Zf rfl (fun hA=>(Ai rfl hA)) rfl fun bb5 hbb6=>(gO fun _=>Ae (B8 (c)) rfl rfl (gF rfl) (fun hG7=>AbL rfl ⟨rfl,rfl⟩) (As (gO fun _=>Ae (.bool (decide ((65)<=((c).toNat)))) rfl rfl (gF rfl) (fun hG8=>YX (a:=(((c).toNat:Nat):Int)) (b:=((65:Nat):Int)) (Ai rfl hG8) rfl (Fl _ .u8 ((c).toNat) (65)) ⟨rfl,rfl⟩) (As (gO fun _=>Ae (.bool (decide ((65)<=((c).toNat)))) rfl rfl (gF rfl) (fun hG9=>AbL (Ai rfl hG9) ⟨rfl,rfl⟩) (As (gO fun _=>Ae (B8 (c)) rfl rfl (FR rfl) (fun hG10=>AbL rfl ⟨rfl,rfl⟩) (As (gO fun _=>Ae (.bool (decide (((c).toNat)<=(90)))) rfl rfl (FR rfl) (fun hG11=>YX (a:=(((c).toNat:Nat):Int)) (b:=((90:Nat):Int)) (Ai rfl hG11) rfl (EA _ .u8 ((c).toNat) (90)) ⟨rfl,rfl⟩) (As (gO fun _=>DY ((decide ((65)<=((c).toNat)))&&(decide (((c).toNat)<=(90)))) rfl rfl (gF rfl) (fun hG12=>ZB (Ai rfl hG12) (fun hA=>(Ai rfl (FZ hG12 hA))) rfl ⟨rfl,rfl⟩) fun bb13 hbb14=>As (gS (Ze rfl rfl (fun hA=>(Ai rfl (BH hA))) fun bb15 hbb16=>(gO fun _=>Ae (B8 (c)) rfl rfl (gF rfl) (fun hG17=>AbL rfl ⟨rfl,rfl⟩) (As (gO fun _=>Ae (.bool (decide ((48)<=((c).toNat)))) rfl rfl (gF rfl) (fun hG18=>YX (a:=(((c).toNat:Nat):Int)) (b:=((48:Nat):Int)) (Ai rfl hG18) rfl (Fl _ .u8 ((c).toNat) (48)) ⟨rfl,rfl⟩) (As ?_))))))))))))))))))))))));refine gO fun _=>Ae (.bool (decide ((48)<=((c).toNat)))) rfl rfl (gF rfl) (fun hG19=>AbL (Ai rfl hG19) ⟨rfl,rfl⟩) (As (gO fun _=>Ae (B8 (c)) rfl rfl (FR rfl) (fun hG20=>AbL rfl ⟨rfl,rfl⟩) (As (gO fun _=>Ae (.bool (decide (((c).toNat)<=(57)))) rfl rfl (FR rfl) (fun hG21=>YX (a:=(((c).toNat:Nat):Int)) (b:=((57:Nat):Int)) (Ai rfl hG21) rfl (EA _ .u8 ((c).toNat) (57)) ⟨rfl,rfl⟩) (As (gO fun _=>DY ((decide ((48)<=((c).toNat)))&&(decide (((c).toNat)<=(57)))) rfl rfl (gF rfl) (fun hG22=>ZB (Ai rfl hG22) (fun hA=>(Ai rfl (FZ hG22 hA))) rfl ⟨rfl,rfl⟩) fun bb23 hbb24=>As (gS (Ze rfl rfl (fun hA=>(Ai rfl (BH hA))) fun bb25 hbb26=>(gO fun _=>Ae (B8 (c)) rfl rfl (gF rfl) (fun hG27=>AbL rfl ⟨rfl,rfl⟩) (As (gO fun _=>Ae (.bool (decide (((c).toNat:Nat)=(45)))) rfl rfl (gF rfl) (fun hG28=>YX (a:=(((c).toNat:Nat):Int)) (b:=((45:Nat):Int)) (Ai rfl hG28) rfl (AK _ .u8 ((c).toNat) (45)) ⟨rfl,rfl⟩) (As (gS (Ze rfl rfl (fun hA=>(Ai rfl (BH hA))) fun bb29 hbb30=>(gO fun _=>Ae (B8 (c)) rfl rfl (gF rfl) (fun hG31=>AbL rfl ⟨rfl,rfl⟩) (As (gO fun _=>Ae (.bool (decide (((c).toNat:Nat)=(95)))) rfl rfl (gF rfl) (fun hG32=>YX (a:=(((c).toNat:Nat):Int)) (b:=((95:Nat):Int)) (Ai rfl hG32) rfl (AK _ .u8 ((c).toNat) (95)) ⟨rfl,rfl⟩) (As (gS (Ze rfl rfl (fun hA=>(Ai rfl (BH hA))) fun bb33 hbb34=>(gO fun _=>Ae (B8 (c)) rfl rfl (gF rfl) (fun hG35=>AbL rfl ⟨rfl,rfl⟩) (As (gO fun _=>Ae (.bool (decide (((c).toNat:Nat)=(46)))) rfl rfl (gF rfl) (fun hG36=>YX (a:=(((c).toNat:Nat):Int)) (b:=((46:Nat):Int)) (Ai rfl hG36) rfl (AK _ .u8 ((c).toNat) (46)) ⟨rfl,rfl⟩) (As ?_))))))))))))))))))))))));refine gS (Ze rfl rfl (fun hA=>(Ai rfl (BH hA))) fun bb37 hbb38=>(AD rfl (vr (.bool (bb37)) rfl) ?_));subst hbb6 hbb14 hbb16 hbb24 hbb26 hbb30 hbb34 hbb38;exact⟨rfl,hE⟩
theorem Wj(w:Acs)(s:Bs)(hl:s.length≠64):
  Calls Acu 128 #[St s] w fun e w' =>e = .returned (.bool false)/\Ext w w' :=by
 refine gG (args:= [St (s)]) Tryz.func128 rfl 11 rfl rfl ?_;have hE:=AbE w;refine gS (Zz (l:=s) EI rfl (gS (YX (a:=(s.length:Nat)) (b:=(64:Nat)) rfl rfl (AK _ _ _ _) (kF (hl) (gS (Zx rfl rfl (AD rfl (vr (.bool (false)) rfl) ?_)))))));exact⟨rfl,hE⟩
theorem J5(w:Acs)(s:Bs)(hs:s.length<=9223372036854775807):
  Calls Acu 84 #[St s] w fun e w' =>e = .returned (.bool (Au s))/\Ext w w' :=by
 refine FT (args:= [St (s)]) Tryz.func84 rfl 41 rfl rfl ?_;have hE:=AbE w;refine gS (Zz (l:=s) EI rfl (gS (YX (a:=(s.length:Nat)) (b:=(1:Nat)) rfl rfl (Bf _ _ _ _) (gO fun _=>Ae (St (s)) rfl rfl (gF rfl) (fun hG4=>AbL rfl ⟨rfl,rfl⟩) (As (gO fun _=>Ae (NI s.length) rfl rfl (gF rfl) (fun hG5=>Zz (l:=s) EI (Ai rfl hG5) ⟨rfl,rfl⟩) (As (gO fun _=>Ae (.bool (decide ((32)<(s.length)))) rfl rfl (gF rfl) (fun hG6=>YX (a:=((s.length:Nat):Int)) (b:=((32:Nat):Int)) (Ai rfl hG6) rfl (CD _ .i64 (s.length) (32)) ⟨rfl,rfl⟩) (As (gS (Ze rfl rfl (fun hA=>(Ai rfl (BH hA))) fun bb7 hbb8=>(gO fun _=>Ae (St (s)) rfl rfl (gF rfl) (fun hG9=>AbL rfl ⟨rfl,rfl⟩) (As (gO fun _=>Ae (B8 (s.getD (0) 0)) rfl rfl (gF rfl) (fun hG10=>ZQ (l:=s) (i:=0) EI (Ai rfl hG10) rfl (by first | omega | (simp only[hbb8,gA,gB,gC,gD,gE]at hG10;omega)) ⟨rfl,rfl⟩) (As (gO fun _=>Ae (.bool (decide (((s.getD (0) 0).toNat:Nat)=(46)))) rfl rfl (gF rfl) (fun hG11=>YX (a:=(((s.getD (0) 0).toNat:Nat):Int)) (b:=((46:Nat):Int)) (Ai rfl hG11) rfl (AK _ .u8 ((s.getD (0) 0).toNat) (46)) ⟨rfl,rfl⟩) (As (gS (Ze rfl rfl (fun hA=>(Ai rfl (BH hA))) fun bb12 hbb13=>(gO fun _=>Ae (St (s)) rfl rfl (gF rfl) (fun hG14=>AbL rfl ⟨rfl,rfl⟩) (As (gO fun _=>Ae (B8 (s.getD (0) 0)) rfl rfl (gF rfl) (fun hG15=>ZQ (l:=s) (i:=0) EI (Ai rfl hG15) rfl (by first | omega | (simp only[hbb8,hbb13,gA,gB,gC,gD,gE]at hG15;omega)) ⟨rfl,rfl⟩) (As (gO fun _=>Ae (.bool (decide (((s.getD (0) 0).toNat:Nat)=(45)))) rfl rfl (gF rfl) (fun hG16=>YX (a:=(((s.getD (0) 0).toNat:Nat):Int)) (b:=((45:Nat):Int)) (Ai rfl hG16) rfl (AK _ .u8 ((s.getD (0) 0).toNat) (45)) ⟨rfl,rfl⟩) (As (gS (Ze rfl rfl (fun hA=>(Ai rfl (BH hA))) fun bb17 hbb18=> ?_)))))))))))))))))))))))))));refine gO fun _=>Ae (St (s)) rfl rfl (gF rfl) (fun hG19=>AbL rfl ⟨rfl,rfl⟩) (As (gO fun _=>Ae (.bool (decide (s=(([72,69,65,68]:AhU):AhU)))) rfl rfl (gF rfl) (fun hG20=>ZR (l:=s) (m:=([72,69,65,68]:AhU)) (.inl rfl) (Ai rfl hG20) rfl (decide (s=(([72,69,65,68]:AhU):AhU))) rfl ⟨rfl,rfl⟩) (As (gS (Ze rfl rfl (fun hA=>(Ai rfl (BH hA))) fun bb21 hbb22=>(gO fun _=>Ae (St (s)) rfl rfl (gF rfl) (fun hG23=>AbL rfl ⟨rfl,rfl⟩) (As (gO fun _=>Ch (.bool (false)) rfl rfl (gF rfl) (fun hG24=>YZ RX (Ai rfl hG24) ((Wj _ s (by first | omega | (simp only[hbb8,hbb13,hbb18,hbb22,gA,gB,gC,gD,gE]at hG24;omega))).mono (by rintro e w2 ⟨rfl,hx⟩;exact⟨_,rfl,rfl,hx⟩))) fun q h=>As (gS (Ze rfl rfl (fun hA=>(Ai rfl (BH hA))) fun bb28 hbb29=> ?_))))))))));refine cB (bb28) rfl (fun c=> ?_) fun c=> ?_
 ·subst hbb8 hbb13 hbb18 hbb22 hbb29;rw[Bool.or_false]at c;refine AD rfl (vr (.bool (false)) rfl) ?_;have hE:=hE.trans h;exact⟨by rw[Qb (s:=s) c],hE⟩
 subst hbb8 hbb13 hbb18 hbb22 hbb29;rw[Bool.or_false]at c;have hh:Hx s=false:=c;have hsl:=LR hh;have hE:=hE.trans h;refine gS (Zz (l:=s) EI rfl (gL (fun(ρ:Ah) (wz:Acs)=>∃i:Nat,ρ 0=(St (s):Acr)/\ρ 31=(NI s.length:Acr)/\ρ 32=(NI i:Acr)/\Ext w wz/\(i<=s.length)/\((s.take i).all I9=true)/\True) (fun ρ _=>s.length-(intOf (ρ 32)).toNat) ⟨0,rfl,rfl,rfl,hE,AcO _,by simp,trivial⟩ ?_));clear hE;rintro o r ⟨i,j,k,f,hE,hi,ha,-⟩;have q32:=f;refine gS (YX (a:=(i:Nat)) (b:=(s.length:Nat)) f k (Bf _ _ _ _) ?_);refine cD rfl (fun p=> ?_) fun p=> ?_
 ·refine gS (ZQ (l:=s) (i:=i) EI j f (by omega) (gS (YZ RY rfl ((TW _ (s.getD (i) 0)).mono ?_))));rintro e t ⟨rfl,n⟩;refine⟨_,rfl,?_⟩;refine gS (Zh rfl ?_);refine cB (!(I9 (s.getD (i) 0))) rfl (fun g=> ?_) fun g=> ?_
  ·refine AD rfl (vr (.bool (false)) rfl) ?_;have hE:=hE.trans n;exact⟨by rw[RS (show i<s.length by omega) (X8 g)],hE⟩
  have hE:=hE.trans n;refine gS (Y4 (xv:=NI i) (yv:=NI 1) f rfl rfl (AG _ _ _ (by omega)) (gK (Adv ⟨i+1,j,k,rfl,hE,by omega,TV 0 (by omega) ha (X7 g),trivial⟩ ?_)));show s.length-(intOf (NI ((i)+(1)))).toNat<s.length-(intOf (o 32)).toNat;rw[q32];simp only[intOf,AcX];omega
 refine AD rfl (vr (.bool (true)) rfl) ?_;exact⟨by rw[RT hh (by omega) ha],hE⟩
section
variable {P : AcN} {K : Acr -> Acs -> Prop} {ρ : Ah} {w : Acs} {d : Option Tmp} {ty : Acz} {pos : String} {af : Array Adk} {gd : Option (Nat × Bool)}
variable {α β : Type} {ek : α -> Acr} {ev : β -> Acr} {D : α -> Prop} {b : Nat} {G : α -> Option β}
variable {t Kt E : Acz} {OK : Acr -> Prop}
theorem Aay(L:KL P Kt OK)(hD:∀a,D a->OK (ek a))(hi:∀a c,ek a=ek c->a=c)(ht:P.underlying t=some (.map Kt E)){z:Acr}(hz:∀u:Acs,(zeroValue E).run P u = .ok z u){x y:AcD}{a:α} 
  (hm:Ab ρ x = .map (some b)) (hy:Ab ρ y=ek a) (h:MapF ek ev D w b G) (ha:D a) (hk:K ((G a).elim z ev) w):
  Yk P K ((execOp (Ab ρ) ⟨d, .lookup t x y false,ty,pos,af,gd⟩).run P w):=by
 have hrun:=h.look L hD hi ht hz ha false;refine AbK (v:=(G a).elim z ev) (w' :=w) ?_ hk;unfold execOp;simp only[hm,hy,AcC,hrun,AcB,AcE];rfl
theorem Aal[DecidableEq α](L:KL P Kt OK)(hD:∀a,D a->OK (ek a))(ht:P.underlying t=some (.map Kt E)){x y z:AcD}{a:α}{c:β} 
  (hm:Ab ρ x = .map (some b)) (hy:Ab ρ y=ek a) (hz:Ab ρ z=ev c) (h:MapF ek ev D w b G) (ha:D a) (hk:∀w',MapF ek ev D w' b (updM G a (some c))->w.grownBy w' (some b)->w'.heap.size=w.heap.size->K undef w'):
  Yk P K ((execOp (Ab ρ) ⟨d, .mapUpdate t x y z,ty,pos,af,gd⟩).run P w):=by
 obtain⟨w',hrun,h1,h2,h3⟩:=h.put L hD ht ha c;have hr:(execOp (Ab ρ) ⟨d, .mapUpdate t x y z,ty,pos,af,gd⟩).run P w = .ok .skip w' \/(execOp (Ab ρ) ⟨d, .mapUpdate t x y z,ty,pos,af,gd⟩).run P w = .ok (.value undef) w' :=by
  unfold execOp;simp only[hm,hy,hz,AcC,hrun,AcB,AcE];simp
 rcases hr with hr | hr <;> rw[hr] <;> exact hk w' h1 h2 h3
theorem AaV[DecidableEq α](L:KL P Kt OK)(hD:∀a,D a->OK (ek a))(hi:∀a c,ek a=ek c->a=c)(ht:P.underlying t=some (.map Kt E)){x y:AcD}{a:α} 
  (hm:Ab ρ x = .map (some b)) (hy:Ab ρ y=ek a) (h:MapF ek ev D w b G) (ha:D a) (hk:∀w',MapF ek ev D w' b (updM G a none)->w.grownBy w' (some b)->w'.heap.size=w.heap.size->K (.tuple #[]) w'):
  Yk P K ((execOp (Ab ρ) ⟨d, .call ⟨.builtin .delete,#[x,y],#[t,Kt]⟩,ty,pos,af,gd⟩).run P w):=by
 obtain⟨w',hrun,h1,h2,h3⟩:=h.del L hD hi ht (ty:=ty) ha;refine AbK (v:= .tuple #[]) (w' :=w') ?_ (hk w' h1 h2 h3);unfold execOp;simp only[resolve,invoke,builtin,AcC,AcE,AcB,AcJ,AcL,AcR,hm,hy,hrun]
theorem Z1(ek:α->Acr)(ev:β->Acr)(D:α->Prop)(hk:∀g w',w.heap.size=g->MapF ek ev D w' g (fun _=>none)->Ext w w' ->w'.heap.size=g+1->K (.map (some g)) w'):
  Yk P K ((execOp (Ab ρ) ⟨d, .makeMap t none,ty,pos,af,gd⟩).run P w):=by
 refine AbK (v:= .map (some w.heap.size)) (w' :=w.alloc (.map #[] 0)) ?_ (hk _ _ rfl (Abh ek ev D w) ((Adp _ _).alloc (Acy _) _) (by simp));unfold execOp;simp[Instr.makeMap,newObj,Adj];rfl
theorem ZO(L:KL P Kt OK)(hD:∀a,D a->OK (ek a))(hi:∀a c,ek a=ek c->a=c)(ht:P.underlying t=some (.map Kt E)){z:Acr}(hz:∀u:Acs,(zeroValue E).run P u = .ok z u){x y:AcD}{a:α}{c:β} 
  (hm:Ab ρ x = .map (some b)) (hy:Ab ρ y=ek a) (h:MapF ek ev D w b G) (ha:D a) (hG:G a=some c) (hk:K (ev c) w):Yk P K ((execOp (Ab ρ) ⟨d, .lookup t x y false,ty,pos,af,gd⟩).run P w):=
 Aay L hD hi ht hz hm hy h ha (by rw[hG];exact hk)
theorem Aap(L:KL P Kt OK)(hD:∀a,D a->OK (ek a))(hi:∀a c,ek a=ek c->a=c)(ht:P.underlying t=some (.map Kt E)){z:Acr}(hz:∀u:Acs,(zeroValue E).run P u = .ok z u){x y:AcD}{a:α} 
  (hm:Ab ρ x = .map (some b)) (hy:Ab ρ y=ek a) (h:MapF ek ev D w b G) (ha:D a) (hG:G a=none) (hk:K z w):Yk P K ((execOp (Ab ρ) ⟨d, .lookup t x y false,ty,pos,af,gd⟩).run P w):=
 Aay L hD hi ht hz hm hy h ha (by rw[hG];exact hk)
theorem Yk.build{parts:Array (Nat × AcD)}{vs:Array (Nat × Acr)}{v:Acr}(hv:(parts.map fun(i,x)=>(i,Ab ρ x))=vs)(hr:∀w:Acs,(Adu t vs).run P w = .ok v w)(hk:K v w):
  Yk P K ((execOp (Ab ρ) ⟨d, .build t parts,ty,pos,af,gd⟩).run P w):=by
 refine AbK (v:=v) (w' :=w) ?_ hk;unfold execOp;simp only[hv,hr,AcC,AcB,AcE]
theorem ZY{i0:Nat}{x0:AcD}{a v:Acr}(h0:Ab ρ x0=a)(hr:∀w:Acs,(Adu t #[(i0,a)]).run P w = .ok v w)(hk:K v w):Yk P K ((execOp (Ab ρ) ⟨d, .build t #[(i0,x0)],ty,pos,af,gd⟩).run P w):=
 Yk.build (by simp[h0]) hr hk
theorem ZK{i0 i1:Nat}{x0 x1:AcD}{a b v:Acr}(h0:Ab ρ x0=a)(h1:Ab ρ x1=b)(hr:∀w:Acs,(Adu t #[(i0,a),(i1,b)]).run P w = .ok v w)(hk:K v w):Yk P K ((execOp (Ab ρ) ⟨d, .build t #[(i0,x0),(i1,x1)],ty,pos,af,gd⟩).run P w):=
 Yk.build (by simp[h0,h1]) hr hk
theorem RG.slice{k:Nat}{enc:α->List Acr}{v:Acr}{l:List α}(h:RG k enc w v l):∃ao n c,v = .slice ao n c:=by
 obtain⟨ao,c,rfl⟩:=h.len;exact⟨ao,_,c,rfl⟩
abbrev Acj:=@RG.slice
theorem Aah{fs}(hu:P.underlying t=some (.struct fs)){x:AcD}{v:Acr}(hx:Ab ρ x=v)(hk:K (.iface t v) w):Yk P K ((execOp (Ab ρ) ⟨d, .makeInterface t x,ty,pos,af,gd⟩).run P w):=by
 refine AbK (v:= .iface t v) (w' :=w) ?_ hk;unfold execOp;simp[Instr.makeInterface,hx,run_underlying hu,Adj]
theorem ZS{k:Nat}{enc:α->List Acr}{e:Acz}{x:AcD}{a:α}(hx:Ab ρ x = .agg (enc a).toArray)(hl:(enc a).length=k) 
  (hr:∀(cs:Array Acr),cs.size=k->∀w:Acs,(Ac1 t 1 #[(0, .agg cs)]).run P w = .ok (.slice (some ⟨w.heap.size,0,none⟩) 1 1) (w.alloc (.cells cs e)))
  (hk:∀v w',RG k enc w' v [a]->Ext w w' ->K v w'):Yk P K ((execOp (Ab ρ) ⟨d, .buildSlice t 1 #[(0,x)],ty,pos,af,gd⟩).run P w):=by
 have hE:Ext w (w.alloc (.cells (enc a).toArray e)):=(Adp _ _).alloc (Acy _) _;refine AbK (v:= .slice (some ⟨w.heap.size,0,none⟩) 1 1) (w' :=w.alloc (.cells (enc a).toArray e)) ?_ (hk _ _ (Aao hl (heap_alloc_new w _)) hE);unfold execOp;simp only[AcJ,AcL,AcR,hx,AcC,hr _ (show(enc a).toArray.size=k by rw[Ac6];exact hl),AcB,AcE]
theorem RG.elem{k:Nat}{enc:α->List Acr}{v:Acr}{l:List α}(h:RG k enc w v l)(dd:α){i:Nat}(hi:i<l.length):(enc (l.getD i dd)).length=k:=by
 refine h.1 _ ?_;rw[AcA,AcG hi];exact AdX hi
abbrev AbO:=@RG.elem
theorem RG.cut{k:Nat}{enc:α->List Acr}{v:Acr}{l:List α}(h:∀x∈l,(enc x).length=k){a c:Nat}(ha:a<=c)(hc:c<=l.length)(hR:Reads w k v (c-a) (((l.flatMap enc).drop (a*k)).take ((c-a)*k))):RG k enc w v ((l.drop a).take (c-a)):=by
 have hd:∀(l:List α) (n:Nat),(∀x∈l,(enc x).length=k)->(l.flatMap enc).drop (n*k)=(l.drop n).flatMap enc:=by
  intro l n
  induction n generalizing l with
  | zero=>intro _;simp
  | succ n ih=>
   intro h;cases l with
   | nil=>simp
   | cons x r=>
    have hx:=h x (by simp);rw[Adm,List.drop_succ_cons,<-ih r (fun y hy=>h y (by simp[hy])),show(n+1)*k=(enc x).length+n*k by rw[hx,AdN];omega,List.drop_append,Ael (by omega),AeB,Ac9]
 have htk:∀(l:List α) (n:Nat),(∀x∈l,(enc x).length=k)->(l.flatMap enc).take (n*k)=(l.take n).flatMap enc:=by
  intro l n
  induction n generalizing l with
  | zero=>intro _;simp
  | succ n ih=>
   intro h;cases l with
   | nil=>simp
   | cons x r=>
    have hx:=h x (by simp);rw[Adm,List.take_succ_cons,Adm,<-ih r (fun y hy=>h y (by simp[hy])),show(n+1)*k=(enc x).length+n*k by rw[hx,AdN];omega,List.take_append,Ac7 (by omega),AeB]
 refine⟨fun x hx=>h x (Afp (List.mem_of_mem_take hx)),?_⟩;rw[hd l a h,htk _ _ (fun x hx=>h x (Afp hx))]at hR;rw[show((l.drop a).take (c-a)).length=c-a by rw[AcS,AcU];omega];exact hR
theorem AaL{k:Nat}{enc:α->List Acr}{e:Acz}(ht:P.underlying t=some (.slice e))(he:∀w' :Acs,(sizeOf e).run P w' = .ok k w'){x lo:AcD}{v:Acr}{xs:List α}(hx:Ab ρ x=v)(h:RG k enc w v xs){kd:AdI}{l:Nat}(hlo:Ab ρ lo = .int kd (l:Int))(hl:l<=xs.length) 
  (hk:∀v',RG k enc w v' (xs.drop l)->v'.ownBlock=v.ownBlock->K v' w):Yk P K ((execOp (Ab ρ) ⟨d, .slice t x (some lo) none none,ty,pos,af,gd⟩).run P w):=by
 obtain⟨ao,c,⟨hrun,hb⟩,hR⟩:=Ct ht he h.2 (some (.int kd l)) none l xs.length hl (Acy _) (.inr ⟨kd,rfl⟩) (.inl ⟨rfl,rfl⟩);have hR' :=RG.cut h.1 hl (Acy _) hR;rw[Ac7 (by rw[AcU];exact Acy _)]at hR';refine AbK (v:= .slice ao (xs.length-l) c) (w' :=w) ?_ (hk _ hR' hb);unfold execOp;simp only[hx,hlo,AdP,Aek,hrun,AcC,AcE,AcB]
theorem AaM{k:Nat}{enc:α->List Acr}{e:Acz}(ht:P.underlying t=some (.slice e))(he:∀w' :Acs,(sizeOf e).run P w' = .ok k w'){x hi:AcD}{v:Acr}{xs:List α}(hx:Ab ρ x=v)(h:RG k enc w v xs){kd:AdI}{n:Nat}(hhi:Ab ρ hi = .int kd (n:Int))(hl:n<=xs.length) 
  (hk:∀v',RG k enc w v' (xs.take n)->v'.ownBlock=v.ownBlock->K v' w):Yk P K ((execOp (Ab ρ) ⟨d, .slice t x none (some hi) none,ty,pos,af,gd⟩).run P w):=by
 obtain⟨ao,c,⟨hrun,hb⟩,hR⟩:=Ct ht he h.2 none (some (.int kd n)) 0 n (AcO _) hl (.inl ⟨rfl,rfl⟩) (.inr ⟨kd,rfl⟩);have hR' :=RG.cut h.1 (AcO _) hl hR;rw[AeD,Nat.sub_zero]at hR';refine AbK (v:= .slice ao (n-0) c) (w' :=w) ?_ (hk _ hR' hb);unfold execOp;simp only[hx,hhi,AdP,Aek,hrun,AcC,AcE,AcB]
theorem Y6{f:FuncId}(hp:Plain P f){x0:AcD}{a:Acr}{at_:Array Acz}{J:List PanicEntry->Acs->Prop}(h0:Ab ρ x0=a) 
  (h:Calls P f #[a] w fun e w' =>match e with | .returned v=>K v w' | .panicked ch=>J ch w' | .outgrown=>False):Yp P K J ((execOp (Ab ρ) ⟨d, .call ⟨.value (.func f),#[x0],at_⟩,ty,pos,af,gd⟩).run P w):=
 Yp.call hp [a] (by simp[h0]) h
theorem Z4{f:FuncId}(hp:Plain P f){x0 x1:AcD}{a b:Acr}{at_:Array Acz}{J:List PanicEntry->Acs->Prop}(h0:Ab ρ x0=a)(h1:Ab ρ x1=b) 
  (h:Calls P f #[a,b] w fun e w' =>match e with | .returned v=>K v w' | .panicked ch=>J ch w' | .outgrown=>False):Yp P K J ((execOp (Ab ρ) ⟨d, .call ⟨.value (.func f),#[x0,x1],at_⟩,ty,pos,af,gd⟩).run P w):=
 Yp.call hp [a,b] (by simp[h0,h1]) h
end
section
variable {P : AcN} {K : Acr -> Acs -> Prop} {ρ : Ah} {w : Acs} {d : Option Tmp} {ty : Acz} {pos : String} {af : Array Adk} {gd : Option (Nat × Bool)}
theorem Aa4{f:FuncId}{at_:Array Acz}{x y:AcD}{a b v:Acr}(hx:Ab ρ x=a)(hy:Ab ρ y=b)(hr:(callFunc f #[a,b]).run P w = .ok (.value v) w)(hk:K v w):Yk P K ((execOp (Ab ρ) ⟨d, .call ⟨.value (.func f),#[x,y],at_⟩,ty,pos,af,gd⟩).run P w):=by
 refine AbK (v:=v) (w' :=w) ?_ hk;have hf:Ab ρ (.func f) = .func (.func f) #[] #[]:=rfl;unfold execOp;simp[resolve,hf,Deferred.ofValue,invoke,hx,hy,hr]
end
section
variable {P : AcN} {w : Acs}
theorem Abq{g:Nat}{l:AhU}{t:Acz}{fr:Nat × Nat}(h:w.heap[g]? =some (.cells (Acv l).toArray t fr))(hl:l.length<=9223372036854775807):RB w (.slice (some ⟨g,0,none⟩) l.length l.length) l:=
 ⟨by simp[Acv],_,_,rfl,Acy _,by unfold maxLen;omega,(fun h=>by cases h),fun a ha j u hu=>by
  cases ha;rw[AdU,Aec];exact Ac h hu⟩
theorem Abi{g n:Nat}{l:AhU}{t:Acz}{fr:Nat × Nat}(h:w.heap[g]? =some (.cells (Acv l).toArray t fr))(hn:l.length=n)(hl:n<=9223372036854775807):RB w (.slice (some ⟨g,0,none⟩) n n) l:=by
 subst hn;exact Abq h hl
end
def Ag(x:B6):Bool:=decide (x.1=Ady 32 0)
theorem RZ{α:Type}{l:List α}{i:Nat}(d:α)(h:i<l.length):l.drop i=l.getD i d :: l.drop (i+1):=by
 rw[Aeu h,AcA,AcG h];rfl
theorem Ew{l:AhU}(h:(Acv l).length=32):l.length=32:=by rwa [AcH]at h
section
variable {P : AcN} {K : Acr -> Acs -> Prop} {ρ : Ah} {w : Acs} {d : Option Tmp} {ty : Acz} {pos : String} {af : Array Adk} {gd : Option (Nat × Bool)}
variable {α β : Type} {ek : α -> Acr} {ev : β -> Acr} {D : α -> Prop} {b : Nat} {G : α -> Option β}
variable {t Kt E : Acz} {OK : Acr -> Prop}
theorem Aam[DecidableEq α](L:KL P Kt OK)(hD:∀a,D a->OK (ek a))(ht:P.underlying t=some (.map Kt E)){x y z:AcD}{a:α}{c:β} 
  (hm:Ab ρ x = .map (some b)) (hy:Ab ρ y=ek a) (hz:Ab ρ z=ev c) (h:MapF ek ev D w b G) (ha:D a) (hk:∀w',MapF ek ev D w' b (updM G a (some c))->w.grownBy w' (some b)->w'.heap.size=w.heap.size->K undef w'):
  Yk P K ((execOp (Ab ρ) ⟨d, .insert t x y z,ty,pos,af,gd⟩).run P w):=by
 obtain⟨w',hrun,h1,h2,h3⟩:=h.put L hD ht ha c;have hr:(execOp (Ab ρ) ⟨d, .insert t x y z,ty,pos,af,gd⟩).run P w = .ok .skip w' \/(execOp (Ab ρ) ⟨d, .insert t x y z,ty,pos,af,gd⟩).run P w = .ok (.value undef) w' :=by
  unfold execOp;simp only[hm,hy,hz,AcC,hrun,AcB,AcE];simp
 rcases hr with hr | hr <;> rw[hr] <;> exact hk w' h1 h2 h3
theorem Abj{t:Acz}{i0 i1 i2:Nat}{x0 x1 x2:AcD}{a b c v:Acr}(h0:Ab ρ x0=a)(h1:Ab ρ x1=b)(h2:Ab ρ x2=c)(hr:∀w:Acs,(Adu t #[(i0,a),(i1,b),(i2,c)]).run P w = .ok v w)(hk:K v w):Yk P K ((execOp (Ab ρ) ⟨d, .build t #[(i0,x0),(i1,x1),(i2,x2)],ty,pos,af,gd⟩).run P w):=
 Yk.build (by simp[h0,h1,h2]) hr hk
end
theorem M7:KL Acu 5 (Afv (.int .u8)):=Aax (by kernel_rfl)
theorem M8:∀n:UInt8,True->Afv (.int .u8) (B8 n):=fun n _=>by first | exact⟨_,rfl⟩ | simp[Afv]
theorem Xo{a b:UInt8}(h:B8 a=B8 b):a=b:=by
 injection h with _ h
 exact UInt8.toNat_inj.1 (Int.ofNat.inj h)
def nE(l:List AI)(i:Nat):Bool:=((!Au (l.getD i dNmd).name)||Ag (l.getD i dNmd).id)||(decide (0<i)&&(!Ac5 (l.getD (i-1) dNmd).name (l.getD i dNmd).name))
open Classical in
noncomputable def BV(l:List AI):Bool:=decide ((∀j,j<l.length->nE l j=false)/\l.length<=64)
theorem Hy{l:List AI}{i:Nat}(hi:l.length<=i)(h:∀j,j<i->nE l j=false):BV l=decide (l.length<=64):=by
 classical
 unfold BV;by_cases h2:l.length<=64
 ·rw[decide_eq_true h2,decide_eq_true ⟨fun j hj=>h j (by omega),h2⟩]
 ·rw[decide_eq_false h2,decide_eq_false (fun k=>h2 k.2)]
theorem Qf{l:List AI}{i:Nat}(hi:i<l.length)(h:nE l i=true):BV l=false:=by
 classical
 exact decide_eq_false (fun k=>by have:=k.1 i hi;rw[h]at this;cases this)
theorem Pw{p:Nat->Bool}{i:Nat}(h:∀j,j<i->p j=false)(h1:p i=false):∀j,j<i+1->p j=false:=fun j hj=>by
 by_cases e:j<i
 ·exact h j e
 ·obtain rfl:j=i:=by omega
  exact h1
def DT(k:UInt8):Bool:=(decide (k.toNat=1)||decide (k.toNat=2))||decide (k.toNat=3)
def GO(l:List A7)(i:Nat):Bool:=((!DT (l.getD i At).kind)||(!Cl (l.getD i At).note))||decide (32<(l.getD i At).name.length)
noncomputable def IA(r:Aq):Bool:=((!BV r.branches)||(!BV r.tags))||decide (64<r.log.length)
noncomputable def He(r:Aq):Bool:=(decide (r.head≠ [])&&((!Au r.head)||(!Ag r.at_)))||(decide (r.head= [])&&Ag r.at_)
open Classical in
noncomputable def Az(r:Aq):Bool:=(!IA r)&&((!He r)&&decide (∀j,j<r.log.length->GO r.log j=false))
theorem TY{r:Aq}(h:IA r=true):Az r=false:=by unfold Az;rw[h];rfl
theorem TZ{r:Aq}(h1:IA r=false)(h:He r=true):Az r=false:=by unfold Az;rw[h1,h];rfl
theorem Qg{r:Aq}{i:Nat}(h1:IA r=false)(h2:He r=false)(hi:i<r.log.length)(h:GO r.log i=true):Az r=false:=by
 classical
 unfold Az;rw[h1,h2,decide_eq_false (fun k=>by have:=k i hi;rw[h]at this;cases this)];rfl
theorem F0{r:Aq}{i:Nat}(h1:IA r=false)(h2:He r=false)(hi:r.log.length<=i)(h:∀j,j<i->GO r.log j=false):Az r=true:=by
 classical
 unfold Az;rw[h1,h2,decide_eq_true (fun j hj=>h j (by omega))];rfl
structure RefsAt (w : Acs) (x : Af) : Prop where
 branches:RG 33 nmdC w x.2.branches x.1.branches
 tags:RG 33 nmdC w x.2.tags x.1.tags
 log:RG 67 entC w x.2.log x.1.log
theorem RefsAt.keep{w w' :Acs}{x:Af}(h:RefsAt w x)(k:Ext w w'):RefsAt w' x:=⟨h.branches.keep k,h.tags.keep k,h.log.keep k⟩
structure E3 (r : Aq) : Prop where
 branches:r.branches.length<9223372036854775807
 tags:r.tags.length<9223372036854775807
 log:r.log.length<9223372036854775807
 bn:∀u∈r.branches,u.name.length<=9223372036854775807
 tn:∀u∈r.tags,u.name.length<=9223372036854775807
 head:r.head.length<=9223372036854775807
theorem R1:Tryz.prog.eqGuardType Tryz.prog.depth 33=false:=by kernel_rfl
theorem EQ:Tryz.prog.underlying 31=some (.slice 94):=by kernel_rfl
theorem KE:∀w' :Acs,(sizeOf 94).run Acu w' = .ok 33 w' :=fun _=>by kernel_rfl
theorem LT:∃fs,Tryz.prog.underlying 94=some (.struct fs):=Du (by kernel_rfl)
theorem KF:(Tryz.prog.info? 94).map (·.size)=some 33:=by kernel_rfl
theorem R2{d:Option Tmp}{ty:Acz}{pos:String}{af:Array Adk}{gd:Option (Nat × Bool)}(σ:AcD->Acr)(w:Acs):(execOp σ ⟨d, .alloc 94,ty,pos,af,gd⟩).run Acu w = .ok (.value (PQ w.heap.size 0)) (w.alloc (.cells (nmdC (⟨[],zid⟩:AI)).toArray 94)):=by kernel_rfl
theorem R3:Eu Acu 94 nmdC:=⟨⟨_,(LT).choose_spec⟩,fun x=>AN (BG x) KF⟩
theorem GP:AC Acu 94 0 0:=fun b o w=>by simp[go_sem]
theorem LU:Plain Acu 84:=fun _ _=>by kernel_rfl
theorem OX:AC Acu 94 1 1:=fun b o w=>by simp[go_sem]
theorem IB:Plain Acu 85:=fun _ _=>by kernel_rfl
theorem OY:AC Acu 36 0 0:=fun b o w=>by simp[go_sem]
theorem LV:Plain Acu 83:=fun _ _=>by kernel_rfl
theorem OZ:AC Acu 36 1 1:=fun b o w=>by simp[go_sem]
theorem Ju:AC Acu 36 4 35:=fun b o w=>by simp[go_sem]
theorem Fx:Tryz.prog.underlying 34=some (.slice 97):=by kernel_rfl
theorem GQ:AC Acu 36 2 2:=fun b o w=>by simp[go_sem]
theorem Jv:AC Acu 36 3 3:=fun b o w=>by simp[go_sem]
theorem Qh:∀w' :Acs,(sizeOf 97).run Acu w' = .ok 67 w' :=fun _=>by kernel_rfl
theorem LW:∃fs,Tryz.prog.underlying 97=some (.struct fs):=Du (by kernel_rfl)
theorem KG:(Tryz.prog.info? 97).map (·.size)=some 67:=by kernel_rfl
theorem R4{d:Option Tmp}{ty:Acz}{pos:String}{af:Array Adk}{gd:Option (Nat × Bool)}(σ:AcD->Acr)(w:Acs):(execOp σ ⟨d, .alloc 97,ty,pos,af,gd⟩).run Acu w = .ok (.value (PQ w.heap.size 0)) (w.alloc (.cells (entC (⟨0,[],zid,zid,[]⟩:A7)).toArray 97)):=by kernel_rfl
theorem R5:Eu Acu 97 entC:=⟨⟨_,(LW).choose_spec⟩,fun x=>AN (C5 x) KG⟩
theorem Jw:AC Acu 97 0 0:=fun b o w=>by simp[go_sem]
theorem O1:AC Acu 77 0 0:=fun b o w=>by simp[go_sem]
theorem R6:Plain Acu 86:=fun _ _=>by kernel_rfl
theorem O2:AC Acu 97 1 66:=fun b o w=>by simp[go_sem]
theorem R7:Plain Acu 35:=fun _ _=>by kernel_rfl
theorem O3:AC Acu 77 1 1:=fun b o w=>by simp[go_sem]
theorem B1(w:Acs)(u:B6):
  Calls Acu 85 #[AB u.1] w fun e w' =>e = .returned (.bool (Ag u))/\Ext w w' :=by
 refine gG (args:= [AB u.1]) Tryz.func85 rfl 6 rfl rfl ?_;have hE:=AbE w;refine gS (AbU (vr (AB u.1) rfl) fun b c h a f i=> ?_);have hE:=hE.trans f;have g:=a;clear a;have j:b<c.heap.size:=by omega
 refine gS (Zs rfl g VT rfl (by exact Ar u.2) (gS (Ab4 (v:=AB (Ady 32 0)) (by kernel_rfl) (gS (Aat (l1:=u.1) (l2:=(Ady 32 0)) VT u5 P8 R1 rfl rfl (u.2) (Ade) (AD rfl (vr (.bool (decide (u.1=(Ady 32 0)))) rfl) ?_))))));exact⟨rfl,hE⟩
theorem LX(w:Acs)(k:UInt8):
  Calls Acu 86 #[B8 k] w fun e w' =>e = .returned (.bool (DT k))/\Ext w w' :=by
 refine FT (args:= [B8 (k)]) Tryz.func86 rfl 13 rfl rfl ?_;have hE:=AbE w;refine gS (YX (a:=((k).toNat:Nat)) (b:=(1:Nat)) rfl rfl (AK _ _ _ _) (gO fun _=>Ae (B8 (k)) rfl rfl (gF rfl) (fun hG3=>AbL rfl ⟨rfl,rfl⟩) (As (gO fun _=>Ae (.bool (decide (((k).toNat:Nat)=(2)))) rfl rfl (gF rfl) (fun hG4=>YX (a:=(((k).toNat:Nat):Int)) (b:=((2:Nat):Int)) (Ai rfl hG4) rfl (AK _ .u8 ((k).toNat) (2)) ⟨rfl,rfl⟩) (As (gS (Ze rfl rfl (fun hA=>(Ai rfl (BH hA))) fun bb5 hbb6=>(gO fun _=>Ae (B8 (k)) rfl rfl (gF rfl) (fun hG7=>AbL rfl ⟨rfl,rfl⟩) (As (gO fun _=>Ae (.bool (decide (((k).toNat:Nat)=(3)))) rfl rfl (gF rfl) (fun hG8=>YX (a:=(((k).toNat:Nat):Int)) (b:=((3:Nat):Int)) (Ai rfl hG8) rfl (AK _ .u8 ((k).toNat) (3)) ⟨rfl,rfl⟩) (As (gS (Ze rfl rfl (fun hA=>(Ai rfl (BH hA))) fun bb9 hbb10=>(AD rfl (vr (.bool (bb9)) rfl) ?_))))))))))))));subst hbb6 hbb10;exact⟨rfl,hE⟩
theorem LY(w:Acs)(v:Acr)(l:List AI)(hr:RG 33 nmdC w v l)(hll:l.length<9223372036854775807)(hln:∀u∈l,u.name.length<=9223372036854775807):
  Calls Acu 83 #[v] w fun e w' =>e = .returned (.bool (BV l))/\Ext w w' :=by
 refine gG (args:= [v]) Tryz.func83 rfl 40 rfl rfl ?_;have hE:=AbE w;refine gS (Y8 EQ (Y5 hr rfl) (gL (fun(ρ:Ah) (wz:Acs)=>∃i:Nat,ρ 0=(v:Acr)/\ρ 5=(v:Acr)/\ρ 6=(NI l.length:Acr)/\ρ 7=(NI i:Acr)/\RG 33 nmdC wz v l/\Ext w wz/\(i<=l.length)/\(∀j,j<i->nE l j=false)/\True) (fun ρ _=>l.length-(intOf (ρ 7)).toNat) ⟨0,rfl,rfl,rfl,rfl,hr,hE,AcO _,fun j hj=>absurd hj (AdB _),trivial⟩ ?_));clear hr hE;rintro af w5 ⟨i,p,T5,r,f,hr,hE,hi,hn,-⟩;have q7:=f;refine gS (YX (a:=(i:Nat)) (b:=(l.length:Nat)) f r (Bf _ _ _ _) ?_);refine cD rfl (fun z=> ?_) fun z=> ?_
 ·have hlt:i<l.length:=z;have hnm:=hln _ (Cb dNmd hlt);have bd:(nmdC (l.getD (i) dNmd)).length=33:=(AbO hr dNmd (by omega));refine gS (Zd EQ KE (by decide) dNmd (Y5 hr T5) f (by omega) fun be aa=>(gS (Y3 (Zj aa rfl) (LT).choose_spec rfl (by rw[BG];exact KF) (gS (AbM R2 fun c ah bf ab ac bg=> ?_)))));have o:=AbE w5;have bh:=hE;have ai:=hE.size;have hE:=hE.trans ac;have o:=o.trans ac;have g:=ab;clear ab;have bi:c<ah.heap.size:=by omega
  refine gS (Za R3 (vr (PQ c 0) rfl) (vr (.agg (nmdC (l.getD (i) dNmd)).toArray) rfl) g (DM) fun aj ad ae bj=> ?_);have hE:=Ad hE ae (Acw ai (by omega));have o:=Ad o ae (Acw (Acy _) (by omega));clear g;have g:aj.heap[c]? =some (.cells (nmdC (l.getD (i) dNmd)).toArray 94 (0,0)):=ad;clear ad;have bk:=bl g;clear aa;refine gR ?_;refine Fe [Is (PQ c 0),Is (St (((l.getD (i) dNmd)).name)),Is (.bool (Au (((l.getD (i) dNmd)).name))),Is (.bool (!(Au (((l.getD (i) dNmd)).name)))),Is (.bool (!(Au (((l.getD (i) dNmd)).name)))),Is (cond (!(!(Au (((l.getD (i) dNmd)).name)))) (PQ c 1) undef),Is (cond (!(!(Au (((l.getD (i) dNmd)).name)))) (AB (((l.getD (i) dNmd)).id.1)) undef),Is (cond (!(!(Au (((l.getD (i) dNmd)).name)))) (.bool (Ag (((l.getD (i) dNmd)).id))) undef),Is (.bool ((!(Au (((l.getD (i) dNmd)).name)))||(Ag (((l.getD (i) dNmd)).id)))),Is (.bool ((!(Au (((l.getD (i) dNmd)).name)))||(Ag (((l.getD (i) dNmd)).id)))),Is (cond (!((!(Au (((l.getD (i) dNmd)).name)))||(Ag (((l.getD (i) dNmd)).id)))) (NI i) undef),Is (cond (!((!(Au (((l.getD (i) dNmd)).name)))||(Ag (((l.getD (i) dNmd)).id)))) (.bool (decide ((0)<(i)))) undef),Is (cond (!((!(Au (((l.getD (i) dNmd)).name)))||(Ag (((l.getD (i) dNmd)).id)))) (.bool (decide ((0)<(i)))) undef),Is (cond ((!((!(Au (((l.getD (i) dNmd)).name)))||(Ag (((l.getD (i) dNmd)).id))))&&(decide ((0)<(i)))) (v) undef),Is (cond ((!((!(Au (((l.getD (i) dNmd)).name)))||(Ag (((l.getD (i) dNmd)).id))))&&(decide ((0)<(i)))) (NI i) undef),Is (cond ((!((!(Au (((l.getD (i) dNmd)).name)))||(Ag (((l.getD (i) dNmd)).id))))&&(decide ((0)<(i)))) (NI ((i)-(1))) undef),fun x w' =>((!((!(Au (((l.getD (i) dNmd)).name)))||(Ag (((l.getD (i) dNmd)).id))))&&(decide ((0)<(i))))=true->(fun x w' =>PR (nmdC (l.getD ((i)-(1)) dNmd)) x w') x w',fun x w' =>((!((!(Au (((l.getD (i) dNmd)).name)))||(Ag (((l.getD (i) dNmd)).id))))&&(decide ((0)<(i))))=true->(PCell (St ((l.getD ((i)-(1)) dNmd).name))) x w',Is (cond ((!((!(Au (((l.getD (i) dNmd)).name)))||(Ag (((l.getD (i) dNmd)).id))))&&(decide ((0)<(i)))) (St ((l.getD ((i)-(1)) dNmd).name)) undef),Is (cond ((!((!(Au (((l.getD (i) dNmd)).name)))||(Ag (((l.getD (i) dNmd)).id))))&&(decide ((0)<(i)))) (PQ c 0) undef),Is (cond ((!((!(Au (((l.getD (i) dNmd)).name)))||(Ag (((l.getD (i) dNmd)).id))))&&(decide ((0)<(i)))) (St (((l.getD (i) dNmd)).name)) undef),Is (cond ((!((!(Au (((l.getD (i) dNmd)).name)))||(Ag (((l.getD (i) dNmd)).id))))&&(decide ((0)<(i)))) (.bool (!(Ac5 ((l.getD ((i)-(1)) dNmd).name) (((l.getD (i) dNmd)).name)))) undef),Is (cond (!((!(Au (((l.getD (i) dNmd)).name)))||(Ag (((l.getD (i) dNmd)).id)))) (.bool ((decide ((0)<(i)))&&(!(Ac5 ((l.getD ((i)-(1)) dNmd).name) (((l.getD (i) dNmd)).name))))) undef),Is (.bool (((!(Au (((l.getD (i) dNmd)).name)))||(Ag (((l.getD (i) dNmd)).id)))||((decide ((0)<(i)))&&(!(Ac5 ((l.getD ((i)-(1)) dNmd).name) (((l.getD (i) dNmd)).name))))))] (by kernel_rfl) [12,13,14,15,16,17,18,19,20,21,22,23,24,25,26,27,28,29,30,31,32,33,34,35] (by kernel_rfl) (by kernel_rfl) (YI (TO ⟨(Stab.may ((fun _ _ _ h k=>Ab2 h k))),(Stab.may (Aag _)),(YJ trivial)⟩)) ?ak ?hQ1004
  case ak=>
   refine⟨?_,?_,?_,?_,?_,?_,?_,?_,?_,?_,?_,?_,?_,?_,?_,?_,?_,?_,?_,?_,?_,?_,?_,?_,trivial⟩
   ·refine AS rfl fun σ w1 hC h=> ?_;have q:σ 4=PQ c 0:=(AM (h 4 (by decide))).trans rfl;exact AbD GP q ⟨AbE _,rfl⟩
   ·refine AS rfl fun σ w1 hC h=> ?_;have al:=AM (h 12 (by decide));exact YW EI rfl al (Ac (eb hC g) (EZ (l.getD (i) dNmd))) ⟨AbE _,rfl⟩
   ·refine AS rfl fun σ w1 hC h=> ?_;have am:=AM (h 13 (by decide));refine YZ LU am ((J5 _ (((l.getD (i) dNmd)).name) (by have:=hnm;omega)).mono ?_);rintro e w2 ⟨rfl,hx⟩;exact⟨_,rfl,hx,rfl⟩
   ·refine AS rfl fun σ w1 hC h=> ?_;have an:=AM (h 14 (by decide));exact Zh an ⟨AbE _,rfl⟩
   ·refine AS rfl fun σ w1 hC h=> ?_;have ao:=AM (h 15 (by decide));exact AbL ao ⟨AbE _,rfl⟩
   ·refine A5 4 false 16 (G:= !(!(Au (((l.getD (i) dNmd)).name)))) rfl rfl (fun x _ (h:x = .bool (!(Au (((l.getD (i) dNmd)).name))))=>gF h) (fun hu_ _=>Bu hu_) fun hG σ w1 hC h=> ?_;have q:σ 4=PQ c 0:=(AM (h 4 (by decide))).trans rfl;exact AbD OX q ⟨AbE _,Bt hG⟩
   ·refine A5 4 false 16 (G:= !(!(Au (((l.getD (i) dNmd)).name)))) rfl rfl (fun x _ (h:x = .bool (!(Au (((l.getD (i) dNmd)).name))))=>gF h) (fun hu_ _=>Bu hu_) fun hG σ w1 hC h=> ?_;have ap:=AM (h 17 (by decide));exact Y3 (AbS (eb hC g) (G7 (l.getD (i) dNmd)) (G8 (l.getD (i) dNmd)) (Ai ap hG)) VT rfl (Ar ((l.getD (i) dNmd)).id.2) ⟨AbE _,Bt hG⟩
   ·refine A5 4 false 16 (G:= !(!(Au (((l.getD (i) dNmd)).name)))) rfl rfl (fun x _ (h:x = .bool (!(Au (((l.getD (i) dNmd)).name))))=>gF h) (fun hu_ _=>Bu hu_) fun hG σ w1 hC h=> ?_;have aq:=AM (h 18 (by decide));refine YZ IB (Ai aq hG) ((B1 _ (((l.getD (i) dNmd)).id)).mono ?_);rintro e w2 ⟨rfl,hx⟩;exact⟨_,rfl,hx,Bt hG⟩
   ·refine AS rfl fun σ w1 hC h=> ?_;have ar:=AM (h 16 (by decide));have au:=AM (h 19 (by decide));exact ZF ar (vr (.bool (true)) rfl) (fun hA=>(Ai au (BH hA))) ⟨AbE _,rfl⟩
   ·refine AS rfl fun σ w1 hC h=> ?_;have av:=AM (h 20 (by decide));exact AbL av ⟨AbE _,rfl⟩
   ·refine A5 9 false 21 (G:= !((!(Au (((l.getD (i) dNmd)).name)))||(Ag (((l.getD (i) dNmd)).id)))) rfl rfl (fun x _ (h:x = .bool ((!(Au (((l.getD (i) dNmd)).name)))||(Ag (((l.getD (i) dNmd)).id))))=>gF h) (fun hu_ _=>Bu hu_) fun hG σ w1 hC h=> ?_;have s:=(AM (h 3 (by decide))).trans f;exact AbL s ⟨AbE _,Bt hG⟩
   ·refine A5 9 false 21 (G:= !((!(Au (((l.getD (i) dNmd)).name)))||(Ag (((l.getD (i) dNmd)).id)))) rfl rfl (fun x _ (h:x = .bool ((!(Au (((l.getD (i) dNmd)).name)))||(Ag (((l.getD (i) dNmd)).id))))=>gF h) (fun hu_ _=>Bu hu_) fun hG σ w1 hC h=> ?_;have aw:=AM (h 22 (by decide));exact YX (a:=((i:Nat):Int)) (b:=((0:Nat):Int)) (Ai aw hG) (vr (NI 0) rfl) (CD _ .i64 (i) (0)) ⟨AbE _,Bt hG⟩
   ·refine A5 9 false 21 (G:= !((!(Au (((l.getD (i) dNmd)).name)))||(Ag (((l.getD (i) dNmd)).id)))) rfl rfl (fun x _ (h:x = .bool ((!(Au (((l.getD (i) dNmd)).name)))||(Ag (((l.getD (i) dNmd)).id))))=>gF h) (fun hu_ _=>Bu hu_) fun hG σ w1 hC h=> ?_;have ax:=AM (h 23 (by decide));exact AbL (Ai ax hG) ⟨AbE _,Bt hG⟩
   ·refine A5 12 true 24 (G:=(!((!(Au (((l.getD (i) dNmd)).name)))||(Ag (((l.getD (i) dNmd)).id))))&&(decide ((0)<(i)))) rfl rfl (fun x _ (h:x=cond (!((!(Au (((l.getD (i) dNmd)).name)))||(Ag (((l.getD (i) dNmd)).id)))) (.bool (decide ((0)<(i)))) undef)=>FR h) (fun hu_ _=>Bu hu_) fun hG σ w1 hC h=> ?_;have e0:=(AM (h 0 (by decide))).trans p;exact AbL e0 ⟨AbE _,Bt hG⟩
   ·refine A5 12 true 24 (G:=(!((!(Au (((l.getD (i) dNmd)).name)))||(Ag (((l.getD (i) dNmd)).id))))&&(decide ((0)<(i)))) rfl rfl (fun x _ (h:x=cond (!((!(Au (((l.getD (i) dNmd)).name)))||(Ag (((l.getD (i) dNmd)).id)))) (.bool (decide ((0)<(i)))) undef)=>FR h) (fun hu_ _=>Bu hu_) fun hG σ w1 hC h=> ?_;have s:=(AM (h 3 (by decide))).trans f;exact AbL s ⟨AbE _,Bt hG⟩
   ·refine A5 12 true 24 (G:=(!((!(Au (((l.getD (i) dNmd)).name)))||(Ag (((l.getD (i) dNmd)).id))))&&(decide ((0)<(i)))) rfl rfl (fun x _ (h:x=cond (!((!(Au (((l.getD (i) dNmd)).name)))||(Ag (((l.getD (i) dNmd)).id)))) (.bool (decide ((0)<(i)))) undef)=>FR h) (fun hu_ _=>Bu hu_) fun hG σ w1 hC h=> ?_;have az:=AM (h 26 (by decide));exact Y4 (xv:=NI i) (yv:=NI 1) (Ai az hG) (vr (NI 1) rfl) rfl (Ff _ (i) (1) (by first | omega | (simp only[gA,gB,gC,gD,gE]at hG;omega)) (by first | omega | (simp only[gA,gB,gC,gD,gE]at hG;omega))) ⟨AbE _,Bt hG⟩
   ·refine A5 12 true 24 (G:=(!((!(Au (((l.getD (i) dNmd)).name)))||(Ag (((l.getD (i) dNmd)).id))))&&(decide ((0)<(i)))) rfl rfl (fun x _ (h:x=cond (!((!(Au (((l.getD (i) dNmd)).name)))||(Ag (((l.getD (i) dNmd)).id)))) (.bool (decide ((0)<(i)))) undef)=>FR h) (fun hu_ _=>Yw hu_) fun hG σ w1 hC h=> ?_;have a0:=AM (h 25 (by decide));have a1:=AM (h 27 (by decide));exact Zd EQ KE (by decide) dNmd (Y5 (hr.keep (o.trans hC)) (Ai a0 hG)) (Ai a1 hG) (by first | omega | (simp only[gA,gB,gC,gD,gE]at hG;omega)) fun v h=>⟨AbE _,fun _=>h⟩
   ·refine A5 12 true 24 (G:=(!((!(Au (((l.getD (i) dNmd)).name)))||(Ag (((l.getD (i) dNmd)).id))))&&(decide ((0)<(i)))) rfl rfl (fun x _ (h:x=cond (!((!(Au (((l.getD (i) dNmd)).name)))||(Ag (((l.getD (i) dNmd)).id)))) (.bool (decide ((0)<(i)))) undef)=>FR h) (fun hu_ _=>Yw hu_) fun hG σ w1 hC h=> ?_;have a2:(fun x w' =>((!((!(Au (((l.getD (i) dNmd)).name)))||(Ag (((l.getD (i) dNmd)).id))))&&(decide ((0)<(i))))=true->(fun x w' =>PR (nmdC (l.getD ((i)-(1)) dNmd)) x w') x w') (σ 28) w1:=h 28 (by decide);exact Zy (n:=1) GP (a2 hG) fun v h=>⟨AbE _,fun _=>ZA (by rw[No]at h;exact h)⟩
   ·refine A5 12 true 24 (G:=(!((!(Au (((l.getD (i) dNmd)).name)))||(Ag (((l.getD (i) dNmd)).id))))&&(decide ((0)<(i)))) rfl rfl (fun x _ (h:x=cond (!((!(Au (((l.getD (i) dNmd)).name)))||(Ag (((l.getD (i) dNmd)).id)))) (.bool (decide ((0)<(i)))) undef)=>FR h) (fun hu_ _=>Bu hu_) fun hG σ w1 hC h=> ?_;have a3:(fun x w' =>((!((!(Au (((l.getD (i) dNmd)).name)))||(Ag (((l.getD (i) dNmd)).id))))&&(decide ((0)<(i))))=true->(PCell (St ((l.getD ((i)-(1)) dNmd).name))) x w') (σ 29) w1:=h 29 (by decide);exact Zo EI rfl (a3 hG) ⟨AbE _,Bt hG⟩
   ·refine A5 12 true 24 (G:=(!((!(Au (((l.getD (i) dNmd)).name)))||(Ag (((l.getD (i) dNmd)).id))))&&(decide ((0)<(i)))) rfl rfl (fun x _ (h:x=cond (!((!(Au (((l.getD (i) dNmd)).name)))||(Ag (((l.getD (i) dNmd)).id)))) (.bool (decide ((0)<(i)))) undef)=>FR h) (fun hu_ _=>Bu hu_) fun hG σ w1 hC h=> ?_;have q:σ 4=PQ c 0:=(AM (h 4 (by decide))).trans rfl;exact AbD GP q ⟨AbE _,Bt hG⟩
   ·refine A5 12 true 24 (G:=(!((!(Au (((l.getD (i) dNmd)).name)))||(Ag (((l.getD (i) dNmd)).id))))&&(decide ((0)<(i)))) rfl rfl (fun x _ (h:x=cond (!((!(Au (((l.getD (i) dNmd)).name)))||(Ag (((l.getD (i) dNmd)).id)))) (.bool (decide ((0)<(i)))) undef)=>FR h) (fun hu_ _=>Bu hu_) fun hG σ w1 hC h=> ?_;have a4:=AM (h 31 (by decide));exact YW EI rfl (Ai a4 hG) (Ac (eb hC g) (EZ (l.getD (i) dNmd))) ⟨AbE _,Bt hG⟩
   ·refine A5 12 true 24 (G:=(!((!(Au (((l.getD (i) dNmd)).name)))||(Ag (((l.getD (i) dNmd)).id))))&&(decide ((0)<(i)))) rfl rfl (fun x _ (h:x=cond (!((!(Au (((l.getD (i) dNmd)).name)))||(Ag (((l.getD (i) dNmd)).id)))) (.bool (decide ((0)<(i)))) undef)=>FR h) (fun hu_ _=>Bu hu_) fun hG σ w1 hC h=> ?_;have a5:=AM (h 30 (by decide));have a6:=AM (h 32 (by decide));exact AaU (l:=(l.getD ((i)-(1)) dNmd).name) (m:=((l.getD (i) dNmd)).name) (.inr rfl) (Ai a5 hG) (Ai a6 hG) (!(Ac5 ((l.getD ((i)-(1)) dNmd).name) (((l.getD (i) dNmd)).name))) rfl ⟨AbE _,Bt hG⟩
   ·refine A5 9 false 21 (G:= !((!(Au (((l.getD (i) dNmd)).name)))||(Ag (((l.getD (i) dNmd)).id)))) rfl rfl (fun x _ (h:x = .bool ((!(Au (((l.getD (i) dNmd)).name)))||(Ag (((l.getD (i) dNmd)).id))))=>gF h) (fun hu_ _=>Bu hu_) fun hG σ w1 hC h=> ?_;have a7:=AM (h 24 (by decide));have a8:=AM (h 33 (by decide));exact ZB (Ai a7 hG) (fun hA=>(Ai a8 (FZ hG hA))) (vr (.bool (false)) rfl) ⟨AbE _,Bt hG⟩
   ·refine AS rfl fun σ w1 hC h=> ?_;have a9:=AM (h 21 (by decide));have ba:=AM (h 34 (by decide));exact ZF a9 (vr (.bool (true)) rfl) (fun hA=>(Ai ba (BH hA))) ⟨AbE _,rfl⟩
  intro bb bm t he hf;obtain⟨-,-,-,-,-,-,-,-,-,-,-,-,-,-,-,-,-,-,-,-,-,-,-,k35,-⟩:=hf;obtain⟨p,T3,T4,T5,r,f,-⟩:=he.hold [(0,_),(3,_),(4,PQ c 0),(5,_),(6,_),(7,_)] ⟨p,f,rfl,T5,r,f,trivial⟩ rfl;clear he;have hE:=hE.trans t;have o:=o.trans t;have g:=eb t g;have bc:bb 35 = .bool (((!(Au (((l.getD (i) dNmd)).name)))||(Ag (((l.getD (i) dNmd)).id)))||((decide ((0)<(i)))&&(!(Ac5 ((l.getD ((i)-(1)) dNmd).name) (((l.getD (i) dNmd)).name))))):=k35;clear k35;refine gX ?_;refine cB (((!(Au (((l.getD (i) dNmd)).name)))||(Ag (((l.getD (i) dNmd)).id)))||((decide ((0)<(i)))&&(!(Ac5 ((l.getD ((i)-(1)) dNmd).name) (((l.getD (i) dNmd)).name))))) bc (fun y=> ?_) fun y=> ?_
  ·have hbad:nE l i=true:=y;refine AD rfl (vr (.bool (false)) rfl) ?_;exact⟨by rw[Qf hlt hbad],hE⟩
  have hbad:nE l i=false:=y;refine gS (Y4 (xv:=NI i) (yv:=NI 1) f rfl rfl (AG _ _ _ (by omega)) (gK (Adv ⟨i+1,p,T5,r,rfl,(hr.keep o),hE,by omega,Pw hn hbad,trivial⟩ ?_)));show l.length-(intOf (NI ((i)+(1)))).toNat<l.length-(intOf (af 7)).toNat;rw[q7];simp only[intOf,AcX];omega
 refine gS (Y8 EQ (Y5 hr p) (gS (YX (a:=(l.length:Nat)) (b:=(64:Nat)) rfl rfl (EA _ _ _ _) (AD rfl (vr (.bool (decide ((l.length)<=(64)))) rfl) ?_))));exact⟨by rw[Hy (show l.length<=i by omega) hn],hE⟩
theorem Hz(w:Acs)(x:Af)(hm:RefsAt w x)(hL:E3 x.1):
  Calls Acu 34 #[.agg (refsC x).toArray] w fun e w' =>e = .returned (.bool (Az x.1))/\Ext w w' :=by
 have hmt:=hm.branches;have hmg:=hm.tags;have hml:=hm.log;refine FT (args:= [.agg (refsC x).toArray]) Tryz.func34 rfl 72 rfl rfl ?_;have hE:=AbE w;refine gS (AbU (vr (.agg (refsC x).toArray) rfl) fun f w3 au v ak av=> ?_);have hE:=hE.trans ak;have c:=v;clear v;have aw:f<w3.heap.size:=by omega
 refine gS (AbD OY rfl (gS (YW EQ rfl rfl (Ac c (CZ x)) (gS (YZ LV rfl ((LY _ _ x.1.branches (hmt.keep hE) hL.branches hL.bn).mono ?_))))));rintro e ax ⟨rfl,y⟩;refine⟨_,rfl,?_⟩;have hE:=hE.trans y;have c:=eb y c;refine gS (Zh rfl (gO fun _=>Ae (PQ f 1) rfl rfl (gF rfl) (fun hG14=>AbD OZ rfl ⟨rfl,rfl⟩) (As (gO fun _=>Ae (x.2.tags) rfl rfl (gF rfl) (fun hG15=>YW EQ rfl (Ai rfl hG15) (Ac c (Dp x)) ⟨rfl,rfl⟩) (As (gO fun _=>Ch (.bool (BV x.1.tags)) rfl rfl (gF rfl) (fun hG16=>YZ LV (Ai rfl hG16) ((LY _ _ x.1.tags (hmg.keep hE) hL.tags hL.tn).mono (by rintro e w2 ⟨rfl,hx⟩;exact⟨_,rfl,rfl,hx⟩))) fun ay z=>As ?_))))));have hE:=hE.trans z;have c:=eb z c;refine gO fun _=>Ae (.bool (!(BV x.1.tags))) rfl rfl (gF rfl) (fun hG20=>Zh (Ai rfl hG20) ⟨rfl,rfl⟩) (As (gS (Ze rfl rfl (fun hA=>(Ai rfl (BH hA))) fun bb21 hbb22=>(gO fun _=>Ae (PQ f 35) rfl rfl (gF rfl) (fun hG23=>AbD Ju rfl ⟨rfl,rfl⟩) (As (gO fun _=>Ae (x.2.log) rfl rfl (gF rfl) (fun hG24=>YW Fx rfl (Ai rfl hG24) (Ac c (B0 x)) ⟨rfl,rfl⟩) (As (gO fun _=>Ae (NI ((x.1.log).length)) rfl rfl (gF rfl) (fun hG25=>Y8 Fx (Y5 (hml.keep hE) (Ai rfl hG25)) ⟨rfl,rfl⟩) (As (gO fun _=>Ae (.bool (decide ((64)<((x.1.log).length)))) rfl rfl (gF rfl) (fun hG26=>YX (a:=(((x.1.log).length:Nat):Int)) (b:=((64:Nat):Int)) (Ai rfl hG26) rfl (CD _ .i64 ((x.1.log).length) (64)) ⟨rfl,rfl⟩) (As (gS (Ze rfl rfl (fun hA=>(Ai rfl (BH hA))) fun bb27 hbb28=> ?_)))))))))))));refine cB (bb27) rfl (fun q=> ?_) fun q=> ?_
 ·subst hbb22 hbb28;have h1c:IA x.1=true:=q;refine AD rfl (vr (.bool (false)) rfl) ?_;exact⟨by rw[TY h1c],hE⟩
 subst hbb22 hbb28;have h1c:IA x.1=false:=q;refine gS (AbD GQ rfl (gS (YW EI rfl rfl (Ac c (EN x)) (gS (ZR (l:=x.1.head) (m:=([]:AhU)) (.inr rfl) rfl rfl (decide ((x.1.head:AhU)≠(([]:AhU):AhU))) rfl (gO fun _=>Ae (PQ f 2) rfl rfl (gT rfl) (fun hG32=>AbD GQ rfl ⟨rfl,rfl⟩) (As (gO fun _=>Ae (St (x.1.head)) rfl rfl (gT rfl) (fun hG33=>YW EI rfl (Ai rfl hG33) (Ac c (EN x)) ⟨rfl,rfl⟩) (As (gO fun _=>Ch (.bool (Au x.1.head)) rfl rfl (gT rfl) (fun hG34=>YZ LU (Ai rfl hG34) ((J5 _ x.1.head hL.head).mono (by rintro e w2 ⟨rfl,hx⟩;exact⟨_,rfl,rfl,hx⟩))) fun az aa=>As ?_))))))))));have hE:=hE.trans aa;have c:=eb aa c;refine gO fun _=>Ae (.bool (!(Au x.1.head))) rfl rfl (gT (vr (.bool (decide ((x.1.head:AhU)≠(([]:AhU):AhU)))) rfl)) (fun hG38=>Zh (Ai (vr (cond ((decide ((x.1.head:AhU)≠(([]:AhU):AhU)))) (.bool (Au x.1.head)) undef) rfl) hG38) ⟨rfl,rfl⟩) (As (gO fun _=>Ae (.bool (!(Au x.1.head))) rfl rfl (gT (vr (.bool (decide ((x.1.head:AhU)≠(([]:AhU):AhU)))) rfl)) (fun hG39=>AbL (Ai (vr (cond ((decide ((x.1.head:AhU)≠(([]:AhU):AhU)))) (.bool (!(Au x.1.head))) undef) rfl) hG39) ⟨rfl,rfl⟩) (As (gO fun _=>Ae (PQ f 3) rfl rfl (Fb (vr (cond ((decide ((x.1.head:AhU)≠(([]:AhU):AhU)))) (.bool (!(Au x.1.head))) undef) rfl)) (fun hG40=>AbD Jv (vr (PQ f 0) rfl) ⟨rfl,rfl⟩) (As (gO fun _=>Ae (AB x.1.at_.1) rfl rfl (Fb (vr (cond ((decide ((x.1.head:AhU)≠(([]:AhU):AhU)))) (.bool (!(Au x.1.head))) undef) rfl)) (fun hG41=>Y3 (AbS c (DN x) (Ef x) (Ai (vr (cond ((decide ((x.1.head:AhU)≠(([]:AhU):AhU)))&& !(!(Au x.1.head))) (PQ f 3) undef) rfl) hG41)) VT rfl (Ar x.1.at_.2) ⟨rfl,rfl⟩) (As (gO fun _=>Ch (.bool (Ag x.1.at_)) rfl rfl (Fb (vr (cond ((decide ((x.1.head:AhU)≠(([]:AhU):AhU)))) (.bool (!(Au x.1.head))) undef) rfl)) (fun hG42=>YZ IB (Ai (vr (cond ((decide ((x.1.head:AhU)≠(([]:AhU):AhU)))&& !(!(Au x.1.head))) (AB x.1.at_.1) undef) rfl) hG42) ((B1 _ x.1.at_).mono (by rintro e w2 ⟨rfl,hx⟩;exact⟨_,rfl,rfl,hx⟩))) fun a0 ab=>As ?_))))))));have hE:=hE.trans ab;have c:=eb ab c;refine gO fun _=>Ae (.bool (!(Ag x.1.at_))) rfl rfl (Fb rfl) (fun hG46=>Zh (Ai rfl hG46) ⟨rfl,rfl⟩) (As (gO fun _=>DY ((!(Au x.1.head))||(!(Ag x.1.at_))) rfl rfl (gT rfl) (fun hG47=>ZF (Ai rfl hG47) rfl (fun hA=>(Ai rfl (FZ hG47 (BH hA)))) ⟨rfl,rfl⟩) fun bb48 hbb49=>As (gS (Zf rfl (fun hA=>(Ai rfl hA)) rfl fun bb50 hbb51=>(gO fun _=>Ae (PQ f 2) rfl rfl (gF rfl) (fun hG52=>AbD GQ rfl ⟨rfl,rfl⟩) (As (gO fun _=>Ae (St (x.1.head)) rfl rfl (gF rfl) (fun hG53=>YW EI rfl (Ai rfl hG53) (Ac c (EN x)) ⟨rfl,rfl⟩) (As (gO fun _=>Ae (.bool (decide ((x.1.head:AhU)=(([]:AhU):AhU)))) rfl rfl (gF rfl) (fun hG54=>ZR (l:=x.1.head) (m:=([]:AhU)) (.inl rfl) (Ai rfl hG54) rfl (decide ((x.1.head:AhU)=(([]:AhU):AhU))) rfl ⟨rfl,rfl⟩) (As (gO fun _=>Ae (.bool (decide ((x.1.head:AhU)=(([]:AhU):AhU)))) rfl rfl (gF rfl) (fun hG55=>AbL (Ai rfl hG55) ⟨rfl,rfl⟩) (As (gO fun _=>Ae (PQ f 3) rfl rfl (FR rfl) (fun hG56=>AbD Jv rfl ⟨rfl,rfl⟩) (As (gO fun _=>Ae (AB x.1.at_.1) rfl rfl (FR rfl) (fun hG57=>Y3 (AbS c (DN x) (Ef x) (Ai rfl hG57)) VT rfl (Ar x.1.at_.2) ⟨rfl,rfl⟩) (As (gO fun _=>Ch (.bool (Ag x.1.at_)) rfl rfl (FR rfl) (fun hG58=>YZ IB (Ai rfl hG58) ((B1 _ x.1.at_).mono (by rintro e w2 ⟨rfl,hx⟩;exact⟨_,rfl,rfl,hx⟩))) fun a1 ac=>As ?_)))))))))))))))));have hE:=hE.trans ac;have c:=eb ac c;refine gO fun _=>DY ((decide ((x.1.head:AhU)=(([]:AhU):AhU)))&&(Ag x.1.at_)) rfl rfl (gF rfl) (fun hG62=>ZB (Ai rfl hG62) (fun hA=>(Ai rfl (FZ hG62 hA))) rfl ⟨rfl,rfl⟩) fun bb63 hbb64=>As (gS (Ze rfl rfl (fun hA=>(Ai rfl (BH hA))) fun bb65 hbb66=> ?_));refine cB (bb65) rfl (fun r=> ?_) fun r=> ?_
 ·subst hbb49 hbb51 hbb64 hbb66;have h2c:He x.1=true:=r;refine AD rfl (vr (.bool (false)) rfl) ?_;exact⟨by rw[TZ h1c h2c],hE⟩
 subst hbb49 hbb51 hbb64 hbb66;have h2c:He x.1=false:=r;refine gS (AbD Ju rfl (gS (YW Fx rfl rfl (Ac c (B0 x)) (gS (Y8 Fx (Y5 (hml.keep hE) rfl) (gL (fun(ρ:Ah) (wz:Acs)=>∃i:Nat,ρ 0=(.agg (refsC x).toArray:Acr)/\ρ 1=(PQ f 0:Acr)/\ρ 47=(x.2.log:Acr)/\ρ 48=(NI ((x.1.log).length):Acr)/\ρ 49=(NI i:Acr)/\Ext w wz/\wz.heap[f]? =some (.cells (refsC x).toArray 36 (0,0))/\(i<=x.1.log.length)/\(∀j,j<i->GO x.1.log j=false)/\True) (fun ρ _=>x.1.log.length-(intOf (ρ 49)).toNat) ⟨0,rfl,rfl,rfl,rfl,rfl,hE,c,AcO _,fun j hj=>absurd hj (AdB _),trivial⟩ ?_))))));clear hE c;rintro al am ⟨i,T0,T1,ad,ae,n,hE,c,hi,hn,-⟩;have q49:=n;refine gS (YX (a:=(i:Nat)) (b:=((x.1.log).length:Nat)) n ae (Bf _ _ _ _) ?_);refine cD rfl (fun af=> ?_) fun af=> ?_
 ·have hlt:i<x.1.log.length:=af;have a2:(entC ((x.1.log).getD (i) At)).length=67:=(AbO (hml.keep hE) At (by omega));refine gS (Zd Fx Qh (by decide) At (Y5 (hml.keep hE) ad) n (by omega) fun a3 ag=>(gS (Y3 (Zj ag rfl) (LW).choose_spec rfl (by rw[C5];exact KG) (gS (AbM R4 fun k ao ap ah s a4=> ?_)))));have h:=AbE am;have a5:=hE;have aq:=hE.size;have a6:=AO (bl c) ap;have hE:=hE.trans s;have c:=eb s c;have h:=h.trans s;have g:=ah;clear ah;have a7:k<ao.heap.size:=by omega
  refine gS (Za R5 (vr (PQ k 0) rfl) (vr (.agg (entC ((x.1.log).getD (i) At)).toArray) rfl) g (F5) fun ar ai t a8=> ?_);have hE:=Ad hE t (Acw aq (by omega));have c:=kb t c (by omega);have h:=Ad h t (Acw (Acy _) (by omega));clear g;have g:ar.heap[k]? =some (.cells (entC ((x.1.log).getD (i) At)).toArray 97 (0,0)):=ai;clear ai;have a9:=bl g;clear ag;refine gS (AbD Jw rfl (gS (AbD O1 rfl (gS (YW u5 rfl rfl (Ac g (RF ((x.1.log).getD (i) At))) (gS (YZ R6 rfl ((LX _ ((((x.1.log).getD (i) At)).kind)).mono ?_))))))));rintro e ba ⟨rfl,o⟩;refine⟨_,rfl,?_⟩;have hE:=hE.trans o;have c:=eb o c;have h:=h.trans o;have g:=eb o g;refine gS (Zh rfl (gO fun _=>Ae (PQ k 66) rfl rfl (gF rfl) (fun hG99=>AbD O2 rfl ⟨rfl,rfl⟩) (As (gO fun _=>Ae (St ((((x.1.log).getD (i) At)).note)) rfl rfl (gF rfl) (fun hG100=>YW EI rfl (Ai rfl hG100) (Ac g (Ks ((x.1.log).getD (i) At))) ⟨rfl,rfl⟩) (As (gO fun _=>Ch (.bool (Cl ((((x.1.log).getD (i) At)).note))) rfl rfl (gF rfl) (fun hG101=>YZ R7 (Ai rfl hG101) ((Ny _ ((((x.1.log).getD (i) At)).note)).mono (by rintro e w2 ⟨rfl,hx⟩;exact⟨_,rfl,rfl,hx⟩))) fun bb p=>As ?_))))));have hE:=hE.trans p;have c:=eb p c;have h:=h.trans p;have g:=eb p g;refine gO fun _=>Ae (.bool (!(Cl ((((x.1.log).getD (i) At)).note)))) rfl rfl (gF rfl) (fun hG105=>Zh (Ai rfl hG105) ⟨rfl,rfl⟩) (As (gS (Ze rfl rfl (fun hA=>(Ai rfl (BH hA))) fun bb106 hbb107=>(gO fun _=>Ae (PQ k 0) rfl rfl (gF rfl) (fun hG108=>AbD Jw rfl ⟨rfl,rfl⟩) (As (gO fun _=>Ae (PQ k 1) rfl rfl (gF rfl) (fun hG109=>AbD O3 (Ai rfl hG109) ⟨rfl,rfl⟩) (As (gO fun _=>Ae (St ((((x.1.log).getD (i) At)).name)) rfl rfl (gF rfl) (fun hG110=>YW EI rfl (Ai rfl hG110) (Ac g (RH ((x.1.log).getD (i) At))) ⟨rfl,rfl⟩) (As (gO fun _=>Ae (NI (((((x.1.log).getD (i) At)).name:AhU).length)) rfl rfl (gF rfl) (fun hG111=>Zz (l:=(((x.1.log).getD (i) At)).name) EI (Ai rfl hG111) ⟨rfl,rfl⟩) (As (gO fun _=>Ae (.bool (decide ((32)<(((((x.1.log).getD (i) At)).name:AhU).length)))) rfl rfl (gF rfl) (fun hG112=>YX (a:=((((((x.1.log).getD (i) At)).name:AhU).length:Nat):Int)) (b:=((32:Nat):Int)) (Ai rfl hG112) rfl (CD _ .i64 (((((x.1.log).getD (i) At)).name:AhU).length) (32)) ⟨rfl,rfl⟩) (As (gS (Ze rfl rfl (fun hA=>(Ai rfl (BH hA))) fun bb113 hbb114=> ?_)))))))))))))));refine cB (bb113) rfl (fun u=> ?_) fun u=> ?_
  ·subst hbb107 hbb114;have hbad:GO x.1.log i=true:=u;refine AD rfl (vr (.bool (false)) rfl) ?_;exact⟨by rw[Qg h1c h2c hlt hbad],hE⟩
  subst hbb107 hbb114;have hbad:GO x.1.log i=false:=u;refine gS (Y4 (xv:=NI i) (yv:=NI 1) n rfl rfl (AG _ _ _ (by have:=hL.log;omega)) (gK (Adv ⟨i+1,T0,T1,ad,ae,rfl,hE,c,by omega,Pw hn hbad,trivial⟩ ?_)));show x.1.log.length-(intOf (NI ((i)+(1)))).toNat<x.1.log.length-(intOf (al 49)).toNat;rw[q49];simp only[intOf,AcX];omega
 refine AD rfl (vr (.bool (true)) rfl) ?_;exact⟨by rw[F0 h1c h2c (show x.1.log.length<=i by omega) hn],hE⟩
set_option maxHeartbeats 400000 in
theorem O4(w:Acs)(v:Acr)(l:AhU)(hr:RB w v l)(s:ByteArray)(hl:l.length+s.size+16<=140737488355328):
  Calls Acu 58 #[v, .string s] w fun e w' =>∃v',e = .returned v' /\NewB 5 w w' v' (l++AcT s.size++s.data.toList):=by
 obtain⟨i0,hi,a,b,c⟩:=info_parts P0;have h9:=Id s.size (by omega);have hss:s.data.toList.length=s.size:=by simp
 have HSS:=Ad6 hss;clear hss
 go_enter Tryz.func58,Tryz.ntmps58
 go_wp2_with fail
 refine(Ln _ _ l hr (by omega)).mono ?_;rintro e w1 ⟨f,rfl,h1⟩
 go_wp2_with fail
 refine(Km w.heap.size l.length s.size (by omega) f _ w1 h1.own h1.by_.size (by omega)).mono ?_;rintro e w2 ⟨h,rfl,ho,g⟩;have h2:=h1.more g ho
 go_wp2_with (at_builtin;refine Dh _ rfl _ _ 43 9 rfl w.heap.size 5 i0 (.int .u8 0) 1 1 G1 hi a b c rfl _ _ _ rfl h2.own (.string s) _ _ rfl (Rw Xc _ s) ?c1 ?c2 ?c3 ?_)
 case c1=>have:=HSS.out;rw[this,Acx];unfold maxLen;omega
 case c2=>have:=HSS.out;rw[this,Acx];omega
 case c3=>exact h2.by_.size
 intro v' i hown' hgrow
 go_wp2
 go_ret
 exact⟨v',rfl,h2.more hgrow (by rw[HSS.out,Acx];exact hown')⟩
def AF(s:Bs):Bs:=AcT s.length++s
theorem HA(w:Acs)(v:Acr)(l:Bs)(hr:RB w v l)(s:Bs)(hl:l.length+s.length+16<=140737488355328):
  Calls Acu 58 #[v,St s] w fun e w' =>∃v',e = .returned v' /\NewB 5 w w' v' (l++AF s):=by
 have hs:(⟨s.toArray⟩:ByteArray).size=s.length:=by show s.toArray.size=_;rw[Ac6]
 have h:=O4 w v l hr ⟨s.toArray⟩ (by rw[hs];omega);have e:l++AcT (⟨s.toArray⟩:ByteArray).size++(⟨s.toArray⟩:ByteArray).data.toList=l++AF s:=by
  unfold AF;rw[hs,AcV]
 rw[e]at h;exact h
theorem BW{n:Nat}(h:n<=9223372036854775807):(AcT n).length<=9:=Id n (by omega)
def SB(g k lo n c:Nat)(v:Acr):Prop:=∃o,v = .slice (some ⟨g,o,none⟩) n c/\(0<c->o=lo*k)
def Qi(w:Acs)(v:Acr)(n c:Nat)(news:List Acr):Prop:=∃a,v = .slice (some a) n c/\∀j u,news[j]? =some u->w.cell? (a.add j)=some u
theorem SB.src{w:Acs}{g k lo n c:Nat}{v:Acr}{C:List Acr}{T:Acz}{fr:Nat × Nat}(h:SB g k lo n c v)(m:Nat)(hc:0<c\/m=0)(hC:w.heap[g]? =some (.cells C.toArray T fr)){D:List Acr}(hD:(C.drop (lo*k)).take m=D):Qi w v n c D:=by
 obtain⟨o,rfl,ho⟩:=h;subst hD;refine⟨_,rfl,fun j u hu=> ?_⟩;rcases hc with hc | rfl
 ·obtain rfl:=ho hc;rw[AdU];rw[Aes]at hu;split at hu
  ·rw[AeI]at hu;exact Ac hC hu
  ·cases hu
 ·simp at hu
theorem Zm{g k lo n c:Nat}{v x:Acr}(h:SB g k lo n c v)(e:x=v):SB g k lo n c x:=by rw[e];exact h
theorem ZW(g k n c:Nat):SB g k 0 n c (.slice (some ⟨g,0,none⟩) n c):=⟨0,rfl,fun _=>(Ae2 _).symm⟩
theorem SB.eq{g k lo lo' n n' c c' :Nat}{v:Acr}(h:SB g k lo n c v)(a:lo=lo')(b:n=n')(e:c=c'):SB g k lo' n' c' v:=by subst a b e;exact h
abbrev Ace:=@SB.eq
theorem Ua{P:AcN}{e:Acz}{k b:Nat}(h:(P.info? e).map (fun i=>(i.size,i.bytes,i.zero.map fun z=>(z.cells.size,z.cells.toList.all fun u=>u.oneCell')))=some (k,b,some (k,true))):∃i z,P.info? e=some i/\i.size=k/\i.bytes=b/\i.zero=some z/\z.cells.size=k/\∀u∈z.cells.toList,u.oneCell' =true:=by
 cases hi:P.info? e with
 | none=>rw[hi]at h;cases h
 | some i=>
  rw[hi]at h;simp only[AdP,Ad2,Prod.mk.injEq]at h;obtain⟨h1,h2,h3⟩:=h;cases hz:i.zero with
  | none=>rw[hz]at h3;cases h3
  | some z=>
   rw[hz]at h3;simp only[AdP,Ad2,Prod.mk.injEq,List.all_eq_true]at h3;exact⟨i,z,rfl,h1,h2,hz,h3.1,h3.2⟩
theorem MW{z:Acr}(h:∀u∈z.cells.toList,u.oneCell' =true)(n:Nat):∀u∈(Adq z.cells n).toList,u.oneCell' =true:=by
 intro u hu;simp only[Adq,Array.mem_toList_iff,Array.mem_map,Array.mem_range]at hu;obtain⟨i,hi,rfl⟩:=hu;have h0:0<z.cells.size:=by
  rcases Nat.eq_zero_or_pos z.cells.size with e | e
  ·rw[e]at hi;omega
  ·exact e
 have hl:=Nat.mod_lt i h0;rw[getElem!_pos z.cells _ hl];exact h _ (Array.getElem_mem_toList hl)
theorem Gh{w:Acs}{g:Nat}{C:Array Acr}:w.grownBy (w.setRow g C) (some g):=⟨rfl,rfl,rfl,by simp,fun k _ hk=>setRow_other w g k _ (fun e=>hk (by rw[e]))⟩
section
variable {P : AcN} {K : Acr -> Acs -> Prop} {ρ : Ah} {w : Acs} {d : Option Tmp} {ty : Acz} {pos : String} {af : Array Adk} {gd : Option (Nat × Bool)}
variable {g k lo n c : Nat} {s x : AcD}
theorem Zp{t e:Acz}(ht:P.underlying t=some (.slice e))(he:∀w' :Acs,(sizeOf e).run P w' = .ok k w'){a b:Option AcD}(h:SB g k lo n c (Ab ρ x))(l r:Nat) 
  (ha:a.map (Ab ρ)=none/\l=0\/∃q,a.map (Ab ρ)=some (.int q (l:Int))) (hb:b.map (Ab ρ)=none/\r=n\/∃q,b.map (Ab ρ)=some (.int q (r:Int))) (h1:l<=r) (h2:r<=c)
  (hk:∀v,SB g k (lo+l) (r-l) (c-l) v->K v w):Yk P K ((execOp (Ab ρ) ⟨d, .slice t x a b none,ty,pos,af,gd⟩).run P w):=by
 obtain⟨o,hx,ho⟩:=h;have hE:P.elem t=e:=by simp[AeH,ht]
 have ht' :P.underlying t=some (.slice (P.elem t)):=by rw[hE];exact ht
 refine AbK (v:=sliced (some ⟨g,o,none⟩) l r c k) (w' :=w) ?_ (hk _ ?_)
 ·unfold execOp;have h1' :(l:Int)<=(r:Int):=by omega
  have h2' :(r:Int)<=(c:Int):=by omega
  have hr:(AeP t (.slice (some ⟨g,o,none⟩) n c) (a.map (Ab ρ)) (b.map (Ab ρ)) none).run P w = .ok (sliced (some ⟨g,o,none⟩) l r c k) w:=by
   rw[run_sliceAt_slice (P:=P) w t _ _ _ _ ht'];rcases ha with ⟨f,rfl⟩ | ⟨q,f⟩ <;> rcases hb with ⟨i,rfl⟩ | ⟨q',i⟩ <;> rw[f,i]
   ·rw[run_slice_all (P:=P) w t _ _ _ ht',hE,he];rfl
   ·rw[run_slice_h (P:=P) w t _ _ _ ht' q' r (by omega) h2',hE,he];rfl
   ·rw[run_slice_l (P:=P) w t _ _ _ ht' q l (by omega) h1',hE,he];rfl
   ·rw[run_slice_lh (P:=P) w t _ _ _ ht' q q' l r (by omega) h1' h2',hE,he];rfl
  simp only[hx,Aek,hr,AcC,AcE,AcB]
 ·refine⟨if c=l then o else o+l*k,?_,fun h=> ?_⟩
  ·unfold sliced;split <;> simp[AdU]
  ·rw[if_neg (by omega),ho (by omega),AdN]
theorem AaN{t e:Acz}(ht:P.underlying t=some (.slice e))(he:∀w' :Acs,(sizeOf e).run P w' = .ok k w'){a b y:AcD}(h:SB g k lo n c (Ab ρ x)){l r m:Nat}{q1 q2 q3:AdI} 
  (ha:Ab ρ a = .int q1 (l:Int)) (hb:Ab ρ b = .int q2 (r:Int)) (hm:Ab ρ y = .int q3 (m:Int)) (h1:l<=r) (h2:r<=m) (h3:m<=c)
  (hk:∀v,SB g k (lo+l) (r-l) (m-l) v->K v w):Yk P K ((execOp (Ab ρ) ⟨d, .slice t x (some a) (some b) (some y),ty,pos,af,gd⟩).run P w):=by
 obtain⟨o,hx,ho⟩:=h;have hE:P.elem t=e:=by simp[AeH,ht]
 have ht' :P.underlying t=some (.slice (P.elem t)):=by rw[hE];exact ht
 refine AbK (v:=sliced (some ⟨g,o,none⟩) l r m k) (w' :=w) ?_ (hk _ ?_)
 ·unfold execOp;have hr:(AeP t (.slice (some ⟨g,o,none⟩) n c) (some (.int q1 (l:Int))) (some (.int q2 (r:Int))) (some (.int q3 (m:Int)))).run P w = .ok (sliced (some ⟨g,o,none⟩) l r m k) w:=by
   rw[run_sliceAt_slice (P:=P) w t _ _ _ _ ht',run_slice_lhm (P:=P) w t _ _ _ ht' q1 q2 q3 l r m (by omega) (by omega) (by omega) (by omega),hE,he];rfl
  simp only[hx,ha,hb,hm,AdP,hr,AcC,AcE,AcB]
 ·refine⟨if m=l then o else o+l*k,?_,fun h=> ?_⟩
  ·unfold sliced;split <;> simp[AdU]
  ·rw[if_neg (by omega),ho (by omega),AdN]
theorem ZX{t e:Acz}(ht:P.underlying t=some (.slice e))(h:SB g k lo n c (Ab ρ x))(hk:K (NI n) w):Yk P K ((execOp (Ab ρ) ⟨d, .call ⟨.builtin .len,#[x],#[t]⟩,ty,pos,af,gd⟩).run P w):=by
 obtain⟨o,hx,-⟩:=h;exact Aac ht hx hk
theorem Aaz{t e:Acz}(ht:P.underlying t=some (.slice e))(h:SB g k lo n c (Ab ρ x))(hk:K (NI c) w):Yk P K ((execOp (Ab ρ) ⟨d, .call ⟨.builtin .cap,#[x],#[t]⟩,ty,pos,af,gd⟩).run P w):=by
 obtain⟨o,hx,-⟩:=h;have hE:P.elem t=e:=by simp[AeH,ht]
 refine AbK (v:=NI c) (w' :=w) ?_ hk;have hr:=run_cap_slice (P:=P) w t ty (some ⟨g,o,none⟩) n c (by rw[hE];exact ht);unfold execOp;simp only[resolve,invoke,builtin,hx,AcJ,AcL,AcR,AcC,hr,AcB,AcE];rfl
theorem ZZ{dT sT e T:Acz}(ht:P.underlying dT=some (.slice e))(he:∀w' :Acs,(sizeOf e).run P w' = .ok k w')(hd:SB g k lo n c (Ab ρ s))(hc:0<c){C:List Acr}(hC:w.heap[g]? =some (.cells C.toArray T (0,0))) 
  {b c2:Nat} (m:Nat) {news:List Acr} (hs:Qi w (Ab ρ x) b c2 news) (hm:Ae5 b n=m) (hl:news.length=m*k) (h1:∀u∈news,u.oneCell' =true) (hfit:lo*k+m*k<=C.length)
  (hk:∀w',w'.heap[g]? =some (.cells (C.take (lo*k)++news++C.drop (lo*k+m*k)).toArray T (0,0))->w.grownBy w' (some g)->w'.heap.size=w.heap.size->K (NI m) w'):
  Yk P K ((execOp (Ab ρ) ⟨d, .call ⟨.builtin .copy,#[s,x],#[dT,sT]⟩,ty,pos,af,gd⟩).run P w):=by
 obtain⟨o,hx,ho⟩:=hd;obtain rfl:=ho hc;obtain⟨a,hy,hn⟩:=hs;have hst:=run_storeCells_at P g (lo*k) T news 0 C.toArray w hC (by simp only[Ac6];omega) h1;simp only[AfP,hl]at hst;have hf:=run_firstCells_some (P:=P) w k m a b c2 news hl hn;refine AbK (v:=NI m) (w' :=w.setRow g (C.take (lo*k)++news++C.drop (lo*k+m*k)).toArray) ?_ (hk _ (setRow_heap w g C.toArray _ T (0,0) hC) Gh (by simp));unfold execOp;have hr:(Ahj #[dT,sT] ty #[.slice (some ⟨g,lo*k,none⟩) n c, .slice (some a) b c2]).run P w = .ok (NI m) (w.setRow g (C.take (lo*k)++news++C.drop (lo*k+m*k)).toArray):=by
  simp only[Ahj,List.getElem?_toArray,List.getElem?_cons_zero,List.getElem?_cons_succ,AcC,run_underlying ht,AcB,he,Builtin.lenOf,AcE,hm,hf,hst];rfl
 simp only[resolve,invoke,builtin,hx,hy,AcJ,AcL,AcR,AcC,hr,AcB,AcE]
theorem AaO{t e:Acz}{i:TypeInfo}(ht:P.underlying t=some (.slice e))(hi:P.info? e=some i)(hik:i.size=k)(hd:SB g k 0 n c (Ab ρ s))(hc:0<c){C:List Acr}(hC:w.heap[g]? =some (.cells C.toArray e (0,0))) 
  {m c2:Nat} {news:List Acr} (hs:Qi w (Ab ρ x) m c2 news) (hl:news.length=m*k) (h1:∀u∈news,u.oneCell' =true) (hroom:n+m<=c) (hfit:(n+m)*k<=C.length)
  (hk:∀w',w'.heap[g]? =some (.cells (C.take (n*k)++news++C.drop (n*k+m*k)).toArray e (0,0))->w.grownBy w' (some g)->w'.heap.size=w.heap.size->K (.slice (some ⟨g,0,none⟩) (n+m) c) w'):
  Yk P K ((execOp (Ab ρ) ⟨d, .call ⟨.builtin .append,#[s,x],#[t,t]⟩,ty,pos,af,gd⟩).run P w):=by
 obtain⟨o,hx,ho⟩:=hd;obtain rfl:o=0:=by rw[ho hc,Ae2]
 obtain⟨a,hy,hn⟩:=hs;subst hik;have hr:=run_append_room (P:=P) w t ty e i ht hi g n c C.toArray hC a m c2 news hl hn h1 hroom (by rw[hl,Ac6,<-AdN];exact hfit);simp only[hl]at hr;refine AbK (v:= .slice (some ⟨g,0,none⟩) (n+m) c) (w' :=w.setRow g (C.take (n*i.size)++news++C.drop (n*i.size+m*i.size)).toArray) ?_ (hk _ (setRow_heap w g C.toArray _ e (0,0) hC) Gh (by simp));unfold execOp;simp only[resolve,invoke,builtin,hx,hy,AcJ,AcL,AcR,AcC,hr,AcB,AcE]
theorem Aa5{t e T:Acz}{i:TypeInfo}{z:Acr}(ht:P.underlying t=some (.slice e))(hi:P.info? e=some i)(hz:i.zero=some z)(hzs:z.cells.size=k)(hd:SB g k lo n c (Ab ρ s))(hc:0<c)(hn:0<n){C:List Acr}(hC:w.heap[g]? =some (.cells C.toArray T (0,0))) 
  (h1:∀u∈(Adq z.cells n).toList,u.oneCell' =true) (hfit:lo*k+n*k<=C.length)
  (hk:∀w' Z,Z.length=n*k->w'.heap[g]? =some (.cells (C.take (lo*k)++Z++C.drop (lo*k+n*k)).toArray T (0,0))->w.grownBy w' (some g)->w'.heap.size=w.heap.size->K (.tuple #[]) w'):
  Yk P K ((execOp (Ab ρ) ⟨d, .call ⟨.builtin .clear,#[s],#[t]⟩,ty,pos,af,gd⟩).run P w):=by
 obtain⟨o,hx,ho⟩:=hd;obtain rfl:=ho hc;have hZ:(Adq z.cells n).toList.length=n*k:=by rw[AdZ,size_zeroCells,hzs]
 have hst:=run_storeCells_at P g (lo*k) T (Adq z.cells n).toList 0 C.toArray w hC (by rw[hZ];simp only[Ac6];omega) h1;simp only[AfP,hZ]at hst;obtain⟨m,rfl⟩:∃m,n=m+1:=⟨n-1,by omega⟩;have hr:(Builtin.clear_ #[t] ty #[.slice (some ⟨g,lo*k,none⟩) (m+1) c]).run P w = .ok (.tuple #[]) (w.setRow g (C.take (lo*k)++(Adq z.cells (m+1)).toList++C.drop (lo*k+(m+1)*k)).toArray):=by
  simp[Builtin.clear_,run_underlying ht,zeroValue,typeInfo,hi,hz,hst]
 refine AbK (v:= .tuple #[]) (w' :=_) ?_ (hk _ _ hZ (setRow_heap w g C.toArray _ T (0,0) hC) Gh (by simp));unfold execOp;simp only[resolve,invoke,builtin,hx,AcJ,AcL,AcR,AcC,hr,AcB,AcE]
theorem Aai{t tn e T:Acz}{kn kq:AdI}{i:TypeInfo}{z:Acr}(ht:P.underlying t=some (.slice e))(htn:P.underlying tn=some (.int kn))(hi:P.info? e=some i)(hz:i.zero=some z)(hik:i.size=k)(hzs:z.cells.size=k)(a:0<k)(hd:SB g k 0 n c (Ab ρ s))(hc:0<c){C:List Acr}(hC:w.heap[g]? =some (.cells C.toArray T (0,0))) 
  {m:Nat} (hy:Ab ρ x = .int kq (m:Int)) (hm:0<m) (hroom:c<n+m) (hfit:n*k<=C.length) (hb:(n+m)*i.bytes<=140737488355328) (h63:n+m<=maxLen)
  (hk:∀b w' cap Z,w.heap.size=b->cap<=maxLen->n+m<=cap->Z.length=cap*k-n*k->w'.heap[b]? =some (.cells (C.take (n*k)++Z).toArray e (0,0))->Ext w w' ->w'.heap.size=w.heap.size+1->K (.slice (some ⟨b,0,none⟩) (n+m) cap) w'):
  Yk P K ((execOp (Ab ρ) ⟨d, .call ⟨.builtin .append,#[s,x],#[t,tn]⟩,ty,pos,af,gd⟩).run P w):=by
 obtain⟨o,hx,ho⟩:=hd;obtain rfl:o=0:=by rw[ho hc,Ae2]
 subst hik;have holds:∀j u,(C.take (n*i.size))[j]? =some u->w.drew.cell? ((⟨g,0,none⟩:Addr).add j)=some u:=fun j u hu=>by
  rw[Aes]at hu;split at hu
  ·rw[AdU,Aec];exact Ac (w:=w.drew) hC hu
  ·cases hu
 have hl:(C.take (n*i.size)).length=n*i.size:=by rw[AcS];omega
 have hr:=Lib.run_append_grow_zeros (P:=P) w t tn ty e i z kq kn ht htn hi hz (some ⟨g,0,none⟩) n c (C.take (n*i.size)) (run_firstCells_some w.drew i.size n ⟨g,0,none⟩ n c _ hl holds) m hm a hroom (by have:=h63;simp only[maxLen]at this;omega)
  (Acw (AeS _ (Nat.le_add_left m n)) (Acw hb (by decide))) (growslice_fits hroom hb)
 have hge:=grownCap_ge w (n+m) c e;have hcm:=grownCap_le_maxLen w (n+m) c e h63;refine AbK (v:= .slice (some ⟨w.heap.size,0,none⟩) (n+m) (grownCap w (n+m) c e)) (w' :=w.drew.alloc (.cells ((C.take (n*i.size)).toArray++Adq z.cells m++Adq z.cells (grownCap w (n+m) c e-(n+m))) e)) ?_
  (hk w.heap.size _ _ ((Adq z.cells m).toList++(Adq z.cells (grownCap w (n+m) c e-(n+m))).toList) rfl hcm hge ?_ ?_ (Abb ⟨rfl,rfl,rfl,by simp,fun k hk _=>heap_alloc_old w.drew _ hk⟩) (by simp))
 ·unfold execOp;simp only[resolve,invoke,builtin,hx,hy,AcJ,AcL,AcR,AcC,hr,AcB,AcE]
 ·rw[Acx,AdZ,AdZ,size_zeroCells,size_zeroCells,hzs,<-AdN,<-Nat.sub_mul]
  congr 1
  omega
 ·have:=heap_alloc_new w.drew (.cells ((C.take (n*i.size)).toArray++Adq z.cells m++Adq z.cells (grownCap w (n+m) c e-(n+m))) e);rw[show(C.take (n*i.size)++((Adq z.cells m).toList++(Adq z.cells (grownCap w (n+m) c e-(n+m))).toList)).toArray=(C.take (n*i.size)).toArray++Adq z.cells m++Adq z.cells (grownCap w (n+m) c e-(n+m))from by
   apply Array.toList_inj.1
   simp]
  exact this
end
theorem Ls{P:AcN}{w:Acs}{tS tR e:Acz}(ht:P.underlying tS=some (.slice e)){k:Nat}(hz:∀w,(Go.sizeOf e).run P w = .ok k w){a b:Nat}{v x:Acr}{lo' n' c' lo n c:Nat}(hv:SB a k lo' n' c' v)(hx:SB b k lo n c x)(hne:a≠b){A B:List Acr}{tA tB:Acz} 
  (hA:w.heap[a]? =some (.cells A.toArray tA (0,0))) (hB:w.heap[b]? =some (.cells B.toArray tB (0,0))) (h0:B≠ []):
  (Extern.SlicesOverlaps.overlaps #[tS,tS] #[tR] #[v,x]).run P w = .ok (.bool false) w:=by
 obtain⟨o,rfl,-⟩:=hx;obtain⟨oa,rfl,-⟩:=hv;exact Lib.run_overlaps_apart w tS tR e ht k hz ⟨a,oa,none⟩ ⟨b,o,none⟩ n' c' n c hne tA tB A.length B.length (by simp[World.shape?,hA]) (by simp[World.shape?,hB]) (by simpa using h0) (by simp[World.frozen?,hA]) (by simp[World.frozen?,hA])
theorem Hf{P:AcN}{e:Acz}{k b:Nat}(h:(P.info? e).map (fun i=>(i.zero.map (fun z=>z.cells.size),i.size,i.bytes))=some (some k,k,b)):∃z,(P.info? e).map (fun i=>(i.zero,i.size,i.bytes))=some (some z,k,b)/\z.cells.size=k:=by
 cases hi:P.info? e with
 | none=>rw[hi]at h;cases h
 | some i=>
  rw[hi]at h;simp only[AdP,Ad2,Prod.mk.injEq]at h;cases hz:i.zero with
  | none=>rw[hz]at h;cases h.1
  | some z=>
   rw[hz]at h;simp only[AdP,Ad2]at h;exact⟨z,by simp[hz,h.2.1,h.2.2],h.1⟩
section
variable {P : AcN} {K : Acr -> Acs -> Prop} {ρ : Ah} {w : Acs} {d : Option Tmp} {ty : Acz} {pos : String} {af : Array Adk} {gd : Option (Nat × Bool)}
theorem Aa6{t e s:Acz}{u:TypeDesc}(hs:P.underlying s=some u)(ht:P.underlying t=some (.slice e))(he:P.underlying e=some (.int .u8)){x:AcD}{l:AhU}(hx:Ab ρ x=St l)(hl:l.length<=9223372036854775807) 
  (hk:∀v w',RB w' v l->Ext w w' ->(∀k,v.ownBlock=some k->w.heap.size<=k/\k<w'.heap.size)->K v w'):Yk P K ((execOp (Ab ρ) ⟨d, .convert s t x,ty,pos,af,gd⟩).run P w):=by
 have hr:=Lib.run_convert_string_bytes (P:=P) w s t e ⟨l.toArray⟩ hs ht he;have hsz:(⟨l.toArray⟩:ByteArray).size=l.length:=by simp[ByteArray.size]
 rw[hsz]at hr;refine AbK (v:= .slice (some ⟨w.heap.size,0,none⟩) l.length (grownCap w l.length 0 e)) (w' :=Lib.bytesWorld w e ⟨l.toArray⟩) ?_ (hk _ _ ?_ (Lib.bytesWorld_below w e _) ?_)
 ·unfold execOp;simp only[hx,hr,AcC,AcE,AcB]
 ·refine⟨by rw[AcH,Nat.mul_one],_,_,rfl,grownCap_ge w _ _ _,grownCap_le_maxLen w _ _ _ (by simpa [maxLen] using hl),(fun h=>by cases h),fun a ha j u hu=> ?_⟩;cases ha;have hj:j<l.length:=by have:=(AcW.1 hu).1;rwa [AcH]at this
  have hc:=Lib.bytesWorld_cell w e ⟨l.toArray⟩ j (by rw[hsz];exact hj);rw[show(⟨w.heap.size,0,none⟩:Addr).add j=⟨w.heap.size,j,none⟩ by simp[Addr.add];exact fun h=>h.symm];rw[hc,<-hu,Wc hj]
 ·intro k hk;cases hk;rw[Lib.bytesWorld_size];exact⟨Acy _,Nat.lt_succ_self _⟩
end
theorem LZ{α:Type}{l:List α}{i:Nat}{d:α}(h:i<l.length):l.take i++ [l.getD i d]=l.take (i+1):=by
 rw[List.take_add_one,AcG h,AcA,AcG h];rfl
open Go.ChangeShapes Go.WideShapes Go.ChangeAt Go.Deep
instance:Inhabited Av:=⟨Ay⟩
theorem Nz{H:Type}{enc:Acz × Acr->H}{W:Acs}:Opn enc Acu W 77 updC (fun x:Av=>x.name.length<=9223372036854775807):=fun fuel cs x h=>by
 have ht:Tryz.prog.underlying 77=some (.struct (Tryz.prog.fieldsOf 77)):=by kernel_rfl
 obtain⟨a0,a,k0⟩:=Cq (i:=0) (ty:=5) (o:=0) (k:=1) ht h (by kernel_rfl) (by kernel_rfl) (Opn.u8 (by kernel_rfl));obtain⟨a1,b,k1⟩:=Cq (i:=1) (ty:=9) (o:=1) (k:=1) ht h (by kernel_rfl) (by kernel_rfl) (Aav (by kernel_rfl));obtain⟨a2,c,k2⟩:=Cq (i:=2) (ty:=33) (o:=2) (k:=32) ht h (by kernel_rfl) (by kernel_rfl) (Opn.id (e:=5) (by kernel_rfl) (by kernel_rfl) (by kernel_rfl) (by kernel_rfl));obtain⟨a3,f,k3⟩:=Cq (i:=3) (ty:=33) (o:=34) (k:=32) ht h (by kernel_rfl) (by kernel_rfl) (Opn.id (e:=5) (by kernel_rfl) (by kernel_rfl) (by kernel_rfl) (by kernel_rfl));have hl:cs.drop 66= []:=Ael (AfS ((Kw ht h).trans (by kernel_rfl)));refine⟨⟨a0,a1,a2,a3⟩,?_,k1⟩;rw[show cs=cs.drop 0 from rfl];rw[a];rw[show cs.drop (0+1)=_ from b];rw[show cs.drop (1+1)=_ from c];rw[show cs.drop (2+32)=_ from f];rw[show cs.drop (34+32)= []from hl];simp[updC]
section
variable {P : AcN} {K : Acr -> Acs -> Prop} {ρ : Ah} {w : Acs} {d : Option Tmp} {ty : Acz} {pos : String} {af : Array Adk} {gd : Option (Nat × Bool)}
theorem Abx{t ty2:Acz}{x y:AcD}{l m:AhU}(hx:Ab ρ x=St l)(hy:Ab ρ y=St m)(hk:K (.bool (!(Ac5 l m||l==m))) w):Yk P K ((execOp (Ab ρ) ⟨d, .binOp .gtr t x y ty2,ty,pos,af,gd⟩).run P w):=by
 refine AbK (v:= .bool (!(Ac5 l m||l==m))) (w' :=w) ?_ hk;unfold execOp;simp only[hx,hy,eqGuard,Adb,Op.stringOp,Fg,AcC,AcE];rfl
end
def DO(a b:AhU):Int:=if Ac5 a b=true then -1 else if(!(Ac5 a b||a==b))=true then 1 else 0
theorem NA{a b:AhU}:DO a b<0↔a<b:=by
 unfold DO;rw[bytesLess_eq];by_cases h:a<b
 ·simp[h]
 ·simp only[h,decide_false,Bool.false_eq_true,if_false,iff_false];split <;> omega
theorem R9{a b:AhU}:DO a b=0↔a=b:=by
 unfold DO;rw[bytesLess_eq];by_cases h:a<b
 ·simp only[h,decide_true,if_true];constructor
  ·intro e;omega
  ·rintro rfl;exact absurd h (List.lt_irrefl _)
 ·simp only[h,decide_false,Bool.false_eq_true,if_false,Bool.false_or];by_cases e:a=b
  ·subst e;simp
  ·simp[e]
def DC(l:List AI):Prop:=∀i j,i<j->j<l.length->(l.getD i dNmd).name<(l.getD j dNmd).name
def Ja(l:List AI)(s:AhU)(p:Nat):Prop:=p<=l.length/\(∀j,j<p->(l.getD j dNmd).name<s)/\(∀j,p<=j->j<l.length->¬(l.getD j dNmd).name<s)
theorem Sa{l:List AI}{s:AhU}{m:Nat}(hs:DC l)(hm:m<l.length)(h:(l.getD m dNmd).name<s):∀j,j<m+1->(l.getD j dNmd).name<s:=fun j hj=>by
 by_cases e:j=m
 ·rw[e];exact h
 ·exact Agf (hs j m (by omega) hm) h
theorem KH{l:List AI}{s:AhU}{m:Nat}(hs:DC l)(h:¬(l.getD m dNmd).name<s):∀j,m<=j->j<l.length->¬(l.getD j dNmd).name<s:=fun j hj hl hk=>by
 by_cases e:m=j
 ·subst e;exact h hk
 ·exact h (Agf (hs m j (by omega) hl) hk)
theorem NB:Tryz.prog.underlying 3=some (.int .i64):=by kernel_rfl
theorem KI:Tryz.prog.underlying 198=some (.int .u64):=by kernel_rfl
theorem KJ:Plain Acu 194:=fun _ _=>by kernel_rfl
theorem IC(w:Acs)(n:AI)(s:Bs):
  Calls Acu 194 #[.agg (nmdC n).toArray,St s] w fun e w' =>e = .returned (.int .i64 (DO n.name s))/\Ext w w' :=by
 refine gG (args:= [.agg (nmdC n).toArray,St (s)]) Tryz.func194 rfl 15 rfl rfl ?_;have hE:=AbE w;refine gS (AbU (vr (.agg (nmdC n).toArray) rfl) fun h i j f b k=> ?_);have g:=f;clear f;have o:h<i.heap.size:=by omega
 refine gS (AbD GP rfl (gS (YW EI rfl rfl (Ac g (EZ n)) (gS (AaU (l:=n.name) (m:=s) (.inl rfl) rfl rfl (Ac5 n.name s) rfl ?_)))));refine cB (Ac5 n.name s) rfl (fun a=> ?_) fun a=> ?_
 ·refine AD rfl (vr (.int .i64 (-1:Int)) rfl) ?_;have hE:=hE.trans b;exact⟨congrArg AdW (congrArg (AeJ .i64) (by unfold DO;(rw[if_pos a]) <;> rfl)),hE⟩
 refine gS (AbD GP rfl (gS (YW EI rfl rfl (Ac g (EZ n)) (gS (Abx (l:=n.name) (m:=s) rfl rfl ?_)))));refine cB (!(Ac5 n.name s||n.name==s)) rfl (fun c=> ?_) fun c=> ?_
 ·refine AD rfl (vr (NI 1) rfl) ?_;have hE:=hE.trans b;exact⟨congrArg AdW (congrArg (AeJ .i64) (by unfold DO;(rw[if_neg (by rw[a];decide),if_pos c]) <;> rfl)),hE⟩
 refine AD rfl (vr (NI 0) rfl) ?_;have hE:=hE.trans b;exact⟨congrArg AdW (congrArg (AeJ .i64) (by unfold DO;(rw[if_neg (by rw[a];decide),if_neg (by rw[c];decide)]) <;> rfl)),hE⟩
theorem Qj(w:Acs)(v:Acr)(l:List AI)(hr:RG 33 nmdC w v l)(hl:l.length<=1000)(hs:DC l)(s:Bs):
  Calls Acu 193 #[v,St s, .func (.func 194) #[] #[]] w fun e w' =>(∃p,e = .returned (.tuple #[NI p, .bool (decide (p<l.length)&&decide ((DO (l.getD p dNmd).name s)=((0:Nat):Int)))])/\Ja l s p)/\Ext w w' :=by
 refine FT (args:= [v,St (s), .func (.func 194) #[] #[]]) Tryz.func193 rfl 49 rfl rfl ?_;have hE:=AbE w;refine gS (Y8 EQ (Y5 hr rfl) (gL (fun(ρ:Ah) (wz:Acs)=>∃i:Nat,∃k:Nat,ρ 0=(v:Acr)/\ρ 1=(St (s):Acr)/\ρ 2=(.func (.func 194) #[] #[]:Acr)/\ρ 6=(NI 0:Acr)/\ρ 7=(.bool (false):Acr)/\ρ 8=(NI l.length:Acr)/\ρ 9=(NI i:Acr)/\ρ 10=(NI k:Acr)/\RG 33 nmdC wz v l/\Ext w wz/\(i<=k)/\(k<=l.length)/\(∀j,j<i->(l.getD j dNmd).name<s)/\(∀j,k<=j->j<l.length->¬(l.getD j dNmd).name<s)/\True) (fun ρ _=>(intOf (ρ 10)).toNat-(intOf (ρ 9)).toNat) ⟨0,l.length,rfl,rfl,rfl,rfl,rfl,rfl,rfl,rfl,hr,hE,AcO _,Acy _,fun j hj=>absurd hj (AdB _),fun j h1 h2=>by omega,trivial⟩ ?_));clear hr hE;rintro f w6 ⟨i,k,n,T1,T2,x,y,r,c,g,hr,hE,hik,hkl,hlo,hhi,-⟩;have q10:=g;have q9:=c;refine gS (YX (a:=(i:Nat)) (b:=(k:Nat)) c g (Bf _ _ _ _) ?_);refine cD rfl (fun z=> ?_) fun z=> ?_
 ·have hlt:i<k:=z;have hm0:((i+k)/2^(1))<l.length:=by omega
  refine gS (Y4 (xv:=NI i) (yv:=NI k) c g rfl (AG _ _ _ (by omega)) (gS (ZM NB KI rfl (TT ((i)+(k)) (by omega)) (gS (Y4 (xv:= .int .u64 (((i)+(k):Nat):Int)) (yv:= .int .u64 ((1:Nat):Int)) rfl rfl rfl (Wd _ _ _ _ (by omega)) (gS (ZM KI NB rfl (J1 (((i)+(k))/2^(1)) (by omega)) ?_)))))));have ac:(nmdC (l.getD (((i)+(k))/2^(1)) dNmd)).length=33:=(AbO hr dNmd (by omega));refine gS (Zd EQ KE (by decide) dNmd (Y5 hr n) rfl (by omega) fun ad o=>(gS (Y3 (Zj o rfl) (LT).choose_spec rfl (by rw[BG];exact KF) (gS (Zq KJ (caps:= #[]) T2 #[.agg (nmdC (l.getD (((i)+(k))/2^(1)) dNmd)).toArray,St (s)] (by simp only[AcJ,AcL,AcR,Adh,Ac3,Ac9];exact congrArg Ac4 (B4 rfl T1)) ((IC _ (l.getD (((i)+(k))/2^(1)) dNmd) s).mono ?_))))));rintro e ae ⟨rfl,m⟩;refine⟨_,rfl,?_⟩;have o:=Ab2 o m;refine gS (YX rfl rfl (VN _ .i64 ((DO (l.getD (((i)+(k))/2^(1)) dNmd).name s):Int) ((0:Nat):Int)) ?_);clear o;refine cD rfl (fun t=> ?_) fun t=> ?_
  ·have hr:=hr.keep m;have hE:=hE.trans m;refine gS (Y4 (xv:=NI (((i)+(k))/2^(1))) (yv:=NI 1) rfl rfl rfl (AG _ _ _ (by omega)) (gK (Adv ⟨((i+k)/2^(1))+1,k,n,T1,T2,x,y,r,rfl,g,hr,hE,by omega,by omega,Sa hs (by omega) (NA.1 t),hhi,trivial⟩ ?_)));show(intOf (f 10)).toNat-(intOf (NI ((((i)+(k))/2^(1))+(1)))).toNat<(intOf (f 10)).toNat-(intOf (f 9)).toNat;rw[g,q9];simp only[intOf,AcX];omega
  have hr:=hr.keep m;have hE:=hE.trans m;refine gK (Adv ⟨i,((i+k)/2^(1)),n,T1,T2,x,y,r,c,rfl,hr,hE,by omega,by omega,hlo,KH hs (fun h=>t (NA.2 h)),trivial⟩ ?_);show(intOf (NI (((i)+(k))/2^(1)))).toNat-(intOf (f 9)).toNat<(intOf (f 10)).toNat-(intOf (f 9)).toNat;rw[c,q10];simp only[intOf,AcX];omega
 refine gS (YX (a:=(i:Nat)) (b:=(l.length:Nat)) c r (Bf _ _ _ _) (gO fun _=>Ae (.func (.func 194) #[] #[]) rfl rfl (gT rfl) (fun hG17=>AbL T2 ⟨rfl,rfl⟩) (As (gO fun _=>Ae (v) rfl rfl (gT rfl) (fun hG18=>AbL n ⟨rfl,rfl⟩) (As (gO fun _=>Ae (NI i) rfl rfl (gT rfl) (fun hG19=>AbL c ⟨rfl,rfl⟩) (As ?_)))))));have af:((decide ((i)<(l.length))))=true->(nmdC (l.getD (i) dNmd)).length=33:=fun hG20=>(AbO hr dNmd (by first | omega | (simp only[gA,gB,gC,gD,gE]at hG20;omega)));refine gO fun _=>DX (fun u=>PR (nmdC (l.getD (i) dNmd)) u w6) rfl rfl (gT (vr (.bool (decide ((i)<(l.length)))) rfl)) (fun hG20=>Zd EQ KE (by decide) dNmd (Y5 hr (Ai (vr (cond ((decide ((i)<(l.length)))) (v) undef) rfl) hG20)) (Ai (vr (cond ((decide ((i)<(l.length)))) (NI i) undef) rfl) hG20) (by first | omega | (simp only[gA,gB,gC,gD,gE]at hG20;omega)) fun _ h=>⟨h,rfl⟩) fun u q=>As (gO fun _=>Ae (.agg (nmdC (l.getD (i) dNmd)).toArray) rfl rfl (gT (vr (.bool (decide ((i)<(l.length)))) rfl)) (fun hG24=>Y3 (Zj (q hG24) (vr u rfl)) (LT).choose_spec rfl (by rw[BG];exact KF) ⟨rfl,rfl⟩) (As (gO fun _=>Ae (St (s)) rfl rfl (gT (vr (.bool (decide ((i)<(l.length)))) rfl)) (fun hG25=>AbL T1 ⟨rfl,rfl⟩) (As (gO fun _=>Ch (.int .i64 ((DO (l.getD (i) dNmd).name s):Int)) rfl rfl (gT (vr (.bool (decide ((i)<(l.length)))) rfl)) (fun hG26=>Zq KJ (caps:= #[]) (Ai (vr (cond ((decide ((i)<(l.length)))) (.func (.func 194) #[] #[]) undef) rfl) hG26) #[.agg (nmdC (l.getD (i) dNmd)).toArray,St (s)] (by simp only[AcJ,AcL,AcR,Adh,Ac3,Ac9];exact congrArg Ac4 (B4 (Ai (vr (cond ((decide ((i)<(l.length)))) (.agg (nmdC (l.getD (i) dNmd)).toArray) undef) rfl) hG26) (Ai (vr (cond ((decide ((i)<(l.length)))) (St (s)) undef) rfl) hG26))) ((IC _ (l.getD (i) dNmd) s).mono (by rintro e w2 ⟨rfl,hx⟩;exact⟨_,rfl,rfl,hx⟩))) fun ag aa=>As ?_)))));have q:=fun(e_:((decide ((i)<(l.length))))=true)=>(Ab2 (q e_) aa);refine gO fun _=>Ae (.bool (decide (((DO (l.getD (i) dNmd).name s):Int)=((0:Nat):Int)))) rfl rfl (gT rfl) (fun hG30=>YX (Ai rfl hG30) rfl (X4 _ .i64 ((DO (l.getD (i) dNmd).name s):Int) ((0:Nat):Int)) ⟨rfl,rfl⟩) (As (gS (Zf rfl (fun hA=>(Ai rfl hA)) rfl fun bb31 hbb32=> ?_)));clear q;refine DS rfl c (vr (.bool (bb31)) rfl) ?_;subst hbb32;have hE:=hE.trans aa;exact⟨⟨i,rfl,by omega,hlo,fun j hj=>hhi j (by omega)⟩,hE⟩
section
variable {P : AcN} {K : Acr -> Acs -> Prop} {ρ : Ah} {w : Acs} {d : Option Tmp} {ty : Acz} {pos : String} {af : Array Adk} {gd : Option (Nat × Bool)}
theorem Sb{t e:Acz}(ht:P.underlying t=some (.slice e))(a:Option Addr)(n c:Nat)(w:Acs):(Op.equal t (.slice a n c) (.slice none 0 0)).run P w = .ok a.isNone w:=by
 unfold Op.equal;rw[show Op.maxDepth=(Op.maxDepth-1)+1 from rfl];cases a <;> simp[Op.equalIn,run_underlying ht,AcC,AcE]
theorem ZJ{t e ty2:Acz}(ht:P.underlying t=some (.slice e)){x:AcD}{a:Option Addr}{n c:Nat}(hx:Ab ρ x = .slice a n c)(hk:K (.bool a.isNone) w):Yk P K ((execOp (Ab ρ) ⟨d, .binOp .eql t x (.const (.slice none 0 0)) ty2,ty,pos,af,gd⟩).run P w):=by
 have hy:Ab ρ (.const (.slice none 0 0)) = .slice none 0 0:=rfl;refine AbK (v:= .bool a.isNone) (w' :=w) ?_ hk;have hr:=Sb ht a n c w;unfold execOp;simp only[hx,hy];cases a <;> simp[eqGuard,Adb,hr]
end
def Px(u:Av):Bool:=(decide (u.kind.toNat=2)&&(!Ag u.old))&&(!Ag u.new)
def Py(u:Av):Bool:=decide (u.kind.toNat=3)&&((!Ag u.old)||(decide (u.name= [])==Ag u.new))
def Pz(u:Av):Bool:=(!Au u.name)&&(decide (u.kind.toNat≠3)||decide (u.name≠ []))
def Bl(u:Av):Nat:=if(!DT u.kind)=true then 1 else if Px u=true then 1 else if Py u=true then 1 else if Pz u=true then 10 else 0
def BK(l:List AI)(s:Bs)(p:Nat):Bool:=decide (p<l.length)&&decide ((l.getD p dNmd).name=s)
theorem Ub(l:List AI)(s:Bs)(p:Nat):(decide (p<l.length)&&decide ((DO (l.getD p dNmd).name s)=((0:Nat):Int)))=BK l s p:=by
 unfold BK;rw[show decide ((DO (l.getD p dNmd).name s)=((0:Nat):Int))=decide ((l.getD p dNmd).name=s)from decide_eq_decide.2 R9]
theorem Qk(w:Acs):(Ac1 31 0 #[]).run Acu w = .ok (.slice (some ⟨w.heap.size,0,none⟩) 0 0) (w.alloc (.cells #[] 94)):=by kernel_rfl
theorem wr30_ig94:∃z,(Tryz.prog.info? 94).map (fun i=>(i.zero,i.size,i.bytes))=some (some z,33,48)/\z.cells.size=33:=Hf (by kernel_rfl)
theorem Ql(w:Acs):(Ac1 34 0 #[]).run Acu w = .ok (.slice (some ⟨w.heap.size,0,none⟩) 0 0) (w.alloc (.cells #[] 97)):=by kernel_rfl
theorem wr30_ig97:∃z,(Tryz.prog.info? 97).map (fun i=>(i.zero,i.size,i.bytes))=some (some z,67,104)/\z.cells.size=67:=Hf (by kernel_rfl)
theorem Qm:Plain Acu 193:=fun _ _=>by kernel_rfl
theorem Jx:AC Acu 77 2 2:=fun b o w=>by simp[go_sem]
theorem Jy:AC Acu 77 3 34:=fun b o w=>by simp[go_sem]
theorem Uc:Tryz.prog.underlying 4=some (.bool):=by kernel_rfl
theorem Sc(w:Acs):
  Calls Acu 36 #[(.slice none 0 0)] w fun e w' =>∃v',e = .returned v' /\OG w.heap.size 94 33 nmdC w' v' []/\Ext w w' :=by
 refine gG (args:= [(.slice none 0 0)]) Tryz.func36 rfl 8 rfl rfl ?_;have hE:=AbE w;refine gS (ZJ EQ rfl (cT rfl (AD rfl (vr (AcI none 0 0) rfl) ?_)));exact⟨_,rfl,AbQ _ _ _ _ _,hE⟩
theorem Sd(w:Acs)(a:Addr)(c:Nat)(l:List AI)(hr:RG 33 nmdC w (.slice (some a) l.length c) l)(hl:l.length<1000000):
  Calls Acu 36 #[(.slice (some a) l.length c)] w fun e w' =>∃v',e = .returned v' /\OG w.heap.size 94 33 nmdC w' v' l/\Ext w w' :=by
 refine gG (args:= [(.slice (some a) l.length c)]) Tryz.func36 rfl 8 rfl rfl ?_;have hE:=AbE w;refine gS (ZJ EQ rfl (cF rfl (gS (Aau (k:=33) (enc:=nmdC) Qk fun g i b j=> ?_))));have hE:=hE.trans j;refine gS (Zr _ _ w.heap.size _ 48 EQ wr30_ig94.choose_spec.1 wr30_ig94.choose_spec.2 EQ ([]) (l) (ZP b (vr g rfl)) (Y5 (hr.keep hE) (vr (.slice (some a) l.length c) rfl)) (fun _ _=>DM) (by simp only[AcQ];omega) (by simp only[AcQ];omega) hE.size fun h m n f=> ?_);have f:Grew i m g h:=f;have hE:=Br hE f b.2 (Acy _);clear b;refine AD rfl (vr h rfl) ?_;exact⟨_,rfl,(show OG _ _ _ _ _ _ _ from by simpa using n),hE⟩
theorem Dr(w:Acs)(v:Acr)(l:List AI)(h:RG 33 nmdC w v l)(hl:l.length<1000000):
  Calls Acu 36 #[v] w fun e w' =>∃v',e = .returned v' /\OG w.heap.size 94 33 nmdC w' v' l/\Ext w w' :=by
 obtain⟨h0,h1,ao,cap,rfl,h2,h3,h4,h5⟩:=id h;cases ao with
 | none=>
  have hl:=h4 rfl;have:l= []:=Adn hl.1;subst this;rw[show cap=0 from hl.2];exact Sc w
 | some a=>exact Sd w a cap l h hl
theorem Se(w:Acs):
  Calls Acu 37 #[(.slice none 0 0)] w fun e w' =>∃v',e = .returned v' /\OG w.heap.size 97 67 entC w' v' []/\Ext w w' :=by
 refine gG (args:= [(.slice none 0 0)]) Tryz.func37 rfl 8 rfl rfl ?_;have hE:=AbE w;refine gS (ZJ Fx rfl (cT rfl (AD rfl (vr (AcI none 0 0) rfl) ?_)));exact⟨_,rfl,AbQ _ _ _ _ _,hE⟩
theorem Sf(w:Acs)(a:Addr)(c:Nat)(l:List A7)(hr:RG 67 entC w (.slice (some a) l.length c) l)(hl:l.length<1000000):
  Calls Acu 37 #[(.slice (some a) l.length c)] w fun e w' =>∃v',e = .returned v' /\OG w.heap.size 97 67 entC w' v' l/\Ext w w' :=by
 refine gG (args:= [(.slice (some a) l.length c)]) Tryz.func37 rfl 8 rfl rfl ?_;have hE:=AbE w;refine gS (ZJ Fx rfl (cF rfl (gS (Aau (k:=67) (enc:=entC) Ql fun g i b j=> ?_))));have hE:=hE.trans j;refine gS (Zr _ _ w.heap.size _ 104 Fx wr30_ig97.choose_spec.1 wr30_ig97.choose_spec.2 Fx ([]) (l) (ZP b (vr g rfl)) (Y5 (hr.keep hE) (vr (.slice (some a) l.length c) rfl)) (fun _ _=>F5) (by simp only[AcQ];omega) (by simp only[AcQ];omega) hE.size fun h m n f=> ?_);have f:Grew i m g h:=f;have hE:=Br hE f b.2 (Acy _);clear b;refine AD rfl (vr h rfl) ?_;exact⟨_,rfl,(show OG _ _ _ _ _ _ _ from by simpa using n),hE⟩
theorem Gi(w:Acs)(v:Acr)(l:List A7)(h:RG 67 entC w v l)(hl:l.length<1000000):
  Calls Acu 37 #[v] w fun e w' =>∃v',e = .returned v' /\OG w.heap.size 97 67 entC w' v' l/\Ext w w' :=by
 obtain⟨h0,h1,ao,cap,rfl,h2,h3,h4,h5⟩:=id h;cases ao with
 | none=>
  have hl:=h4 rfl;have:l= []:=Adn hl.1;subst this;rw[show cap=0 from hl.2];exact Se w
 | some a=>exact Sf w a cap l h hl
theorem Sg(w:Acs)(v:Acr)(l:List AI)(hr:RG 33 nmdC w v l)(hl:l.length<=1000)(hs:DC l)(s:Bs):
  Calls Acu 154 #[v,St s] w fun e w' =>(∃p,e = .returned (.tuple #[NI p, .bool (BK l s p)])/\Ja l s p)/\Ext w w' :=by
 refine gG (args:= [v,St (s)]) Tryz.func154 rfl 11 rfl rfl ?_;have hE:=AbE w;refine gS (Y9 Qm rfl rfl rfl ((Qj _ v l hr hl hs s).mono ?_));rintro e b ⟨⟨p,rfl,hp⟩,a⟩;refine⟨_,rfl,?_⟩;have hr:=hr.keep a;have hE:=hE.trans a;refine gS (AbG (vs:= [NI p, .bool ((decide (p<l.length)&&decide ((DO (l.getD p dNmd).name s)=((0:Nat):Int))))]) rfl rfl (gS (AbG (vs:= [NI p, .bool ((decide (p<l.length)&&decide ((DO (l.getD p dNmd).name s)=((0:Nat):Int))))]) rfl rfl (DS rfl (vr (NI p) rfl) (vr (.bool ((decide (p<l.length)&&decide ((DO (l.getD p dNmd).name s)=((0:Nat):Int))))) rfl) ?_))));exact⟨⟨p,by rw[<-Ub],hp⟩,hE⟩
theorem Qn(w:Acs)(y:Av)(hl:y.name.length<=9223372036854775807):
  Calls Acu 39 #[.agg (updC y).toArray] w fun e w' =>e = .returned (NI (Bl y))/\Ext w w' :=by
 refine FT (args:= [.agg (updC y).toArray]) Tryz.func39 rfl 56 rfl rfl ?_;have hE:=AbE w;refine gS (AbU (vr (.agg (updC y).toArray) rfl) fun f u av o v aw=> ?_);have hE:=hE.trans v;have c:=o;clear o;have ax:f<u.heap.size:=by omega
 refine gS (AbD O1 rfl (gS (YW u5 rfl rfl (Ac c (Fu y)) (gS (YZ R6 rfl ((LX _ y.kind).mono ?_))))));rintro e ay ⟨rfl,p⟩;refine⟨_,rfl,?_⟩;have hE:=hE.trans p;have c:=eb p c;refine gS (Zh rfl ?_);refine cB (!(DT y.kind)) rfl (fun i=> ?_) fun i=> ?_
 ·have h0c:(!DT y.kind)=true:=i;refine cT (vr (.bool (true)) ((show _=Ad3 ((!DT y.kind))from rfl).trans (congrArg Ad3 h0c))) (AD rfl (vr (NI 1) rfl) ?_);exact⟨by unfold Bl;rw[if_pos h0c],hE⟩
 have h0c:(!DT y.kind)=false:=i;refine gS (AbD O1 rfl (gS (YW u5 rfl rfl (Ac c (Fu y)) (gS (YX (a:=((y.kind).toNat:Nat)) (b:=(2:Nat)) rfl rfl (AK _ _ _ _) (gO fun _=>Ae (PQ f 2) rfl rfl (gT rfl) (fun hG17=>AbD Jx rfl ⟨rfl,rfl⟩) (As (gO fun _=>Ae (AB y.old.1) rfl rfl (gT rfl) (fun hG18=>Y3 (AbS c (Et y) (EY y) (Ai rfl hG18)) VT rfl (Ar y.old.2) ⟨rfl,rfl⟩) (As (gO fun _=>Ch (.bool (Ag y.old)) rfl rfl (gT rfl) (fun hG19=>YZ IB (Ai rfl hG19) ((B1 _ y.old).mono (by rintro e w2 ⟨rfl,hx⟩;exact⟨_,rfl,rfl,hx⟩))) fun az q=>As ?_))))))))));have hE:=hE.trans q;have c:=eb q c;refine gO fun _=>Ae (.bool (!(Ag y.old))) rfl rfl (gT rfl) (fun hG23=>Zh (Ai rfl hG23) ⟨rfl,rfl⟩) (As (gS (Zf rfl (fun hA=>(Ai rfl hA)) rfl fun bb24 hbb25=>(gO fun _=>Ae (PQ f 34) rfl rfl (gT rfl) (fun hG26=>AbD Jy rfl ⟨rfl,rfl⟩) (As (gO fun _=>Ae (AB y.new.1) rfl rfl (gT rfl) (fun hG27=>Y3 (AbS c (C1 y) (C8 y) (Ai rfl hG27)) VT rfl (Ar y.new.2) ⟨rfl,rfl⟩) (As (gO fun _=>Ch (.bool (Ag y.new)) rfl rfl (gT rfl) (fun hG28=>YZ IB (Ai rfl hG28) ((B1 _ y.new).mono (by rintro e w2 ⟨rfl,hx⟩;exact⟨_,rfl,rfl,hx⟩))) fun a0 r=>As ?_))))))));have hE:=hE.trans r;have c:=eb r c;refine gO fun _=>Ae (.bool (!(Ag y.new))) rfl rfl (gT rfl) (fun hG32=>Zh (Ai rfl hG32) ⟨rfl,rfl⟩) (As (gS (Zf rfl (fun hA=>(Ai rfl hA)) rfl fun bb33 hbb34=> ?_)));refine cB (bb33) rfl (fun j=> ?_) fun j=> ?_
 ·subst hbb25 hbb34;have h1c:Px y=true:=j;refine cT (vr (.bool (true)) ((show _=Ad3 (Px y)from rfl).trans (congrArg Ad3 h1c))) (AD rfl (vr (NI 1) rfl) ?_);exact⟨by unfold Bl;rw[if_neg (by rw[h0c];decide),if_pos h1c],hE⟩
 subst hbb25 hbb34;have h1c:Px y=false:=j;refine gR ?_;refine Fe [Is (PQ f 0),Is (B8 (y.kind)),Is (.bool (decide (((y.kind).toNat:Nat)=(3)))),Is (.bool (decide (((y.kind).toNat:Nat)=(3)))),Is (cond ((decide (((y.kind).toNat:Nat)=(3)))) (PQ f 2) undef),Is (cond ((decide (((y.kind).toNat:Nat)=(3)))) (AB y.old.1) undef),Is (cond ((decide (((y.kind).toNat:Nat)=(3)))) (.bool (Ag y.old)) undef),Is (cond ((decide (((y.kind).toNat:Nat)=(3)))) (.bool (!(Ag y.old))) undef),Is (cond ((decide (((y.kind).toNat:Nat)=(3)))) (.bool (!(Ag y.old))) undef),Is (cond ((decide (((y.kind).toNat:Nat)=(3)))&& !(!(Ag y.old))) (PQ f 1) undef),Is (cond ((decide (((y.kind).toNat:Nat)=(3)))&& !(!(Ag y.old))) (St (y.name)) undef),Is (cond ((decide (((y.kind).toNat:Nat)=(3)))&& !(!(Ag y.old))) (.bool (decide ((y.name:AhU)=(([]:AhU):AhU)))) undef),Is (cond ((decide (((y.kind).toNat:Nat)=(3)))&& !(!(Ag y.old))) (PQ f 34) undef),Is (cond ((decide (((y.kind).toNat:Nat)=(3)))&& !(!(Ag y.old))) (AB y.new.1) undef),Is (cond ((decide (((y.kind).toNat:Nat)=(3)))&& !(!(Ag y.old))) (.bool (Ag y.new)) undef),Is (cond ((decide (((y.kind).toNat:Nat)=(3)))&& !(!(Ag y.old))) (.bool ((decide ((y.name:AhU)=(([]:AhU):AhU)))==(Ag y.new))) undef),Is (cond ((decide (((y.kind).toNat:Nat)=(3)))) (.bool ((!(Ag y.old))||((decide ((y.name:AhU)=(([]:AhU):AhU)))==(Ag y.new)))) undef),Is (.bool ((decide (((y.kind).toNat:Nat)=(3)))&&((!(Ag y.old))||((decide ((y.name:AhU)=(([]:AhU):AhU)))==(Ag y.new))))),Is (.bool ((decide (((y.kind).toNat:Nat)=(3)))&&((!(Ag y.old))||((decide ((y.name:AhU)=(([]:AhU):AhU)))==(Ag y.new)))))] (by kernel_rfl) [23,24,25,26,27,28,29,30,31,32,33,34,35,36,37,38,39,40,3] (by kernel_rfl) (by kernel_rfl) (YK (TO trivial)) ?z ?hQ1003
 case z=>
  refine⟨?_,?_,?_,?_,?_,?_,?_,?_,?_,?_,?_,?_,?_,?_,?_,?_,?_,?_,?_,trivial⟩
  ·refine AS rfl fun σ w1 hC h=> ?_;have g:σ 1=PQ f 0:=(AM (h 1 (by decide))).trans rfl;exact AbD O1 g ⟨AbE _,rfl⟩
  ·refine AS rfl fun σ w1 hC h=> ?_;have aa:=AM (h 23 (by decide));exact YW u5 rfl aa (Ac (eb hC c) (Fu y)) ⟨AbE _,rfl⟩
  ·refine AS rfl fun σ w1 hC h=> ?_;have ab:=AM (h 24 (by decide));exact YX (a:=((y.kind).toNat:Nat)) (b:=(3:Nat)) ab rfl (AK _ _ _ _) ⟨AbE _,rfl⟩
  ·refine AS rfl fun σ w1 hC h=> ?_;have ac:=AM (h 25 (by decide));exact AbL ac ⟨AbE _,rfl⟩
  ·refine A5 3 true 26 (G:=(decide (((y.kind).toNat:Nat)=(3)))) rfl rfl (fun x _ (h:x = .bool (decide (((y.kind).toNat:Nat)=(3))))=>gT h) (fun hu_ _=>Bu hu_) fun hG σ w1 hC h=> ?_;have g:σ 1=PQ f 0:=(AM (h 1 (by decide))).trans rfl;exact AbD Jx g ⟨AbE _,Bt hG⟩
  ·refine A5 3 true 26 (G:=(decide (((y.kind).toNat:Nat)=(3)))) rfl rfl (fun x _ (h:x = .bool (decide (((y.kind).toNat:Nat)=(3))))=>gT h) (fun hu_ _=>Bu hu_) fun hG σ w1 hC h=> ?_;have ad:=AM (h 27 (by decide));exact Y3 (AbS (eb hC c) (Et y) (EY y) (Ai ad hG)) VT rfl (Ar y.old.2) ⟨AbE _,Bt hG⟩
  ·refine A5 3 true 26 (G:=(decide (((y.kind).toNat:Nat)=(3)))) rfl rfl (fun x _ (h:x = .bool (decide (((y.kind).toNat:Nat)=(3))))=>gT h) (fun hu_ _=>Bu hu_) fun hG σ w1 hC h=> ?_;have ae:=AM (h 28 (by decide));refine YZ IB (Ai ae hG) ((B1 _ y.old).mono ?_);rintro e w2 ⟨rfl,hx⟩;exact⟨_,rfl,hx,Bt hG⟩
  ·refine A5 3 true 26 (G:=(decide (((y.kind).toNat:Nat)=(3)))) rfl rfl (fun x _ (h:x = .bool (decide (((y.kind).toNat:Nat)=(3))))=>gT h) (fun hu_ _=>Bu hu_) fun hG σ w1 hC h=> ?_;have af:=AM (h 29 (by decide));exact Zh (Ai af hG) ⟨AbE _,Bt hG⟩
  ·refine A5 3 true 26 (G:=(decide (((y.kind).toNat:Nat)=(3)))) rfl rfl (fun x _ (h:x = .bool (decide (((y.kind).toNat:Nat)=(3))))=>gT h) (fun hu_ _=>Bu hu_) fun hG σ w1 hC h=> ?_;have ag:=AM (h 30 (by decide));exact AbL (Ai ag hG) ⟨AbE _,Bt hG⟩
  ·refine A5 8 false 31 (G:=(decide (((y.kind).toNat:Nat)=(3)))&& !(!(Ag y.old))) rfl rfl (fun x _ (h:x=cond ((decide (((y.kind).toNat:Nat)=(3)))) (.bool (!(Ag y.old))) undef)=>Fb h) (fun hu_ _=>Bu hu_) fun hG σ w1 hC h=> ?_;have g:σ 1=PQ f 0:=(AM (h 1 (by decide))).trans rfl;exact AbD O3 g ⟨AbE _,Bt hG⟩
  ·refine A5 8 false 31 (G:=(decide (((y.kind).toNat:Nat)=(3)))&& !(!(Ag y.old))) rfl rfl (fun x _ (h:x=cond ((decide (((y.kind).toNat:Nat)=(3)))) (.bool (!(Ag y.old))) undef)=>Fb h) (fun hu_ _=>Bu hu_) fun hG σ w1 hC h=> ?_;have ah:=AM (h 32 (by decide));exact YW EI rfl (Ai ah hG) (Ac (eb hC c) (DW y)) ⟨AbE _,Bt hG⟩
  ·refine A5 8 false 31 (G:=(decide (((y.kind).toNat:Nat)=(3)))&& !(!(Ag y.old))) rfl rfl (fun x _ (h:x=cond ((decide (((y.kind).toNat:Nat)=(3)))) (.bool (!(Ag y.old))) undef)=>Fb h) (fun hu_ _=>Bu hu_) fun hG σ w1 hC h=> ?_;have ai:=AM (h 33 (by decide));exact ZR (l:=y.name) (m:=([]:AhU)) (.inl rfl) (Ai ai hG) (vr (St (([]:AhU))) rfl) (decide ((y.name:AhU)=(([]:AhU):AhU))) rfl ⟨AbE _,Bt hG⟩
  ·refine A5 8 false 31 (G:=(decide (((y.kind).toNat:Nat)=(3)))&& !(!(Ag y.old))) rfl rfl (fun x _ (h:x=cond ((decide (((y.kind).toNat:Nat)=(3)))) (.bool (!(Ag y.old))) undef)=>Fb h) (fun hu_ _=>Bu hu_) fun hG σ w1 hC h=> ?_;have g:σ 1=PQ f 0:=(AM (h 1 (by decide))).trans rfl;exact AbD Jy g ⟨AbE _,Bt hG⟩
  ·refine A5 8 false 31 (G:=(decide (((y.kind).toNat:Nat)=(3)))&& !(!(Ag y.old))) rfl rfl (fun x _ (h:x=cond ((decide (((y.kind).toNat:Nat)=(3)))) (.bool (!(Ag y.old))) undef)=>Fb h) (fun hu_ _=>Bu hu_) fun hG σ w1 hC h=> ?_;have aj:=AM (h 35 (by decide));exact Y3 (AbS (eb hC c) (C1 y) (C8 y) (Ai aj hG)) VT rfl (Ar y.new.2) ⟨AbE _,Bt hG⟩
  ·refine A5 8 false 31 (G:=(decide (((y.kind).toNat:Nat)=(3)))&& !(!(Ag y.old))) rfl rfl (fun x _ (h:x=cond ((decide (((y.kind).toNat:Nat)=(3)))) (.bool (!(Ag y.old))) undef)=>Fb h) (fun hu_ _=>Bu hu_) fun hG σ w1 hC h=> ?_;have ak:=AM (h 36 (by decide));refine YZ IB (Ai ak hG) ((B1 _ y.new).mono ?_);rintro e w2 ⟨rfl,hx⟩;exact⟨_,rfl,hx,Bt hG⟩
  ·refine A5 8 false 31 (G:=(decide (((y.kind).toNat:Nat)=(3)))&& !(!(Ag y.old))) rfl rfl (fun x _ (h:x=cond ((decide (((y.kind).toNat:Nat)=(3)))) (.bool (!(Ag y.old))) undef)=>Fb h) (fun hu_ _=>Bu hu_) fun hG σ w1 hC h=> ?_;have al:=AM (h 34 (by decide));have am:=AM (h 37 (by decide));exact Abe (a:=decide ((y.name:AhU)=(([]:AhU):AhU))) (b:=Ag y.new) Uc (Ai al hG) (Ai am hG) ⟨AbE _,Bt hG⟩
  ·refine A5 3 true 26 (G:=(decide (((y.kind).toNat:Nat)=(3)))) rfl rfl (fun x _ (h:x = .bool (decide (((y.kind).toNat:Nat)=(3))))=>gT h) (fun hu_ _=>Bu hu_) fun hG σ w1 hC h=> ?_;have an:=AM (h 31 (by decide));have ao:=AM (h 38 (by decide));exact ZF (Ai an hG) (vr (.bool (true)) rfl) (fun hA=>(Ai ao (FZ hG (BH hA)))) ⟨AbE _,Bt hG⟩
  ·refine AS rfl fun σ w1 hC h=> ?_;have ap:=AM (h 26 (by decide));have aq:=AM (h 39 (by decide));exact ZB ap (fun hA=>(Ai aq hA)) (vr (.bool (false)) rfl) ⟨AbE _,rfl⟩
  ·refine AS rfl fun σ w1 hC h=> ?_;have ar:=AM (h 40 (by decide));exact AbX ar ⟨AbE _,rfl⟩
 intro au a1 s he hf;obtain⟨-,-,-,-,-,-,-,-,-,-,-,-,-,-,-,-,-,-,k3,-⟩:=hf;obtain⟨T0,T1,T2,-⟩:=he.hold [(0, .agg (updC y).toArray),(1,PQ f 0),(2,NI 0)] ⟨rfl,rfl,rfl,trivial⟩ rfl;clear he;have hE:=hE.trans s;have c:=eb s c;have T3:au 3 = .bool ((decide (((y.kind).toNat:Nat)=(3)))&&((!(Ag y.old))||((decide ((y.name:AhU)=(([]:AhU):AhU)))==(Ag y.new)))):=k3;clear k3;refine YN ?_;refine cB ((decide (((y.kind).toNat:Nat)=(3)))&&((!(Ag y.old))||((decide ((y.name:AhU)=(([]:AhU):AhU)))==(Ag y.new)))) T3 (fun k=> ?_) fun k=> ?_
 ·have h2c:Py y=true:=k;refine AD rfl (vr (NI 1) rfl) ?_;exact⟨by unfold Bl;rw[if_neg (by rw[h0c];decide),if_neg (by rw[h1c];decide),if_pos h2c],hE⟩
 have h2c:Py y=false:=k;refine gS (AbD O3 T1 (gS (YW EI rfl rfl (Ac c (DW y)) (gS (YZ LU rfl ((J5 _ y.name hl).mono ?_))))));rintro e a3 ⟨rfl,t⟩;refine⟨_,rfl,?_⟩;have hE:=hE.trans t;have c:=eb t c;refine gS (Zh rfl (gO fun _=>Ae (PQ f 0) rfl rfl (gT rfl) (fun hG43=>AbD O1 T1 ⟨rfl,rfl⟩) (As (gO fun _=>Ae (B8 (y.kind)) rfl rfl (gT rfl) (fun hG44=>YW u5 rfl (Ai rfl hG44) (Ac c (Fu y)) ⟨rfl,rfl⟩) (As (gO fun _=>Ae (.bool (decide (((y.kind).toNat:Nat)≠(3)))) rfl rfl (gT rfl) (fun hG45=>YX (a:=(((y.kind).toNat:Nat):Int)) (b:=((3:Nat):Int)) (Ai rfl hG45) rfl (Ba _ .u8 ((y.kind).toNat) (3)) ⟨rfl,rfl⟩) (As (gO fun _=>Ae (.bool (decide (((y.kind).toNat:Nat)≠(3)))) rfl rfl (gT rfl) (fun hG46=>AbL (Ai rfl hG46) ⟨rfl,rfl⟩) (As (gO fun _=>Ae (PQ f 1) rfl rfl (Fb rfl) (fun hG47=>AbD O3 T1 ⟨rfl,rfl⟩) (As (gO fun _=>Ae (St (y.name)) rfl rfl (Fb rfl) (fun hG48=>YW EI rfl (Ai rfl hG48) (Ac c (DW y)) ⟨rfl,rfl⟩) (As (gO fun _=>Ae (.bool (decide ((y.name:AhU)≠(([]:AhU):AhU)))) rfl rfl (Fb rfl) (fun hG49=>ZR (l:=y.name) (m:=([]:AhU)) (.inr rfl) (Ai rfl hG49) rfl (decide ((y.name:AhU)≠(([]:AhU):AhU))) rfl ⟨rfl,rfl⟩) (As (gO fun _=>DY ((decide (((y.kind).toNat:Nat)≠(3)))||(decide ((y.name:AhU)≠(([]:AhU):AhU)))) rfl rfl (gT rfl) (fun hG50=>ZF (Ai rfl hG50) rfl (fun hA=>(Ai rfl (FZ hG50 (BH hA)))) ⟨rfl,rfl⟩) fun bb51 hbb52=>As (gS (Zf rfl (fun hA=>(Ai rfl hA)) rfl fun bb53 hbb54=> ?_))))))))))))))))));refine cB (bb53) rfl (fun n=> ?_) fun n=> ?_
 ·subst hbb52 hbb54;have h3c:Pz y=true:=n;refine AD rfl (vr (NI 10) rfl) ?_;exact⟨by unfold Bl;rw[if_neg (by rw[h0c];decide),if_neg (by rw[h1c];decide),if_neg (by rw[h2c];decide),if_pos h3c],hE⟩
 subst hbb52 hbb54;have h3c:Pz y=false:=n;refine AD rfl (vr (NI 0) rfl) ?_;exact⟨by unfold Bl;rw[if_neg (by rw[h0c];decide),if_neg (by rw[h1c];decide),if_neg (by rw[h2c];decide),if_neg (by rw[h3c];decide)],hE⟩
structure Ud where
 kind:Int
 L:List Av
 note:Bs
 n:Int
 fates:List Int
 bytes:Bs
structure Yb where
 L:Acr
 fates:Acr
 bytes:Acr
abbrev CG:=Ud × Yb
def Co(x:CG):List Acr:= .int .i64 (x.1.kind) :: x.2.L :: St (x.1.note) :: .int .i64 (x.1.n) :: x.2.fates :: x.2.bytes :: []
theorem Wk(x:CG):(Co x).length=6:=by simp[Co,AcH]
theorem Xp(x:CG):(Co x)[1]? =some (x.2.L):=by
 rfl
theorem KK(x:CG):((Co x).drop 1).take 1= [x.2.L]:=by
 exact I8 (Xp x)
theorem Xq(x:CG):(Co x)[2]? =some (St (x.1.note)):=by
 rfl
theorem Sh(x:CG):((Co x).drop 2).take 1= [St (x.1.note)]:=by
 exact I8 (Xq x)
theorem Xr(x:CG):(Co x)[4]? =some (x.2.fates):=by
 rfl
theorem Xs(x:CG):((Co x).drop 4).take 1= [x.2.fates]:=by
 exact I8 (Xr x)
theorem Xt(x:CG):(Co x)[5]? =some (x.2.bytes):=by
 rfl
theorem Xu(x:CG):((Co x).drop 5).take 1= [x.2.bytes]:=by
 exact I8 (Xt x)
abbrev Aw:CG:=(⟨0,[],[],0,[],[]⟩,⟨.slice none 0 0, .slice none 0 0, .slice none 0 0⟩)
theorem OG.block{α:Type}{b k:Nat}{t:Acz}{enc:α->List Acr}{w:Acs}{v:Acr}{l:List α}(h:OG b t k enc w v l){i:Nat}(hi:i<l.length):∃g,v.ownBlock=some g:=by
 obtain⟨-,-,⟨-,h⟩ | ⟨g,cap,cur,rfl,-⟩⟩:=h
 ·omega
 ·exact⟨g,rfl⟩
theorem Yy{b:Nat}{t:Acz}{w:Acs}{v:Acr}{n z:Nat}{xs:List Acr}(h:w.ownsRow b t z v n xs){i:Nat}(hi:i<n):∃g,v.ownBlock=some g:=by
 obtain⟨-,⟨-,h⟩ | ⟨g,cap,cur,rfl,-⟩⟩:=h
 ·omega
 ·exact⟨g,rfl⟩
section
variable {P : AcN} {K : Acr -> Acs -> Prop} {ρ : Ah} {w : Acs} {d : Option Tmp} {ty : Acz} {pos : String} {af : Array Adk} {gd : Option (Nat × Bool)}
theorem Abk{k:Nat}{t e:Acz}(ht:P.underlying t=some (.slice e))(he:∀w' :Acs,(sizeOf e).run P w' = .ok k w'){b n g:Nat}{xs:List Acr}{e' :Acz}{v:Acr}{x y:AcD}(hx:Ab ρ x=v)(h:w.ownsRow b e' k v n xs)(hg:v.ownBlock=some g){kd:AdI}{i:Nat}(hy:Ab ρ y = .int kd (i:Int))(hi:i<n) 
  (hk:K (PQ g (i*k)) w):Yk P K ((execOp (Ab ρ) ⟨d, .indexAddr t x y,ty,pos,af,gd⟩).run P w):=by
 obtain⟨-,⟨-,h0⟩ | ⟨g',cap,cur,rfl,-⟩⟩:=h
 ·omega
 ·obtain rfl:g' =g:=by simpa [Adc] using hg
  refine AbK (v:=PQ g' (i*k)) (w' :=w) ?_ hk;have hE:P.elem t=e:=by simp[AeH,ht]
  have hr:=run_indexAt_slice (P:=P) w t ⟨g',0,none⟩ n cap kd (i:Int) (by rw[hE];exact ht);rw[if_pos (by omega),hE,he]at hr;unfold execOp;simp only[hx,hy,AcC,hr,AcB,AcE];simp[AdU]
end
section
variable {P : AcN}
theorem ID{t e:Acz}{size:Nat}(ht:P.underlying t=some (.slice e))(he:∀w' :Acs,(sizeOf e).run P w' = .ok size w'){w:Acs}{v:Acr}{n:Nat}{xs:List Acr}(hr:Reads w size v n xs)(lo hi:Option Acr)(l h:Nat)(hlh:l<=h)(hn:h<=n) 
  (hlo:lo=none/\l=0\/∃k,lo=some (.int k l)) (hhi:hi=none/\h=n\/∃k,hi=some (.int k h)):
  ∃ao c,((∀w:Acs,(AeP t v lo hi none).run P w = .ok (.slice ao (h-l) c) w)/\(AcI ao (h-l) c).ownBlock=v.ownBlock)/\Reads w size (.slice ao (h-l) c) (h-l) ((xs.drop (l*size)).take ((h-l)*size)):=by
 obtain⟨h1,ao,cap,rfl,h2,h3,h4,h5⟩:=hr;have hE:P.elem t=e:=by simp[AeH,ht]
 have ht' :P.underlying t=some (.slice (P.elem t)):=by rw[hE];exact ht
 refine⟨if cap=l then ao else ao.map (·.add (l*size)),cap-l,⟨?_,?_⟩,?_,_,_,rfl,by omega,by omega,?_,?_⟩
 ·intro w;rw[run_sliceAt_slice (P:=P) w t _ _ _ _ ht'];have hl' :(l:Int)<=(h:Int):=by omega
  have hh' :(h:Int)<=(cap:Int):=by omega
  have hn' :(l:Int)<=(n:Int):=by omega
  rcases hlo with ⟨rfl,rfl⟩ | ⟨k,rfl⟩ <;> rcases hhi with ⟨rfl,rfl⟩ | ⟨k',rfl⟩
  ·rw[run_slice_all (P:=P) w t ao h cap ht',hE,he];simp[Adj,sliced]
  ·rw[run_slice_h (P:=P) w t ao n cap ht' k' h (by omega) hh',hE,he];simp[Adj,sliced]
  ·rw[run_slice_l (P:=P) w t ao h cap ht' k l (by omega) hl',hE,he];simp[Adj,sliced]
  ·rw[run_slice_lh (P:=P) w t ao n cap ht' k k' l h (by omega) hl' hh',hE,he];simp[Adj,sliced]
 ·cases ao with
  | none=>simp[Adc]
  | some x=>
   split
   ·rfl
   ·simp only[AdP,Adc,Ad2];unfold Addr.add;split <;> rfl
 ·rw[AcS,AcU,h1];have:(h-l)*size<=n*size-l*size:=by rw[<-Nat.sub_mul];exact AeS _ (by omega)
  omega
 ·intro hnone;have:ao=none:=by
   cases ao with
   | none=>rfl
   | some x=>split at hnone <;> simp at hnone
  obtain⟨h6,h7⟩:=h4 this;omega
 ·intro a ha j u hu;have hj:j<((xs.drop (l*size)).take ((h-l)*size)).length:=(AcW.1 hu).1;have hj2:j<(h-l)*size:=by rw[AcS]at hj;omega
  have hhl:h-l≠0:=fun e=>by rw[e]at hj2;simp at hj2
  rw[if_neg (by omega)]at ha;cases ao with
  | none=>simp at ha
  | some x=>
   simp at ha;subst ha;rw[Gc];refine h5 x rfl _ _ ?_;rw[Aes,if_pos hj2,AeI]at hu;exact hu
end
section
variable {P : AcN} {K : Acr -> Acs -> Prop} {ρ : Ah} {w w0 : Acs} {d : Option Tmp} {ty : Acz} {pos : String} {af : Array Adk} {gd : Option (Nat × Bool)}
variable {α : Type} {k : Nat} {enc : α -> List Acr} {t e : Acz}
theorem Aaa(ht:P.underlying t=some (.slice e))(he:∀w' :Acs,(sizeOf e).run P w' = .ok k w'){x lo:AcD}{v:Acr}{xs:List α}(hx:Ab ρ x=v)(h:RG k enc w0 v xs){kd:AdI}{l:Nat}(hlo:Ab ρ lo = .int kd (l:Int))(hl:l<=xs.length) 
  (hk:∀v',RG k enc w0 v' (xs.drop l)->v'.ownBlock=v.ownBlock->K v' w):Yk P K ((execOp (Ab ρ) ⟨d, .slice t x (some lo) none none,ty,pos,af,gd⟩).run P w):=by
 obtain⟨ao,c,⟨hrun,hb⟩,hR⟩:=ID ht he h.2 (some (.int kd l)) none l xs.length hl (Acy _) (.inr ⟨kd,rfl⟩) (.inl ⟨rfl,rfl⟩);have hR' :=RG.cut h.1 hl (Acy _) hR;rw[Ac7 (by rw[AcU];exact Acy _)]at hR';refine AbK (v:= .slice ao (xs.length-l) c) (w' :=w) ?_ (hk _ hR' hb);unfold execOp;simp only[hx,hlo,AdP,Aek,hrun,AcC,AcE,AcB]
end
theorem PA:∃i z,Tryz.prog.info? 94=some i/\i.size=33/\i.bytes=48/\i.zero=some z/\z.cells.size=33/\∀u∈z.cells.toList,u.oneCell' =true:=Ua (by kernel_rfl)
section
variable {A X D R : List Acr} {i j : Nat}
theorem Wl(hA:A.length=i)(hX:X.length=33)(hD:D.length=j):((A++X++D++R).drop (i+33)).take j=D:=by
 rw[AcV,AfR (by rw[Acx,hA,hX]),AdJ hD]
theorem PB(hA:A.length=i)(hD:D.length=j):((A++D++R).drop i).take j=D:=by rw[AcV,AfR hA,AdJ hD]
theorem Ue{C:List Acr}{m:Nat}(hm:i<=m)(hC:C.take i=A):C.take m=A++(C.take m).drop i:=by rw[<-hC,show C.take i=(C.take m).take i by rw[List.take_take,Ae7 hm],AdT]
theorem Uf(hA:A.length=i)(hX:X.length=33){Y:List Acr}:(A++X++R).take i++Y++(A++X++R).drop (i+1*33)=A++Y++R:=by rw[AfR (by rw[Acx];omega),AcV A X R,AdJ hA]
theorem NC{w:Acs}{a b:Nat}{v x:Acr}{lo' n' c' lo n c:Nat}(hv:SB a 33 lo' n' c' v)(hx:SB b 33 lo n c x)(hne:a≠b){A B:List Acr}{tA tB:Acz}(hA:w.heap[a]? =some (.cells A.toArray tA (0,0)))(hB:w.heap[b]? =some (.cells B.toArray tB (0,0)))(h0:B≠ []):
  (callFunc 195 #[v,x]).run Acu w = .ok (.value (.bool false)) w:=by
 rw[run_callFunc_extern (e:=Extern.SlicesOverlaps.overlaps #[31,31] #[4]) Tryz.func195 (by kernel_rfl) (by kernel_rfl) (by kernel_rfl) (by kernel_rfl),Ls (e:=94) rfl (fun _=>by kernel_rfl) hv hx hne hA hB h0];rfl
theorem Si(hA:A.length=i):(A++X++D++R).take i=A:=by rw[AcV,AcV,AdJ hA]
theorem L0(h:(A++D).length=i):(A++D++R).take i=A++D:=AdJ h
end
theorem Qo(w:Acs)(v:Acr)(g c i j:Nat)(A X D R:List Acr)(hA:A.length=i*33)(hX:X.length=33)(hD:D.length=j*33)(hv:SB g 33 0 (i+1+j) c v)(hCb:w.heap[g]? =some (.cells (A++X++D++R).toArray 94 (0,0)))(hL:(A++X++D++R).length=c*33)(hc:i+1+j<=c)(hm:c<=maxLen)(h1:∀u∈D,u.oneCell' =true):
  Calls Acu 155 #[v,NI i,NI (i+1)] w fun e w' =>∃R',e = .returned (.slice (some ⟨g,0,none⟩) (i+j) c)/\w'.heap[g]? =some (.cells (A++D++R').toArray 94 (0,0))/\(A++D++R').length=c*33/\w.grownBy w' (some g):=by
 obtain⟨ri,rz,ri1,ri2,ri3,ri4,ri5,ri6⟩:=PA;have hgr:w.grownBy w (some g):=⟨rfl,rfl,rfl,Acy _,fun _ _ _=>rfl⟩;have hgl:=(bl hCb);unfold maxLen at hm;refine gG (args:= [v,NI i,NI (i+1)]) Tryz.func155 rfl 33 rfl rfl ?_;have hE:=AbE w;refine gS (ZX EQ (Zm hv rfl) (gS (AaN (l:=i) (r:=i+1) (m:=i+1+j) EQ KE (Zm hv rfl) rfl rfl rfl (by omega) (by omega) (by omega) fun y n=> ?_)));have n:SB g 33 (i) (i+1-(i)) (i+1+j-(i)) y:=(Ace n (by omega) (by omega) (by omega));refine gS (YX (a:=(i:Nat)) (b:=(i+1:Nat)) rfl rfl (AK _ _ _ _) (kF (by omega) (cF rfl (gS (ZX EQ (Zm hv rfl) (gM0 [0,1,2,3,4,5,6,7] [6,7] [] fun z o=> ?_))))));have hgr:w.grownBy z (some g):=Aa hgr o.grown (fun _ e=>by cases e);refine yS (Zp EQ KE (a:=none) (b:=some _) (Zm hv rfl) (0) (i) (.inl ⟨rfl,rfl⟩) (.inr ⟨_,congrArg some rfl⟩) (by omega) (by omega) fun p f=> ?_);have f:SB g 33 (0) (i) (c) p:=(Ace f (by omega) (by omega) (by omega));refine yS (Zp EQ KE (a:=some _) (b:=none) (Zm hv rfl) (i+1) (i+1+j) (.inr ⟨_,congrArg some rfl⟩) (.inl ⟨rfl,rfl⟩) (by omega) (by omega) fun q h=> ?_);have h:SB g 33 (i+1) (j) (c-(i+1)) q:=(Ace h (by omega) (by omega) (by omega));have hCb:=eb o hCb;refine yC (AaO EQ ri1 ri2 (Zm f (vr p rfl)) (by omega) hCb (SB.src (Zm h (vr q rfl)) (j*33) (if hj:j=0 then .inr (by omega)else .inl (by omega)) hCb (by rw[show(i+1)*33=i*33+33 by omega];exact Wl hA hX hD)) (hD) (h1) (by omega) (by rw[hL];omega) fun s aa ab af=> ?_);have hgr:w.grownBy s (some g):=Aa hgr ab (fun _ e=> .inl e);clear hE;clear hCb;refine AeF (⟨_,rfl⟩:∃T,T=(A++X++D++R).drop (i*33+j*33)) fun T hT=> ?_;have hLT:(A++D++T).length=c*33:=by rw[hT];simp only[Acx,AcU]at hL ⊢;omega
 have hCb:s.heap[g]? =some (.cells (A++D++T).toArray 94 (0,0)):=AA aa (by rw[hT,Si hA]);have ag:=bl hCb;have t:SB g 33 0 (i+j) (c) (AcI (some ⟨g,0,none⟩) (i+(j)) (c)):=(ZW _ _ _ _).eq rfl (by omega) rfl;refine yC (AbX rfl (gS (ZX EQ (Zm t rfl) (gS (Zp EQ KE (a:=some _) (b:=some _) (Zm t rfl) (i+j) (i+1+j) (.inr ⟨_,congrArg some rfl⟩) (.inr ⟨_,congrArg some rfl⟩) (by omega) (by omega) fun ac k=> ?_)))));have k:SB g 33 (i+j) (1) (c-(i+j)) ac:=(Ace k (by omega) (by omega) (by omega));refine gS (Aa5 EQ ri1 ri4 ri5 (Zm k rfl) (by omega) (by omega) hCb (MW ri6 _) (by rw[hLT];omega) fun x Z29 hZ30 ad ae ah=> ?_);have hgr:w.grownBy x (some g):=Aa hgr ae (fun _ e=> .inl e);clear hCb;refine AeF (⟨_,rfl⟩:∃U,U=Z29++(A++D++T).drop ((i+j)*33+1*33)) fun U hU=> ?_;have hLU:(A++D++U).length=c*33:=by rw[hU];simp only[Acx,AcU]at hLT ⊢;omega
 have hCb:x.heap[g]? =some (.cells (A++D++U).toArray 94 (0,0)):=AA ad (by rw[hU,L0 (by rw[Acx];omega),AcV (A++D)]);have ai:=bl hCb;refine AD rfl (vr (AcI (some ⟨g,0,none⟩) (i+(j)) (c)) rfl) ?_;exact⟨_,rfl,hCb,hLU,hgr⟩
theorem Qp(w:Acs)(v r:Acr)(g b c i j:Nat)(TX:Acz)(A X D R:List Acr)(hA:A.length=i*33)(hXl:X.length=33)(hD:D.length=j*33)(hv:SB g 33 0 (i+j) c v)(hCb:w.heap[g]? =some (.cells (A++D++R).toArray 94 (0,0)))(hL:(A++D++R).length=c*33)(hc:i+j<=c)(hm:c<=maxLen)(hj:0<j)(h1:∀u∈D,u.oneCell' =true)(hX1:∀u∈X,u.oneCell' =true) 
  (hv2:SB b 33 0 1 1 r) (hX:w.heap[b]? =some (.cells X.toArray TX (0,0))) (hne:b≠g) (hs:i+j<=1000):
  Calls Acu 156 #[v,NI i,r] w fun e w' =>∃g' c' R',e = .returned (.slice (some ⟨g',0,none⟩) (i+1+j) c')/\w'.heap[g']? =some (.cells (A++X++D++R').toArray 94 (0,0))/\(A++X++D++R').length=c' *33/\i+1+j<=c' /\c' <=2^63-1/\w.grownBy w' (some g)/\(g' =g\/w.heap.size<=g'):=by
 obtain⟨ri,rz,ri1,ri2,ri3,ri4,ri5,ri6⟩:=PA;have hgr:w.grownBy w (some g):=⟨rfl,rfl,rfl,Acy _,fun _ _ _=>rfl⟩;have hgl:=(bl hCb);have hbl:=(bl hX);unfold maxLen at hm;refine gG (args:= [v,NI i,r]) Tryz.func156 rfl 95 rfl rfl ?_;have hE:=AbE w;refine gS (Zp EQ KE (a:=some _) (b:=none) (Zm hv rfl) (i) (i+j) (.inr ⟨_,congrArg some rfl⟩) (.inl ⟨rfl,rfl⟩) (by omega) (by omega) fun v3 ah=> ?_);have ah:SB g 33 (i) (i+j-(i)) (c-(i)) v3:=(Ace ah (by omega) (by omega) (by omega));refine gS (ZX EQ (Zm hv2 rfl) (gS (YX (a:=(1:Nat)) (b:=(0:Nat)) rfl rfl (AK _ _ _ _) (kF (by omega) (cF rfl (gS (ZX EQ (Zm hv rfl) ?_)))))));by_cases hroom:i+j+1<=c
 ·refine gS (YX (a:=(i:Nat)) (b:=(i+j:Nat)) rfl rfl (AK _ _ _ _) (kF (by omega) (cF rfl (gS (Y4 (xv:=NI (i+j)) (yv:=NI 1) rfl rfl rfl (AG _ _ _ (by omega)) (gS (Aaz EQ (Zm hv rfl) (gS (YX (a:=((i+j)+(1):Nat)) (b:=(c:Nat)) rfl rfl (CD _ _ _ _) (kF (by omega) (cF rfl (gS (Y4 (xv:=NI (i+j)) (yv:=NI 1) rfl rfl rfl (AG _ _ _ (by omega)) (gS (Zp EQ KE (a:=none) (b:=some _) (Zm hv rfl) (0) ((i+j)+(1)) (.inl ⟨rfl,rfl⟩) (.inr ⟨_,congrArg some rfl⟩) (by omega) (by omega) fun ai n=> ?_)))))))))))))));have n:SB g 33 (0) (i+1+j) (c) ai:=(Ace n (by omega) (by omega) (by omega));refine gS (Y4 (xv:=NI i) (yv:=NI 1) rfl rfl rfl (AG _ _ _ (by omega)) (gS (Zp EQ KE (a:=some _) (b:=none) (Zm n rfl) ((i)+(1)) (i+1+j) (.inr ⟨_,congrArg some rfl⟩) (.inl ⟨rfl,rfl⟩) (by omega) (by omega) fun au s=> ?_)));have s:SB g 33 (i+1) (j) (c-(i+1)) au:=(Ace s (by omega) (by omega) (by omega));refine gS (Aa4 rfl rfl (NC (Zm hv2 rfl) (Zm s rfl) hne hX hCb (by intro e;rw[e]at hL;simp at hL;omega)) (gS (Zh rfl (cT rfl (gM0 [0,1,2,3,4,5,6,7,8] [8] [] fun av t=> ?_)))));have hgr:w.grownBy av (some g):=Aa hgr t.grown (fun _ e=>by cases e);refine ys (Y4 (xv:=NI i) (yv:=NI 1) rfl rfl rfl (AG _ _ _ (by omega)) zz) (yS (Zp EQ KE (a:=some _) (b:=none) (Zm n rfl) ((i)+(1)) (i+1+j) (.inr ⟨_,congrArg some rfl⟩) (.inl ⟨rfl,rfl⟩) (by omega) (by omega) fun aw x=> ?_));have x:SB g 33 (i+1) (j) (c-(i+1)) aw:=(Ace x (by omega) (by omega) (by omega));refine yS (Zp EQ KE (a:=some _) (b:=none) (Zm n rfl) (i) (i+1+j) (.inr ⟨_,congrArg some rfl⟩) (.inl ⟨rfl,rfl⟩) (by omega) (by omega) fun ax y=> ?_);have y:SB g 33 (i) (j+1) (c-i) ax:=(Ace y (by omega) (by omega) (by omega));have hCb:=eb t hCb;refine yC (ZZ EQ KE (Zm x rfl) (by omega) hCb (j) (SB.src (Zm y rfl) (j*33) (.inl (by omega)) hCb (PB hA hD)) (by simp only[Ag4];split <;> omega) (hD) (h1) (by rw[hL];omega) fun aj ay ak a8=> ?_);have hgr:w.grownBy aj (some g):=Aa hgr ak (fun _ e=> .inl e);clear hE;clear hCb;refine AeF (⟨_,rfl⟩:∃T,T=(A++D++R).drop ((i+1)*33+j*33)) fun T hT=>(AeF (⟨_,rfl⟩:∃Y0,Y0=((A++D++R).take ((i+1)*33)).drop (i*33)) fun Y0 hY0=> ?_);have hY0l:Y0.length=33:=by rw[hY0,AcU,AcS,hL];omega
  have hLT:(A++Y0++(D++T)).length=c*33:=by rw[hT];simp only[Acx,AcU]at hL ⊢;omega
  have hCb:aj.heap[g]? =some (.cells (A++Y0++(D++T)).toArray 94 (0,0)):=AA ay (by rw[hT,hY0,<-Ue (C:=A++D++R) (m:=(i+1)*33) (by omega) (by rw[AcV,AdJ hA]),AcV]);have a9:=bl hCb;refine gS (Zp EQ KE (a:=some _) (b:=none) (Zm n rfl) (i) (i+1+j) (.inr ⟨_,congrArg some rfl⟩) (.inl ⟨rfl,rfl⟩) (by omega) (by omega) fun az z=> ?_);have z:SB g 33 (i) (j+1) (c-i) az:=(Ace z (by omega) (by omega) (by omega));have hX:=eb t hX;have hX:=kb ak hX (by omega);refine gS (ZZ EQ KE (Zm z rfl) (by omega) hCb (1) (SB.src (Zm hv2 rfl) 33 (.inl (by omega)) hX (by rw[Ae2,AeD,Ac7 (by omega)])) (by simp only[Ag4];split <;> omega) (by omega) (hX1) (by rw[hLT];omega) fun al a0 a1 ba=> ?_);have hgr:w.grownBy al (some g):=Aa hgr a1 (fun _ e=> .inl e);clear hCb;have hLF:(A++X++D++T).length=c*33:=by simp only[Acx]at hLT ⊢;omega
  have hCb:al.heap[g]? =some (.cells (A++X++D++T).toArray 94 (0,0)):=AA a0 (by rw[Uf hA hY0l,AcV (A++X)]);have bb:=bl hCb;refine AD rfl (vr ai rfl) ?_;obtain⟨o,rfl,ho⟩:=n;obtain rfl:o=0:=by rw[ho (by omega),Ae2]
  exact⟨_,_,_,rfl,hCb,hLF,(by omega),(by omega),hgr, .inl rfl⟩
 refine gS (YX (a:=(i:Nat)) (b:=(i+j:Nat)) rfl rfl (AK _ _ _ _) (kF (by omega) (cF rfl (gS (Y4 (xv:=NI (i+j)) (yv:=NI 1) rfl rfl rfl (AG _ _ _ (by omega)) (gS (Aaz EQ (Zm hv rfl) (gS (YX (a:=((i+j)+(1):Nat)) (b:=(c:Nat)) rfl rfl (CD _ _ _ _) (kT (by omega) (cT rfl (gS (Zp EQ KE (a:=none) (b:=some _) (Zm hv rfl) (0) (i) (.inl ⟨rfl,rfl⟩) (.inr ⟨_,congrArg some rfl⟩) (by omega) (by omega) fun am aa=> ?_)))))))))))));have aa:SB g 33 (0) (i) (c) am:=(Ace aa (by omega) (by omega) (by omega));refine gS (Y4 (xv:=NI (i+j)) (yv:=NI 1) rfl rfl rfl (AG _ _ _ (by omega)) (gS (Y4 (xv:=NI ((i+j)+(1))) (yv:=NI i) rfl rfl rfl (Ff _ _ _ (by omega) (by omega)) (gS (Aai (m:=((i+j)+(1))-(i)) EQ NB ri1 ri4 ri2 ri5 (by decide) (Zm aa (vr am rfl)) (by omega) hCb (vr (NI (((i+j)+(1))-(i))) rfl) (by omega) (by omega) (by rw[hL];omega) (by rw[ri3];omega) (by unfold maxLen;omega) fun h ab l Z54 ac hm56 hm57 hZ58 f p bc=> ?_)))));have hgr:w.grownBy ab (some g):=Aa hgr p.grown (fun _ e=>by cases e);have f:ab.heap[h]? =some (.cells (A++Z54).toArray 94 (0,0)):=AA f (by rw[AcV,AdJ hA]);have bd:h<ab.heap.size:=by omega
 have an:SB h 33 0 (i+1+j) (l) (AcI (some ⟨h,0,none⟩) (i+(((i+j)+(1))-(i))) l):=(ZW _ _ _ _).eq rfl (by omega) rfl;unfold maxLen at hm56;refine gS (Zp EQ KE (a:=some _) (b:=none) (Zm an rfl) (i) (i+1+j) (.inr ⟨_,congrArg some rfl⟩) (.inl ⟨rfl,rfl⟩) (by omega) (by omega) fun a2 ad=> ?_);have ad:SB h 33 (i) (j+1) (l-i) a2:=(Ace ad (by omega) (by omega) (by omega));have be:=AO (bl hX) ac;have hX:=eb p hX;refine gS (ZZ EQ KE (Zm ad rfl) (by omega) f (1) (SB.src (Zm hv2 rfl) 33 (.inl (by omega)) hX (by rw[Ae2,AeD,Ac7 (by omega)])) (by simp only[Ag4];split <;> omega) (by omega) (hX1) (by rw[Acx,hA,hZ58];omega) fun ao a3 ae bf=> ?_);have hgr:w.grownBy ao (some g):=Aa hgr ae (fun _ e=> .inr (by cases e;omega));clear f;refine AeF (⟨_,rfl⟩:∃T,T=(A++Z54).drop (i*33+1*33)) fun T hT=> ?_;have hLT:(A++X++T).length=l*33:=by rw[hT];simp only[Acx,AcU];omega
 have f:ao.heap[h]? =some (.cells (A++X++T).toArray 94 (0,0)):=AA a3 (by rw[hT,AdJ hA]);have bg:=bl f;refine gM0 [0,1,2,3,4,5,6,7,8] [8] [] fun a4 q=> ?_;have hgr:w.grownBy a4 (some g):=Aa hgr q.grown (fun _ e=>by cases e);refine ys (Y4 (xv:=NI i) (yv:=NI 1) rfl rfl rfl (AG _ _ _ (by omega)) zz) (yS (Zp EQ KE (a:=some _) (b:=none) (Zm an rfl) ((i)+(1)) (i+1+j) (.inr ⟨_,congrArg some rfl⟩) (.inl ⟨rfl,rfl⟩) (by omega) (by omega) fun a5 af=> ?_));have af:SB h 33 (i+1) (j) (l-(i+1)) a5:=(Ace af (by omega) (by omega) (by omega));refine yS (Zp EQ KE (a:=some _) (b:=none) (Zm hv rfl) (i) (i+j) (.inr ⟨_,congrArg some rfl⟩) (.inl ⟨rfl,rfl⟩) (by omega) (by omega) fun a6 ag=> ?_);have ag:SB g 33 (i) (j) (c-i) a6:=(Ace ag (by omega) (by omega) (by omega));have bh:=AO (bl hCb) ac;have hCb:=eb p hCb;have hCb:=kb ae hCb (by omega);have hCb:=eb q hCb;have f:=eb q f;refine yC (ZZ EQ KE (Zm af rfl) (by omega) f (j) (SB.src (Zm ag rfl) (j*33) (.inl (by omega)) hCb (PB hA hD)) (by simp only[Ag4];split <;> omega) (hD) (h1) (by rw[hLT];omega) fun ap a7 aq bi=> ?_);have hgr:w.grownBy ap (some g):=Aa hgr aq (fun _ e=> .inr (by cases e;omega));clear f;refine AeF (⟨_,rfl⟩:∃U,U=(A++X++T).drop ((i+1)*33+j*33)) fun U hU=> ?_;have hLU:(A++X++D++U).length=l*33:=by rw[hU];simp only[Acx,AcU]at hLT ⊢;omega
 have f:ap.heap[h]? =some (.cells (A++X++D++U).toArray 94 (0,0)):=AA a7 (by rw[hU,L0 (by rw[Acx];omega)]);have bj:=bl f;refine AD rfl (vr (AcI (some ⟨h,0,none⟩) (i+(((i+j)+(1))-(i))) l) rfl) ?_;have hE:=hE.trans p;have hE:=Ad hE ae (Acw (Acy _) (by omega));have hE:=hE.trans q;have hE:=Ad hE aq (Acw (Acy _) (by omega));exact⟨_,_,_,(congrArg (fun k:Nat=>AdW (AcI (some ⟨h,0,none⟩) k l)) (show i+(i+j+1-i)=i+1+j by omega)),f,hLU,(by omega),(by omega),hgr, .inr (AfS ac)⟩
theorem Qq(w0 w:Acs)(v c:Acr)(l:List AI)(x:AI)(f:Ext w0 w)(ho:OG w0.heap.size 94 33 nmdC w v l)(g:RG 33 nmdC w c [x])(hl:l.length<=1000):
  Calls Acu 156 #[v,NI l.length,c] w fun e w' =>∃v',e = .returned v' /\OG w0.heap.size 94 33 nmdC w' v' (l++ [x])/\Ext w0 w' :=by
 refine gG (args:= [v,NI l.length,c]) Tryz.func156 rfl 95 rfl rfl ?_;have hE:=AbE w;refine gS (Aaa EQ KE rfl (YY ho) rfl (Acy _) fun n j ha5=>(gS (Y8 EQ (Y5 g rfl) (gS (YX (a:=(([x]).length:Nat)) (b:=(0:Nat)) rfl rfl (AK _ _ _ _) (kF (by simp) (cF rfl (gS (Y8 EQ (Y5 (YY ho) rfl) (gS (YX (a:=(l.length:Nat)) (b:=(l.length:Nat)) rfl rfl (AK _ _ _ _) (kT (rfl) (cT rfl (gS (Zr _ _ w0.heap.size _ 48 EQ wr30_ig94.choose_spec.1 wr30_ig94.choose_spec.2 EQ (l) ([x]) (ZP ho (vr v rfl)) (Y5 g (vr c rfl)) (fun _ _=>DM) (by simp only[AcK,AcQ];omega) (by simp only[AcK,AcQ];omega) f.size fun i k m h=> ?_)))))))))))))));have h:Grew w k v i:=h;clear g;clear hE;have f:=Br f h ho.2 (Acy _);clear j;clear ho;refine AD rfl (vr i rfl) ?_;exact⟨_,rfl,m,f⟩
section
variable {α : Type} {b k g c : Nat} {t : Acz} {enc : α -> List Acr} {w : Acs} {v : Acr} {l : List α} {R : List Acr}
theorem OG.row(h:OG b t k enc w v l)(h0:0<l.length):∃g c R,v = .slice (some ⟨g,0,none⟩) l.length c/\b<=g/\w.heap[g]? =some (.cells (l.flatMap enc++R).toArray t (0,0))/\(l.flatMap enc++R).length=c*k/\l.length<=c/\c<=maxLen:=by
 obtain⟨-,hx,⟨-,h1⟩ | ⟨g,c,cur,rfl,hb,hg,hn,hm,hs,ht⟩⟩:=h
 ·omega
 ·refine⟨g,c,cur.toList.drop (l.length*k),rfl,hb,?_,?_,hn,hm⟩
  ·rw[<-ht,AdT];exact hg
  ·rw[<-ht,AdT,AdZ,hs]
theorem Aae(hl:∀x∈l,(enc x).length=k)(hb:b<=g)(hg:w.heap[g]? =some (.cells (l.flatMap enc++R).toArray t (0,0)))(hL:(l.flatMap enc++R).length=c*k)(hn:l.length<=c)(hm:c<=maxLen):OG b t k enc w (.slice (some ⟨g,0,none⟩) l.length c) l:=
 ⟨hl,Ht hl, .inr ⟨g,c,_,rfl,hb,hg,hn,hm,by rw[Ac6,hL],by rw[List.toList_toArray,AdJ (Ht hl)]⟩⟩
theorem ND(d:α){p:Nat}(hp:p<l.length):l.flatMap enc=(l.take p).flatMap enc++enc (l.getD p d)++(l.drop (p+1)).flatMap enc:=by
 conv=>lhs;rw[<-AdT p l,Aeu hp]
 rw[Ad0,Adm,<-AcV,AcA,AcG hp];rfl
end
section
variable {P : AcN} {K : Acr -> Acs -> Prop} {ρ : Ah} {w : Acs} {d : Option Tmp} {ty : Acz} {pos : String} {af : Array Adk} {gd : Option (Nat × Bool)} {α : Type} {t : Acz}
theorem Abr{k:Nat}{enc:α->List Acr}{e:Acz}{x:AcD}{a:α}(hx:Ab ρ x = .agg (enc a).toArray)(hl:(enc a).length=k) 
  (hr:∀(cs:Array Acr),cs.size=k->∀w:Acs,(Ac1 t 1 #[(0, .agg cs)]).run P w = .ok (.slice (some ⟨w.heap.size,0,none⟩) 1 1) (w.alloc (.cells cs e)))
  (hk:∀b w',w.heap.size=b->w'.heap[b]? =some (.cells (enc a).toArray e (0,0))->Ext w w' ->w'.heap.size=w.heap.size+1->K (.slice (some ⟨b,0,none⟩) 1 1) w'):Yk P K ((execOp (Ab ρ) ⟨d, .buildSlice t 1 #[(0,x)],ty,pos,af,gd⟩).run P w):=by
 have hE:Ext w (w.alloc (.cells (enc a).toArray e)):=(Adp _ _).alloc (Acy _) _;refine AbK (v:= .slice (some ⟨w.heap.size,0,none⟩) 1 1) (w' :=w.alloc (.cells (enc a).toArray e)) ?_ (hk _ _ rfl (heap_alloc_new w _) hE (by simp));unfold execOp;simp only[AcJ,AcL,AcR,hx,AcC,hr _ (show(enc a).toArray.size=k by rw[Ac6];exact hl),AcB,AcE]
theorem Sj{l:List α}{p:Nat}{x:α}(hp:p<l.length):l.set p x=l.take p++x :: l.drop (p+1):=by rw[List.set_eq_take_append_cons_drop,if_pos hp]
theorem Aas{b:Nat}{t' e:Acz}{v:Acr}{l:List AI}{g p:Nat}{i:B6}{x y:AcD}(hx:Ab ρ x=PQ g (p*33+1))(hy:Ab ρ y = .agg (Acv i.1).toArray)(h:OG b e 33 nmdC w v l)(hg:v.ownBlock=some g)(hp:p<l.length)(hinfo:(P.info? t').map (·.size)=some 32) 
  (hk:∀w',OG b e 33 nmdC w' v (l.set p ⟨(l.getD p dNmd).name,i⟩)->Grew w w' v v->K undef w'):Yk P K ((execOp (Ab ρ) ⟨d, .store t' x y,ty,pos,af,gd⟩).run P w):=by
 obtain⟨g',c,R,rfl,hb,hC,hL,hc,hm⟩:=h.row (by omega);obtain rfl:g' =g:=by simpa [Adc] using hg
 have h1:=i.2;have h2:=(l.getD p dNmd).id.2;have a:l.flatMap nmdC++R=((l.take p).flatMap nmdC++ [St (l.getD p dNmd).name])++Acv (l.getD p dNmd).id.1++((l.drop (p+1)).flatMap nmdC++R):=by
  rw[ND dNmd hp];simp[nmdC]
 have f:((l.set p ⟨(l.getD p dNmd).name,i⟩).flatMap nmdC)++R=((l.take p).flatMap nmdC++ [St (l.getD p dNmd).name])++Acv i.1++((l.drop (p+1)).flatMap nmdC++R):=by
  rw[Sj hp,Ad0,Adm];simp[nmdC]
 have hn:((l.take p).flatMap nmdC).length=p*33:=by rw[Ht (fun x _=>BG x),AcS];congr 1;omega
 rw[a]at hC;refine Zv hx hy hC (by rw[Acx,hn];rfl) (by rw[AcH,AcH,h1,h2]) (by rw[AcH,h1];exact hinfo) (Ax _) fun w' k1 k2 _=>hk w' ?_ ⟨k2,fun k hk=> .inl hk⟩;rw[<-f]at k1;rw[show l.length=(l.set p (⟨(l.getD p dNmd).name,i⟩:AI)).length by rw[Aez]];refine Aae (fun x _=>BG x) hb k1 ?_ (by rw[Aez];exact hc) hm;rw[<-hL,a,f];simp only[Acx,AcH,h1,h2]
end
theorem NE{l:List AI}:∀u∈l.flatMap nmdC,u.oneCell' =true:=fun u hu=>by
 obtain⟨x,-,hx⟩:=List.mem_flatMap.1 hu;exact DM u hx
theorem nmds_len(l:List AI):(l.flatMap nmdC).length=l.length*33:=Ht (fun x _=>BG x)
theorem Sk(w0 w:Acs)(v:Acr)(l:List AI)(p:Nat)(hE:Ext w0 w)(h:OG w0.heap.size 94 33 nmdC w v l)(hp:p<l.length):
  Calls Acu 155 #[v,NI p,NI (p+1)] w fun e w' =>∃v',e = .returned v' /\OG w0.heap.size 94 33 nmdC w' v' (l.eraseIdx p)/\Ext w0 w' :=by
 obtain⟨g,c,R,rfl,hb,hC,hL,hc,hm⟩:=h.row (by omega);have hl:l.length=p+1+(l.length-(p+1)):=by omega
 rw[ND dNmd hp]at hC hL;refine Calls.mono (Qo w _ g c p (l.length-(p+1)) _ _ _ R (by rw[nmds_len,AcS];omega) (BG _) (by rw[nmds_len,AcU]) ((ZW _ _ _ _).eq rfl hl rfl) hC hL (by omega) hm NE) fun e w' ⟨R',f,a,b,i⟩=> ?_;rw[<-Ad0,<-List.eraseIdx_eq_take_drop_succ]at a b;have hle:(l.eraseIdx p).length=p+(l.length-(p+1)):=by rw[List.length_eraseIdx_of_lt hp];omega
 refine⟨_,f,?_,Ad hE i hb⟩;rw[<-hle];exact Aae (fun x _=>BG x) hb a b (by omega) hm
theorem Sl(w0 w:Acs)(v f:Acr)(l:List AI)(p b:Nat)(x:AI)(TX:Acz)(hE:Ext w0 w)(h:OG w0.heap.size 94 33 nmdC w v l)(hp:p<=l.length)(hl:l.length<=1000) 
  (hv2:f = .slice (some ⟨b,0,none⟩) 1 1) (hX:w.heap[b]? =some (.cells (nmdC x).toArray TX (0,0))) (hne:v.ownBlock≠some b):
  Calls Acu 156 #[v,NI p,f] w fun e w' =>∃v',e = .returned v' /\OG w0.heap.size 94 33 nmdC w' v' (l.take p++x :: l.drop p)/\Ext w0 w' :=by
 subst hv2;by_cases hpe:p=l.length
 ·subst hpe;rw[List.take_length,List.drop_length];exact Qq w0 w v _ l x hE h (Aao (BG x) hX) hl
 ·obtain⟨g,c,R,rfl,hb,hC,hL,hc,hm⟩:=h.row (by omega);have k:l.flatMap nmdC=(l.take p).flatMap nmdC++(l.drop p).flatMap nmdC:=by rw[<-Ad0,AdT]
  rw[k]at hC hL;refine Calls.mono (Qp w _ _ g b c p (l.length-p) TX _ (nmdC x) _ R (by rw[nmds_len,AcS];omega) (BG x) (by rw[nmds_len,AcU]) ((ZW _ _ _ _).eq rfl (by omega) rfl) hC hL (by omega) hm (by omega) NE DM (ZW _ _ _ _) hX (fun e=>hne (by rw[e];rfl)) (by omega)) fun e w' ⟨g',c',R',m,i,j,r,n,o,a⟩=> ?_;have q:(l.take p).flatMap nmdC++nmdC x++(l.drop p).flatMap nmdC=(l.take p++x :: l.drop p).flatMap nmdC:=by rw[Ad0,Adm,AcV]
  rw[q]at i j;have hle:(l.take p++x :: l.drop p).length=p+1+(l.length-p):=by rw[Acx,AcK,AcS,AcU];omega
  refine⟨_,m,?_,Ad hE o hb⟩;rw[<-hle];refine Aae (fun x _=>BG x) ?_ i j (by omega) n;rcases a with rfl | a
  ·exact hb
  ·exact Acw hE.size a
def Cr(l:List AI)(p:Nat)(y:Av):Nat × List AI:=
 if(if BK l y.name p=true then(l.getD p dNmd).id else zid).1≠y.old.1 then(15,[])
 else if Ag y.new=true then(if BK l y.name p=true then(0,l.eraseIdx p)else(0,l))
 else if BK l y.name p=true then(0,l.set p ⟨(l.getD p dNmd).name,y.new⟩)
 else if 64<=l.length then(3,[])else(0,l.take p++⟨y.name,y.new⟩ :: l.drop p)
def Bz(l:List AI)(s:AhU):Nat:=(l.takeWhile fun n=>decide (n.name<s)).length
theorem Db:∀ {l:List AI} {s:AhU} {p:Nat},Ja l s p->p=Bz l s
 | [],s,p,h=>by have:=h.1;simp at this;subst this;rfl
 | a :: l,s,p,h=>by
  by_cases ha:a.name<s
  ·cases p with
   | zero=>exact absurd ha (h.2.2 0 (Acy _) (by simp))
   | succ p=>
    have hp:=h.1;have ih:p=Bz l s:=Db ⟨by simpa using hp,fun j hj=>h.2.1 (j+1) (by omega),fun j hj hl=>h.2.2 (j+1) (by omega) (by simpa using hl)⟩;unfold Bz at ih ⊢;rw[Ae3,if_pos (by simpa using ha),AcK,<-ih]
  ·cases p with
   | zero=>unfold Bz;rw[Ae3,if_neg (by simpa using ha)];rfl
   | succ p=>exact absurd (h.2.1 0 (by omega)) ha
def Al(l:List AI)(y:Av):Nat × List AI:=Cr l (Bz l y.name) y
end Go.Proofs.YtbbbblinjomajaaGreatDoor
