/- Part 2 of what stands behind these statements: laws and walks of the functions that are reached. Conditions: those that each theorem names. -/
import Derived.Test.YtfpekahfdalfkaaGreatDoorE1
set_option linter.unusedVariables false
set_option linter.unusedSimpArgs false
namespace Go.Proofs.YtfpekahfdalfkaaGreatDoor
open _root_.Go renaming Value->AbI,World->AbJ,TypeId->AbQ,Program->Acg,Edge->AcI,Operand->AbV,IntKind->AcK,Oper->Aca,Ending->Ad5,FuncId->AdB,MapEntry->Adv
open _root_.Nat renaming le_refl->AbO,zero_add->Ac2,add_mul->Aee,add_assoc->Ad0,eq_of_beq_eq_true->AfR,le_of_ble_eq_true->Ab2,lt_of_lt_of_le->AcE,mul_comm->AgO,mul_le_mul->Agc,pow_le_pow_right->AdS,le_trans->AbM,add_comm->Afu,le_of_eq->AhS,lt_succ_self->AfO,zero_le->Ack,mul_lt_mul_of_pos_right->Ae4,or_lt_two_pow->Agw,add_sub_cancel_left->AdT
open _root_.List renaming getElem?_eq_some_iff->Acf,getD_cons_zero->Af6,flatMap_cons->AcJ,getElem?_append_left->AcG,getElem?_append_right->AcA,getD_eq_getElem?_getD->AbN,getElem?_eq_getElem->AbT,getElem_mem->Adu,getElem?_take->AdP,getElem?_drop->AeM,eq_nil_of_length_eq_zero->Acv,mem_append->Acb,length_append->AbP,contains_iff_mem->AdM,append_assoc->Acj,map_toArray->Acp,map_nil->Acz,not_mem_nil->Adz,length_singleton->Ab7,cons_append->AcM,length_drop->Ab6,take_of_length_le->AcD,drop_eq_getElem_cons->Ac1,mem_of_getElem?->AcV,map_append->Adc,map_cons->Aco,nodup_append->AdU,mem_map->Acw,mem_singleton->AbW,mem_append_right->AdL,mem_append_left->Aeu,map_set->AgL,mem_iff_getElem->Ae7,getElem_set->AgP,getElem_map->Ae8,mem_eraseIdx_iff_getElem->Af3,eraseIdx_sublist->AfT,nil_append->AcO,drop_of_length_le->AcU,replicate->AbX,length_replicate->Ab8,length_take->Ab5,set_cons_zero->Afv,range->AcZ,getElem?_eq_none->AcR,set_append_right->Ac9,getElem?_set_self->AeT,mem_cons->Acy,map->Aeq,size_toArray->Ab4,length_map->Ab9,take_append_of_le_length->AeW,drop_append_of_le_length->AdN,take_append->AgR,drop_append->AfP,pairwise_cons->AcS,countP_le_length->Ahh,length_set->Adq,take_succ_eq_append_getElem->Acn,singleton_append->Ae0,append_nil->AdG,drop_succ_cons->AeE,mem_of_mem_drop->Ahq,pairwise_append->Ac6,all_eq_true->Acx,drop_zero->Aec
open _root_.Go.Addr renaming add->AdO,add_lit->Ade
open _root_.Go.Program renaming elem->AeY,arrayLen->AgJ
open _root_.Go.Sem renaming run_bind->AbY,run_pure->Ab1
open _root_.Go.Result renaming andThen_ok->AbU,andThen->AcF
open _root_.Go.RowKit.Below renaming refl->AcB
open _root_.Option renaming map_none->AdE,map_eq_some_iff->AeS,getD_some->AcL,map_some->Ac3
open _root_.Go.Instr renaming storeAt->Aeo,buildSlice->Acq,lookup->Aft,mapUpdate->Ag3,build->AdF,mapEntry->Age,entryStore->AgS
open _root_.Go.Value renaming cells->Aff,ownBlock->AbS
open _root_.Go.Proofs.Tryz renaming prog->AbL,func128->AhQ,ntmps128->Ahx,func210->AgQ,ntmps210->Agq
open _root_.Go.Lib renaming byteCells->AbK,hid->AdC,uvarint->Ab3,uvarint_big->Ag1,uvarint_small->AeX,compareBytes->Acd,byteCells_length->AbZ
open _root_.Go.MapKept renaming run_findKey->AhC,Stamped->AfY,run_getObj_map->AcY,run_setObj_map->AdH
open _root_.Array renaming getElem?_eq_some_iff->Ace,getElem?_setIfInBounds->Adp
open _root_.Go.ChangeMaps renaming modify_eq_set->Ae3
open _root_.UInt8 renaming ofNat->AcP,le_antisymm->Agx,not_lt->Afw,toNat_lt->Agf
open _root_.Int renaming toNat_natCast->Ab0
open _root_.Go.Extern.Bytes renaming loadBytes->AfK,bytesOf->Ae9
open Go.RowKit
def RG{α:Type}(k:Nat)(enc:α->List AbI)(w:AbJ)(v:AbI)(l:List α):Prop:=(∀x∈l,(enc x).length=k)/\Reads w k v l.length (l.flatMap enc)
def OG{α:Type}(base:Nat)(t:AbQ)(k:Nat)(enc:α->List AbI)(w:AbJ)(v:AbI)(l:List α):Prop:=(∀x∈l,(enc x).length=k)/\w.ownsRow base t k v l.length (l.flatMap enc)
def PR(cs:List AbI)(v:AbI)(w:AbJ):Prop:=∃b o,v = .pointer (some ⟨b,o,none⟩)/\w.rangeAt b o cs
section
variable {α : Type} {k base : Nat} {t : AbQ} {enc : α -> List AbI} {w w' : AbJ} {v x : AbI} {l : List α} {cs : List AbI}
theorem RG.keep(h:RG k enc w v l)(e:Ext w w'):RG k enc w' v l:=⟨h.1,h.2.keep e⟩
theorem OG.keep(h:OG base t k enc w v l)(e:Ext w w'):OG base t k enc w' v l:=⟨h.1,Aa5 _ _ _ _ _ _ _ _ h.2 e⟩
abbrev Abt:=@OG.keep
theorem OG.kept{g:Nat}(h:OG base t k enc w v l)(e:w.grownBy w' (some g))(hne:v.ownBlock≠some g):OG base t k enc w' v l:=⟨h.1,BK h.2 e hne⟩
abbrev Abc:=@OG.kept
theorem XW(h:RG k enc w v l)(e:x=v):RG k enc w x l:=by rw[e];exact h
theorem OG.of(h:OG base t k enc w v l)(e:x=v):OG base t k enc w x l:=by rw[e];exact h
abbrev Abf:=@OG.of
theorem PR.keep(h:PR cs v w)(e:Ext w w'):PR cs v w' :=by
 obtain⟨b,o,h1,h2⟩:=h;exact⟨b,o,h1,fun j u hu=>Y9 e (h2 j u hu)⟩
abbrev Abm:=@PR.keep
theorem Yc(h:PR cs v w)(e:x=v):PR cs x w:=by rw[e];exact h
theorem RG.nil(k:Nat)(enc:α->List AbI)(w:AbJ):RG k enc w (.slice none 0 0) []:=⟨by simp,by simp,none,0,rfl,AbO _,by simp[maxLen],fun _=>⟨rfl,rfl⟩,fun a h=>by cases h⟩
abbrev Abv:=@RG.nil
theorem OG.nil(base:Nat)(t:AbQ)(k:Nat)(enc:α->List AbI)(w:AbJ):OG base t k enc w (.slice none 0 0) []:=⟨by simp,World.ownsRow_nil w base t k⟩
abbrev Abg:=@OG.nil
theorem RG.sliceLen(h:RG k enc w v l):BF v=l.length:=by
 obtain⟨-,-,ao,cap,rfl,-⟩:=h;rfl
theorem RG.len(h:RG k enc w v l):∃ao c,v = .slice ao l.length c:=by
 obtain⟨-,-,ao,cap,rfl,-⟩:=h;exact⟨ao,cap,rfl⟩
theorem RG.lenLt(h:RG k enc w v l):l.length<=9223372036854775807:=by
 obtain⟨-,-,ao,cap,rfl,h2,h3,-⟩:=h;unfold maxLen at h3;omega
theorem X1(h:OG base t k enc w v l):RG k enc w v l:=by
 refine⟨h.1,h.2.1,?_⟩;have h' :=h.2;rcases h.2.2 with ⟨rfl,h0⟩ | ⟨g,cap,cur,rfl,hbg,hg,hnc,hcm,hcs,htake⟩
 ·exact⟨none,0,by rw[h0],by omega,by simp[maxLen],fun _=>⟨h0,rfl⟩,fun a ha=>by cases ha⟩
 ·exact⟨some ⟨g,0,none⟩,cap,rfl,hnc,hcm,(fun h=>by cases h),(fun a ha j u hu=>by cases ha;exact h'.cells rfl j u hu)⟩
theorem JD(d:α):∀(l:List α),(∀x∈l,(enc x).length=k)->∀i,i<l.length->∀j u,(enc (l.getD i d))[j]? =some u->(l.flatMap enc)[i*k+j]? =some u
 | [],_,i,hi,_,_,_=>by simp at hi
 | a :: r,h,0,_,j,u,hu=>by
  have hj:=(Acf.1 hu).1;simp only[Af6]at hu hj;rw[AcJ,Nat.zero_mul,Ac2,AcG hj];exact hu
 | a :: r,h,i+1,hi,j,u,hu=>by
  simp only[List.getD_cons_succ]at hu;have ih:=JD d r (fun x hx=>h x (by simp[hx])) i (by simpa using hi) j u hu;rw[AcJ,AcA (by rw[h a (by simp),Aee];omega),h a (by simp)];rw[show(i+1)*k+j-k=i*k+j by rw[Aee];omega];exact ih
theorem RG.rangeAt(d:α)(h:RG k enc w v l)(hk:0<k){i:Nat}(hi:i<l.length):∃b o c,v = .slice (some ⟨b,o,none⟩) l.length c/\w.rangeAt b (o+i*k) (enc (l.getD i d)):=by
 obtain⟨h1,h2,ao,cap,rfl,h3,h4,h5,h6⟩:=h;cases ao with
 | none=>have:=(h5 rfl).1;omega
 | some a=>
  obtain⟨b,o,sp⟩:=a;have hx:l.getD i d∈l:=by
   rw[AbN,AbT hi];exact Adu hi
  have hc:∀j u,(enc (l.getD i d))[j]? =some u->w.cell? ((⟨b,o,sp⟩:Addr).add (i*k+j))=some u:=fun j u hu=>h6 _ rfl _ _ (JD d l h1 i hi j u hu);have e:=h1 (l.getD 0 d) (by rw[AbN,AbT (by omega)];exact Adu _);have h0:=h6 _ rfl _ _ (JD d l h1 0 (by omega) 0 ((enc (l.getD 0 d))[0]'(by omega)) (by rw[AbT]));have hsp:sp=none:=by
   have:=World.cell?_spot h0
   simpa [AdO] using this
  subst hsp;refine⟨b,o,cap,rfl,fun j u hu=> ?_⟩;have:=hc j u hu;rw[Ade]at this;rw[Ad0];exact this
end
section
variable {P : Acg} {K : AbI -> AbJ -> Prop} {ρ : Ac} {w : AbJ} {d : Option Tmp} {ty : AbQ} {pos : String} {af : Array AcI} {gd : Option (Nat × Bool)}
variable {α : Type} {k : Nat} {enc : α -> List AbI} {l : List α}
theorem X9{t e:AbQ}(ht:P.underlying t=some (.slice e))(he:∀w' :AbJ,(sizeOf e).run P w' = .ok k w')(a:0<k){x y:AbV}(dd:α)(h:RG k enc w (Aa ρ x) l){kd:AcK}{i:Nat}(hy:Aa ρ y = .int kd (i:Int))(hi:i<l.length) 
  (hk:∀v,PR (enc (l.getD i dd)) v w->K v w):Yk P K ((execOp (Aa ρ) ⟨d, .indexAddr t x y,ty,pos,af,gd⟩).run P w):=by
 obtain⟨b,o,c,hv,hr⟩:=h.rangeAt dd a hi;refine Aa4 (v:= .pointer (some ⟨b,o+i*k,none⟩)) (w' :=w) ?_ (hk _ ⟨b,_,rfl,hr⟩);have hE:P.elem t=e:=by simp[AeY,ht]
 have hr:=run_indexAt_slice (P:=P) w t ⟨b,o,none⟩ l.length c kd (i:Int) (by rw[hE];exact ht);rw[if_pos (by omega),hE,he]at hr;unfold execOp;simp only[hv,hy,AbY,hr,AbU,Ab1];simp[Ade]
theorem X6{t e:AbQ}(ht:P.underlying t=some (.slice e)){x:AbV}{w0:AbJ}(h:RG k enc w0 (Aa ρ x) l)(hk:K (NI l.length) w):Yk P K ((execOp (Aa ρ) ⟨d, .call ⟨.builtin .len,#[x],#[t]⟩,ty,pos,af,gd⟩).run P w):=by
 obtain⟨ao,c,hv⟩:=h.len;exact YZ ht hv hk
theorem Yg{t' :AbQ}{x:AbV}{cs:List AbI}{de:TypeDesc}(h:PR cs (Aa ρ x) w)(hu:P.underlying t' =some de)(hd:de.isRow=true)(hi:(P.info? t').map (·.size)=some cs.length) 
  (hk:K (.agg cs.toArray) w):Yk P K ((execOp (Aa ρ) ⟨d, .load t' x,ty,pos,af,gd⟩).run P w):=by
 obtain⟨b,o,hx,hr⟩:=h;exact Ym hx hr hu hd hi hk
theorem Z4{s:AbQ}{f off n:Nat}(hf:A4 P s f off){x:AbV}{cs:List AbI}(h:PR cs (Aa ρ x) w)(hk:∀v,PR ((cs.drop off).take n) v w->K v w):Yk P K ((execOp (Aa ρ) ⟨d, .fieldAddr s x f,ty,pos,af,gd⟩).run P w):=by
 obtain⟨b,o,hx,hr⟩:=h;refine Aa0 hf hx (hk _ ⟨b,o+off,rfl,fun j v hv=> ?_⟩);rw[AdP]at hv;split at hv
 ·rw[AeM]at hv;have:=hr _ _ hv;rw[<-Ad0]at this;exact this
 ·cases hv
theorem PR.cell{cs:List AbI}{v u:AbI}(h:PR cs v w)(hc:cs[0]? =some u):PCell u v w:=by
 obtain⟨b,o,hx,hr⟩:=h;exact⟨_,hx,by have:=hr 0 u hc;simpa using this⟩
abbrev Abd:=@PR.cell
theorem RG.src{tx e' :AbQ}(hk:P.underlying tx=some (.slice e')){v:AbI}(h1:∀x∈l,∀u∈enc x,u.oneCell' =true)(h:RG k enc w v l):Src P k tx v l.length (l.flatMap enc) w:=by
 obtain⟨h0,h2,ao,cap,rfl,h3,h4,h5,h6⟩:=h;cases ao with
 | none=>
  obtain⟨h7,rfl⟩:=h5 rfl;have:l= []:=Acv h7;subst this;exact Src.ofNil w hk 0
 | some a=>exact Src.ofSlice w hk a _ cap _ h2 (h6 a rfl) (fun u hu=>by
   obtain⟨x,hx,hxu⟩:=List.mem_flatMap.1 hu;exact h1 x hx u hxu)
theorem X7(s x:AbV){t tx e e' :AbQ}(base:Nat)(z:AbI)(bytes:Nat)(ht:P.underlying t=some (.slice e))(hi:(P.info? e).map (fun i=>(i.zero,i.size,i.bytes))=some (some z,k,bytes))(hzs:z.cells.size=k)(hu:P.underlying tx=some (.slice e')) 
  (l m:List α) (hown:OG base e k enc w (Aa ρ s) l) (hsrc:RG k enc w (Aa ρ x) m) (h1:∀x∈m,∀u∈enc x,u.oneCell' =true) (hb:l.length+m.length<=281474976710656) (hbb:(l.length+m.length)*bytes<=140737488355328) (hbase:base<=w.heap.size)
  (h:∀v' w',OG base e k enc w' v' (l++m)->Grew w w' (Aa ρ s) v' ->K v' w'):Yk P K ((execOp (Aa ρ) ⟨d, .call ⟨.builtin .append,#[s,x],#[t,tx]⟩,ty,pos,af,gd⟩).run P w):=
 Yk.append s x base e z k bytes ht hi hzs l.length (l.flatMap enc) hown.2 m.length (m.flatMap enc) (hsrc.src hu h1) (by unfold maxLen;omega) hbb hbase fun v' w' ho g=>h v' w' ⟨fun x hx=>(Acb.1 hx).elim (hown.1 x) (hsrc.1 x),by rw[AbP,List.flatMap_append];exact ho⟩ g
theorem Aak{w:AbJ}{b:Nat}{x:α}{t:AbQ}{fr:Nat × Nat}(hl:(enc x).length=k)(hb:w.heap[b]? =some (.cells (enc x).toArray t fr)):RG k enc w (.slice (some ⟨b,0,none⟩) 1 1) [x]:=
 ⟨by simpa using hl,by simpa using hl,some ⟨b,0,none⟩,1,rfl,AbO _,by simp[maxLen],(fun h=>by cases h),fun a ha j u hu=>by
  cases ha;rw[Ade,Ac2];exact cellAt hb (by simpa using hu)⟩
end
inductive Fr where
 | seq (y:Code)
 | block (id:Nat)
 | scope
 | fin (K:Ac->AbJ->Prop)
def CD(P:Acg)(n:Nat)(Q:BG):List Fr->BG
 | []=>fun e ρ w=>match e with
  | .normal=>Q .ret ρ w
  | e=>Q e ρ w
 | .seq y :: k=>Gp (B1 P n y (CD P n Q k)) (CD P n Q k)
 | .block id :: k=>EJ id (CD P n Q k)
 | .scope :: k=>O2 (CD P n Q k)
 | .fin K :: k=>Gp K (CD P n Q k)
inductive M1 where
 | code (c:Code)
 | ops (a:Array Aca) (l:List Aca)
 | pop
 | mix (l:List Aca) (cs pf fl:List Nat) (I:AbJ->Prop) (r:List Nat)
inductive MK where
 | pure
 | here
 | float
inductive Tg where
 | op (a:Array Aca) (o:Aca) (r:List Aca) (k:List Fr) (ρ:Ac)
 | code (c:Code) (k:List Fr) (ρ:Ac)
 | fin (K:Ac->AbJ->Prop) (k:List Fr) (ρ:Ac)
 | chain (l:List Aca) (cs pf fl:List Nat) (I:AbJ->Prop) (i:Nat) (o:Aca) (r:List Nat) (k:List Fr) (ρ:Ac)
 | still (κ:MK) (l:List Aca) (cs pf fl:List Nat) (I:AbJ->Prop) (i:Nat) (o:Aca) (r:List Nat) (k:List Fr) (ρ:Ac)
 | ret (ρ:Ac)
 | bad
def room(n:Nat):Option Tmp->Bool
 | some d=>Nat.blt d n
 | none=>true
def Xy:Bool->Bool->Bool
 | true,true=>true
 | false,false=>true
 | _,_=>false
def Bf(n:Nat)(u:Bool):Nat->M1->List Fr->Ac->Tg
 | 0,_,_,_=> .bad
 | f+1, .code c,k,ρ=>match c with
  | .seq x y=>Bf n u f (.code x) (.seq y :: k) ρ
  | .block id x=>Bf n u f (.code x) (.block id :: k) ρ
  | .scope x=>Bf n u f (.code x) (.scope :: k) ρ
  | .skip=>Bf n u f .pop k ρ
  | .ret=> .ret ρ
  | .exit id=>match k with
   | []=> .bad
   | .block i :: k=>cond (Nat.beq id i) (Bf n u f .pop k ρ) (Bf n u f (.code (.exit id)) k ρ)
   | _ :: k=>Bf n u f (.code (.exit id)) k ρ
  | .region _ a d=>cond d (.code c k ρ) (Bf n u f (.ops a a.toList) k ρ)
  | c=> .code c k ρ
 | f+1, .pop,k,ρ=>match k with
  | []=> .ret ρ
  | .seq y :: k=>Bf n u f (.code y) k ρ
  | .fin K :: k=> .fin K k ρ
  | _ :: k=>Bf n u f .pop k ρ
 | f+1, .ops a l,k,ρ=>match l with
  | []=>Bf n u f .pop k ρ
  | o :: r=>cond (room n o.dst) (match o.guard with
   | some (g,want)=>cond u (match (a[g]?).bind (·.dst)with
    | some d=>match ρ d with
     | .bool b=>match Xy b want with
      | true=>match o.op with
       | .move x=>Bf n u f (.ops a r) k (updO ρ o.dst (Aa ρ x))
       | .assign x=>Bf n u f (.ops a r) k (updO ρ o.dst (Aa ρ x))
       | _=> .op a { o with guard:=none } r k ρ
      | false=>Bf n u f (.ops a r) k (updO ρ o.dst undef)
     | _=> .op a o r k ρ
    | none=> .op a o r k ρ) (.op a o r k ρ)
   | none=>match o.op with
    | .move x=>Bf n u f (.ops a r) k (updO ρ o.dst (Aa ρ x))
    | .assign x=>Bf n u f (.ops a r) k (updO ρ o.dst (Aa ρ x))
    | _=> .op a o r k ρ) .bad
 | f+1, .mix l cs pf fl I r,k,ρ=>match r with
  | []=>Bf n u f .pop k ρ
  | i :: r=>match l[i]? with
   | none=> .bad
   | some o=>cond (Bv l o ρ) (cond (cs.contains i) (.chain l cs pf fl I i o r k ρ) (match o.op with
    | .move x=>Bf n u f (.mix l cs pf fl I r) k (updO ρ o.dst (Aa ρ x))
    | .assign x=>Bf n u f (.mix l cs pf fl I r) k (updO ρ o.dst (Aa ρ x))
    | _=> .still (cond (pf.contains i) .pure (cond (fl.contains i) .float .here)) l cs pf fl I i o r k ρ))
    (Bf n u f (.mix l cs pf fl I r) k (updO ρ o.dst undef))
def JK(P:Acg)(n:Nat)(Q:BG)(k:List Fr)(ch:List PanicEntry)(w:AbJ):Prop:=∀ρ,CD P n Q k (.panic ch) ρ w
def M2(P:Acg)(n:Nat)(Q:BG)(l:List Aca)(cs pf fl:List Nat)(I:AbJ->Prop)(r:List Nat)(k:List Fr)(ρ:Ac)(w:AbJ):Prop:=
 DR P l cs pf fl (JK P n Q k) (fun ρ w=>CD P n Q k .normal ρ w) r I ρ w
def A6(P:Acg)(n:Nat)(_:Bool)(Q:BG)(w:AbJ):Tg->Prop
 | .op a o r k ρ=>room n o.dst=true->CC P a n (CD P n Q k) (o :: r) ρ w
 | .code c k ρ=>B1 P n c (CD P n Q k) ρ w
 | .fin K _ ρ=>K ρ w
 | .chain l cs pf fl I i o r k ρ=>l[i]? =some o->Bv l o ρ=true->i∈cs->M2 P n Q l cs pf fl I (i :: r) k ρ w
 | .still κ l cs pf fl I i o r k ρ=>l[i]? =some o->Bv l o ρ=true->i∉cs->(match κ with | .pure=>ET l pf i=true | .here=>ET l pf i=false/\i∉fl | .float=>ET l pf i=false/\i∈fl)->M2 P n Q l cs pf fl I (i :: r) k ρ w
 | .ret ρ=>Q .ret ρ w
 | .bad=>False
def CmdOk(P:Acg)(n:Nat)(Q:BG)(w:AbJ)(k:List Fr)(ρ:Ac):M1->Prop
 | .code (.exit i)=>CD P n Q k (.exit i) ρ w
 | .code c=>B1 P n c (CD P n Q k) ρ w
 | .ops a l=>CC P a n (CD P n Q k) l ρ w
 | .pop=>CD P n Q k .normal ρ w
 | .mix l cs pf fl I r=>M2 P n Q l cs pf fl I r k ρ w
section
variable {P : Acg} {n : Nat} {u : Bool} {Q : BG} {ρ : Ac} {w : AbJ} {k : List Fr}
theorem Fu:∀ {d:Option Tmp},room n d=true->(match d with | some d=>Nat.blt d n | none=>true)=true
 | some _,h=>h
 | none,_=>rfl
theorem CmdOk.wp{c:Code}(h:CmdOk P n Q w k ρ (.code c)):B1 P n c (CD P n Q k) ρ w:=by
 cases c with
 | exit i=>exact Tc h
 | _=>exact h
theorem LH{Q:BG}{a:Array Aca}{dst:Option Tmp}{op:Op}{ty:AbQ}{pos:String}{af:Array AcI}{r:List Aca}{g:Nat}{want:Bool}{d:Tmp}(hg:(a[g]?).bind (·.dst)=some d)(hv:ρ d = .bool want) 
  (h:CC P a n Q (⟨dst,op,ty,pos,af,none⟩ :: r) ρ w):CC P a n Q (⟨dst,op,ty,pos,af,some (g,want)⟩ :: r) ρ w:=fun c hc=>by
 have h1:=h c hc;have hw:Region.wanted ⟨dst,op,ty,pos,af,some (g,want)⟩ (yielded a c.tmps)=true:=by
  have:=H9 ((hc.get d).trans hv);simp only[Region.wanted,yielded,hg];simp[this]
 unfold wpList at h1 ⊢;rw[if_pos hw];exact h1
theorem BL:∀(f:Nat) (u:Bool) (c:M1) (k:List Fr) (ρ:Ac),A6 P n u Q w (Bf n u f c k ρ)->CmdOk P n Q w k ρ c
 | 0,u,c,k,ρ,h=>h.elim
 | f+1,u, .code c,k,ρ,h=>by
  match c,h with
  | .seq x y,h=>exact O3 (BL f u (.code x) (.seq y :: k) ρ h).wp
  | .block id x,h=>exact Ra (BL f u (.code x) (.block id :: k) ρ h).wp
  | .scope x,h=>exact Rb (BL f u (.code x) (.scope :: k) ρ h).wp
  | .skip,h=>exact DE (BL f u .pop k ρ h)
  | .ret,h=>
   have:∀k,CD P n Q k .ret ρ w=Q .ret ρ w:=fun k=>by
    induction k with
    | nil=>rfl
    | cons x k ih=>cases x <;> exact ih
   exact IZ (by rw[this];exact h)
  | .exit id,h=>
   match k,h with
   | .block i :: k,h=>
    cases hb:Nat.beq id i with
    | true=>
     obtain rfl:=AfR hb;unfold Bf at h;simp only[hb,cond_true]at h;exact MW (BL f u .pop k ρ h)
    | false=>
     unfold Bf at h;simp only[hb,cond_false]at h;exact Mv hb (BL f u (.code (.exit id)) k ρ h)
   | .seq y :: k,h=>exact BL f u (.code (.exit id)) k ρ h
   | .scope :: k,h=>exact BL f u (.code (.exit id)) k ρ h
   | .fin K :: k,h=>exact BL f u (.code (.exit id)) k ρ h
  | .region id a d,h=>
   cases d with
   | true=>exact h
   | false=>exact wt (l:=a.toList) (BL f u (.ops a a.toList) k ρ h)
  | .cond ..,h=>exact h
  | .loop ..,h=>exact h
  | .rangeFunc ..,h=>exact h
  | .label ..,h=>exact h
  | .goto ..,h=>exact h
  | .refuse ..,h=>exact h
 | f+1,u, .pop,k,ρ,h=>by
  match k,h with
  | [],h=>exact h
  | .seq y :: k,h=>exact(BL f u (.code y) k ρ h).wp
  | .fin K :: k,h=>exact h
  | .block i :: k,h=>exact BL f u .pop k ρ h
  | .scope :: k,h=>exact BL f u .pop k ρ h
 | f+1,u, .ops a l,k,ρ,h=>by
  match l,h with
  | [],h=>exact oZ (BL f u .pop k ρ h)
  | o :: r,h=>
   cases hr:room n o.dst with
   | false=>unfold Bf at h;simp only[hr,cond_false]at h;exact h.elim
   | true=>
    unfold Bf at h;simp only[hr,cond_true]at h;obtain⟨dst,op,ty,pos,af,gd⟩:=o;cases gd with
    | some g=>
     obtain⟨g,want⟩:=g;cases u with
     | false=>exact h hr
     | true=>
      cases hg:(a[g]?).bind (·.dst)with
      | none=>simp only[hg,cond_true]at h;exact h hr
      | some d=>
       simp only[hg,cond_true]at h;cases hv:ρ d with
       | bool b=>
        simp only[hv]at h;cases hb:Xy b want with
        | true=>
         obtain rfl:b=want:=by cases b <;> cases want <;> first | rfl | cases hb
         simp only[hb]at h;refine LH hg hv ?_;cases op with
         | move x=>exact oS (Fu hr) (Aa7 rfl (BL f true (.ops a r) k _ h))
         | assign x=>exact oS (Fu hr) (Abb rfl (BL f true (.ops a r) k _ h))
         | _=>exact h hr
        | false=>
         simp only[hb]at h;exact oN rfl (Fu hr) hg hv (by cases b <;> cases want <;> first | rfl | cases hb) (BL f true (.ops a r) k _ h)
       | _=>simp only[hv]at h;exact h hr
    | none=>
     cases op with
     | move x=>exact oS (Fu hr) (Aa7 rfl (BL f u (.ops a r) k _ h))
     | assign x=>exact oS (Fu hr) (Abb rfl (BL f u (.ops a r) k _ h))
     | _=>exact h hr
 | f+1,u, .mix l cs pf fl I r,k,ρ,h=>by
  match r,h with
  | [],h=>exact BL f u .pop k ρ h
  | i :: r,h=>
   cases ho:l[i]? with
   | none=>unfold Bf at h;simp only[ho]at h;exact h.elim
   | some o=>
    unfold Bf at h;simp only[ho]at h;cases hw:Bv l o ρ with
    | false=>
     simp only[hw,cond_false]at h;show DR _ _ _ _ _ _ _ _ _ _ _;unfold DR;rw[ho];simp only;rw[if_pos hw];exact BL f u (.mix l cs pf fl I r) k _ h
    | true=>
     simp only[hw,cond_true]at h;cases hc:cs.contains i with
     | true=>simp only[hc,cond_true]at h;exact h ho hw (AdM.1 hc)
     | false=>
      simp only[hc,cond_false]at h;have hc' :i∉cs:=fun x=>by rw[AdM.2 x]at hc;cases hc
      have mv:∀(v:AbI),(∀w',Yk P (fun x w'' =>x=v/\w'' =w') ((execOp (Aa ρ) o).run P w'))->A6 P n u Q w (Bf n u f (.mix l cs pf fl I r) k (updO ρ o.dst v))->M2 P n Q l cs pf fl I (i :: r) k ρ w:=fun v hv h=>by
       show DR _ _ _ _ _ _ _ _ _ _ _;unfold DR;rw[ho];simp only;rw[if_neg (by rw[hw];simp),if_neg hc'];exact⟨v,fun w' _=>hv w',BL f u (.mix l cs pf fl I r) k _ h⟩
      have st:(match o.op with | .move _ | .assign _=>true | _=>false)=false->A6 P n u Q w (.still (cond (pf.contains i) .pure (cond (fl.contains i) .float .here)) l cs pf fl I i o r k ρ)->M2 P n Q l cs pf fl I (i :: r) k ρ w:=fun hm h=>by
       refine h ho hw hc' ?_;cases hp:pf.contains i with
       | true=>show ET l pf i=true;unfold ET;rw[hp];rfl
       | false=>
        have hb:ET l pf i=false:=by unfold ET;rw[hp,ho];exact hm
        cases hf:fl.contains i with
        | true=>exact⟨hb,AdM.1 hf⟩
        | false=>exact⟨hb,fun x=>by rw[AdM.2 x]at hf;cases hf⟩
      obtain⟨dst,op,ty,pos,af,gd⟩:=o;cases op with
      | move x=>exact mv _ (fun w' =>Aa7 rfl ⟨rfl,rfl⟩) h
      | assign x=>exact mv _ (fun w' =>Abb rfl ⟨rfl,rfl⟩) h
      | _=>exact st rfl h
theorem adv_ok{u:Bool}(f:Nat)(c:M1)(k:List Fr)(ρ:Ac)(h:A6 P n u Q w (Bf n u f c k ρ)):CmdOk P n Q w k ρ c:=BL f u c k ρ h
theorem Ex{ch:List PanicEntry}(h:Q (.panic ch) ρ w):∀k,CD P n Q k (.panic ch) ρ w
 | []=>h
 | x :: k=>by cases x <;> exact Ex h k
theorem gM{id:Nat}{l:List Aca}(ord cs pf fl:List Nat){I:AbJ->Prop}(hm:P.follows .mixedOrders=true)(hg:Cy l n=true)(hb:Hj l cs pf fl ord=true)(hI:I w.drew) 
  (h:A6 P n u Q w.drew (Bf n u 1000 (.mix l cs pf fl I ord) k ρ)):A6 P n u Q w (.code (.region id l.toArray true) k ρ):=fun a ha=>by
 have h0:MInv P l cs pf fl ord n (JK P n Q k) (fun ρ w=>CD P n Q k .normal ρ w) [] ord I ρ (Array.replicate l.length false) a w.drew:=
  ⟨by simp,fun i o _ h=>absurd h YH,ha.size,ha.defers,rfl,fun i _=>YH,(fun i hi=>by cases hi),fun t _=>ha.get t,hI,adv_ok _ _ _ _ h⟩
 obtain⟨u',r',ρ',hp,hr⟩:=h0.place hb;exact wp_region_any hm (Vp hg hb _ _ _ _ u' r' I ρ' (by simp) hp hr)
theorem CA{id:Nat}{l:List Aca}(ord cs pf:List Nat)(h:∀w1,Ext w w1->A6 P n u Q w1 (Bf n u 1000 (.mix l cs pf [] (fun _=>True) ord) k ρ))(hm:P.follows .mixedOrders=true:=by kernel_rfl)(hg:Cy l n=true:=by kernel_rfl)(hb:Hj l cs pf [] ord=true:=by kernel_rfl):A6 P n u Q w (.code (.region id l.toArray true) k ρ):=
 gM ord cs pf [] hm hg hb trivial (h _ (AcB _ _).drew)
theorem DZ{id:Nat}{l:List Aca}(ord cs pf fl:List Nat)(h:∀w1,Ext w w1->∃I:AbJ->Prop,I w1/\A6 P n u Q w1 (Bf n u 1000 (.mix l cs pf fl I ord) k ρ))(hm:P.follows .mixedOrders=true:=by kernel_rfl)(hg:Cy l n=true:=by kernel_rfl)(hb:Hj l cs pf fl ord=true:=by kernel_rfl):A6 P n u Q w (.code (.region id l.toArray true) k ρ):=by
 obtain⟨I,hI,h⟩:=h _ (AcB _ _).drew;exact gM ord cs pf fl hm hg hb hI h
theorem m2{l:List Aca}{ord cs pf fl:List Nat}{A B:AbJ->Prop}(a:A w)(b:B w)(h:A6 P n u Q w (Bf n u 1000 (.mix l cs pf fl (fun w=>A w/\B w/\True) ord) k ρ)):∃I:AbJ->Prop,I w/\A6 P n u Q w (Bf n u 1000 (.mix l cs pf fl I ord) k ρ):=⟨(fun w=>A w/\B w/\True),⟨a,b,trivial⟩,h⟩
theorem Xz{l:List Aca}{ord cs pf fl:List Nat}{g0:Nat}{o0:Obj}(b0:w.heap[g0]? =some o0)(h:A6 P n u Q w (Bf n u 1000 (.mix l cs pf fl (fun w=>w.heap[g0]? =some o0/\True) ord) k ρ)):∃I:AbJ->Prop,I w/\A6 P n u Q w (Bf n u 1000 (.mix l cs pf fl I ord) k ρ):=⟨(fun w=>w.heap[g0]? =some o0/\True),⟨b0,trivial⟩,h⟩
theorem XA{l:List Aca}{ord cs pf fl:List Nat}{g0:Nat}{o0:Obj}(b0:w.heap[g0]? =some o0){g1:Nat}{o1:Obj}(b1:w.heap[g1]? =some o1)(h:A6 P n u Q w (Bf n u 1000 (.mix l cs pf fl (fun w=>w.heap[g0]? =some o0/\w.heap[g1]? =some o1/\True) ord) k ρ)):∃I:AbJ->Prop,I w/\A6 P n u Q w (Bf n u 1000 (.mix l cs pf fl I ord) k ρ):=⟨(fun w=>w.heap[g0]? =some o0/\w.heap[g1]? =some o1/\True),⟨b0,b1,trivial⟩,h⟩
theorem DS{l:List Aca}{ord cs pf fl:List Nat}{x0:AbJ}(a:Ext x0 w)(h:A6 P n u Q w (Bf n u 1000 (.mix l cs pf fl (fun w=>Ext x0 w/\True) ord) k ρ)):∃I:AbJ->Prop,I w/\A6 P n u Q w (Bf n u 1000 (.mix l cs pf fl I ord) k ρ):=⟨(fun w=>Ext x0 w/\True),⟨a,trivial⟩,h⟩
section
variable {l : List Aca} {cs pf fl : List Nat} {I : AbJ -> Prop} {i : Nat} {o : Aca} {r : List Nat} {κ : MK}
theorem El{J:List PanicEntry->AbJ->Prop}{K:Ac->AbJ->Prop}(ho:l[i]? =some o)(hw:Bv l o ρ=true)(hc:i∈cs) 
  (h:Yp P (fun v w' =>∃I' :AbJ->Prop,I' w' /\((∀x,I' x->I x)\/PN l fl r i=true)/\DR P l cs pf fl J K r I' (updO ρ o.dst v) w') J ((execOp (Aa ρ) o).run P w)):DR P l cs pf fl J K (i :: r) I ρ w:=by
 unfold DR;rw[ho];simp only;rw[if_neg (by rw[hw];simp),if_pos hc];exact h
theorem FN{J:List PanicEntry->AbJ->Prop}{K:Ac->AbJ->Prop}(ho:l[i]? =some o)(hw:Bv l o ρ=true)(hc:i∉cs) 
  (v:AbI) (hv:∀w',Ld l pf fl I w i w' ->Yk P (fun x w'' =>x=v/\w'' =w') ((execOp (Aa ρ) o).run P w')) (h:DR P l cs pf fl J K r I (updO ρ o.dst v) w):DR P l cs pf fl J K (i :: r) I ρ w:=by
 unfold DR;rw[ho];simp only;rw[if_neg (by rw[hw];simp),if_neg hc];exact⟨v,hv,h⟩
theorem zz{x:AbI}{w:AbJ}:x=x/\w=w:=⟨rfl,rfl⟩
theorem yC(h:Yk P (fun v w' =>A6 P n u Q w' (Bf n u 1000 (.mix l cs pf [] (fun _=>True) r) k (updO ρ o.dst v))) ((execOp (Aa ρ) o).run P w)):A6 P n u Q w (.chain l cs pf [] I i o r k ρ):=fun ho hw hc=>
 El ho hw hc (.ofK (Aby h fun _ _ h=>⟨fun _=>True,trivial, .inr rfl,adv_ok _ _ _ _ h⟩))
theorem U6{fn:Func}{R:Ad5->AbJ->Prop}(h:Yp P (fun v w' =>A6 P n u (Cz P fn R) w' (Bf n u 1000 (.mix l cs pf [] (fun _=>True) r) k (updO ρ o.dst v))) (fun ch w' =>Cz P fn R (.panic ch) ρ w') ((execOp (Aa ρ) o).run P w)):A6 P n u (Cz P fn R) w (.chain l cs pf [] I i o r k ρ):=fun ho hw hc=>
 El ho hw hc (Zj h (fun _ _ h=>⟨fun _=>True,trivial, .inr rfl,adv_ok _ _ _ _ h⟩) fun _ _ h ρ' =>Ex (Au (ρ:=ρ') h) _)
theorem yI(h:Yk P (fun v w' =>I w' /\A6 P n u Q w' (Bf n u 1000 (.mix l cs pf fl I r) k (updO ρ o.dst v))) ((execOp (Aa ρ) o).run P w)):A6 P n u Q w (.chain l cs pf fl I i o r k ρ):=fun ho hw hc=>
 El ho hw hc (.ofK (Aby h fun _ _ h=>⟨I,h.1, .inl fun _ h=>h,adv_ok _ _ _ _ h.2⟩))
theorem yE{w1:AbJ}(h:Yk P (fun v w' =>Ext w1 w' /\A6 P n u Q w' (Bf n u 1000 (.mix l cs pf fl (fun x=>Ext w' x/\True) r) k (updO ρ o.dst v))) ((execOp (Aa ρ) o).run P w)):A6 P n u Q w (.chain l cs pf fl (fun x=>Ext w1 x/\True) i o r k ρ):=fun ho hw hc=>
 El ho hw hc (.ofK (Aby h fun _ w' h=>⟨fun x=>Ext w' x/\True,⟨AaY _,trivial⟩, .inl fun _ e=>⟨h.1.trans e.1,trivial⟩,adv_ok _ _ _ _ h.2⟩))
theorem yD(hc:PN l fl r i=true)(h:Yk P (fun v w' =>A6 P n u Q w' (Bf n u 1000 (.mix l cs pf fl (fun _=>True) r) k (updO ρ o.dst v))) ((execOp (Aa ρ) o).run P w)):A6 P n u Q w (.chain l cs pf fl I i o r k ρ):=fun ho hw hi=>
 El ho hw hi (.ofK (Aby h fun _ _ h=>⟨fun _=>True,trivial, .inr hc,adv_ok _ _ _ _ h⟩))
theorem XK{fn:Func}{R:Ad5->AbJ->Prop}(hc:PN l fl r i=true)(h:Yp P (fun v w' =>A6 P n u (Cz P fn R) w' (Bf n u 1000 (.mix l cs pf fl (fun _=>True) r) k (updO ρ o.dst v))) (fun ch w' =>Cz P fn R (.panic ch) ρ w') ((execOp (Aa ρ) o).run P w)):A6 P n u (Cz P fn R) w (.chain l cs pf fl I i o r k ρ):=fun ho hw hi=>
 El ho hw hi (Zj h (fun _ _ h=>⟨fun _=>True,trivial, .inr hc,adv_ok _ _ _ _ h⟩) fun _ _ h ρ' =>Ex (Au (ρ:=ρ') h) _)
theorem ys{v:AbI}(h:Yk P (fun x w'' =>x=v/\w'' =w) ((execOp (Aa ρ) o).run P w))(hn:A6 P n u Q w (Bf n u 1000 (.mix l cs pf fl I r) k (updO ρ o.dst v))):A6 P n u Q w (.still .here l cs pf fl I i o r k ρ):=fun ho hw hc hf=>
 FN ho hw hc v (fun w' hw' =>by
  rcases hw' with hp | hw'
  ·rw[hf.1]at hp;cases hp
  ·rw[if_neg hf.2]at hw';subst hw';exact h) (adv_ok _ _ _ _ hn)
theorem yp{v:AbI}(h:∀ {w' :AbJ},Yk P (fun x w'' =>x=v/\w'' =w') ((execOp (Aa ρ) o).run P w'))(hn:A6 P n u Q w (Bf n u 1000 (.mix l cs pf fl I r) k (updO ρ o.dst v))):A6 P n u Q w (.still κ l cs pf fl I i o r k ρ):=fun ho hw hc _=>
 FN ho hw hc v (fun _ _=>h) (adv_ok _ _ _ _ hn)
theorem yf{v:AbI}(h:∀w',I w' ->Yk P (fun x w'' =>x=v/\w'' =w') ((execOp (Aa ρ) o).run P w'))(hn:A6 P n u Q w (Bf n u 1000 (.mix l cs pf fl I r) k (updO ρ o.dst v))):A6 P n u Q w (.still .float l cs pf fl I i o r k ρ):=fun ho hw hc hf=>
 FN ho hw hc v (fun w' hw' =>by
  rcases hw' with hp | hw'
  ·rw[hf.1]at hp;cases hp
  ·rw[if_pos hf.2]at hw';exact h w' hw') (adv_ok _ _ _ _ hn)
theorem yA{dst:Option Tmp}{t:AbQ}{x y:AbV}{ty:AbQ}{pos:String}{af:Array AcI}{gd:Option (Nat × Bool)}(h:Yk P (fun v _=>A6 P n u Q w (Bf n u 1000 (.mix l cs pf fl I r) k (updO ρ dst v))) ((execOp (Aa ρ) ⟨dst, .indexAddr t x y,ty,pos,af,gd⟩).run P w)):A6 P n u Q w (.still κ l cs pf fl I i ⟨dst, .indexAddr t x y,ty,pos,af,gd⟩ r k ρ):=fun ho hw hc _=>by
 obtain⟨v,hn,hv⟩:=Rf (.indexAt _ _ _) h;exact FN ho hw hc v (fun w' _=>hv w') (adv_ok _ _ _ _ hn)
end
theorem gS{a:Array Aca}{dst:Option Tmp}{op:Op}{ty:AbQ}{pos:String}{af:Array AcI}{r:List Aca} 
  (h:Yk P (fun v w' =>A6 P n u Q w' (Bf n u 1000 (.ops a r) k (updO ρ dst v))) ((execOp (Aa ρ) ⟨dst,op,ty,pos,af,none⟩).run P w)):A6 P n u Q w (.op a ⟨dst,op,ty,pos,af,none⟩ r k ρ):=fun hr=>
 oS (Fu hr) (Aby h fun _ _ h=>adv_ok _ _ _ _ h)
theorem gP{a:Array Aca}{dst:Option Tmp}{op:Op}{ty:AbQ}{pos:String}{af:Array AcI}{r:List Aca} 
  (h:Yp P (fun v w' =>A6 P n u Q w' (Bf n u 1000 (.ops a r) k (updO ρ dst v))) (fun ch w' =>Q (.panic ch) ρ w') ((execOp (Aa ρ) ⟨dst,op,ty,pos,af,none⟩).run P w)):A6 P n u Q w (.op a ⟨dst,op,ty,pos,af,none⟩ r k ρ):=fun hr=>by
 refine oP (Fu hr) ?_
 revert h
 generalize (execOp (Aa ρ) ⟨dst,op,ty,pos,af,none⟩).run P w=x
 intro h
 match x,h with
 | .ok (.value v) w',h=>exact adv_ok _ _ _ _ h
 | .ok .skip w',h=>exact adv_ok _ _ _ _ h
 | .halt (.panic v) w',h=>exact Ex h _
 | .ok (.enter f args) w',h=>
  refine Calls.mono h ?_;intro e w'' hx
  match e,hx with
  | .returned v,hx=>exact adv_ok _ _ _ _ hx
  | .panicked ch,hx=>exact Ex hx _
theorem gY{a:Array Aca}{dst:Option Tmp}{op:Op}{ty:AbQ}{pos:String}{af:Array AcI}{r:List Aca}{g:Nat}{want:Bool}{d:Tmp}(hg:(a[g]?).bind (·.dst)=some d)(hv:ρ d = .bool want) 
 (h:A6 P n u Q w (Bf n u 1000 (.ops a (⟨dst,op,ty,pos,af,none⟩ :: r)) k ρ)):A6 P n u Q w (.op a ⟨dst,op,ty,pos,af,some (g,want)⟩ r k ρ):=fun _=>LH hg hv (adv_ok _ _ _ _ h)
theorem gN{a:Array Aca}{o:Aca}{r:List Aca}{g:Nat}{want b:Bool}{d:Tmp}(hgd:o.guard=some (g,want))(hg:(a[g]?).bind (·.dst)=some d)(hv:ρ d = .bool b)(hb:(b==want)=false) 
 (h:A6 P n u Q w (Bf n u 1000 (.ops a r) k (updO ρ o.dst undef))):A6 P n u Q w (.op a o r k ρ):=fun hr=>oN hgd (Fu hr) hg hv hb (adv_ok _ _ _ _ h)
theorem kB{f:Nat}{c:M1}{d:Option Tmp}{b b' :Bool}(e:b=b')(h:A6 P n u Q w (Bf n u f c k (updO ρ d (.bool b')))):A6 P n u Q w (Bf n u f c k (updO ρ d (.bool b))):=e▸h
theorem kT{f:Nat}{c:M1}{d:Option Tmp}{p:Prop}[Decidable p](e:p)(h:A6 P n u Q w (Bf n u f c k (updO ρ d (.bool true)))):A6 P n u Q w (Bf n u f c k (updO ρ d (.bool (decide p)))):=kB (decide_eq_true e) h
theorem kF{f:Nat}{c:M1}{d:Option Tmp}{p:Prop}[Decidable p](e:¬p)(h:A6 P n u Q w (Bf n u f c k (updO ρ d (.bool false)))):A6 P n u Q w (Bf n u f c k (updO ρ d (.bool (decide p)))):=kB (decide_eq_false e) h
theorem gO{a:Array Aca}{o:Aca}{r:List Aca}(h:room n o.dst=true->CC P a n (CD P n Q k) (o :: r) ρ w):A6 P n u Q w (.op a o r k ρ):=h
theorem M3{a:Array Aca}{l:List Aca}(h:A6 P n false Q w (Bf n false 1000 (.ops a l) k ρ)):CC P a n (CD P n Q k) l ρ w:=adv_ok _ _ _ _ h
theorem gX(h:A6 P n true Q w (Bf n true 1000 .pop k ρ)):CD P n Q k .normal ρ w:=adv_ok _ _ _ _ h
theorem gR{id:Nat}{a:Array Aca}(h:B1 P n (.region id a true) (CD P n Q k) ρ w):A6 P n u Q w (.code (.region id a true) k ρ):=h
theorem cT{c:AbV}{x y:Code}(hc:Aa ρ c = .bool true)(h:A6 P n u Q w (Bf n u 1000 (.code x) k ρ)):A6 P n u Q w (.code (.cond c x y) k ρ):=EK hc (adv_ok _ _ _ _ h).wp
theorem cF{c:AbV}{x y:Code}(hc:Aa ρ c = .bool false)(h:A6 P n u Q w (Bf n u 1000 (.code y) k ρ)):A6 P n u Q w (.code (.cond c x y) k ρ):=CJ hc (adv_ok _ _ _ _ h).wp
theorem cD{c:AbV}{x y:Code}{p:Prop}[Decidable p](hc:Aa ρ c = .bool (decide p))(h1:p->A6 P n u Q w (Bf n u 1000 (.code x) k ρ))(h2:¬p->A6 P n u Q w (Bf n u 1000 (.code y) k ρ)):A6 P n u Q w (.code (.cond c x y) k ρ):=
 Td p hc (fun h=>(adv_ok _ _ _ _ (h1 h)).wp) fun h=>(adv_ok _ _ _ _ (h2 h)).wp
theorem cB{c:AbV}{x y:Code}(b:Bool)(hc:Aa ρ c = .bool b)(h1:b=true->A6 P n u Q w (Bf n u 1000 (.code x) k ρ))(h2:b=false->A6 P n u Q w (Bf n u 1000 (.code y) k ρ)):A6 P n u Q w (.code (.cond c x y) k ρ):=
 Q9 b hc (fun h=>(adv_ok _ _ _ _ (h1 h)).wp) fun h=>(adv_ok _ _ _ _ (h2 h)).wp
theorem gL{c:Code}(I:Ac->AbJ->Prop)(μ:Ac->AbJ->Nat)(h0:I ρ w) 
  (round:∀ρ w,I ρ w->A6 P n u Q w (Bf n u 1000 (.code c) (.fin (fun ρ' w' =>I ρ' w' /\μ ρ' w' <μ ρ w) :: k) ρ)):A6 P n u Q w (.code (.loop c) k ρ):=
 Te I μ h0 fun ρ w hI=>(adv_ok _ _ _ _ (round ρ w hI)).wp
theorem gK{K:Ac->AbJ->Prop}(h:K ρ w):A6 P n u Q w (.fin K k ρ):=h
def Rg:Nat->List Fr->Option (Code × List Fr)
 | 0, .seq y :: k=>some (y,k)
 | d+1,_ :: k=>Rg d k
 | _,_=>none
theorem gJ{a:Array Aca}{o:Aca}{r:List Aca}(I:Ac->AbJ->Prop)(d:Nat){y:Code}{k2:List Fr}(_:Rg d k=some (y,k2))(hJ:∀ρ w,I ρ w->A6 P n u Q w (Bf n u 1000 (.code y) k2 ρ)) 
 (h:(∀ρ w,I ρ w->A6 P n u Q w (Bf n u 1000 (.code y) k2 ρ))->A6 P n u Q w (.op a o r k ρ)):A6 P n u Q w (.op a o r k ρ):=h hJ
def ML(l:List AbI):Ac:=fun t=>l.getD t undef
theorem gG{f:AdB}{fn:Func}{c:Code}{args:List AbI}{R:Ad5->AbJ->Prop}(hf:P.funcs[f]? =some fn)(hb:fn.body=some c)(m:Nat)(hm:fn.ntmps=m)(hn:Nat.ble args.length m=true) 
  (h:A6 P m true (Cz P fn R) w (Bf m true 1000 (.code c) [] (ML args))):Calls P f args.toArray w R:=
 Id hf hb m hm (Ab2 hn) fun ρ hB=>by
  obtain rfl:ρ=ML args:=funext hB.get;refine wpF_mono (adv_ok _ _ _ _ h).wp fun e ρ w hx=> ?_;cases e <;> exact hx
theorem Rh{f:AdB}{fn:Func}{c:Code}{args:List AbI}{R:Ad5->AbJ->Prop}(hf:P.funcs[f]? =some fn)(hb:fn.body=some c)(m:Nat)(hm:fn.ntmps=m)(hn:Nat.ble args.length m=true) 
  (h:A6 P m false (Cz P fn R) w (Bf m false 1000 (.code c) [] (ML args))):Calls P f args.toArray w R:=
 Id hf hb m hm (Ab2 hn) fun ρ hB=>by
  obtain rfl:ρ=ML args:=funext hB.get;refine wpF_mono (adv_ok _ _ _ _ h).wp fun e ρ w hx=> ?_;cases e <;> exact hx
theorem rt0{fn:Func}{R:Ad5->AbJ->Prop}(hrs:fn.results = #[])(hR:R (.returned (.tuple #[])) w):A6 P n u (Cz P fn R) w (.ret ρ):=CK [] hrs [] _ rfl trivial hR
theorem Bp{fn:Func}{R:Ad5->AbJ->Prop}{t:Tmp}{v:AbI}(hrs:fn.results = #[.tmp t])(h:ρ t=v)(hR:R (.returned v) w):A6 P n u (Cz P fn R) w (.ret ρ):=CK [.tmp t] hrs [v] v rfl ⟨h,trivial⟩ hR
theorem BA{fn:Func}{R:Ad5->AbJ->Prop}{t t2:Tmp}{v x:AbI}(hrs:fn.results = #[.tmp t, .tmp t2])(h:ρ t=v)(hx:ρ t2=x)(hR:R (.returned (.tuple #[v,x])) w):A6 P n u (Cz P fn R) w (.ret ρ):=CK [.tmp t, .tmp t2] hrs [v,x] _ rfl ⟨h,hx,trivial⟩ hR
theorem Jj{fn:Func}{R:Ad5->AbJ->Prop}{t t2 t3:Tmp}{v x z:AbI}(hrs:fn.results = #[.tmp t, .tmp t2, .tmp t3])(h:ρ t=v)(hx:ρ t2=x)(hz:ρ t3=z)(hR:R (.returned (.tuple #[v,x,z])) w):A6 P n u (Cz P fn R) w (.ret ρ):=CK [.tmp t, .tmp t2, .tmp t3] hrs [v,x,z] _ rfl ⟨h,hx,hz,trivial⟩ hR
theorem LI{fn:Func}{R:Ad5->AbJ->Prop}{r:ResultVar}{v:AbI}(hrs:fn.results = #[r])(h:ResF P ρ w r v)(hR:R (.returned v) w):A6 P n u (Cz P fn R) w (.ret ρ):=CK [r] hrs [v] v rfl ⟨h,trivial⟩ hR
theorem M4{fn:Func}{R:Ad5->AbJ->Prop}{r r2:ResultVar}{v x:AbI}(hrs:fn.results = #[r,r2])(h:ResF P ρ w r v)(hx:ResF P ρ w r2 x)(hR:R (.returned (.tuple #[v,x])) w):A6 P n u (Cz P fn R) w (.ret ρ):=CK [r,r2] hrs [v,x] _ rfl ⟨h,hx,trivial⟩ hR
theorem If{fn:Func}{R:Ad5->AbJ->Prop}{r r2 r3:ResultVar}{v x z:AbI}(hrs:fn.results = #[r,r2,r3])(h:ResF P ρ w r v)(hx:ResF P ρ w r2 x)(hz:ResF P ρ w r3 z)(hR:R (.returned (.tuple #[v,x,z])) w):A6 P n u (Cz P fn R) w (.ret ρ):=CK [r,r2,r3] hrs [v,x,z] _ rfl ⟨h,hx,hz,trivial⟩ hR
theorem Wz{fn:Func}{R:Ad5->AbJ->Prop}{rs:List ResultVar}{vs:List AbI}{v:AbI}(hrs:fn.results=rs.toArray)(hv:GW vs=v)(h:F5 P ρ w rs vs)(hR:R (.returned v) w):A6 P n u (Cz P fn R) w (.ret ρ):=CK rs hrs vs _ hv h hR
end
theorem AO{α:Type}{l:List α}{i:Nat}(d:α)(h:i<l.length):l.getD i d∈l:=by
 rw[AbN,AbT h];exact Adu h
theorem OG.low{α:Type}{b b' k:Nat}{t:AbQ}{enc:α->List AbI}{w:AbJ}{v:AbI}{l:List α}(h:OG b t k enc w v l)(hb:b' <=b):OG b' t k enc w v l:=⟨h.1,BJ h.2 hb⟩
section
variable {P : Acg}
theorem Yy{K:AbI->AbJ->Prop}{ρ:Tmp->AbI}{t e:AbQ}{n:Nat}(ht:P.underlying t=some (.array n e))(he:∀w' :AbJ,(sizeOf e).run P w' = .ok 1 w'){x:AbV}{d:Option Tmp}{ty:AbQ}{pos:String}{af:Array AcI}{gd:Option (Nat × Bool)}{w:AbJ}{b o:Nat} 
  (hx:Aa ρ x = .pointer (some ⟨b,o,none⟩)) (hk:K (.slice (some ⟨b,o,none⟩) n n) w):Yk P K ((execOp (Aa ρ) ⟨d, .slice t x none none none,ty,pos,af,gd⟩).run P w):=by
 refine Aa4 (v:= .slice (some ⟨b,o,none⟩) n n) (w' :=w) ?_ hk;have hE:P.elem t=e:=by simp[AeY,ht]
 have hN:P.arrayLen t=n:=by simp[AgJ,ht]
 have hr:=run_sliceAt_array_all (P:=P) (w:=w) (t:=t) (a:=⟨b,o,none⟩) (by rw[hE,hN];exact ht);rw[hE,he,hN]at hr;unfold execOp;simp only[hx,AdE,AbY,hr,AbU,Ab1];simp[slicedAt,Ade]
end
section
variable {P : Acg} {K : AbI -> AbJ -> Prop} {ρ : Ac} {w : AbJ} {d : Option Tmp} {ty : AbQ} {pos : String} {af : Array AcI} {gd : Option (Nat × Bool)}
theorem ZQ{t' :AbQ}{x y:AbV}{g o:Nat}{a m z cells:List AbI}{t:AbQ}(hx:Aa ρ x = .pointer (some ⟨g,o,none⟩))(hy:Aa ρ y = .agg cells.toArray)(hg:w.heap[g]? =some (.cells (a++m++z).toArray t (0,0)))(ha:a.length=o)(hm:m.length=cells.length)(hi:(P.info? t').map (·.size)=some cells.length)(h1:∀v∈cells,v.oneCell' =true) 
  (hk:∀w',w'.heap[g]? =some (.cells (a++cells++z).toArray t (0,0))->w.grownBy w' (some g)->w'.heap.size=w.heap.size->K undef w'):Yk P K ((execOp (Aa ρ) ⟨d, .store t' x y,ty,pos,af,gd⟩).run P w):=by
 have hst:=run_storeCells_at P g o t cells 0 (a++m++z).toArray w hg (by simp;omega) h1;have e:((a++m++z).toArray.toList.take (o+0)++cells++(a++m++z).toArray.toList.drop (o+0+cells.length))=a++cells++z:=by
  have b:(a++m++z).take o=a:=by rw[Acj,<-ha,List.take_left'];rfl
  have c:(a++m++z).drop (o+cells.length)=z:=List.drop_left' (by rw[AbP];omega);rw[List.toList_toArray,Nat.add_zero,b,c]
 rw[e]at hst;have hr:(Aeo t' (.pointer (some ⟨g,o,none⟩)) (.agg cells.toArray)).run P w = .ok () (w.setRow g (a++cells++z).toArray):=by
  cases hq:P.info? t' with
  | none=>simp[hq]at hi
  | some i=>
   have hsz:cells.length=i.size:=by simp[hq]at hi;omega
   simp[Aeo,Instr.sureAddr,storeVar,sizeOf,typeInfo,hq,Aff,hsz]at hst ⊢;simp[hst]
 unfold execOp;simp only[hx,hy,hr,AbY,AbU,Ab1];exact hk _ (setRow_heap w g (a++m++z).toArray _ t (0,0) hg) ⟨rfl,rfl,rfl,by simp,fun k _ hk=>setRow_other w g k _ (fun e=>hk (by rw[e]))⟩ (by simp)
theorem ZG{α:Type}{k:Nat}{enc:α->List AbI}{t e:AbQ}(hr:∀(w:AbJ),(Acq t 0 #[]).run P w = .ok (.slice (some ⟨w.heap.size,0,none⟩) 0 0) (w.alloc (.cells #[] e))) 
  (hk:∀v w',OG w.heap.size e k enc w' v []->Ext w w' ->K v w'):Yk P K ((execOp (Aa ρ) ⟨d, .buildSlice t 0 #[],ty,pos,af,gd⟩).run P w):=by
 have hr' :(execOp (Aa ρ) ⟨d, .buildSlice t 0 #[],ty,pos,af,gd⟩).run P w = .ok (.value (.slice (some ⟨w.heap.size,0,none⟩) 0 0)) (w.alloc (.cells #[] e)):=by
  unfold execOp;simp only[Acp,Acz,AbY,hr,AbU,Ab1]
 rw[hr'];refine hk _ _ ⟨fun x hx=>(Adz hx).elim,⟨by simp, .inr ⟨w.heap.size,0,#[],rfl,AbO _,heap_alloc_new w _,AbO _,by simp[maxLen],by simp,by simp⟩⟩⟩ (Below.alloc (AcB _ _) (AbO _) _)
end
theorem Bc{w:AbJ}{α:Type}{b k:Nat}{e:AbQ}{enc:α->List AbI}{v:AbI}{l l' :List α}(h:OG b e k enc w v l)(e' :l=l'):OG b e k enc w v l' :=by rw[<-e'];exact h
theorem F7:Tryz.prog.underlying 27=some (.slice 5):=by kernel_rfl
theorem WA:Tryz.prog.underlying 9=some .string:=by kernel_rfl
theorem MM:(Tryz.prog.info? 5).map (fun i=>(i.zero,i.size,i.bytes))=some (some (.int .u8 0),1,1):=by kernel_rfl

theorem O6(w:AbJ)(v:AbI)(l:Ah5)(hr:RB w v l)(hl:l.length+16<=140737488355328):
  Calls AbL 179 #[v] w fun e w' =>∃v',e = .returned v' /\NewB 5 w w' v' l:=by
 obtain⟨i0,hi,a,c,f⟩:=info_parts MM;have hsrc:∀w' :AbJ,w.grownBy w' none->Src AbL 1 27 v l.length (AbK l) w' :=fun w' hg=>
  (hr.below (B:=w.heap.size) ((AcB _ _).grown hg (AbO _) (fun k hk=>by cases hk)) rfl).src F7
 have HS:=AdC hsrc;clear hsrc;obtain⟨h1,ao,cap,rfl,h2,h3,h4,h5⟩:=hr;have h:l.length<=140737488355312:=by omega
 clear h1 h4 h5 hl;unfold maxLen at h3
 go_enter Tryz.func179,Tryz.ntmps179
 go_wp2_with (at_make;refine wpList_make_own _ rfl _ _ 27 rfl w.heap.size 5 i0 (.int .u8 0) 1 F7 hi a c _ _ _ (l.length+16) rfl rfl (by omega) ?b1 ?b2 ?b3 ?_)
 case b1=>rw[f];omega
 case b2=>unfold maxLen;omega
 case b3=>exact AbO _
 intro w1 hown hg;have g:=HS.out w1 hg
 go_wp2_with (at_builtin;refine CU _ rfl _ _ 27 27 rfl w.heap.size 5 i0 (.int .u8 0) 1 1 F7 hi a c f rfl _ _ _ rfl hown _ _ _ rfl g ?c1 ?c2 ?c3 ?_)
 case c1=>unfold maxLen;omega
 case c2=>omega
 case c3=>exact hg.size
 intro v' w2 hown2 hgrow
 go_wp2
 go_ret
 refine⟨v',rfl,by simpa using hown2,Ak hg hgrow.by_ (fun b hb=> ?_)⟩;simp[AbS]at hb;omega
set_option maxRecDepth 100000 in
set_option maxHeartbeats 1000000 in
theorem Ki(B n x:Nat)(hx:x<18446744073709551616)(sv:AbI)(xs:List AbI)(w:AbJ)(hown:w.ownsRow B 5 1 sv n xs)(hBw:B<=w.heap.size)(hlim:n+10<=140737488355328):
  Calls AbL 178 #[sv, .int .u64 x] w fun e w' =>∃v',e = .returned v' /\w'.ownsRow B 5 1 v' (n+(Ab3 x).length) (xs++AbK (Ab3 x))/\Grew w w' sv v' :=by
 obtain⟨i0,hi,a,b,c⟩:=info_parts MM;have hlen:=Lib.uvarint_length64 hx
 go_enter Tryz.func178,Tryz.ntmps178
 go_wp2
 go_loopw [0,1] (fun vb vx wr=>∃(y:Nat) (pre:Ah5),vx = .int .u64 y/\y<=x/\Ab3 x=pre++Ab3 y/\wr.ownsRow B 5 1 vb (n+pre.length) (xs++AbK pre)/\Grew w wr sv vb)
  (fun _ vx _=>(intOf vx).toNat)
 case atStart=>exact⟨x,[],rfl,AbO _,rfl,by simpa [AbK] using hown,AbF _ _⟩
 case round=>
  obtain⟨y,pre,rfl,hy,hsplit,hown1,hnx⟩:=hrel;have hpl:pre.length+(Ab3 y).length<=10:=by
   have h2:=congrArg List.length hsplit;rw[AbP]at h2;omega
  have hyp:=Lib.uvarint_pos y;have hbw:=hnx.by_.size;by_cases h128:128<=y
  ·have hor:bits .or .u8 ((y:Int)%256) 128=((y%128+128:Nat):Int):=by
    rw[Lib.u8_or128_any _ (by omega) (by omega)];omega
   go_wp2_with (at_builtin;refine CU _ rfl _ _ 27 27 rfl B 5 i0 (.int .u8 0) 1 1 F7 hi a b c rfl _ _ _ rfl (hown1.alloc _) (.slice (some ⟨wr.heap.size,0,none⟩) 1 1) 1 [_] rfl (Q8 F7 wr _ _ rfl) ?c1 ?c2 ?c3 ?_)
   case c1=>unfold maxLen;omega
   case c2=>omega
   case c3=>simp;omega
   intro v' w1 hown' hgrow;have hnx1:Grew w w1 sv v' :=(hnx.alloc _).trans hgrow
   go_wp2
   go_roundw
   case rel=>
    refine⟨y/128,pre++ [(y%128+128).toUInt8],by go_num,by omega,by rw[hsplit,Ag1 h128];simp,?_,hnx1⟩;have ec:((y%128+128:Nat):Int)=(y:Int)%128+128:=by omega
    rw[Lib.byteCells_snoc pre (by omega),AbP,Ab7,<-Ad0,ec];exact hown'
   case measure=>simp[intOf];omega
  ·have hsm:Ab3 y= [y.toUInt8]:=AeX (by omega)
   go_wp2_with (at_builtin;refine CU _ rfl _ _ 27 27 rfl B 5 i0 (.int .u8 0) 1 1 F7 hi a b c rfl _ _ _ rfl (hown1.alloc _) (.slice (some ⟨wr.heap.size,0,none⟩) 1 1) 1 [_] rfl (Q8 F7 wr _ _ rfl) ?d1 ?d2 ?d3 ?_)
   case d1=>unfold maxLen;omega
   case d2=>omega
   case d3=>simp;omega
   intro v' w1 hown' hgrow;have hnx1:Grew w w1 sv v' :=(hnx.alloc _).trans hgrow
   go_wp2
   go_ret
   refine⟨v',rfl,?_,hnx1⟩;rw[hsplit,hsm,Lib.byteCells_snoc pre (by omega),AbP,Ab7,<-Ad0];exact hown'
theorem Bj(n:Nat)(h:n<9223372036854775808):(Ab3 n).length<=9:=Lib.uvarint_length 8 n (AcE h (by decide))

theorem O7(w:AbJ)(v:AbI)(l:Ah5)(hr:RB w v l)(hl:l.length+16<=140737488355328)(n:Nat)(hn:n<=9223372036854775807):
  Calls AbL 177 #[v, .int .i64 n] w fun e w' =>∃v',e = .returned (.tuple #[v', .int .i64 0])/\NewB 5 w w' v' (l++Ab3 n):=by
 go_enter Tryz.func177,Tryz.ntmps177
 go_wp2_with fail
 refine(O6 _ _ l hr hl).mono ?_;rintro e w1 ⟨a,rfl,h1⟩
 go_wp2_with fail
 refine(Ki w.heap.size l.length n (by omega) a _ w1 h1.own h1.by_.size (by omega)).mono ?_;rintro e w2 ⟨b,rfl,ho,g⟩
 go_wp2_with fail
 go_ret2
 exact⟨b,rfl,h1.more g ho⟩
def A3(k:Nat):Ah5->Option (Nat × Nat)
 | []=>none
 | c :: r=>if 128<=c.toNat then(if 8<=k then none else(A3 (k+1) r).map (fun x=>(c.toNat-128+128*x.1,x.2+1)))
  else if c.toNat=0/\0<k then none else some (c.toNat,1)
theorem Hk:∀(l:Ah5) (k:Nat) (x:Nat × Nat),A3 k l=some x->1<=x.2/\x.2<=l.length/\x.2+k<=max 9 (k+1)
 | [],k,x,h=>by simp[A3]at h
 | c :: r,k,x,h=>by
  unfold A3 at h;split at h
  ·split at h
   ·cases h
   ·obtain⟨y,hy,rfl⟩:=AeS.1 h;have:=Hk r (k+1) y hy;simp;omega
  ·split at h
   ·cases h
   ·cases h;simp;omega
theorem Ig:∀(l:Ah5) (k:Nat) (x:Nat × Nat),A3 k l=some x->x.1<128^x.2
 | [],k,x,h=>by simp[A3]at h
 | c :: r,k,x,h=>by
  unfold A3 at h;split at h
  ·split at h
   ·cases h
   ·obtain⟨y,hy,rfl⟩:=AeS.1 h;have:=Ig r (k+1) y hy;have hc:=c.toNat_lt;simp only[Nat.pow_succ];omega
  ·split at h
   ·cases h
   ·cases h;simp;omega
theorem GZ(rest:Ah5):∀(m n k:Nat),n<128^(m+1)->m+k<=8->(0<k->0<n)->A3 k (Ab3 n++rest)=some (n,(Ab3 n).length)
 | m,n,k,hn,hk,h0=>by
  by_cases h:n<128
  ·rw[AeX h];have:(n.toUInt8).toNat=n:=by simp[Nat.toUInt8,UInt8.toNat_ofNat'];omega
   simp only[AcM,A3,this];rw[if_neg (by omega),if_neg (by omega)];simp
  ·have hb:((n%128+128).toUInt8).toNat=n%128+128:=by simp[Nat.toUInt8,UInt8.toNat_ofNat'];omega
   rw[Ag1 (by omega)];simp only[AcM,A3,hb]
   match m,hn,hk with
   | 0,hn,_=>simp at hn;omega
   | m+1,hn,hk=>
    rw[if_pos (by omega),if_neg (by omega),GZ rest m (n/128) (k+1) (by rw[Nat.pow_succ]at hn;exact Nat.div_lt_of_lt_mul (by rw[AgO];exact hn)) (by omega) (fun _=>by omega)];simp;omega
theorem PO:∀w' :AbJ,(sizeOf 5).run AbL w' = .ok 1 w' :=fun _=>by kernel_rfl
def Ey(a:Nat):Option (Nat × Nat)->AbI
 | some x=> .tuple #[.int .i64 x.1, .int .i64 ↑(a+x.2), .int .i64 0]
 | none=> .tuple #[.int .i64 0, .int .i64 0, .int .i64 6]
theorem Hl(y k:Nat)(hy:y<128)(hk:k<=8):IntKind.u64.wrap ((y:Int)*2^(7*k))=((y*2^(7*k):Nat):Int):=by
 have h1:y*2^(7*k)<=127*2^56:=Agc (by omega) (AdS (by decide) (by omega));have e:((y:Int)*2^(7*k))=((y*2^(7*k):Nat):Int):=by push_cast;rfl
 rw[e];exact IntWalk.u64_in _ ⟨by omega,by omega⟩
theorem M5(out y k:Nat)(hout:out<2^(7*k))(hy:y<128)(hk:k<=8):bits .or .u64 (out:Int) ((y*2^(7*k):Nat):Int)=((out+2^(7*k)*y:Nat):Int):=by
 have h1:y*2^(7*k)<=127*2^56:=Agc (by omega) (AdS (by decide) (by omega));have h2:2^(7*k)<=2^56:=AdS (by decide) (by omega);have h:=(bits_nat .u64 64 (by decide) wraps_u64 out (y*2^(7*k)) (by omega) (by omega)).2;rw[h]
 congr 1
 have h3:=Nat.shiftLeft_add_eq_or_of_lt hout y;rw[Nat.shiftLeft_eq]at h3;rw[Nat.or_comm,<-h3,AgO];omega
set_option maxRecDepth 100000 in
theorem PP:∀n:Fin 128,bits .andNot .u8 ((n.val+128:Nat):Int) 128=(n.val:Int):=by decide+kernel
theorem M6(c:Nat)(h:128<=c)(h2:c<256):IntKind.u64.wrap (bits .andNot .u8 (c:Int) 128)=((c-128:Nat):Int):=by
 have h1:=PP ⟨c-128,by omega⟩;have e:c-128+128=c:=by omega
 simp only[e]at h1;rw[h1];exact IntWalk.u64_in _ ⟨by omega,by omega⟩
theorem M7(out y k:Nat)(hout:out<2^(7*k))(hy:y<128)(hk:k<=8):out+2^(7*k)*y<=9223372036854775807:=by
 have h1:2^(7*k)*y<=2^56*127:=Agc (AdS (by decide) (by omega)) (by omega);have h2:2^(7*k)<=2^56:=AdS (by decide) (by omega);omega
theorem Ri(a k N c:Nat)(h:N+2^(7*k)*c<=9223372036854775807):
  Ending.returned (.tuple #[.int .i64 (wrap64 ((N+2^(7*k)*c:Nat):Int)), .int .i64 ((a:Int)+(k:Int)+1), .int .i64 0]) = .returned (Ey a ((some (c,1)).map fun x=>(N+2^(7*k)*x.1,x.2+k))):=by
 rw[IntWalk.wrap64_in _ ⟨by omega,by omega⟩];have e:(a:Int)+(k:Int)+1=((a+(1+k):Nat):Int):=by omega
 rw[e];rfl
set_option maxRecDepth 100000 in
set_option maxHeartbeats 1000000 in
theorem Ez(w:AbJ)(v:AbI)(l:Ah5)(hr:RB w v l)(a:Nat)(ha:a<=l.length):
  Calls AbL 128 #[v, .int .i64 a] w fun e w' =>e = .returned (Ey a (A3 0 (l.drop a)))/\w=w' :=by
 have HR:=AdC hr;obtain⟨ao,cap,rfl,h2,h3⟩:=hr.len;clear hr;have hd:decide ((a:Int)<0)=false:=by simp
 have hd2:decide (l.length<a)=false:=by simp;omega
 obtain⟨L,hL⟩:∃L,L=l.drop a:=⟨_,rfl⟩;have hLn:l.length-a=L.length:=by rw[hL,Ab6]
 rw[<-hL];have HLn:=AdC hLn;have HL:=AdC hL;clear hLn hL
 go_enter AhQ,Ahx
 go_wp2_with fail
 go_step3
 go_wp2_with fail
 go_step3
 go_wp2_with (refine GV (o:=⟨some 21,_,_,_,_,_⟩) rfl _ _ (some _) none rfl F7 PO _ l rfl HR.out a l.length ha (AbO _) (.inr ⟨.i64,rfl⟩) (.inl ⟨rfl,rfl⟩) ?_)
 intro ao' c' hr';rw[AcD (by rw[Ab6];exact AbO _)]at hr';have HR' :=AdC hr';clear hr' hd hd2;rw[<-HL.out,HLn.out]at HR';rw[HLn.out];by_cases g:L.length=0
 ·have hL0:L= []:=Acv g;have HL0:=AdC hL0;clear hL0 HR' HR;have h00:decide (0<L.length)=false:=by simp[g]
  clear g
  go_wp2_with fail
  refine wp_loop_rounds 1 ?_;rw[rounds_succ]
  go_wp2
  rw[Exit.noGoto_ret]
  all_goals (go_ret3;exact⟨by rw[HL0.out];simp[A3,Ey],rfl⟩)
 obtain⟨b,off,cc,hv,hcap,hcap2,hbw,hcell⟩:=HR'.out.open_ (by omega);simp only[Value.slice.injEq,true_and]at hv;obtain⟨rfl,rfl⟩:=hv;have haL:a+L.length<=9223372036854775807:=by have:=HLn.out;omega
 clear HR' HR
 go_wp2_with fail
 go_loop [7,8,23] (fun vx vs vi=>∃k out:Nat,vi = .int .i64 k/\vs = .int .i64 ((7*k:Nat):Int)/\vx = .int .u64 out/\k<=L.length/\k<=8/\out<2^(7*k)/\A3 0 L=(A3 k (L.drop k)).map (fun x=>(out+2^(7*k)*x.1,x.2+k)))
  (fun _ _ vi=>L.length-(intOf vi).toNat)
 case atStart=>exact⟨0,0,rfl,rfl,rfl,by omega,by omega,by decide,by simp⟩
 case round=>
  obtain⟨k,out,rfl,rfl,rfl,hk,f,hout,hdec⟩:=hrel;have HD:=AdC hdec;clear hdec;by_cases hkl:k<L.length
  ·have hc:=hcell k hkl;have hdrop:L.drop k=L[k] :: L.drop (k+1):=Ac1 hkl;have hg:L.getD k 0=L[k]:=by simp[hkl]
   rw[hg]at hc
   generalize L[k]=c at hc hdrop
   have HDr:=AdC hdrop;have i:=c.toNat_lt;clear hcell hdrop hg;have HO:=AdC hout;clear hout;by_cases h128:128<=c.toNat
   ·by_cases hk8' :k=8
    ·subst hk8'
     go_wp2
     all_goals (go_ret3;exact⟨by rw[HD.out,HDr.out];simp[A3,h128,Ey],rfl⟩)
    ·have m:k<8:=by omega
     clear hk8'
     go_wp2
     go_round
     case rel=>
      have hp:2^(7*(k+1))=2^(7*k)*128:=by rw[show 7*(k+1)=7*k+7 from by omega,Nat.pow_add]
      refine⟨k+1,out+2^(7*k)*(c.toNat-128),by go_num,by go_num,?_,by omega,by omega,?_,?_⟩
      ·rw[M6 _ h128 i,Hl _ _ (by omega) (by omega),M5 _ _ _ HO.out (by omega) (by omega)]
      ·have h1:=HO.out;have h2:2^(7*k)*(c.toNat-128)<=2^(7*k)*127:=Nat.mul_le_mul_left _ (by omega);rw[hp];omega
      ·rw[HD.out,HDr.out];have:A3 k (c :: L.drop (k+1))=(A3 (k+1) (L.drop (k+1))).map (fun x=>(c.toNat-128+128*x.1,x.2+1)):=by
        simp only[A3];rw[if_pos h128,if_neg (by omega)]
       rw[this,Option.map_map]
       congr 1
       funext x
       simp only[Function.comp,Prod.mk.injEq];refine⟨?_,by omega⟩;rw[hp,Nat.mul_add,Nat.mul_assoc];omega
     case measure=>simp[intOf];omega
   ·have hlt:c.toNat<128:=by omega
    by_cases h0:c.toNat=0
    ·have hz:((c.toNat:Int)==0)=true:=by simp[h0]
     have HZ:=AdC h0;clear h0;by_cases h:0<k
     ·go_wp2
      all_goals (go_ret3;exact⟨by rw[HD.out,HDr.out];simp[A3,HZ.out,h,Ey],rfl⟩)
     ·have j:decide (0<k)=false:=by simp;omega
      clear h;have hd:A3 k (c :: L.drop (k+1))=some (c.toNat,1):=by
       simp only[A3];rw[if_neg h128,if_neg (by simp at j;omega)]
      have HD2:=AdC hd;clear hd
      go_wp2
      all_goals go_ret3
      all_goals refine⟨?_,rfl⟩
      all_goals rw[Hl _ _ hlt f,M5 _ _ _ HO.out hlt f,HD.out,HDr.out,HD2.out]
      all_goals exact Ri a k _ _ (M7 _ _ _ HO.out hlt f)
    ·have hz:((c.toNat:Int)==0)=false:=by simp[h0]
     have HZ:=AdC h0;clear h0;have hd:A3 k (c :: L.drop (k+1))=some (c.toNat,1):=by
      simp only[A3];rw[if_neg h128,if_neg (by have:=HZ.out;omega)]
     have HD2:=AdC hd;clear hd
     go_wp2
     all_goals go_ret3
     all_goals refine⟨?_,rfl⟩
     all_goals rw[Hl _ _ hlt f,M5 _ _ _ HO.out hlt f,HD.out,HDr.out,HD2.out]
     all_goals exact Ri a k _ _ (M7 _ _ _ HO.out hlt f)
  ·have hkl' :k=L.length:=by omega
   go_wp2
   all_goals (go_ret3;exact⟨by rw[HD.out,hkl'];simp[A3,Ey],rfl⟩)
open Go.WideMaps (KeyLaw)
structure KL (P : Acg) (k : AbQ) (OK : AbI -> Prop) : Prop where
 check:∀(w:AbJ) (em:Bool) {v:AbI},OK v->(Instr.checkKey em 10000 k v).run P w = .ok () w
 find:∀(w:AbJ) {x:AbI},OK x->∀es:List Adv,(∀e∈es,OK e.key) ->
  ((Instr.findKey k x es).run P w = .ok none w/\∀e∈es,e.key≠x)\/∃j e,(Instr.findKey k x es).run P w = .ok (some (j,e.val)) w/\es[j]? =some e/\e.key=x
 stays:∀(w:AbJ) {v:AbI},OK v->(Instr.keyThatStays v v).run P w = .ok v w
theorem Aal{P:Acg}{k:AbQ}(L:KeyLaw P k):KL P k (fun v=>∃l,keyOf P k v=some l):=
 ⟨fun w em _ ⟨_,h⟩=>L.check w em h,fun w _ ⟨_,h⟩ es he=>L.find w h es he,fun w _ ⟨_,h⟩=>L.stays w h⟩
theorem ZH{P:Acg}{k:AbQ}{d:TypeDesc}(hd:P.underlying k=some d):KL P k (MapKept.IsKey d):=
 ⟨fun w em _ h=>MapKept.run_checkKey hd h em 9999,fun w x h es he=>by
  rcases MapKept.findNow_spec h es 0 he with ⟨h1,h2⟩ | ⟨j,e,h1,h2,h3⟩
  ·exact .inl ⟨AhC hd h1,h2⟩
  ·rw[Ac2]at h1;exact .inr ⟨j,e,AhC hd h1,h2,h3⟩,fun w _ h=>MapKept.run_keyThatStays h⟩
section
variable {α β : Type} (ek : α -> AbI) (ev : β -> AbI) (D : α -> Prop)
structure Xb (G : α -> Option β) (es : List Adv) : Prop where
 keys:(es.map (·.key)).Nodup
 ent:∀e∈es,∃a y,D a/\e.key=ek a/\e.val=ev y/\G a=some y
 all:∀a y,G a=some y->D a/\∃e∈es,e.key=ek a
def MapF(w:AbJ)(b:Nat)(G:α->Option β):Prop:=∃es clock,w.heap[b]? =some (.map es.toArray clock)/\Xb ek ev D G es/\AfY es.toArray clock
end
theorem Ov{es es' :List Adv}{c:Nat}(hs:es'.Sublist es)(h:AfY es.toArray c):AfY es'.toArray c:=by
 obtain⟨h1,h2,h3⟩:=h;exact⟨fun x hx=>h1 x (hs.subset hx),(hs.map _).nodup h2,(hs.map _).nodup h3⟩
def updM{α β:Type}[DecidableEq α](G:α->Option β)(a:α)(y:Option β)(c:α):Option β:=if c=a then y else G c
section
variable {α β : Type} {ek : α -> AbI} {ev : β -> AbI} {D : α -> Prop} {P : Acg} {w w' : AbJ} {b : Nat} {G : α -> Option β}
theorem MapF.keep(h:MapF ek ev D w b G)(k:Ext w w'):MapF ek ev D w' b G:=by
 obtain⟨es,c,h2,h3⟩:=h;exact⟨es,c,Abk k h2,h3⟩
theorem MapF.lt(h:MapF ek ev D w b G):b<w.heap.size:=by
 obtain⟨es,c,h2,h3⟩:=h;exact(Ace.1 h2).1
theorem MapF.other{r:Option Nat}(h:MapF ek ev D w b G)(k:w.grownBy w' r)(hr:r≠some b):MapF ek ev D w' b G:=by
 have hl:=h.lt;obtain⟨es,c,h2,h3⟩:=h;exact⟨es,c,(k.block b hl (fun e=>hr e.symm)).trans h2,h3⟩
abbrev Aa2:=@MapF.other
theorem MapF.grew{v v' :AbI}(h:MapF ek ev D w b G)(g:Grew w w' v v')(hv:v.ownBlock≠some b):MapF ek ev D w' b G:=h.other g.by_ hv
abbrev Aba:=@MapF.grew
theorem Aam(ek:α->AbI)(ev:β->AbI)(D:α->Prop)(w:AbJ):MapF ek ev D (w.alloc (.map #[] 0)) w.heap.size (fun _=>none):=
 ⟨[],0,heap_alloc_new w _,⟨by simp,by simp,fun _ _ h=>by cases h⟩,MapKept.stamped_empty 0⟩
section
variable {t K E : AbQ} {OK : AbI -> Prop} (L : KL P K OK) (hD : ∀ a, D a -> OK (ek a)) (hi : ∀ a c, ek a = ek c -> a = c) (ht : P.underlying t = some (.map K E))
include L hD hi ht
theorem MapF.look{z:AbI}(hz:∀u:AbJ,(zeroValue E).run P u = .ok z u)(h:MapF ek ev D w b G){a:α}(ha:D a)(ok:Bool):
  (Aft t (.map (some b)) (ek a) ok).run P w = .ok (if ok then .tuple #[(G a).elim z ev, .bool (G a).isSome]else(G a).elim z ev) w:=by
 obtain⟨es,c,hb,H,hS⟩:=h;have hkeys:∀e∈es,OK e.key:=fun e he=>by
  obtain⟨q,y,k1,k2,-⟩:=H.ent e he;rw[k2];exact hD q k1
 rcases L.find w (hD a ha) es hkeys with ⟨f1,f2⟩ | ⟨j,f,f1,f2,f3⟩
 ·have hG:G a=none:=by
   cases hG:G a with
   | none=>rfl
   | some y=>
    obtain⟨-,e,he,hek⟩:=H.all a y hG;exact absurd hek (f2 e he)
  cases ok <;> simp[Aft,run_underlying ht,AcY hb,L.check w _ (hD a ha),f1,hz,AcF,hG]
 ·obtain⟨q,y,k1,k2,k3,k4⟩:=H.ent f (AcV f2);have:q=a:=hi _ _ (k2.symm.trans f3);subst this;cases ok <;> simp[Aft,run_underlying ht,AcY hb,L.check w _ (hD q ha),f1,AcF,k4,k3]
variable [DecidableEq α]
omit hi in
theorem MapF.put(h:MapF ek ev D w b G){a:α}(ha:D a)(y:β):
  ∃w',(Ag3 t (.map (some b)) (ek a) (ev y)).run P w = .ok () w' /\MapF ek ev D w' b (updM G a (some y))/\w.grownBy w' (some b)/\w'.heap.size=w.heap.size:=by
 obtain⟨es,c,hb,H,hS⟩:=h;have hkeys:∀e∈es,OK e.key:=fun e he=>by
  obtain⟨q,y,k1,k2,-⟩:=H.ent e he;rw[k2];exact hD q k1
 have hblt:b<w.heap.size:=(Ace.1 hb).1;have hgr:∀o,w.grownBy { w with heap:=w.heap.setIfInBounds b o } (some b):=fun o=>⟨rfl,rfl,rfl,by simp,fun i _ hi=>by simp only[Adp];rw[if_neg (fun e=>hi (by rw[e]))]⟩;have hnew:∀o,({ w with heap:=w.heap.setIfInBounds b o } :AbJ).heap[b]? =some o:=fun o=>by simp[hblt]
 rcases L.find w (hD a ha) es hkeys with ⟨f1,f2⟩ | ⟨j,g,f1,f2,f3⟩
 ·have hnone:∀x,G a≠some x:=fun x hx=>by
   obtain⟨-,e,he,hek⟩:=H.all a x hx;exact f2 e he hek
  refine⟨{ w with heap:=w.heap.setIfInBounds b (.map (es++ [({ key:=ek a,val:=ev y,born:=c } :Adv)]).toArray (c+1)) },?_,⟨_,_,hnew _,⟨?_,?_,?_⟩,by have:=MapKept.stamped_push hS (key:=ek a) (val:=ev y) (fun x hx=>f2 x (by simpa using hx));simpa using this⟩,hgr _,by simp⟩
  ·simp[Ag3,run_underlying ht,AcY hb,L.check w false (hD a ha),f1,AdH _ hb,AcF]
  ·simp only[Adc,Aco,Acz];refine AdU.2 ⟨H.keys,by simp,fun x hx z hz e=> ?_⟩;obtain⟨f,he1,rfl⟩:=Acw.1 hx;simp at hz;exact f2 f he1 (e.trans hz)
  ·intro e he;rcases Acb.1 he with h1 | h1
   ·obtain⟨q,z,k1,k2,k3,k4⟩:=H.ent e h1;refine⟨q,z,k1,k2,k3,?_⟩;unfold updM;rw[if_neg (fun f=>f2 e h1 (by rw[k2,f]))];exact k4
   ·rw[AbW.1 h1];exact⟨a,y,ha,rfl,rfl,by unfold updM;rw[if_pos rfl]⟩
  ·intro q z hq;unfold updM at hq;split at hq
   ·rename_i f
    subst f;exact⟨ha,_,AdL _ (AbW.2 rfl),rfl⟩
   ·obtain⟨k1,e,he,hek⟩:=H.all q z hq;exact⟨k1,e,Aeu _ he,hek⟩
 ·obtain⟨q0,y0,k1,k2,k3,k4⟩:=H.ent g (AcV f2);have hjl:j<es.length:=(Acf.1 f2).1;have hkeq:(es.modify j fun e=> { e with key:=ek a,val:=ev y }).map (·.key)=es.map (·.key):=by
   rw[Ae3 _ _ _ _ f2,AgL];exact Go.WideElems.set_self _ _ _ (by rw[List.getElem?_map,f2];simp[f3])
  have hj:es.toArray[j]? =some g:=by simpa using f2
  refine⟨{ w with heap:=w.heap.setIfInBounds b (.map (es.modify j fun e=> { e with key:=ek a,val:=ev y }).toArray c) },?_,⟨_,_,hnew _,⟨?_,?_,?_⟩,by have:=MapKept.stamped_modify hS j (fun e=> { e with key:=ek a,val:=ev y }) (fun _ _=>rfl) (fun e _ he=>by rw[hj]at he;cases he;exact f3.symm);rwa [List.modify_toArray]at this⟩,hgr _,by simp⟩
  ·simp[Ag3,run_underlying ht,AcY hb,L.check w false (hD a ha),f1,f2,f3,L.stays w (hD a ha),AdH _ hb,AcF]
  ·rw[hkeq];exact H.keys
  ·intro e he;rw[Ae3 _ _ _ _ f2]at he;obtain⟨i,hil,hie⟩:=Ae7.1 he;rw[AgP]at hie;split at hie
   ·subst hie;exact⟨a,y,ha,rfl,rfl,by unfold updM;rw[if_pos rfl]⟩
   ·rename_i hne
    have hil2:i<es.length:=by simpa using hil
    obtain⟨q,z,m1,m2,m3,m4⟩:=H.ent e (hie▸Adu hil2);refine⟨q,z,m1,m2,m3,?_⟩;unfold updM;rw[if_neg ?_]
    ·exact m4
    ·intro f;subst f
     apply hne
     have hn:=H.keys;have k:(es.map (·.key))[j]'(by simpa using hjl)=(es.map (·.key))[i]'(by simpa using hil2):=by
      simp only[Ae8];rw[hie,m2,<-f3];exact congrArg MapEntry.key (Acf.1 f2).2
     exact(List.getElem_inj hn).1 k
  ·intro q z hq;have hmem:∀x,x∈es.map (·.key)->∃e∈(es.modify j fun e=> { e with key:=ek a,val:=ev y }),e.key=x:=fun x hx=>by
    rw[<-hkeq]at hx;obtain⟨e,he,rfl⟩:=Acw.1 hx;exact⟨e,he,rfl⟩
   unfold updM at hq;split at hq
   ·rename_i f
    subst f;exact⟨ha,hmem _ (Acw.2 ⟨g,AcV f2,f3⟩)⟩
   ·obtain⟨k1,e,he,hek⟩:=H.all q z hq;exact⟨k1,hmem _ (Acw.2 ⟨e,he,hek⟩)⟩
theorem MapF.del{ty:AbQ}(h:MapF ek ev D w b G){a:α}(ha:D a):
  ∃w',(Builtin.delete_ #[t,K] ty #[.map (some b),ek a]).run P w = .ok (.tuple #[]) w' /\MapF ek ev D w' b (updM G a none)/\w.grownBy w' (some b)/\w'.heap.size=w.heap.size:=by
 obtain⟨es,c,hb,H,hS⟩:=h;have hkeys:∀e∈es,OK e.key:=fun e he=>by
  obtain⟨q,y,k1,k2,-⟩:=H.ent e he;rw[k2];exact hD q k1
 have hblt:b<w.heap.size:=(Ace.1 hb).1;have hgr:∀o,w.grownBy { w with heap:=w.heap.setIfInBounds b o } (some b):=fun o=>⟨rfl,rfl,rfl,by simp,fun i _ hi=>by simp only[Adp];rw[if_neg (fun e=>hi (by rw[e]))]⟩;have hnew:∀o,({ w with heap:=w.heap.setIfInBounds b o } :AbJ).heap[b]? =some o:=fun o=>by simp[hblt]
 rcases L.find w (hD a ha) es hkeys with ⟨f1,f2⟩ | ⟨j,k,f1,f2,f3⟩
 ·have hG:G a=none:=by
   cases hG:G a with
   | none=>rfl
   | some y=>
    obtain⟨-,e,he,hek⟩:=H.all a y hG;exact absurd hek (f2 e he)
  have hU:updM G a none=G:=by
   funext x
   unfold updM;split
   ·rename_i e;rw[e,hG]
   ·rfl
  rw[hU];refine⟨{ w with heap:=w.heap.setIfInBounds b (.map es.toArray c) },?_,⟨_,_,hnew _,H,hS⟩,hgr _,by simp⟩;simp[Builtin.delete_,run_underlying ht,AcY hb,L.check w _ (hD a ha),f1,AdH _ hb,AcF]
 ·have hjl:j<es.length:=(Acf.1 f2).1;have hne:∀e∈es.eraseIdx j,e.key≠ek a:=fun e he hk=>by
   obtain⟨i,hil,hie⟩:=Af3.1 he;obtain⟨hij,hie⟩:=hie;have g:(es.map (·.key))[j]'(by simpa using hjl)=(es.map (·.key))[i]'(by simpa using hil):=by
    simp only[Ae8];rw[hie,hk,<-f3];exact congrArg MapEntry.key (Acf.1 f2).2
   exact hij ((List.getElem_inj H.keys).1 g).symm
  refine⟨{ w with heap:=w.heap.setIfInBounds b (.map (es.eraseIdx j).toArray c) },?_,⟨_,_,hnew _,⟨?_,?_,?_⟩,Ov (AfT _ _) hS⟩,hgr _,by simp⟩
  ·simp[Builtin.delete_,run_underlying ht,AcY hb,L.check w _ (hD a ha),f1,AdH _ hb,AcF]
  ·exact H.keys.sublist ((AfT _ _).map _)
  ·intro e he;obtain⟨q,z,m1,m2,m3,m4⟩:=H.ent e ((AfT _ _).subset he);refine⟨q,z,m1,m2,m3,?_⟩;unfold updM;rw[if_neg (fun f=>hne e he (by rw[m2,f]))];exact m4
  ·intro q z hq;unfold updM at hq;split at hq
   ·cases hq
   ·rename_i hqa
    obtain⟨k1,e,he,hek⟩:=H.all q z hq;refine⟨k1,e,?_,hek⟩;obtain⟨i,hil,hie⟩:=Ae7.1 he;refine Af3.2 ⟨i,hil,fun f=> ?_,hie⟩;subst f
    apply hqa
    refine hi _ _ (hek.symm.trans ?_);rw[<-f3,<-hie];exact congrArg MapEntry.key (Acf.1 f2).2
end
end
theorem Am{a b:Nat}(h:a≠b):some a≠some b:=fun e=>h (Option.some.inj e)
def Ae(u v:AbI):Prop:=∀k,u.ownBlock=some k->v.ownBlock≠some k
section
variable {N B : Nat} {r : Option Nat} {w w' w1 w0 : AbJ} {e t : AbQ}
theorem MB{z n:Nat}{v:AbI}{xs:List AbI}(ho:w.ownsRow B e z v n xs)(k:w.grownBy w1 r)(ha:∀k,r=some k->v.ownBlock≠some k):w1.ownsRow B e z v n xs:=
 ho.kept k (by
  cases hv:v.ownBlock with
  | none=>exact .inl rfl
  | some g=>exact .inr (fun e=>ha g e.symm hv))
theorem DF{u v:AbI}{b:Nat}{e' :AbQ}{z n z' n' :Nat}{xs ys:List AbI}(hu:w.ownsRow b e z u n xs)(hv:w'.ownsRow w.heap.size e' z' v n' ys):Ae u v:=fun k h1 h2=>by
 have:=(hu.lt k h1).2;have:=(hv.lt k h2).1;omega
theorem Ow{u v:AbI}{b:Nat}{e' :AbQ}{z n z' n' :Nat}{xs ys:List AbI}(hu:w.ownsRow b e z u n xs)(hv:w'.ownsRow w.heap.size e' z' v n' ys):Ae v u:=fun k h1 h2=>DF hu hv k h2 h1
theorem Az{u v v' :AbI}{b:Nat}{z n:Nat}{xs:List AbI}(gr:Grew w w' v v')(ha:Ae v u)(hu:w.ownsRow b e z u n xs):Ae v' u:=fun k h1 h2=>by
 rcases gr.fresh k h1 with h3 | h3
 ·exact ha k h3 h2
 ·have:=(hu.lt k h2).2;omega
theorem Dr{v v' u:AbI}{b:Nat}{z n:Nat}{xs:List AbI}(hu:w.ownsRow b e z u n xs)(gr:Grew w w' v v')(ha:Ae v u):w'.ownsRow b e z u n xs:=MB hu gr.by_ ha
theorem AZ{α:Type}{k b:Nat}{enc:α->List AbI}{v v' u:AbI}{l:List α}(hu:OG b e k enc w u l)(gr:Grew w w' v v')(ha:Ae v u):OG b e k enc w' u l:=⟨hu.1,Dr hu.2 gr ha⟩
end
theorem Grew.after{w w1 w2:AbJ}{v v' :AbI}(h:Ext w w1)(g:Grew w1 w2 v v'):Grew w w2 v v' :=
 ⟨Ak (r:=v.ownBlock) ⟨h.grown.os,h.grown.tape,h.grown.output,h.grown.size,fun k hk _=>h.block k hk⟩ g.by_ (fun _ hb=> .inl hb),fun k hk=>(g.fresh k hk).imp id (fun h2=>AbM h.size h2)⟩
set_option maxHeartbeats 400000 in
theorem Ds(w:AbJ)(B:Nat)(v:AbI)(l:Ah5)(hown:w.ownsRow B 5 1 v l.length (AbK l))(hB:B<=w.heap.size)(n:Nat)(hn:n<=9223372036854775807)(hl:l.length+16<=140737488355328):
  Calls AbL 180 #[v, .int .i64 n] w fun e w' =>∃v',e = .returned v' /\w'.ownsRow B 5 1 v' (l++Ab3 n).length (AbK (l++Ab3 n))/\Grew w w' v v' :=by
 obtain⟨i0,hi,a,b,c⟩:=info_parts MM;have h9:=Bj n (by omega)
 go_enter Tryz.func180,Tryz.ntmps180
 go_wp2_with fail
 refine(O7 w (.slice none 0 0) [] (Abi w) (by simp) n hn).mono ?_;rintro e w1 ⟨f,rfl,h1⟩;have g:w1.ownsRow B 5 1 v l.length (AbK l):=Aa5 _ _ _ _ _ _ _ _ hown h1.ext;have hs:=h1.rb.src F7;have hE:=h1.ext;rw[AcO]at hs;have hz:=h1.ext.size
 go_wp2_with (at_builtin;refine CU _ rfl _ _ 27 27 rfl B 5 i0 (.int .u8 0) 1 1 F7 hi a b c rfl _ _ _ rfl g f _ _ rfl hs ?c1 ?c2 ?c3 ?_)
 case c1=>unfold maxLen;omega
 case c2=>omega
 case c3=>omega
 intro v' h hown' hgrow
 go_wp2
 go_ret
 exact⟨v',rfl,by rw[AbP,Lib.byteCells_append];exact hown',Grew.after hE hgrow⟩
def CL:Ah5->Ah5->Nat
 | a :: u,b :: z=>if a=b then CL u z+1 else 0
 | _,_=>0
theorem Th{a b:Ah5}{i:Nat}(h1:i<a.length)(h2:i<b.length)(h:a.getD i 0=b.getD i 0):CL (a.drop i) (b.drop i)=CL (a.drop (i+1)) (b.drop (i+1))+1:=by
 rw[Ac1 h1,Ac1 h2];rw[CL,if_pos (by simpa [List.getD,h1,h2] using h)]
theorem WB{a b:Ah5}{i:Nat}(h1:i<a.length)(h2:i<b.length)(h:a.getD i 0≠b.getD i 0):CL (a.drop i) (b.drop i)=0:=by
 rw[Ac1 h1,Ac1 h2];unfold CL;rw[if_neg (by simpa [List.getD,h1,h2] using h)]
theorem Ti{a b:Ah5}{i:Nat}(h:a.length<=i):CL (a.drop i) (b.drop i)=0:=by
 rw[AcU h];unfold CL;rfl
theorem Tj{a b:Ah5}{i:Nat}(h:b.length<=i):CL (a.drop i) (b.drop i)=0:=by
 rw[AcU h];cases a.drop i <;> rfl
theorem Kj:∀a b:Ah5,CL a b<=a.length/\CL a b<=b.length
 | [],b=>by simp[CL]
 | a :: u,[]=>by simp[CL]
 | a :: u,b :: z=>by
  unfold CL;have:=Kj u z;split <;> simp <;> omega
theorem MN(w:AbJ)(v:AbI)(l:Ah5)(hr:RB w v l)(a:Nat)(ha:a<=l.length)(h:A3 0 (l.drop a)=none):
  Calls AbL 128 #[v, .int .i64 a] w fun e w' =>e = .returned (.tuple #[.int .i64 0, .int .i64 0, .int .i64 6])/\Ext w w' :=
 (Ez w v l hr a ha).mono fun e w' ⟨h1,h2⟩=>by
  rw[h]at h1;exact⟨h1,h2▸AaY w⟩
theorem Ih(w:AbJ)(v:AbI)(l:Ah5)(hr:RB w v l)(a:Nat)(ha:a<=l.length)(x k:Nat)(h:A3 0 (l.drop a)=some (x,k)):
  Calls AbL 128 #[v, .int .i64 a] w fun e w' =>e = .returned (.tuple #[.int .i64 (x:Nat), .int .i64 ((a+k:Nat):Int), .int .i64 0])/\Ext w w' :=
 (Ez w v l hr a ha).mono fun e w' ⟨h1,h2⟩=>by
  rw[h]at h1;exact⟨h1,h2▸AaY w⟩
theorem CM{l:Ah5}{a x k:Nat}(ha:a<=l.length)(h:A3 0 (l.drop a)=some (x,k)):x<9223372036854775808/\a+k<=l.length/\1<=k:=by
 have h1:=Hk _ _ _ h;have h2:=Ig _ _ _ h;have h3:k<=9:=by have:=h1.2.2;simp at this;omega
 have h4:128^k<=128^9:=AdS (by decide) h3;have h5:=h1.2.1;rw[Ab6]at h5;exact⟨AcE h2 h4,by omega,h1.1⟩
section
variable {P : Acg} {n : Nat} {ρ : Ac} {w : AbJ} {Q : BG}
def lsOk(l:List Aca)(cs:List Nat)(ks ls:Nat->List Nat):Bool:=cs.all fun m=>(ls m).all fun i=>(ks m).contains i||Nat.beq i m||((AN l []).getD i 0).testBit m
def AllCh(S:AbJ->AbJ->Prop)(ls:Nat->List Nat)(Φs:List Bu):List Nat->Prop
 | []=>True
 | m :: r=>AllStabX S (ls m) 0 Φs/\AllCh S ls Φs r
theorem AllCh.get{S:AbJ->AbJ->Prop}{ls:Nat->List Nat}{Φs:List Bu}:∀(cs:List Nat),AllCh S ls Φs cs->∀m,cs.contains m=true->AllStabX S (ls m) 0 Φs
 | [],_,m,h=>by simp at h
 | c :: r,h,m,hm=>by
  by_cases e:m=c
  ·subst e;exact h.1
  ·exact AllCh.get r h.2 m (by simpa [e] using hm)
end
theorem u5:Tryz.prog.underlying 5=some (.int .u8):=by kernel_rfl

theorem XI(w:AbJ)(ao:Option Addr)(n c:Nat)(a:Int)(ha:a<0\/(n:Int)<a):
  Calls AbL 128 #[.slice ao n c, .int .i64 a] w fun e w' =>e = .returned (.tuple #[.int .i64 0, .int .i64 0, .int .i64 1])/\w=w' :=by
 by_cases h0:a<0
 ·have hd:decide (a<0)=true:=by simp[h0]
  clear ha
  go_enter AhQ,Ahx
  go_wp2_with fail
  go_step3
  go_wp2_with fail
  rw[Exit.noGoto_ret]
  go_ret3
  exact⟨rfl,rfl⟩
 ·have hd:decide (a<0)=false:=by simp[h0]
  have h1:(n:Int)<a:=by omega
  have hd2:decide ((n:Int)<a)=true:=by simp[h1]
  clear ha
  go_enter AhQ,Ahx
  go_wp2_with fail
  go_step3
  go_wp2_with fail
  rw[Exit.noGoto_ret]
  go_ret3
  exact⟨rfl,rfl⟩
def B2(l:Ah5)(a:Nat)(most:Int):AbI:=
 match A3 0 (l.drop a)with
 | none=> .tuple #[.string ⟨#[]⟩, .int .i64 0, .int .i64 6]
 | some x=>if most<x.1 then .tuple #[.string ⟨#[]⟩, .int .i64 0, .int .i64 2]
  else if l.length<a+x.2+x.1 then .tuple #[.string ⟨#[]⟩, .int .i64 0, .int .i64 6]
  else .tuple #[.string ⟨((l.drop (a+x.2)).take x.1).toArray⟩, .int .i64 ↑(a+x.2+x.1), .int .i64 0]
set_option maxRecDepth 100000 in
set_option maxHeartbeats 1000000 in
theorem FO(w:AbJ)(v:AbI)(l:Ah5)(hr:RB w v l)(a:Nat)(ha:a<=l.length)(most:Int):
  Calls AbL 210 #[v, .int .i64 a, .int .i64 most] w fun e w' =>e = .returned (B2 l a most)/\w=w' :=by
 have HR:=AdC hr;obtain⟨ao,cap,rfl,h2,h3⟩:=hr.len;clear hr;have HG:=AdC (Ez w _ l HR.out a ha);cases hL:A3 0 (l.drop a)with
 | none=>
  have hR:B2 l a most = .tuple #[.string ⟨#[]⟩, .int .i64 0, .int .i64 6]:=by unfold B2;rw[hL]
  rw[hR];have HL:=AdC hL;clear hL hR
  go_enter AgQ,Agq
  go_wp2_with fail
  refine HG.out.mono ?_;rintro e w1 ⟨rfl,rfl⟩;rw[HL.out];unfold Ey
  go_wp2_with fail
  go_ret3
  exact⟨rfl,rfl⟩
 | some x=>
  obtain⟨n,m⟩:=x;have hp:=Hk _ _ _ hL;have hlt:=Ig _ _ _ hL;rw[Ab6]at hp;have hm9:m<=9:=by have:=hp.2.2;simp at this;exact this
  have b:n<=9223372036854775807:=by
   have h1:128^m<=128^9:=AdS (by decide) hm9;simp only at hlt;omega
  have hm1:1<=m:=hp.1;have hml:a+m<=l.length:=by have:=hp.2.1;simp at this;omega
  have HL:=AdC hL;clear hL hlt hp;by_cases hmost:most<n
  ·have hR:B2 l a most = .tuple #[.string ⟨#[]⟩, .int .i64 0, .int .i64 2]:=by unfold B2;rw[HL.out];simp only[];rw[if_pos hmost]
   rw[hR];clear hR
   go_enter AgQ,Agq
   go_wp2_with fail
   refine HG.out.mono ?_;rintro e w1 ⟨rfl,rfl⟩;rw[HL.out];unfold Ey
   go_wp2_with fail
   go_ret3
   exact⟨rfl,rfl⟩
  ·by_cases hlen:l.length<a+m+n
   ·have hR:B2 l a most = .tuple #[.string ⟨#[]⟩, .int .i64 0, .int .i64 6]:=by unfold B2;rw[HL.out];simp only[];rw[if_neg hmost,if_pos hlen]
    rw[hR];clear hR
    go_enter AgQ,Agq
    go_wp2_with fail
    refine HG.out.mono ?_;rintro e w1 ⟨rfl,rfl⟩;rw[HL.out];unfold Ey
    go_wp2_with fail
    go_ret3
    exact⟨rfl,rfl⟩
   ·have hR:B2 l a most = .tuple #[.string ⟨((l.drop (a+m)).take n).toArray⟩, .int .i64 ↑(a+m+n), .int .i64 0]:=by unfold B2;rw[HL.out];simp only[];rw[if_neg hmost,if_neg hlen]
    rw[hR];clear hR
    go_enter AgQ,Agq
    go_wp2_with fail
    refine HG.out.mono ?_;rintro e w1 ⟨rfl,rfl⟩;rw[HL.out];unfold Ey;have hlh:a+m<=a+m+n:=Nat.le_add_right _ _;have hhl:a+m+n<=l.length:=by omega
    go_wp2_with (refine GV (o:=⟨some 38,_,_,_,_,_⟩) rfl _ _ (some _) (some _) rfl F7 PO _ l rfl HR.out (a+m) (a+m+n) hlh hhl (.inr ⟨.i64,rfl⟩) (.inr ⟨.i64,rfl⟩) ?_)
    intro ao' c' hr';have HR' :=AdC hr';clear hr'
    go_wp2_with (refine Or (o:=⟨some 39,_,_,_,_,_⟩) rfl _ _ _ rfl F7 u5 WA _ _ rfl HR'.out ?_)
    go_ret3
    exact⟨rfl,rfl⟩
theorem U7:Tryz.prog.underlying 33=some (.array 32 5):=by kernel_rfl
theorem Rl:(Tryz.prog.info? 33).map (·.size)=some 32:=by kernel_rfl
theorem WC:(Tryz.prog.info? 5).map (·.size)=some 1:=by kernel_rfl

def zero32:Ah5:=AbX 32 0
theorem EU{l:Ah5}(h:l.length=32):(AbK l).toArray.size=32:=by simp[AbK,h]
theorem Ad{l:Ah5}(h:l.length=32):(Tryz.prog.info? 33).map (·.size)=some (AbK l).toArray.size:=by rw[EU h];exact Rl
theorem PS:zero32.length=32:=Ab8

theorem O8(ρ:AbV->AbI)(d:Option Tmp)(ty:AbQ)(pos:String)(af:Array AcI)(w:AbJ):(execOp ρ ⟨d, .alloc 33,ty,pos,af,none⟩).run AbL w = .ok (.value (.pointer (some ⟨w.heap.size,0,none⟩))) (w.alloc (.cells (AbK zero32).toArray 33)):=by kernel_rfl

def D4(l:Ah5)(a:Nat):AbI:=
 if l.length-a<32 then .tuple #[.agg (AbK zero32).toArray, .int .i64 0, .int .i64 6]
 else .tuple #[.agg (AbK ((l.drop a).take 32)).toArray, .int .i64 ↑(a+32), .int .i64 0]
set_option maxRecDepth 100000 in
set_option maxHeartbeats 1000000 in
theorem JE(w:AbJ)(v:AbI)(l:Ah5)(hr:RB w v l)(a:Nat)(ha:a<=l.length):
  Calls AbL 171 #[v, .int .i64 a] w fun e w' =>e = .returned (D4 l a)/\Ext w w' :=by
 have HR:=AdC hr;obtain⟨ao,cap,rfl,h2,h3⟩:=hr.len;clear hr;have hd:decide ((a:Int)<0)=false:=by simp
 have hd2:decide (l.length<a)=false:=by simp;omega
 by_cases hs:l.length-a<32
 ·have hR:D4 l a = .tuple #[.agg (AbK zero32).toArray, .int .i64 0, .int .i64 6]:=by unfold D4;rw[if_pos hs]
  rw[hR];clear hR
  go_enter Tryz.func171,Tryz.ntmps171
  have HSI:=AdC (Ad PS)
  go_wp2_with (first | (refine H8 (o:=⟨some 4, .alloc _,_,_,_,_⟩) rfl _ _ (O8 _ _ _ _ _ _) ?_) | (refine wpList_load_row (o:=⟨some 21,_,_,_,_,_⟩) rfl _ _ rfl w.heap.size rfl _ _ _ _ (heap_alloc_new w _) U7 rfl HSI.out ?_) | (refine FI (o:=⟨none, .store _ _ _,_,_,_,_⟩) rfl _ _ _ rfl w.heap.size rfl (AbK zero32).toArray 33 rfl (heap_alloc_new w _) HSI.out (Ag zero32) ?_))
  refine bodyPost_ret (v:= .tuple #[.agg (AbK zero32).toArray, .int .i64 0, .int .i64 6]) (HT Tryz.results171 _ _ w.heap.size 33 (AbK zero32).toArray (0,0) _ rfl (heap_alloc_new w _) U7 rfl HSI.out) rfl ⟨rfl,(AcB _ _).alloc (AbO _) _⟩
 ·have hR:D4 l a = .tuple #[.agg (AbK ((l.drop a).take 32)).toArray, .int .i64 ↑(a+32), .int .i64 0]:=by unfold D4;rw[if_neg hs]
  rw[hR];clear hR
  go_enter Tryz.func171,Tryz.ntmps171
  go_wp2_with (refine H8 (o:=⟨some 4, .alloc _,_,_,_,_⟩) rfl _ _ (O8 _ _ _ _ _ _) ?_)
  have hal:a+32<=l.length:=by omega
  obtain⟨w0,hw0⟩:∃w0,w0=w.alloc (.cells (AbK zero32).toArray 33):=⟨_,rfl⟩;have hbox:w0.heap[w.heap.size]? =some (.cells (AbK zero32).toArray 33 (0,0)):=by rw[hw0];exact heap_alloc_new w _
  have hsz:w0.heap.size=w.heap.size+1:=by rw[hw0];simp
  have b:Below w.heap.size w w0:=by rw[hw0];exact(AcB _ _).alloc (AbO _) _
  rw[<-hw0];clear hw0;have c:((l.drop a).take 32).length=32:=by rw[Ab5,Ab6];omega
  have HL32:=AdC c;clear c hd hd2;refine K9 [4] (fun n=>if n=4 then [3]else []) (fun w' =>Below w.heap.size w0 w' /\∃cur:Array AbI,cur.size=32/\w'.heap[w.heap.size]? =some (.cells cur 33 (0,0)))
   (fun w1 w2=>w1.grownBy w2 (some w.heap.size)/\((∃cur:Array AbI,cur.size=32/\w1.heap[w.heap.size]? =some (.cells cur 33 (0,0)))->∃cur:Array AbI,cur.size=32/\w2.heap[w.heap.size]? =some (.cells cur 33 (0,0))))
   [Is (.slice (some ⟨w.heap.size,0,none⟩) 32 32),Is (.slice ao l.length cap),Is (.int .i64 a),(fun x w' =>RB w' x (l.drop a)),(fun _ w' =>w'.heap[w.heap.size]? =some (.cells (AbK ((l.drop a).take 32)).toArray 33 (0,0)))]
   (by kernel_rfl) _ _ (by kernel_rfl) (by kernel_rfl) [22,23,24,25,26] (by kernel_rfl)
   (fun w1 w2 h k=>⟨h.1.trans (k.mono (by have:=h.1.size;have:=hsz;omega)),by obtain⟨cur,h1,h2⟩:=h.2;exact⟨cur,h1,(k.block _ (Ace.1 h2).1).trans h2⟩⟩)
   (fun w1 w2 h k=>⟨h.1.grown k.1 (by have:=h.1.size;have:=hsz;omega) (fun _ e=>by cases e;exact AbO _),k.2 h.2⟩) (fun w=>⟨World.grownBy.refl _ _,fun h=>h⟩) ⟨(AcB _ _).drew,_,EU rfl,hbox⟩ ?hst ?hsk ?hs ?hQ
  case hst=>
   refine⟨X0 _,X0 _,X0 _,Stab.rb _,fun v w1 w2 h k=> ?_,trivial⟩;have h' :w1.heap[w.heap.size]? =_:=h;exact(k.block _ (Ace.1 h').1).trans h'
  case hsk=>
   intro n i hn hi hk hne hb;simp at hn;subst hn
   match i,hi,hk,hne,hb with
   | 0,_,_,_,_=>exact X0 _
   | 1,_,_,_,_=>exact X0 _
   | 2,_,_,_,_=>exact X0 _
   | 3,_,hk,_,_=>simp at hk
   | 4,_,_,hne,_=>simp at hne
  case hs=>
   refine⟨?_,?_,?_,?_,?_,trivial⟩
   ·refine F3 rfl fun ρ w1 hC h=> ?_;have h4:ρ 4 = .pointer (some ⟨w.heap.size,0,none⟩):=h 4 (by decide);refine Aa4 (v:= .slice (some ⟨w.heap.size,0,none⟩) 32 32) (w' :=w1) ?_ ⟨AaY _,rfl⟩;clear h hC;simp[execOp,Aa,h4,go_sem]
   ·refine F3 rfl fun ρ w1 hC h=> ?_;have h0:ρ 0 = .slice ao l.length cap:=h 0 (by decide);exact⟨AaY _,h0⟩
   ·refine F3 rfl fun ρ w1 hC h=> ?_;have h0:ρ 1 = .int .i64 a:=h 1 (by decide);exact⟨AaY _,h0⟩
   ·refine F3 rfl fun ρ w1 hC h=> ?_;have h23:ρ 23 = .slice ao l.length cap:=h 23 (by decide);have h24:ρ 24 = .int .i64 a:=h 24 (by decide);have f:RB w1 (Aa ρ (.tmp 23)) l:=by show RB w1 (ρ 23) l;rw[h23];exact HR.out.keep (b.trans hC.1)
    refine Z0 F7 PO f a l.length ha (AbO _) (.inr ⟨.i64,by simp[Aa,h24]⟩) (.inl ⟨rfl,rfl⟩) ?_;intro ao' c' hr';rw[AcD (by rw[Ab6];exact AbO _)]at hr';exact⟨AaY _,hr'⟩
   ·refine F3 rfl fun ρ w1 hC h=> ?_;have h22:ρ 22 = .slice (some ⟨w.heap.size,0,none⟩) 32 32:=h 22 (by decide);have h25:RB w1 (ρ 25) (l.drop a):=h 25 (by decide);obtain⟨hC1,cur,hcs,hcb⟩:=hC;have hm:Nat.min (l.drop a).length 32=32:=Nat.min_eq_right (by rw[Ab6];exact Nat.le_sub_of_add_le (by rw[Afu];exact hal));have hfit:0+Nat.min (l.drop a).length 32<=cur.size:=by rw[hm,hcs];exact AbO _
    refine ZC (.tmp 22) (.tmp 25) (o:=0) F7 WC h22 h25 hcb hfit ?_;have e:(cur.toList.take 0++AbK ((l.drop a).take 32)++cur.toList.drop (0+Nat.min (l.drop a).length 32)).toArray=(AbK ((l.drop a).take 32)).toArray:=by
     have hd0:cur.toList.drop (0+32)= []:=AcU (AhS (by rw[Array.length_toList,hcs]));rw[hm,hd0];simp
    rw[e];have hw:=setRow_heap w1 w.heap.size cur (AbK ((l.drop a).take 32)).toArray 33 (0,0) hcb;exact⟨⟨⟨rfl,rfl,rfl,by simp,fun k _ hk=>setRow_other w1 w.heap.size k _ (fun e=>hk (by rw[e]))⟩,fun _=>⟨_,EU HL32.out,hw⟩⟩,hw⟩
  case hQ=>
   intro u w1 hC hE;obtain⟨-,-,-,-,h26,-⟩:=hE;have hblk:w1.heap[w.heap.size]? =some (.cells (AbK ((l.drop a).take 32)).toArray 33 (0,0)):=h26;clear h26;simp only[Df,List.foldl_cons,List.foldl_nil,List.setIfInBounds_toArray,Afv,List.set_cons_succ];have hsi:(Tryz.prog.info? 33).map (·.size)=some (AbK ((l.drop a).take 32)).toArray.size:=by rw[EU HL32.out];exact Rl
   have HB:=AdC hblk;clear hblk;have HSI:=AdC hsi;clear hsi
   go_wp2_with (first | (refine wpList_load_row (o:=⟨some 27,_,_,_,_,_⟩) rfl _ _ rfl w.heap.size rfl _ _ _ _ HB.out U7 rfl HSI.out ?_) | (refine FI (o:=⟨none, .store _ _ _,_,_,_,_⟩) rfl _ _ _ rfl w.heap.size rfl (AbK ((l.drop a).take 32)).toArray 33 rfl HB.out HSI.out (Ag _) ?_))
   refine bodyPost_ret (v:= .tuple #[.agg (AbK ((l.drop a).take 32)).toArray, .int .i64 ↑(a+32), .int .i64 0]) ?_ rfl ⟨rfl,b.trans hC.1⟩;exact HT Tryz.results171 _ _ w.heap.size 33 _ (0,0) _ rfl HB.out U7 rfl HSI.out
set_option maxHeartbeats 400000 in
theorem Ox(w:AbJ)(v:AbI)(l:Ah5)(hr:RB w v l)(s:ByteArray)(hl:l.length+s.size+16<=140737488355328):
  Calls AbL 144 #[v, .string s] w fun e w' =>∃v',e = .returned v' /\NewB 5 w w' v' (l++Ab3 s.size++s.data.toList):=by
 obtain⟨i0,hi,a,b,c⟩:=info_parts MM;have h9:=Bj s.size (by omega);have hss:s.data.toList.length=s.size:=by simp
 have HSS:=AdC hss;clear hss
 go_enter Tryz.func144,Tryz.ntmps144
 go_wp2_with fail
 refine(O6 _ _ l hr (by omega)).mono ?_;rintro e w1 ⟨f,rfl,h1⟩
 go_wp2_with fail
 refine(Ki w.heap.size l.length s.size (by omega) f _ w1 h1.own h1.by_.size (by omega)).mono ?_;rintro e w2 ⟨h,rfl,ho,g⟩;have h2:=h1.more g ho
 go_wp2_with (at_builtin;refine CU _ rfl _ _ 27 9 rfl w.heap.size 5 i0 (.int .u8 0) 1 1 F7 hi a b c rfl _ _ _ rfl h2.own (.string s) _ _ rfl (Q7 WA _ s) ?c1 ?c2 ?c3 ?_)
 case c1=>have:=HSS.out;rw[this,AbP];unfold maxLen;omega
 case c2=>have:=HSS.out;rw[this,AbP];omega
 case c3=>exact h2.by_.size
 intro v' i hown' hgrow
 go_wp2
 go_ret
 exact⟨v',rfl,h2.more hgrow (by rw[HSS.out,AbP];exact hown')⟩
variable {P : Acg}
def cellsU(l:List UInt32):Array AbI:=(l.map fun x=>U x).toArray
theorem GK(l:List UInt32):(cellsU l).size=l.length:=by simp[cellsU]
theorem EV(l:List UInt32):∀v∈(cellsU l).toList,v.oneCell' =true:=by
 intro v hv;simp[cellsU]at hv;obtain⟨x,-,rfl⟩:=hv;rfl
namespace Sha
def rotr(x:UInt32)(n:Nat):UInt32:=x<<<UInt32.ofNat (32-n)|||x>>>UInt32.ofNat n
def be4(b:Ah5)(t:Nat):UInt32:=
 (b.getD (4*t) 0).toUInt32<<<24|||(b.getD (4*t+1) 0).toUInt32<<<16|||(b.getD (4*t+2) 0).toUInt32<<<8|||(b.getD (4*t+3) 0).toUInt32
def low(x:UInt32):UInt32:=rotr x 7^^^rotr x 18^^^x>>>3
def high(y:UInt32):UInt32:=rotr y 17^^^rotr y 19^^^y>>>10
def nextW(b:Ah5)(l:List UInt32)(t:Nat):UInt32:=
 if t<16 then be4 b t else high (l.getD (t-2) 0)+l.getD (t-7) 0+low (l.getD (t-15) 0)+l.getD (t-16) 0
def sched(b:Ah5):Nat->List UInt32
 | 0=> []
 | t+1=>sched b t++ [nextW b (sched b t) t]
theorem sched_length(b:Ah5):∀t,(sched b t).length=t
 | 0=>rfl
 | t+1=>by simp[sched,sched_length b t]
def first:List UInt32:= [0x6a09e667,0xbb67ae85,0x3c6ef372,0xa54ff53a,0x510e527f,0x9b05688c,0x1f83d9ab,0x5be0cd19]
def words:List UInt32:= [0x428a2f98,0x71374491,0xb5c0fbcf,0xe9b5dba5,0x3956c25b,0x59f111f1,0x923f82a4,0xab1c5ed5,0xd807aa98,0x12835b01,0x243185be,0x550c7dc3,0x72be5d74,0x80deb1fe,0x9bdc06a7,0xc19bf174,0xe49b69c1,0xefbe4786,0x0fc19dc6,0x240ca1cc,0x2de92c6f,0x4a7484aa,0x5cb0a9dc,0x76f988da,0x983e5152,0xa831c66d,0xb00327c8,0xbf597fc7,0xc6e00bf3,0xd5a79147,0x06ca6351,0x14292967,0x27b70a85,0x2e1b2138,0x4d2c6dfc,0x53380d13,0x650a7354,0x766a0abb,0x81c2c92e,0x92722c85,0xa2bfe8a1,0xa81a664b,0xc24b8b70,0xc76c51a3,0xd192e819,0xd6990624,0xf40e3585,0x106aa070,0x19a4c116,0x1e376c08,0x2748774c,0x34b0bcb5,0x391c0cb3,0x4ed8aa4a,0x5b9cca4f,0x682e6ff3,0x748f82ee,0x78a5636f,0x84c87814,0x8cc70208,0x90befffa,0xa4506ceb,0xbef9a3f7,0xc67178f2]
def up(v:List UInt32)(k w:UInt32):UInt32:=
 v.getD 7 0+(rotr (v.getD 4 0) 6^^^rotr (v.getD 4 0) 11^^^rotr (v.getD 4 0) 25)+(v.getD 4 0&&&v.getD 5 0 ^^^ ~~~(v.getD 4 0)&&&v.getD 6 0)+k+w
def two(v:List UInt32):UInt32:=rotr (v.getD 0 0) 2^^^rotr (v.getD 0 0) 13^^^rotr (v.getD 0 0) 22
def most(v:List UInt32):UInt32:=v.getD 0 0&&&v.getD 1 0^^^v.getD 0 0&&&v.getD 2 0^^^v.getD 1 0&&&v.getD 2 0
def round(v:List UInt32)(k w:UInt32):List UInt32:=
 [up v k w+two v+most v,v.getD 0 0,v.getD 1 0,v.getD 2 0,v.getD 3 0+up v k w,v.getD 4 0,v.getD 5 0,v.getD 6 0]
def turned(s ws:List UInt32):Nat->List UInt32
 | 0=>s
 | t+1=>round (turned s ws t) (words.getD t 0) (ws.getD t 0)
theorem turned_length(s ws:List UInt32)(hs:s.length=8):∀t,(turned s ws t).length=8
 | 0=>hs
 | _+1=>rfl
def added(v s:List UInt32):List UInt32:=List.zipWith (· + ·) v s
def rounds(s:List UInt32)(b:Ah5):List UInt32:=added (turned s (sched b 64) 64) s
theorem rounds_length(s:List UInt32)(b:Ah5)(hs:s.length=8):(rounds s b).length=8:=by
 simp[rounds,added,turned_length _ _ hs,hs]
def blocks(s:List UInt32)(b:Ah5):Nat->List UInt32
 | 0=>s
 | n+1=>blocks (rounds s (b.take 64)) (b.drop 64) n
theorem blocks_length(n:Nat):∀(s:List UInt32) (b:Ah5),s.length=8->(blocks s b n).length=8:=by
 induction n with
 | zero=>exact fun s b h=>h
 | succ n ih=>exact fun s b h=>ih _ _ (rounds_length _ _ h)
def be64(n:Nat):Ah5:=(AcZ 8).map fun i=>AcP (n/2^(56-8*i))
def tail(n:Nat):Ah5:=128 :: (AbX ((119-n%64)%64) 0++be64 (8*n))
def out(s:List UInt32):Ah5:=s.flatMap fun(w:UInt32)=> [(w>>>24).toUInt8,(w>>>16).toUInt8,(w>>>8).toUInt8,w.toUInt8]
def sum(b:Ah5):Ah5:=out (blocks first (b++tail b.length) ((b++tail b.length).length/64))
end Sha
namespace Sha
def pad64(l:List UInt32):List UInt32:=l++AbX (64-l.length) 0
theorem pad64_length(l:List UInt32)(h:l.length<=64):(pad64 l).length=64:=by simp[pad64];omega
theorem pad64_get(l:List UInt32)(i:Nat):(pad64 l).getD i 0=l.getD i 0:=by
 unfold pad64;simp only[AbN];rw[List.getElem?_append];split
 ·rfl
 ·rename_i h
  rw[List.getElem?_replicate,AcR (by omega)];split <;> rfl
theorem pad64_set(l:List UInt32)(x:UInt32)(h:l.length<64):(pad64 l).set l.length x=pad64 (l++ [x]):=by
 unfold pad64;rw[Ac9 _ _ (AbO _),Nat.sub_self];obtain⟨k,hk⟩:∃k,64-l.length=k+1:=⟨64-l.length-1,by omega⟩;rw[hk,List.replicate_succ,Afv];have:64-(l++ [x]).length=k:=by simp;omega
 rw[this];simp
theorem pad64_full(l:List UInt32)(h:l.length=64):pad64 l=l:=by simp[pad64,h]
theorem sched_step1(b:Ah5)(t:Nat)(h:t<16):(pad64 (sched b t)).set t (be4 b t)=pad64 (sched b (t+1)):=by
 have:=pad64_set (sched b t) (be4 b t) (by rw[sched_length];omega);rw[sched_length]at this;rw[this];simp[sched,nextW,h]
theorem sched_step2(b:Ah5)(t:Nat)(h:16<=t)(h2:t<64):(pad64 (sched b t)).set t (high ((pad64 (sched b t)).getD (t-2) 0)+(pad64 (sched b t)).getD (t-7) 0+low ((pad64 (sched b t)).getD (t-15) 0)+(pad64 (sched b t)).getD (t-16) 0)=pad64 (sched b (t+1)):=by
 simp only[pad64_get];have:=pad64_set (sched b t) (nextW b (sched b t) t) (by rw[sched_length];omega);rw[sched_length]at this;rw[sched,<-this];unfold nextW;rw[if_neg (by omega)]
end Sha
structure Laid (w : AbJ) : Prop where
 first:∃t fr,w.heap[0]? =some (.cells (cellsU Sha.first) t fr)
 words:∃t fr,w.heap[1]? =some (.cells (cellsU Sha.words) t fr)
theorem Laid.keep{w w' :AbJ}(h:Laid w)(k:Ext w w'):Laid w' :=⟨by obtain⟨t,fr,h1⟩:=h.first;exact⟨t,fr,k.blk' h1⟩,by obtain⟨t,fr,h1⟩:=h.words;exact⟨t,fr,k.blk' h1⟩⟩
theorem Laid.two{w:AbJ}(h:Laid w):1<w.heap.size:=by
 obtain⟨t,fr,h1⟩:=h.words;exact(Ace.1 h1).1
def Yl(v s:List UInt32):Nat->List UInt32
 | 0=>v
 | i+1=>(Yl v s i).set i ((Yl v s i).getD i 0+s.getD i 0)
theorem Yv(v s:List UInt32):∀i,(Yl v s i).length=v.length
 | 0=>rfl
 | i+1=>by simp[Yl,Yv v s i]
theorem Y5(v s:List UInt32)(h:s.length=v.length):∀i j,j<v.length->(Yl v s i).getD j 0=if j<i then v.getD j 0+s.getD j 0 else v.getD j 0
 | 0,j,_=>by simp[Yl]
 | i+1,j,hj=>by
  have ih:=Y5 v s h i;unfold Yl;by_cases hij:i=j
  ·subst hij;have hl:i<(Yl v s i).length:=by rw[Yv];exact hj
   rw[AbN,AeT hl,AcL,ih i hj,if_neg (Nat.lt_irrefl _),if_pos (AfO _)]
  ·rw[AbN,List.getElem?_set_ne hij,<-AbN,ih j hj];by_cases h1:j<i
   ·rw[if_pos h1,if_pos (by omega)]
   ·rw[if_neg h1,if_neg (by omega)]
theorem Zs(v s:List UInt32)(h:s.length=v.length):Yl v s v.length=Sha.added v s:=by
 apply List.ext_getElem (by simp[Yv,Sha.added,h])
 intro j h1 h2;have hj:j<v.length:=by rw[Yv]at h1;exact h1
 have:=Y5 v s h v.length j hj;rw[if_pos hj]at this;have hs:j<s.length:=by omega
 simp[AbN,h1,hj,hs]at this;rw[this];simp[Sha.added]
theorem Zt{v s:List UInt32}{i:Nat}(h:s.length=8)(hv:v.length=8)(h1:i<=8)(h2:¬i<8):Yl v s i=Sha.added v s:=by
 have:=Zs v s (by omega);rw[hv]at this;rw[show i=8 by omega,this]
def F8:List Nat:= [2,6,7,11,13,17,18,19,22,25]
theorem Vq(n:Nat)(hn:n∈F8)(t:AbQ):Go.binOp .and t (.int .u64 (IntKind.u64.wrap (-(n:Int)))) (.int .u64 ((31:Nat):Int))=pure (.int .u64 ((32-n:Nat):Int)):=by
 unfold F8 at hn;simp only[Acy,Adz,or_false]at hn;rcases hn with rfl | rfl | rfl | rfl | rfl | rfl | rfl | rfl | rfl | rfl <;> rfl
theorem Rm{n:Nat}(hn:n∈F8):0<n/\n<32:=by
 unfold F8 at hn;simp only[Acy,Adz,or_false]at hn;omega
theorem Aan{P:Acg}{K:AbI->AbJ->Prop}{ρ:Ac}{w:AbJ}{d:Option Tmp}{ty:AbQ}{pos:String}{af:Array AcI}{gd:Option (Nat × Bool)}{t:AbQ}{x:AbV}{n:Nat}(hn:n∈F8)(hx:Aa ρ x=NI n)(hk:K (.int .i64 (-(n:Int))) w):Yk P K ((execOp (Aa ρ) ⟨d, .unOp .neg t x,ty,pos,af,gd⟩).run P w):=by
 have h:=Rm hn;refine Aa4 (v:= .int .i64 (-(n:Int))) (w' :=w) ?_ hk;have hw:IntKind.i64.wrap (-(n:Int)) = -(n:Int):=by
  simp only[IntKind.wrap,IntKind.bits,IntKind.signed];simp;omega
 unfold execOp;simp[hx,Op.unary,Op.intArith,hw]
theorem Aao{P:Acg}{K:AbI->AbJ->Prop}{ρ:Ac}{w:AbJ}{d:Option Tmp}{ty:AbQ}{pos:String}{af:Array AcI}{gd:Option (Nat × Bool)}{t:AbQ}{x0 x1 x2 x3 x4 x5 x6 x7:AbV}{a b c e f g h i v:AbI}(h0:Aa ρ x0=a)(h1:Aa ρ x1=b)(h2:Aa ρ x2=c)(h3:Aa ρ x3=e)(h4:Aa ρ x4=f)(h5:Aa ρ x5=g)(h6:Aa ρ x6=h)(h7:Aa ρ x7=i)(hr:∀w:AbJ,(AdF t #[(0,a),(1,b),(2,c),(3,e),(4,f),(5,g),(6,h),(7,i)]).run P w = .ok v w)(hk:K v w):Yk P K ((execOp (Aa ρ) ⟨d, .build t #[(0,x0),(1,x1),(2,x2),(3,x3),(4,x4),(5,x5),(6,x6),(7,x7)],ty,pos,af,gd⟩).run P w):=by
 refine Aa4 (v:=v) (w' :=w) ?_ hk;unfold execOp;simp only[Acp,Aco,Acz,h0,h1,h2,h3,h4,h5,h6,h7,AbY,hr,AbU,Ab1]
set_option maxRecDepth 100000
theorem Tk:Tryz.prog.underlying 3=some (.int .i64):=by kernel_rfl
theorem PT:Tryz.prog.underlying 184=some (.int .u64):=by kernel_rfl
theorem PU:Plain AbL 214:=fun _ _=>by kernel_rfl
theorem GL:(Tryz.prog.info? 183).map (·.size)=some 64:=by kernel_rfl
theorem Kk{d:Option Tmp}{ty:AbQ}{pos:String}{af:Array AcI}{gd:Option (Nat × Bool)}(σ:AbV->AbI)(w:AbJ):(execOp σ ⟨d, .alloc 183,ty,pos,af,gd⟩).run AbL w = .ok (.value (PQ w.heap.size 0)) (w.alloc (.cells ((AbX 64 0).map fun x=>U x).toArray 183)):=by kernel_rfl
theorem AF:Tryz.prog.underlying 181=some (.int .u32):=by kernel_rfl
theorem CE:Tryz.prog.underlying 183=some (.array 64 181):=by kernel_rfl
theorem AG:∀w' :AbJ,(sizeOf 181).run AbL w' = .ok 1 w' :=fun _=>by kernel_rfl
theorem GM:(Tryz.prog.info? 181).map (·.size)=some 1:=by kernel_rfl
theorem CF:Plain AbL 176:=fun _ _=>by kernel_rfl
theorem DO:(Tryz.prog.info? 182).map (·.size)=some 8:=by kernel_rfl
theorem Kl{d:Option Tmp}{ty:AbQ}{pos:String}{af:Array AcI}{gd:Option (Nat × Bool)}(σ:AbV->AbI)(w:AbJ):(execOp σ ⟨d, .alloc 182,ty,pos,af,gd⟩).run AbL w = .ok (.value (PQ w.heap.size 0)) (w.alloc (.cells ((AbX 8 0).map fun x=>U x).toArray 182)):=by kernel_rfl
theorem AQ:Tryz.prog.underlying 182=some (.array 8 181):=by kernel_rfl
theorem PV:Plain AbL 175:=fun _ _=>by kernel_rfl
theorem Tl(a b c d e f g h:UInt32)(w:AbJ):(AdF 182 #[(0,U a),(1,U b),(2,U c),(3,U d),(4,U e),(5,U f),(6,U g),(7,U h)]).run AbL w = .ok (.agg (([a,b,c,d,e,f,g,h]:List UInt32).map fun x=>U x).toArray) w:=by kernel_rfl
set_option maxHeartbeats 1600000
theorem Tm(w:AbJ)(x:UInt32)(n:Nat)(hn:n∈F8):
  Calls AbL 214 #[U x, .int .i64 (-(n:Int))] w fun e w' =>e = .returned (U (Sha.rotr x n))/\Ext w w' :=by
 obtain⟨a,b⟩:=Rm hn;refine gG (args:= [U (x),(.int .i64 (-(n:Int)))]) Tryz.func214 rfl 17 rfl rfl ?_;have hE:=AaY w;refine gS (Yt Tk PT rfl rfl (gS (XR (yv:= .int .u64 ((31:Nat):Int)) rfl rfl rfl (Vq n hn _) (gS (XR (yv:= .int .u64 ((32-n:Nat):Int)) rfl rfl rfl (MH _ _ _ (32-n) (by omega)) (gS (XR (xv:= .int .u64 ((32:Nat):Int)) (yv:= .int .u64 ((32-n:Nat):Int)) rfl rfl rfl (Vj _ _ _ (by omega) (by omega)) (gS (XR (yv:= .int .u64 (((32)-(32-n):Nat):Int)) rfl rfl rfl (I1 _ _ _ ((32)-(32-n)) (by omega)) (gS (XR rfl rfl rfl (PG _ _ _) (Bp rfl (vr (U (((x)<<<UInt32.ofNat (32-n))|||((x)>>>UInt32.ofNat ((32)-(32-n))))) rfl) ?_))))))))))));refine⟨?_,hE⟩;unfold Sha.rotr;rw[show 32-(32-n)=n by omega]
theorem Dt(w:AbJ)(x:UInt32)(n:Nat)(hn:n∈F8):
  Calls AbL 176 #[U x,NI n] w fun e w' =>e = .returned (U (Sha.rotr x n))/\Ext w w' :=by
 refine gG (args:= [U (x),NI n]) Tryz.func176 rfl 9 rfl rfl ?_;have hE:=AaY w;refine gS (Aan hn rfl (gS (XS PU rfl rfl ((Tm _ x n hn).mono ?_))));rintro e b ⟨rfl,a⟩;refine⟨_,rfl,?_⟩;refine Bp rfl (vr (U (Sha.rotr (x) n)) rfl) ?_;have hE:=hE.trans a;exact⟨rfl,hE⟩
theorem M8(w:AbJ)(v:AbI)(b:Ah5)(hb:RB w v b)(hl:b.length=64):
  Calls AbL 175 #[v] w fun e w' =>e = .returned (.agg (cellsU (Sha.sched b 64)))/\Ext w w' :=by
 refine gG (args:= [v]) Tryz.func175 rfl 93 rfl rfl ?_;have hE:=AaY w;refine gS (Aa3 Kk fun o p a4 z av a5=> ?_);have c:=z;clear z;have a6:o<p.heap.size:=by omega
 refine gS (Aa3 Kk fun j aw ax aa s a7=> ?_);have f:=AaY p;have hE:=hE.trans av;have ab:=hE.size;have ac:=aa;clear aa;have a8:j<aw.heap.size:=by omega
 have a9:=As (bl c) ax;have c:=eb s c;have hE:=hE.trans s;have f:=f.trans s;refine gL (fun(ρ:Ac) (wz:AbJ)=>∃t:Nat,ρ 0=(v:AbI)/\ρ 2=(PQ o 0:AbI)/\ρ 3=(PQ j 0:AbI)/\ρ 10=(NI t:AbI)/\Ext w wz/\wz.heap[o]? =some (.cells ((AbX 64 0).map fun x=>U x).toArray 183 (0,0))/\Ext p wz/\wz.heap[j]? =some (.cells ((Sha.pad64 (Sha.sched b t)).map fun x=>U x).toArray 183 (0,0))/\(t<=16)/\True) (fun ρ _=>16-(intOf (ρ 10)).toNat) ⟨0,rfl,rfl,rfl,rfl,hE,c,f,AW ac (rfl),by omega,trivial⟩ ?_;clear ac;clear hE c;rintro ay az ⟨t,k,n,g,h,hE,c,f,hb21l,ht_t,-⟩;have q10:=h;have hpl_t:(Sha.pad64 (Sha.sched b t)).length=64:=Sha.pad64_length _ (by rw[Sha.sched_length];omega);obtain⟨Bt,hBt⟩:∃B,B=Sha.pad64 (Sha.sched b t):=⟨_,rfl⟩;have hb21l:az.heap[j]? =some (.cells ((Bt).map fun x=>U x).toArray 183 (0,0)):=AW hb21l (by rw[hBt]);rw[<-hBt]at hpl_t;refine gS (XQ (a:=(t:Nat)) (b:=(16:Nat)) h rfl (AK _ _ _ _) ?_);refine cD rfl (fun ad=> ?_) fun ad=> ?_
 ·refine CA [0,1,2,3,4,5,6,7,8,9,10,11,12,13,14,15,16,17,18,19,20,21,22,23,24,25,26,27,28,29,30,31,32,33,34,35] [35] [] fun ba r=> ?_;have hE:=hE.trans r;have hb21l:=eb r hb21l;refine ys (XR (xv:=NI 4) (yv:=NI t) rfl h rfl (Ci _ _ _ (by omega)) zz) (yA (Yd (l:=b) (i:=(4)*(t)) F7 PO (XV (hb.keep hE) k) rfl (by omega) fun bb ae=>(ys (X4 u5 rfl (Yb ae rfl) zz) (ys (Yk.wide u5 AF rfl zz) (ys (XR rfl rfl rfl (MH _ _ _ 24 (by decide)) zz) (ys (XR (xv:=NI 4) (yv:=NI t) rfl h rfl (Ci _ _ _ (by omega)) zz) (ys (XR (xv:=NI ((4)*(t))) (yv:=NI 1) rfl rfl rfl (Ah _ _ _ (by omega)) zz) (yA (Yd (l:=b) (i:=((4)*(t))+(1)) F7 PO (XV (hb.keep hE) k) rfl (by omega) fun bc af=>(ys (X4 u5 rfl (Yb af rfl) zz) (ys (Yk.wide u5 AF rfl zz) (ys (XR rfl rfl rfl (MH _ _ _ 16 (by decide)) zz) (ys (XR rfl rfl rfl (PG _ _ _) zz) (ys (XR (xv:=NI 4) (yv:=NI t) rfl h rfl (Ci _ _ _ (by omega)) zz) (ys (XR (xv:=NI ((4)*(t))) (yv:=NI 2) rfl rfl rfl (Ah _ _ _ (by omega)) zz) (yA (Yd (l:=b) (i:=((4)*(t))+(2)) F7 PO (XV (hb.keep hE) k) rfl (by omega) fun bd ag=>(ys (X4 u5 rfl (Yb ag rfl) zz) ?_))))))))))))))))));refine ys (Yk.wide u5 AF rfl zz) (ys (XR rfl rfl rfl (MH _ _ _ 8 (by decide)) zz) (ys (XR rfl rfl rfl (PG _ _ _) zz) (ys (XR (xv:=NI 4) (yv:=NI t) rfl h rfl (Ci _ _ _ (by omega)) zz) (ys (XR (xv:=NI ((4)*(t))) (yv:=NI 3) rfl rfl rfl (Ah _ _ _ (by omega)) zz) (yA (Yd (l:=b) (i:=((4)*(t))+(3)) F7 PO (XV (hb.keep hE) k) rfl (by omega) fun be ah=>(ys (X4 u5 rfl (Yb ah rfl) zz) (ys (Yk.wide u5 AF rfl zz) (ys (XR rfl rfl rfl (PG _ _ _) zz) (ys (X3 (i:=t) CE AG g h (by omega) zz) (yC (Y2 (i:=t) (v:=(((((b.getD ((4)*(t)) 0).toUInt32)<<<24)|||(((b.getD (((4)*(t))+(1)) 0).toUInt32)<<<16))|||(((b.getD (((4)*(t))+(2)) 0).toUInt32)<<<8))|||((b.getD (((4)*(t))+(3)) 0).toUInt32)) rfl rfl hb21l (by rw[hpl_t];omega) GM fun a0 ai u bf=> ?_))))))))))));clear ae;clear af;clear ag;clear ah;clear hb21l;have hb21l:=ai;clear ai;have bg:=bl hb21l;have hb21l:a0.heap[j]? =some (.cells ((Sha.pad64 (Sha.sched b (t+1))).map fun x=>U x).toArray 183 (0,0)):=AW hb21l (congrArg (Aeq fun x=>U x) (by rw[hBt];exact Sha.sched_step1 b t ad));have c:=eb r c;have c:=kb u c (by omega);have f:=f.trans r;have f:=Ab f u (AbM (AbO _) (by omega));have hE:=Ab hE u (AbM ab (by omega));refine gS (XR (xv:=NI t) (yv:=NI 1) h rfl rfl (Ah _ _ _ (by omega)) (gK (And.intro ⟨t+1,k,n,g,rfl,hE,c,f,AW hb21l (rfl),by omega,trivial⟩ ?_)));show 16-(intOf (NI ((t)+(1)))).toNat<16-(intOf (ay 10)).toNat;rw[q10];simp only[intOf,Ab0];omega
 refine gL (fun(ρ:Ac) (wz:AbJ)=>∃q:Nat,ρ 0=(v:AbI)/\ρ 2=(PQ o 0:AbI)/\ρ 3=(PQ j 0:AbI)/\ρ 10=(NI t:AbI)/\ρ 5=(NI q:AbI)/\Ext w wz/\wz.heap[o]? =some (.cells ((AbX 64 0).map fun x=>U x).toArray 183 (0,0))/\Ext p wz/\wz.heap[j]? =some (.cells ((Sha.pad64 (Sha.sched b q)).map fun x=>U x).toArray 183 (0,0))/\(q<=64)/\(16<=q)/\True) (fun ρ _=>64-(intOf (ρ 5)).toNat) ⟨16,k,n,g,h,rfl,hE,c,f,AW hb21l (congrArg (Aeq fun x=>U x) (by rw[hBt,show t=16 by omega])),by omega,AbO _,trivial⟩ ?_;clear hb21l;clear hE c f;rintro a1 aj ⟨q,k,n,g,h,m,hE,c,f,hb21ll,ht_q,ht16,-⟩;have q5:=m;have hpl_q:(Sha.pad64 (Sha.sched b q)).length=64:=Sha.pad64_length _ (by rw[Sha.sched_length];omega);obtain⟨Bq,hBq⟩:∃B,B=Sha.pad64 (Sha.sched b q):=⟨_,rfl⟩;have hb21ll:aj.heap[j]? =some (.cells ((Bq).map fun x=>U x).toArray 183 (0,0)):=AW hb21ll (by rw[hBq]);rw[<-hBq]at hpl_q;refine gS (XQ (a:=(q:Nat)) (b:=(64:Nat)) m rfl (AK _ _ _ _) ?_);refine cD rfl (fun ak=> ?_) fun ak=> ?_
 ·refine CA [0,1,2,3,4,5,6,7,8,9] [] [] fun bh al=> ?_;have hb21ll:=eb al hb21ll;refine ys (XR (xv:=NI q) (yv:=NI 15) m rfl rfl (BB _ _ _ (by omega) (by omega)) zz) (ys (X3 (i:=(q)-(15)) CE AG g rfl (by omega) zz) (ys (XP AF rfl rfl (cellAt hb21ll (Bb (i:=(q)-(15)) (by rw[hpl_q];omega))) zz) (ys (XR (xv:=NI q) (yv:=NI 2) m rfl rfl (BB _ _ _ (by omega) (by omega)) zz) (ys (X3 (i:=(q)-(2)) CE AG g rfl (by omega) zz) (ys (XP AF rfl rfl (cellAt hb21ll (Bb (i:=(q)-(2)) (by rw[hpl_q];omega))) zz) (gS (XS CF rfl rfl ((Dt _ ((Bq).getD ((q)-(15)) 0) 7 (by decide)).mono ?_))))))));rintro e bi ⟨rfl,am⟩;refine⟨_,rfl,?_⟩;refine gS (XS CF rfl rfl ((Dt _ ((Bq).getD ((q)-(15)) 0) 18 (by decide)).mono ?_));rintro e bj ⟨rfl,an⟩;refine⟨_,rfl,?_⟩;refine gS (XR rfl rfl rfl (ER _ _ _) (gS (XR rfl rfl rfl (I1 _ _ _ 3 (by decide)) (gS (XR rfl rfl rfl (ER _ _ _) (gS (XS CF rfl rfl ((Dt _ ((Bq).getD ((q)-(2)) 0) 17 (by decide)).mono ?_))))))));rintro e bk ⟨rfl,ao⟩;refine⟨_,rfl,?_⟩;refine gS (XS CF rfl rfl ((Dt _ ((Bq).getD ((q)-(2)) 0) 19 (by decide)).mono ?_));rintro e bm ⟨rfl,ap⟩;refine⟨_,rfl,?_⟩;refine gS (XR rfl rfl rfl (ER _ _ _) (gS (XR rfl rfl rfl (I1 _ _ _ 10 (by decide)) (gS (XR rfl rfl rfl (ER _ _ _) (CA [0,1,2,3,4,5,6,7,8,9,10,11,12,13,14,15] [15] [] fun bn aq=> ?_))))));have hb21ll:=eb ((((am.trans an).trans ao).trans ap).trans aq) hb21ll;refine ys (XR (xv:=NI q) (yv:=NI 7) m rfl rfl (BB _ _ _ (by omega) (by omega)) zz) (ys (X3 (i:=(q)-(7)) CE AG g rfl (by omega) zz) (ys (XP AF rfl rfl (cellAt hb21ll (Bb (i:=(q)-(7)) (by rw[hpl_q];omega))) zz) (ys (XR rfl rfl rfl (EQ _ _ _) zz) (ys (XR rfl rfl rfl (EQ _ _ _) zz) (ys (XR (xv:=NI q) (yv:=NI 16) m rfl rfl (BB _ _ _ (by omega) (by omega)) zz) (ys (X3 (i:=(q)-(16)) CE AG g rfl (by omega) zz) (ys (XP AF rfl rfl (cellAt hb21ll (Bb (i:=(q)-(16)) (by rw[hpl_q];omega))) zz) (ys (XR rfl rfl rfl (EQ _ _ _) zz) (ys (X3 (i:=q) CE AG g m (by omega) zz) (yC (Y2 (i:=q) (v:=(((Sha.high ((Bq).getD ((q)-(2)) 0))+((Bq).getD ((q)-(7)) 0))+(Sha.low ((Bq).getD ((q)-(15)) 0)))+((Bq).getD ((q)-(16)) 0)) rfl rfl hb21ll (by rw[hpl_q];omega) GM fun a2 ar y bo=> ?_)))))))))));clear hb21ll;have hb21ll:=ar;clear ar;have bp:=bl hb21ll;have hb21ll:a2.heap[j]? =some (.cells ((Sha.pad64 (Sha.sched b (q+1))).map fun x=>U x).toArray 183 (0,0)):=AW hb21ll (congrArg (Aeq fun x=>U x) (by rw[hBq];exact Sha.sched_step2 b q ht16 ak));have hZ1:=((((al.trans am).trans an).trans ao).trans ap).trans aq;have hE:=hE.trans hZ1;have hE:=Ab hE y (AbM ab (by omega));have c:=eb hZ1 c;have c:=kb y c (by omega);have f:=f.trans hZ1;have f:=Ab f y (AbM (AbO _) (by omega));refine gS (XR (xv:=NI q) (yv:=NI 1) m rfl rfl (Ah _ _ _ (by omega)) (gK (And.intro ⟨q+1,k,n,g,h,rfl,hE,c,f,AW hb21ll (rfl),by omega,by omega,trivial⟩ ?_)));show 64-(intOf (NI ((q)+(1)))).toNat<64-(intOf (a1 5)).toNat;rw[q5];simp only[intOf,Ab0];omega
 obtain⟨F,hF⟩:∃F,F=Sha.sched b 64:=⟨_,rfl⟩;have hb21ll:aj.heap[j]? =some (.cells ((F).map fun x=>U x).toArray 183 (0,0)):=AW hb21ll (by rw[hBq,show q=64 by omega,<-hF,Sha.pad64_full _ (by rw[hF,Sha.sched_length])]);have hFl:F.length=64:=by rw[hF,Sha.sched_length]
 refine gS (XU g hb21ll CE rfl (by rw[Ab4,Ab9,hFl];exact GL) (gS (XT n (vr (.agg ((F).map fun x=>U x).toArray) rfl) c (by rw[Ab4,Ab4,Ab9,Ab9,hFl];rfl) (by rw[Ab4,Ab9,hFl];exact GL) (EV _) fun bq au a3 br=> ?_)));clear f;clear c;have c:=au;clear au;have bs:=bl c;refine LI rfl (Aa9 n c CE rfl (by rw[Ab4,Ab9,hFl];exact GL)) ?_;rw[hF];have hE:=Ab hE a3 (AbM (AbO _) (by omega));exact⟨rfl,hE⟩
theorem PW(w:AbJ)(hG:Laid w)(s:List UInt32)(hs:s.length=8)(v:AbI)(b:Ah5)(hb:RB w v b)(hl:b.length=64):
  Calls AbL 137 #[.agg (cellsU s),v] w fun e w' =>e = .returned (.agg (cellsU (Sha.rounds s b)))/\Ext w w' :=by
 refine gG (args:= [.agg ((s).map fun x=>U x).toArray,v]) Tryz.func137 rfl 120 rfl rfl ?_;have hE:=AaY w;refine gS (Abh (vr (.agg ((s).map fun x=>U x).toArray) rfl) fun r w3 bp ay ba bq=> ?_);have h:=ay;clear ay;have br:r<w3.heap.size:=by omega
 refine gS (Aa3 Kl fun u ad bb az al bs=> ?_);have f:=AaY w3;have hE:=hE.trans ba;have bc:=hE.size;have j:=az;clear az;have bt:u<ad.heap.size:=by omega
 have bu:=As (bl h) bb;have h:=eb al h;refine gS (XU rfl h AQ rfl (by rw[Ab4,Ab9,hs];exact DO) (gS (Aa3 Kl fun k bd bv a0 am bw=> ?_)));have g:=AaY ad;have hE:=hE.trans al;have f:=f.trans al;have an:=hE.size;have ao:=f.size;have m:=a0;clear a0;have bx:k<bd.heap.size:=by omega
 refine gS (XT (vr (PQ k 0) rfl) (vr (.agg ((s).map fun x=>U x).toArray) rfl) m (by rw[Ab4,Ab4,Ab9,Ab9,hs];rfl) (by rw[Ab4,Ab9,hs];exact DO) (EV _) fun bz a1 ap b0=> ?_);clear m;have m:=a1;clear a1;have b1:=bl m;have hE:=hE.trans am;have hE:=Ab hE ap (AbM an (by omega));refine gS (XX PV rfl ((M8 _ v b (hb.keep hE) hl).mono ?_));rintro e b2 ⟨rfl,ae⟩;refine⟨_,rfl,?_⟩;have g:=g.trans am;have g:=Ab g ap (AbM (AbO _) (by omega));have g:=g.trans ae;have h:=eb g h;have j:=eb g j;have f:=f.trans am;have f:=Ab f ap (AbM ao (by omega));have f:=f.trans ae;have hE:=hE.trans ae;have m:=eb ae m;refine gL (fun(ρ:Ac) (wz:AbJ)=>∃t:Nat,ρ 0=(.agg ((s).map fun x=>U x).toArray:AbI)/\ρ 1=(v:AbI)/\ρ 2=(PQ r 0:AbI)/\ρ 4=(PQ u 0:AbI)/\ρ 5=(PQ k 0:AbI)/\ρ 16=(.agg ((Sha.sched b 64).map fun x=>U x).toArray:AbI)/\ρ 17=(NI t:AbI)/\Ext w wz/\wz.heap[r]? =some (.cells ((s).map fun x=>U x).toArray 182 (0,0))/\Ext w3 wz/\wz.heap[u]? =some (.cells ((AbX 8 0).map fun x=>U x).toArray 182 (0,0))/\Ext ad wz/\wz.heap[k]? =some (.cells (((Sha.turned s (Sha.sched b 64) t)).map fun x=>U x).toArray 182 (0,0))/\(t<=64)/\True) (fun ρ _=>64-(intOf (ρ 17)).toNat) ⟨0,rfl,rfl,rfl,rfl,rfl,rfl,rfl,hE,h,f,j,g,AW m (rfl),Ack _,trivial⟩ ?_;clear m;clear hE h j;rintro be a2 ⟨t,T0,T1,y,o,c,z,n,hE,h,f,j,g,hb36l,ht,-⟩;have q17:=n;obtain⟨V,hV⟩:∃V,V=(Sha.turned s (Sha.sched b 64) t):=⟨_,rfl⟩;have hb36l:a2.heap[k]? =some (.cells ((V).map fun x=>U x).toArray 182 (0,0)):=AW hb36l (by rw[hV]);have hvl:V.length=8:=by rw[hV];exact Sha.turned_length _ _ hs _
 refine gS (XQ (a:=(t:Nat)) (b:=(64:Nat)) n rfl (AK _ _ _ _) ?_);refine cD rfl (fun bf=> ?_) fun bf=> ?_
 ·refine gS (ZW (l:=Sha.sched b 64) (i:=t) CE AF rfl AG z n (by omega) (Sha.sched_length _ _) (DZ [0,1,3,4,7,8,2,5,6,9,10,11] [2,5,9] [3,6,7] [4,8] fun bg a3=> ?_));have ah:=AaY bg;have hb36l:=eb a3 hb36l;refine DS ah ?_;refine ys (X3 (i:=4) AQ AG c rfl (by omega) zz) (ys (XP AF rfl rfl (cellAt hb36l (Bb (i:=4) (by rw[hvl];omega))) zz) (yp (X3 (i:=4) AQ AG c rfl (by omega) zz) (yf (fun _ ⟨hZ,_⟩=>XP AF rfl rfl (cellAt (eb hZ hb36l) (Bb (i:=4) (by rw[hvl];omega))) zz) (yp (X3 (i:=4) AQ AG c rfl (by omega) zz) (yf (fun _ ⟨hZ,_⟩=>XP AF rfl rfl (cellAt (eb hZ hb36l) (Bb (i:=4) (by rw[hvl];omega))) zz) (yE (XS CF rfl rfl ((Dt _ ((V).getD (4) 0) 6 (by decide)).mono ?_))))))));rintro e bh ⟨rfl,aq⟩;refine⟨_,rfl,?_⟩;have ah:=ah.trans aq;refine⟨ah,?_⟩;have ar:=AaY bh;refine yE (XS CF rfl rfl ((Dt _ ((V).getD (4) 0) 11 (by decide)).mono ?_));rintro e b3 ⟨rfl,au⟩;refine⟨_,rfl,?_⟩;have ar:=ar.trans au;refine⟨ar,?_⟩;refine yp (XR rfl rfl rfl (ER _ _ _) zz) (yD rfl (XS CF rfl rfl ((Dt _ ((V).getD (4) 0) 25 (by decide)).mono ?_)));rintro e b4 ⟨rfl,a4⟩;refine⟨_,rfl,?_⟩;have hb36l:=eb ((aq.trans au).trans a4) hb36l;refine ys (XR rfl rfl rfl (ER _ _ _) zz) (gS (X3 (i:=4) AQ AG c rfl (by omega) (gS (XP AF rfl rfl (cellAt hb36l (Bb (i:=4) (by rw[hvl];omega))) (gS (X3 (i:=5) AQ AG c rfl (by omega) (gS (XP AF rfl rfl (cellAt hb36l (Bb (i:=5) (by rw[hvl];omega))) (gS (XR rfl rfl rfl (J8 _ _ _) (gS (X3 (i:=4) AQ AG c rfl (by omega) (gS (XP AF rfl rfl (cellAt hb36l (Bb (i:=4) (by rw[hvl];omega))) (gS (Aax rfl (gS (X3 (i:=6) AQ AG c rfl (by omega) (gS (XP AF rfl rfl (cellAt hb36l (Bb (i:=6) (by rw[hvl];omega))) (gS (XR rfl rfl rfl (J8 _ _ _) (gS (XR rfl rfl rfl (ER _ _ _) (CA [0,1,2,3,4,5,6,7,8,9,10,11,12] [] [] fun b5 a5=> ?_)))))))))))))))))))))))));have hZ1:=(((a3.trans aq).trans au).trans a4).trans a5;have hE:=hE.trans hZ1;have hb36l:=eb a5 hb36l;refine ys (X3 (i:=7) AQ AG c rfl (by omega) zz) (ys (XP AF rfl rfl (cellAt hb36l (Bb (i:=7) (by rw[hvl];omega))) zz) (ys (XR rfl rfl rfl (EQ _ _ _) zz) (ys (XR rfl rfl rfl (EQ _ _ _) zz) (ys (X3 (i:=t) CE AG rfl n (by omega) zz) (ys (XP AF rfl rfl (by obtain⟨tG_,fG_,hG_⟩:=Laid.words (hG.keep hE);exact cellAt (l:=Sha.words.map fun x=>U x) hG_ (Bb (l:=Sha.words) (i:=t) (by show _<64;omega))) zz) (ys (XR rfl rfl rfl (EQ _ _ _) zz) (ys (XR rfl rfl rfl (EQ _ _ _) zz) (DZ [0,1,3,4,7,8,2,5,6,9,10,11] [2,5,9] [3,6,7] [4,8] fun bi av=> ?_))))))));have ai:=AaY bi;have hb36l:=eb av hb36l;refine DS ai ?_;refine ys (X3 (i:=0) AQ AG c rfl (by omega) zz) (ys (XP AF rfl rfl (cellAt hb36l (Bb (i:=0) (by rw[hvl];omega))) zz) (yp (X3 (i:=0) AQ AG c rfl (by omega) zz) (yf (fun _ ⟨hZ,_⟩=>XP AF rfl rfl (cellAt (eb hZ hb36l) (Bb (i:=0) (by rw[hvl];omega))) zz) (yp (X3 (i:=0) AQ AG c rfl (by omega) zz) (yf (fun _ ⟨hZ,_⟩=>XP AF rfl rfl (cellAt (eb hZ hb36l) (Bb (i:=0) (by rw[hvl];omega))) zz) (yE (XS CF rfl rfl ((Dt _ ((V).getD (0) 0) 2 (by decide)).mono ?_))))))));rintro e bj ⟨rfl,aj⟩;refine⟨_,rfl,?_⟩;have ai:=ai.trans aj;refine⟨ai,?_⟩;have aw:=AaY bj;refine yE (XS CF rfl rfl ((Dt _ ((V).getD (0) 0) 13 (by decide)).mono ?_));rintro e b6 ⟨rfl,ak⟩;refine⟨_,rfl,?_⟩;have aw:=aw.trans ak;refine⟨aw,?_⟩;refine yp (XR rfl rfl rfl (ER _ _ _) zz) (yD rfl (XS CF rfl rfl ((Dt _ ((V).getD (0) 0) 22 (by decide)).mono ?_)));rintro e b7 ⟨rfl,ax⟩;refine⟨_,rfl,?_⟩;have hb36l:=eb ((aj.trans ak).trans ax) hb36l;refine ys (XR rfl rfl rfl (ER _ _ _) zz) (gS (X3 (i:=0) AQ AG c rfl (by omega) (gS (XP AF rfl rfl (cellAt hb36l (Bb (i:=0) (by rw[hvl];omega))) (gS (X3 (i:=1) AQ AG c rfl (by omega) (gS (XP AF rfl rfl (cellAt hb36l (Bb (i:=1) (by rw[hvl];omega))) (gS (XR rfl rfl rfl (J8 _ _ _) (gS (X3 (i:=0) AQ AG c rfl (by omega) (gS (XP AF rfl rfl (cellAt hb36l (Bb (i:=0) (by rw[hvl];omega))) (gS (X3 (i:=2) AQ AG c rfl (by omega) (gS (XP AF rfl rfl (cellAt hb36l (Bb (i:=2) (by rw[hvl];omega))) (gS (XR rfl rfl rfl (J8 _ _ _) (gS (XR rfl rfl rfl (ER _ _ _) (gS (X3 (i:=1) AQ AG c rfl (by omega) (gS (XP AF rfl rfl (cellAt hb36l (Bb (i:=1) (by rw[hvl];omega))) (gS (X3 (i:=2) AQ AG c rfl (by omega) (gS (XP AF rfl rfl (cellAt hb36l (Bb (i:=2) (by rw[hvl];omega))) ?_))))))))))))))))))))))))))))));refine gS (XR rfl rfl rfl (J8 _ _ _) (gS (XR rfl rfl rfl (ER _ _ _) (gS (XR rfl rfl rfl (EQ _ _ _) (gS (XR rfl rfl rfl (EQ _ _ _) (gS (X3 (i:=0) AQ AG c rfl (by omega) (gS (XP AF rfl rfl (cellAt hb36l (Bb (i:=0) (by rw[hvl];omega))) (gS (X3 (i:=1) AQ AG c rfl (by omega) (gS (XP AF rfl rfl (cellAt hb36l (Bb (i:=1) (by rw[hvl];omega))) (gS (X3 (i:=2) AQ AG c rfl (by omega) (gS (XP AF rfl rfl (cellAt hb36l (Bb (i:=2) (by rw[hvl];omega))) (gS (X3 (i:=3) AQ AG c rfl (by omega) (gS (XP AF rfl rfl (cellAt hb36l (Bb (i:=3) (by rw[hvl];omega))) (gS (XR rfl rfl rfl (EQ _ _ _) (gS (X3 (i:=4) AQ AG c rfl (by omega) (gS (XP AF rfl rfl (cellAt hb36l (Bb (i:=4) (by rw[hvl];omega))) (gS (X3 (i:=5) AQ AG c rfl (by omega) ?_)))))))))))))))))))))))))))))));refine gS (XP AF rfl rfl (cellAt hb36l (Bb (i:=5) (by rw[hvl];omega))) (gS (X3 (i:=6) AQ AG c rfl (by omega) (gS (XP AF rfl rfl (cellAt hb36l (Bb (i:=6) (by rw[hvl];omega))) (gS (Aao (vr (U ((((((((V).getD (7) 0)+(((Sha.rotr ((V).getD (4) 0) 6)^^^(Sha.rotr ((V).getD (4) 0) 11))^^^(Sha.rotr ((V).getD (4) 0) 25)))+((((V).getD (4) 0)&&&((V).getD (5) 0))^^^((~~~((V).getD (4) 0))&&&((V).getD (6) 0))))+(Sha.words.getD (t) 0))+((Sha.sched b 64).getD (t) 0))+(((Sha.rotr ((V).getD (0) 0) 2)^^^(Sha.rotr ((V).getD (0) 0) 13))^^^(Sha.rotr ((V).getD (0) 0) 22)))+(((((V).getD (0) 0)&&&((V).getD (1) 0))^^^(((V).getD (0) 0)&&&((V).getD (2) 0)))^^^(((V).getD (1) 0)&&&((V).getD (2) 0))))) rfl) (vr (U ((V).getD (0) 0)) rfl) (vr (U ((V).getD (1) 0)) rfl) (vr (U ((V).getD (2) 0)) rfl) (vr (U (((V).getD (3) 0)+((((((V).getD (7) 0)+(((Sha.rotr ((V).getD (4) 0) 6)^^^(Sha.rotr ((V).getD (4) 0) 11))^^^(Sha.rotr ((V).getD (4) 0) 25)))+((((V).getD (4) 0)&&&((V).getD (5) 0))^^^((~~~((V).getD (4) 0))&&&((V).getD (6) 0))))+(Sha.words.getD (t) 0))+((Sha.sched b 64).getD (t) 0)))) rfl) (vr (U ((V).getD (4) 0)) rfl) (vr (U ((V).getD (5) 0)) rfl) (vr (U ((V).getD (6) 0)) rfl) (fun w=>Tl _ _ _ _ _ _ _ _ w) (gS (XT c (vr (.agg ((Sha.round V (Sha.words.getD (t) 0) ((Sha.sched b 64).getD (t) 0)).map fun x=>U x).toArray) rfl) hb36l (by rw[Ab4,Ab4,Ab9,Ab9,hvl];rfl) (DO) (EV _) fun b8 a6 aa b9=> ?_)))))))));clear hb36l;have hb36l:=a6;clear a6;have ca:=bl hb36l;have hZ2:=(((hZ1.trans av).trans aj).trans ak).trans ax;have h:=eb hZ2 h;have h:=kb aa h (by omega);have f:=f.trans hZ2;have f:=Ab f aa (AbM ao (by omega));have j:=eb hZ2 j;have j:=kb aa j (by omega);have g:=g.trans hZ2;have g:=Ab g aa (AbM (AbO _) (by omega));have hE:=hE.trans (((av.trans aj).trans ak).trans ax);have hE:=Ab hE aa (AbM an (by omega));refine gS (XR (xv:=NI t) (yv:=NI 1) n rfl rfl (Ah _ _ _ (by omega)) (gK (And.intro ⟨t+1,T0,T1,y,o,c,z,rfl,hE,h,f,j,g,AW hb36l (congrArg (Aeq fun x=>U x) (by rw[hV];rfl)),by omega,trivial⟩ ?_)));show 64-(intOf (NI ((t)+(1)))).toNat<64-(intOf (be 17)).toNat;rw[q17];simp only[intOf,Ab0];omega
 obtain⟨T,hT⟩:∃T,T=Sha.turned s (Sha.sched b 64) 64:=⟨_,rfl⟩;have hTl:T.length=8:=by rw[hT,Sha.turned_length _ _ hs]
 have hb36l:a2.heap[k]? =some (.cells ((T).map fun x=>U x).toArray 182 (0,0)):=AW hb36l (by rw[hV,show t=64 by omega,<-hT]);refine gL (fun(ρ:Ac) (wz:AbJ)=>∃i:Nat,ρ 0=(.agg ((s).map fun x=>U x).toArray:AbI)/\ρ 1=(v:AbI)/\ρ 2=(PQ r 0:AbI)/\ρ 4=(PQ u 0:AbI)/\ρ 5=(PQ k 0:AbI)/\ρ 16=(.agg ((Sha.sched b 64).map fun x=>U x).toArray:AbI)/\ρ 17=(NI t:AbI)/\ρ 107=(NI i:AbI)/\Ext w wz/\wz.heap[r]? =some (.cells ((s).map fun x=>U x).toArray 182 (0,0))/\Ext w3 wz/\wz.heap[u]? =some (.cells ((AbX 8 0).map fun x=>U x).toArray 182 (0,0))/\Ext ad wz/\wz.heap[k]? =some (.cells ((Yl T s i).map fun x=>U x).toArray 182 (0,0))/\(i<=8)/\True) (fun ρ _=>8-(intOf (ρ 107)).toNat) ⟨0,T0,T1,y,o,c,z,n,rfl,hE,h,f,j,g,AW hb36l (rfl),Ack _,trivial⟩ ?_;clear hb36l;clear hE h f j g;rintro bk bm ⟨i,T0,T1,y,o,c,z,n,p,hE,h,f,j,g,hb36ll,hi,-⟩;have q107:=p;have hal:(Yl T s i).length=8:=by rw[Yv,hTl]
 refine gS (XQ (a:=(i:Nat)) (b:=(8:Nat)) p rfl (AK _ _ _ _) ?_);refine cD rfl (fun a7=> ?_) fun a7=> ?_
 ·refine CA [0,1,2,3,4,5,6,7,8] [8] [] fun cb q=> ?_;have h:=eb q h;have hb36ll:=eb q hb36ll;refine ys (X3 (i:=i) AQ AG c p (by omega) zz) (ys (XP AF rfl rfl (cellAt hb36ll (Bb (i:=i) (by rw[hal];omega))) zz) (ys (X3 (i:=i) AQ AG y p (by omega) zz) (ys (XP AF rfl rfl (cellAt h (Bb (i:=i) (by rw[hs];omega))) zz) (ys (XR rfl rfl rfl (EQ _ _ _) zz) (ys (X3 (i:=i) AQ AG c p (by omega) zz) (yC (Y2 (i:=i) (v:=((Yl T s i).getD (i) 0)+((s).getD (i) 0)) rfl rfl hb36ll (by rw[hal];omega) GM fun bn a8 ab cc=> ?_)))))));clear hb36ll;have hb36ll:=a8;clear a8;have cd:=bl hb36ll;have hb36ll:bn.heap[k]? =some (.cells ((Yl T s (i+1)).map fun x=>U x).toArray 182 (0,0)):=AW hb36ll (rfl);have hE:=hE.trans q;have hE:=Ab hE ab (AbM an (by omega));have f:=f.trans q;have f:=Ab f ab (AbM ao (by omega));have j:=eb q j;have j:=kb ab j (by omega);have g:=g.trans q;have g:=Ab g ab (AbM (AbO _) (by omega));have h:=kb ab h (by omega);refine gS (XR (xv:=NI i) (yv:=NI 1) p rfl rfl (Ah _ _ _ (by omega)) (gK (And.intro ⟨i+1,T0,T1,y,o,c,z,n,rfl,hE,h,f,j,g,AW hb36ll (rfl),by omega,trivial⟩ ?_)));show 8-(intOf (NI ((i)+(1)))).toNat<8-(intOf (bk 107)).toNat;rw[q107];simp only[intOf,Ab0];omega
 obtain⟨Q,hQ⟩:∃Q,Q=Sha.rounds s b:=⟨_,rfl⟩;have hAl:Q.length=8:=by rw[hQ,Sha.rounds_length _ _ hs]
 have hb36ll:bm.heap[k]? =some (.cells ((Q).map fun x=>U x).toArray 182 (0,0)):=AW hb36ll (congrArg (Aeq fun x=>U x) ((Zt hs hTl hi a7).trans (by rw[hQ,hT];rfl)));refine gS (XU c hb36ll AQ rfl (by rw[Ab4,Ab9,hAl];exact DO) (gS (XT o (vr (.agg ((Q).map fun x=>U x).toArray) rfl) j (by rw[Ab4,Ab4,Ab9,Ab9,hAl];rfl) (by rw[Ab4,Ab9,hAl];exact DO) (EV _) fun ce a9 bo cf=> ?_)));clear g;clear j;have j:=a9;clear a9;have cg:=bl j;refine LI rfl (Aa9 o j AQ rfl (by rw[Ab4,Ab9,hAl];exact DO)) ?_;rw[hQ];have hE:=Ab hE bo (AbM bc (by omega));exact⟨rfl,hE⟩
namespace Sha
theorem blocks_snoc:∀(k:Nat) (s:List UInt32) (b:Ah5),blocks s b (k+1)=rounds (blocks s b k) ((b.drop (64*k)).take 64)
 | 0,s,b=>by simp[blocks]
 | k+1,s,b=>by
  rw[blocks,blocks_snoc k,blocks,List.drop_drop];rw[show 64+64*k=64*(k+1) by omega]
theorem blocks_append:∀(k:Nat) (s:List UInt32) (b c:Ah5),64*k<=b.length->blocks s (b++c) k=blocks s b k
 | 0,_,_,_,_=>rfl
 | k+1,s,b,c,h=>by
  rw[blocks,blocks,AeW (by omega),AdN (by omega),blocks_append k _ _ _ (by rw[Ab6];omega)]
structure At (p : Ah5) (s : List UInt32) (r : Ah5) : Prop where
 state:s=blocks first p (p.length/64)
 len:r.length=64
 rest:r.take (p.length%64)=p.drop (64*(p.length/64))
theorem At.slen{p:Ah5}{s:List UInt32}{r:Ah5}(h:At p s r):s.length=8:=by rw[h.state];exact blocks_length _ _ _ rfl
theorem At.put{p:Ah5}{s:List UInt32}{r:Ah5}(h:At p s r)(x:Ah5)(hx:p.length%64+x.length<64):
  At (p++x) s (r.take (p.length%64)++x++r.drop (p.length%64+x.length)):=by
 have hl:(p++x).length=p.length+x.length:=AbP;have hd:(p++x).length/64=p.length/64:=by rw[hl];omega
 have hm:(p++x).length%64=p.length%64+x.length:=by rw[hl];omega
 have hr:=h.len;refine⟨?_,?_,?_⟩
 ·rw[hd,blocks_append _ _ _ _ (by omega)];exact h.state
 ·simp only[AbP,Ab5,Ab6];omega
 ·have e:(r.take (p.length%64)++x).length=p.length%64+x.length:=by rw[AbP,Ab5];omega
  rw[hm,hd,AeW (by omega),AcD (by omega),h.rest,AdN (by omega)]
theorem At.fill{p:Ah5}{s:List UInt32}{r:Ah5}(h:At p s r)(x:Ah5)(hx:p.length%64+x.length=64):
  At (p++x) (rounds s (r.take (p.length%64)++x)) (r.take (p.length%64)++x):=by
 have hl:(p++x).length=p.length+x.length:=AbP;have hd:(p++x).length/64=p.length/64+1:=by rw[hl];omega
 have hm:(p++x).length%64=0:=by rw[hl];omega
 have hr:=h.len;have e:(r.take (p.length%64)++x).length=64:=by rw[AbP,Ab5];omega
 refine⟨?_,e,?_⟩
 ·rw[hd,blocks_snoc,blocks_append _ _ _ _ (by omega),<-h.state,AdN (by omega),<-h.rest];exact congrArg _ (AcD (AhS e)).symm
 ·rw[hm,hd,List.take_zero,AcU (by omega)]
theorem at_nil:At [] first (AbX 64 0):=⟨rfl,by simp,by simp⟩
end Sha
section
variable {P : Acg}
theorem ZI{K:AbI->AbJ->Prop}{ρ:Tmp->AbI}{t e:AbQ}{n:Nat}(ht:P.underlying t=some (.array n e))(he:∀w' :AbJ,(sizeOf e).run P w' = .ok 1 w'){x lo:AbV}{d:Option Tmp}{ty:AbQ}{pos:String}{af:Array AcI}{gd:Option (Nat × Bool)}{w:AbJ}{b o i:Nat}{k:AcK} 
  (hx:Aa ρ x = .pointer (some ⟨b,o,none⟩)) (hl:Aa ρ lo = .int k (i:Int)) (hi:i<n) (hk:K (.slice (some ⟨b,o+i,none⟩) (n-i) (n-i)) w):Yk P K ((execOp (Aa ρ) ⟨d, .slice t x (some lo) none none,ty,pos,af,gd⟩).run P w):=by
 refine Aa4 (v:= .slice (some ⟨b,o+i,none⟩) (n-i) (n-i)) (w' :=w) ?_ hk;have hE:P.elem t=e:=by simp[AeY,ht]
 have hN:P.arrayLen t=n:=by simp[AgJ,ht]
 have hr:=run_sliceAt_array_l (P:=P) (w:=w) (t:=t) (a:=⟨b,o,none⟩) (by rw[hE,hN];exact ht) k (i:Int) (by omega) (by rw[hN];omega);rw[hE,he,hN]at hr;unfold execOp;simp only[hx,hl,Ac3,AdE,AbY,hr,AbU,Ab1];have:n≠i:=by omega
 simp[slicedAt,this,Ade]
theorem O9{w:AbJ}{b:Nat}{l:List AbI}{t:AbQ}{fr:Nat × Nat}(h:w.heap[b]? =some (.cells l.toArray t fr)){i:Nat}{v:AbI}(hi:l[i]? =some v):w.cell? ⟨b,i,none⟩=some v:=by
 simp[World.cell?,h,hi]
end
def hashL(s:List UInt32)(r:Ah5)(f n:Nat):List AbI:=(s.map fun x=>U x)++(AbK r++ [NI f,NI n])
theorem Cr{s:List UInt32}{r:Ah5}{f n:Nat}(hs:s.length=8)(hr:r.length=64):(hashL s r f n).length=74:=by
 simp[hashL,AbK,hs,hr]
theorem Hm{s:List UInt32}{r:Ah5}{f n:Nat}(hs:s.length=8)(hr:r.length=64):(hashL s r f n)[72]? =some (NI f):=by
 unfold hashL;rw[AcA (by simp[hs]),AcA (by simp[AbK,hs,hr])];simp[AbK,hs,hr]
theorem hashL_size{s:List UInt32}{r:Ah5}{f n:Nat}(hs:s.length=8)(hr:r.length=64):(hashL s r f n)[73]? =some (NI n):=by
 unfold hashL;rw[AcA (by simp[hs]),AcA (by simp[AbK,hs,hr])];simp[AbK,hs,hr]
theorem HV{s:List UInt32}{r:Ah5}{f n g:Nat}(hs:s.length=8)(hr:r.length=64):(hashL s r f n).set 72 (NI g)=hashL s r g n:=by
 unfold hashL;rw[Ac9 _ _ (by simp[hs]),Ac9 _ _ (by simp[AbK,hs,hr])];simp[AbK,hs,hr]
theorem HW{s:List UInt32}{r:Ah5}{f n g:Nat}(hs:s.length=8)(hr:r.length=64):(hashL s r f n).set 73 (NI g)=hashL s r f g:=by
 unfold hashL;rw[Ac9 _ _ (by simp[hs]),Ac9 _ _ (by simp[AbK,hs,hr])];simp[AbK,hs,hr]
theorem PX{s:List UInt32}{r x:Ah5}{f n at_:Nat}(hs:s.length=8)(hr:r.length=64)(hx:at_+x.length<=64):
  (hashL s r f n).take (8+at_)++AbK x++(hashL s r f n).drop (8+at_+x.length)=hashL s (r.take at_++x++r.drop (at_+x.length)) f n:=by
 unfold hashL;have h8:(s.map fun x=>U x).length=8:=by simp[hs]
 have hb:(AbK r).length=64:=by simp[AbK,hr]
 rw[AgR,AfP,h8,AcD (by omega),AcU (l:=s.map fun x=>U x) (by omega)];rw[show 8+at_-8=at_ by omega,show 8+at_+x.length-8=at_+x.length by omega,AcO];rw[AeW (by omega),AdN (by omega)];simp[AbK,List.map_take,List.map_drop]
theorem Oy{s s' :List UInt32}{r:Ah5}{f n:Nat}(hs:s.length=8):(s'.map fun x=>U x)++(hashL s r f n).drop 8=hashL s' r f n:=by
 unfold hashL;rw[List.drop_left' (by simp[hs])]
theorem Rn{s:List UInt32}{r:Ah5}{f n:Nat}{j:Nat}{v:AbI}(h:(s.map fun x=>U x)[j]? =some v):(hashL s r f n)[j]? =some v:=by
 unfold hashL;rw[AcG (Acf.1 h).1];exact h
theorem Jk{w:AbJ}{g:Nat}{s:List UInt32}{r:Ah5}{f n:Nat}{t:AbQ}{fr:Nat × Nat}(h:w.heap[g]? =some (.cells (hashL s r f n).toArray t fr)):w.rangeAt g 0 (s.map fun x=>U x):=fun j v hv=>by
 rw[Ac2];exact O9 h (Rn hv)
theorem Vr{w:AbJ}{g:Nat}{s:List UInt32}{r:Ah5}{f n:Nat}{t:AbQ}{fr:Nat × Nat}(hs:s.length=8)(hr:r.length=64)(h:w.heap[g]? =some (.cells (hashL s r f n).toArray t fr)):RB w (.slice (some ⟨g,8,none⟩) 64 64) r:=by
 refine⟨by simp[AbK],some ⟨g,8,none⟩,64,by rw[hr],by rw[hr];exact AbO _,by decide,fun e=>by simp at e,fun a ha j v hv=> ?_⟩;cases ha;rw[Ade];refine O9 h ?_;unfold hashL;have h8:(s.map fun x=>U x).length=8:=by simp[hs]
 rw[AcA (by omega),h8,show 8+j-8=j by omega,AcG (Acf.1 hv).1];exact hv
theorem Laid.kept{w w' :AbJ}(h:Laid w){g:Nat}(hg:w.grownBy w' (some g))(h1:1<g):Laid w' :=
 ⟨by obtain⟨t,fr,h2⟩:=h.first;exact⟨t,fr,(hg.block 0 (Ace.1 h2).1 (by simp;omega)).trans h2⟩,by obtain⟨t,fr,h2⟩:=h.words;exact⟨t,fr,(hg.block 1 (Ace.1 h2).1 (by simp;omega)).trans h2⟩⟩
abbrev AbC:=@Laid.kept
theorem HX{P:Acg}{w:AbJ}:∀(l:Ah5) (a:Addr) (acc:ByteArray),(∀j u,(AbK l)[j]? =some u->w.cell? (a.add j)=some u)->(AfK a l.length acc).run P w = .ok ⟨acc.data++l.toArray⟩ w
 | [],a,acc,_=>by simp[AfK,Ab1]
 | b :: r,a,acc,h=>by
  have h0:=h 0 (B8 b) (by simp[AbK]);have ha:a.add 0=a:=by unfold AdO;split <;> simp_all
  rw[ha]at h0;have ih:=HX (P:=P) (w:=w) r (a.add 1) (acc.push b) (fun j u hj=>by
   rw[F4];refine h (1+j) u ?_;rw[Afu]
   simpa [AbK] using hj)
  have hb:(((b.toNat:Nat):Int)).toNat.toUInt8=b:=by simp
  have hl:(load a).run P w = .ok (B8 b) w:=by simp[load,Sem.run,h0]
  simp only[List.length_cons,AfK,AbY,hl,AbU];rw[hb,ih];simp
theorem Jl{P:Acg}{w:AbJ}{v:AbI}{l:Ah5}(h:RB w v l):(Ae9 v).run P w = .ok ⟨l.toArray⟩ w:=by
 obtain⟨h1,ao,cap,rfl,h2,h3,h4,h5⟩:=h;cases ao with
 | none=>
  have:l= []:=Acv (h4 rfl).1;subst this;rfl
 | some a=>
  have:=HX (P:=P) (w:=w) l a .empty (h5 a rfl)
  simpa [Ae9] using this
theorem MC{P:Acg}{w:AbJ}{x y:AbI}{l m:Ah5}(hx:RB w x l)(hy:RB w y m):(Extern.BytealgCompare.compare #[x,y]).run P w = .ok (.int .i64 (Acd l m)) w:=by
 change Sem.run P (do pure (goInt (Extern.BytealgCompare.cmp (<-Ae9 x) (<-Ae9 y)))) w=_;simp only[AbY,Jl hx,Jl hy,Ab1,AbU];rw[Lib.cmp_eq];rfl
section
variable {P : Acg} {K : AbI -> AbJ -> Prop} {ρ : Ac} {w : AbJ} {d : Option Tmp} {ty : AbQ} {pos : String} {af : Array AcI} {gd : Option (Nat × Bool)}
theorem Z5{f:AdB}{at_:Array AbQ}{x y:AbV}{a b v:AbI}(hx:Aa ρ x=a)(hy:Aa ρ y=b)(hr:(callFunc f #[a,b]).run P w = .ok (.value v) w)(hk:K v w):Yk P K ((execOp (Aa ρ) ⟨d, .call ⟨.value (.func f),#[x,y],at_⟩,ty,pos,af,gd⟩).run P w):=by
 refine Aa4 (v:=v) (w' :=w) ?_ hk;have hf:Aa ρ (.func f) = .func (.func f) #[] #[]:=rfl;unfold execOp;simp[resolve,hf,Deferred.ofValue,invoke,hx,hy,hr]
theorem AaN{t e:AbQ}(hr:∀(z0 z1 z2 z3:Int) (w:AbJ),(Acq t 4 #[(0, .int .u8 z0),(1, .int .u8 z1),(2, .int .u8 z2),(3, .int .u8 z3)]).run P w = .ok (.slice (some ⟨w.heap.size,0,none⟩) 4 4) (w.alloc (.cells #[.int .u8 z0, .int .u8 z1, .int .u8 z2, .int .u8 z3] e))) 
  {x0 x1 x2 x3:AbV} {b0 b1 b2 b3:UInt8} (h0:Aa ρ x0=B8 b0) (h1:Aa ρ x1=B8 b1) (h2:Aa ρ x2=B8 b2) (h3:Aa ρ x3=B8 b3)
  (hk:∀v w',NewB e w w' v [b0,b1,b2,b3]->K v w'):Yk P K ((execOp (Aa ρ) ⟨d, .buildSlice t 4 #[(0,x0),(1,x1),(2,x2),(3,x3)],ty,pos,af,gd⟩).run P w):=by
 have hr' :(execOp (Aa ρ) ⟨d, .buildSlice t 4 #[(0,x0),(1,x1),(2,x2),(3,x3)],ty,pos,af,gd⟩).run P w = .ok (.value (.slice (some ⟨w.heap.size,0,none⟩) 4 4)) (w.alloc (.cells (AbK [b0,b1,b2,b3]).toArray e)):=by
  unfold execOp;simp only[Acp,Aco,Acz,h0,h1,h2,h3,AbY,hr,AbU,Ab1];rfl
 rw[hr'];exact hk _ _ (Hh w e [b0,b1,b2,b3] (by simp))
theorem BC{x y:Ah5}(hx:x.length=32)(hy:y.length=32):(AbK x).toArray.size=(AbK y).toArray.size:=by simp[AbK,hx,hy]
theorem AC{x:Ah5}(h:(AbK x).length=32):x.length=32:=by rwa [AbZ]at h
theorem AaA{g:Nat}{l:Ah5}{t:AbQ}{fr:Nat × Nat}(h:w.heap[g]? =some (.cells (AbK l).toArray t fr))(hl:l.length<=9223372036854775807):RB w (.slice (some ⟨g,0,none⟩) l.length l.length) l:=
 ⟨by simp[AbK],_,_,rfl,AbO _,by unfold maxLen;omega,(fun h=>by cases h),fun a ha j u hu=>by
  cases ha;rw[Ade,Ac2];exact cellAt h hu⟩
theorem YL{g n:Nat}{l:Ah5}{t:AbQ}{fr:Nat × Nat}(h:w.heap[g]? =some (.cells (AbK l).toArray t fr))(hn:l.length=n)(hl:n<=9223372036854775807):RB w (.slice (some ⟨g,0,none⟩) n n) l:=by
 subst hn;exact AaA h hl
end
/-! ### The order of rows of bytes -/
theorem M9:∀a:Ah5,Acd a a=0
 | []=>rfl
 | x :: a=>by simp[Acd,UInt8.lt_irrefl,M9 a]
theorem Ro:∀a b:Ah5,Acd a b = -1\/Acd a b=0\/Acd a b=1
 | [],[]=> .inr (.inl rfl)
 | [],_ :: _=> .inl rfl
 | _ :: _,[]=> .inr (.inr rfl)
 | x :: a,y :: b=>by
  unfold Acd;split
  ·exact .inl rfl
  ·split
   ·exact .inr (.inr rfl)
   ·exact Ro a b
theorem Hn:∀ {a b:Ah5},Acd a b=0->a=b
 | [],[],_=>rfl
 | [],_ :: _,h=>by simp[Acd]at h
 | _ :: _,[],h=>by simp[Acd]at h
 | x :: a,y :: b,h=>by
  unfold Acd at h;split at h
  ·cases h
  ·split at h
   ·cases h
   ·rename_i h1 h2
    have hxy:x=y:=Agx (Afw.1 h2) (Afw.1 h1);rw[hxy,Hn h]
theorem G0:∀a b:Ah5,Acd a b = - Acd b a
 | [],[]=>rfl
 | [],_ :: _=>rfl
 | _ :: _,[]=>rfl
 | x :: a,y :: b=>by
  unfold Acd;by_cases h1:x<y
  ·rw[if_pos h1,if_neg (UInt8.lt_asymm h1),if_pos h1]
  ·by_cases h2:y<x
   ·rw[if_neg h1,if_pos h2,if_pos h2];rfl
   ·rw[if_neg h1,if_neg h2,if_neg h2,if_neg h1];exact G0 a b
theorem Gr:∀ {a b c:Ah5},Acd a b<=0->Acd b c<=0->Acd a c<=0
 | [],_,[],_,_=>by simp[Acd]
 | [],_,_ :: _,_,_=>by simp[Acd]
 | _ :: _,[],_,h,_=>by simp[Acd]at h
 | _ :: _,_ :: _,[],_,h=>by simp[Acd]at h
 | x :: a,y :: b,z :: c,h1,h2=>by
  unfold Acd at h1 h2 ⊢;by_cases xy:x<y
  ·by_cases yz:y<z
   ·rw[if_pos (UInt8.lt_trans xy yz)];decide
   ·by_cases zy:z<y
    ·rw[if_neg yz,if_pos zy]at h2;exact absurd h2 (by decide)
    ·have:y=z:=Agx (Afw.1 zy) (Afw.1 yz);rw[<-this,if_pos xy];decide
  ·by_cases yx:y<x
   ·rw[if_neg xy,if_pos yx]at h1;exact absurd h1 (by decide)
   ·have e:x=y:=Agx (Afw.1 yx) (Afw.1 xy);subst e;rw[if_neg xy,if_neg xy]at h1;by_cases xz:x<z
    ·rw[if_pos xz];decide
    ·by_cases zx:z<x
     ·rw[if_neg xz,if_pos zx]at h2;exact absurd h2 (by decide)
     ·rw[if_neg xz,if_neg zx]at h2 ⊢;exact Gr h1 h2
def C1(l:List Ah5):Prop:=l.Pairwise fun a b=>Acd a b<=0
theorem Na:∀ {l m:List Ah5},C1 l->C1 m->l.Perm m->l=m
 | [],m,_,_,h=>(List.nil_perm.1 h).symm
 | l,[],_,_,h=>List.perm_nil.1 h
 | a :: l,b :: m,h1,h2,h=>by
  have ha:=AcS.1 h1;have hb:=AcS.1 h2;have e:a=b:=by
   have m1:a∈b :: m:=h.subset (by simp);have m2:b∈a :: l:=h.symm.subset (by simp);rcases Acy.1 m1 with e | m1
   ·exact e
   ·rcases Acy.1 m2 with e | m2
    ·exact e.symm
    ·have k1:=hb.1 a m1;have k2:=ha.1 b m2;have k3:=G0 a b;exact Hn (by omega)
  subst e;rw[Na ha.2 hb.2 (List.Perm.cons_inv h)]
def JF(x:Ah5):List Ah5->List Ah5
 | []=> [x]
 | a :: r=>if Acd x a<=0 then x :: a :: r else a :: JF x r
def AJ:List Ah5->List Ah5
 | []=> []
 | a :: r=>JF a (AJ r)
theorem Ii(x:Ah5):∀l,(JF x l).Perm (x :: l)
 | []=>List.Perm.refl _
 | a :: r=>by
  unfold JF;split
  ·exact List.Perm.refl _
  ·exact((Ii x r).cons a).trans (List.Perm.swap x a r)
theorem sortB_perm:∀l,(AJ l).Perm l
 | []=>List.Perm.refl _
 | a :: r=>(Ii a _).trans ((sortB_perm r).cons a)
theorem Nb(x:Ah5):∀l,C1 l->C1 (JF x l)
 | [],_=>by simp[JF,C1]
 | a :: r,h=>by
  have hr:=AcS.1 h;unfold JF;split
  ·rename_i hx
   refine AcS.2 ⟨fun c hc=> ?_,h⟩;rcases Acy.1 hc with rfl | hc
   ·exact hx
   ·exact Gr hx (hr.1 c hc)
  ·rename_i hx
   refine AcS.2 ⟨fun c hc=> ?_,Nb x r hr.2⟩;rcases Acy.1 ((Ii x r).subset hc)with rfl | hc
   ·have:=G0 c a;omega
   ·exact hr.1 c hc
theorem Gs:∀l,C1 (AJ l)
 | []=>List.Pairwise.nil
 | a :: r=>Nb a _ (Gs r)
theorem Gt(l:List Ah5):(AJ l).length=l.length:=(sortB_perm l).length_eq
theorem Rp{l m:List Ah5}(h:C1 m)(hp:m.Perm l):m=AJ l:=Na h (Gs l) (hp.trans (sortB_perm l).symm)
abbrev Bs:=Ah5
def A5(n:Nat):Bs:= [AcP (n/2^24),AcP (n/2^16),AcP (n/2^8),AcP n]
def D5(b:Bs):Nat:=(b.getD 0 0).toNat*2^24+(b.getD 1 0).toNat*2^16+(b.getD 2 0).toNat*2^8+(b.getD 3 0).toNat
theorem Gu(n:Nat):(A5 n).length=4:=rfl
theorem XL(a b c d:Nat)(hb:b<256)(hc:c<256)(hd:d<256):a*2^24|||b*2^16|||c*2^8|||d=a*2^24+b*2^16+c*2^8+d:=by
 have e:a*2^24|||b*2^16=(a*2^8+b)*2^16:=by
  have:=Kf a (b*2^16) 24 (by omega);rw[this];omega
 have f:(a*2^8+b)*2^16|||c*2^8=((a*2^8+b)*2^8+c)*2^8:=by
  have:=Kf (a*2^8+b) (c*2^8) 16 (by omega);rw[this];omega
 rw[e,f,Kf _ d 8 (by omega)];omega
theorem Ho(n:Nat)(h:n<2^32)(r:Bs):D5 (A5 n++r)=n:=by
 unfold D5 A5;simp;omega
def G1(id:Bs):Nat:=(id.getD 0 0).toNat
theorem WD(id:Bs):G1 id<256:=(id.getD 0 0).toNat_lt
def Ba(ids:List Bs):List Nat:=(AcZ 256).map fun c=>ids.countP fun id=>decide (G1 id<=c)
def B4(ids:List Bs):List Nat:=(AcZ 256).map fun c=>ids.countP fun id=>decide (G1 id=c)
theorem BR(ids:List Bs):(Ba ids).length=256:=by simp[Ba]
theorem Cs(ids:List Bs):(B4 ids).length=256:=by simp[B4]
theorem FP(ids:List Bs)(c:Nat)(h:c<256):(B4 ids).getD c 0=ids.countP fun id=>decide (G1 id=c):=by
 rw[AbN];simp[B4,h]
theorem Hp(ids:List Bs)(c:Nat)(h:c<256):(Ba ids).getD c 0=ids.countP fun id=>decide (G1 id<=c):=by
 rw[AbN];simp[Ba,h]
theorem I4(ids:List Bs)(c:Nat):(Ba ids).getD c 0<=ids.length:=by
 by_cases h:c<256
 ·rw[Hp _ _ h];exact Ahh
 ·rw[AbN,AcR (by rw[BR];omega)];simp
theorem Oz(ids:List Bs)(id:Bs):B4 (ids++ [id])=(B4 ids).set (G1 id) ((B4 ids).getD (G1 id) 0+1):=by
 have hb:=WD id
 apply List.ext_getElem?
 intro c;by_cases hc:c<256
 ·rw[AbT (by rw[Cs];exact hc),AbT (by rw[Adq,Cs];exact hc)]
  congr 1
  rw[AgP];have g:∀(l:List Bs) (h:c<(B4 l).length),(B4 l)[c]=l.countP fun id=>decide (G1 id=c):=fun l h=>by simp[B4]
  rw[g];split
  ·rename_i he
   rw[he,FP _ _ hc,List.countP_append];simp[he]
  ·rename_i he
   rw[g,List.countP_append];simp[he]
 ·rw[AcR (by rw[Cs];omega),AcR (by rw[Adq,Cs];omega)]
def BH(ids:List Bs)(k:Nat):List Nat:=(Ba ids).take k++(B4 ids).drop k
theorem Fl(ids:List Bs)(k:Nat)(h:k<=256):(BH ids k).length=256:=by
 unfold BH;rw[AbP,Ab5,Ab6,BR,Cs];omega
theorem Rq(ids:List Bs):(Ba ids).getD 0 0=(B4 ids).getD 0 0:=by
 rw[Hp _ _ (by omega),FP _ _ (by omega)]
 congr 1
 funext id
 simp
theorem fanStep_one(ids:List Bs):BH ids 1=B4 ids:=by
 have h:=Rq ids;have h1:=BR ids;have h2:=Cs ids;unfold BH
 match hA:Ba ids,hB:B4 ids with
 | [],_=>rw[hA]at h1;simp at h1
 | _ :: _,[]=>rw[hB]at h2;simp at h2
 | a :: A,b :: B=>
  rw[hA,hB]at h;simp at h;simp[h]
theorem Rr(ids:List Bs)(c:Nat)(h:c+1<256):(Ba ids).getD (c+1) 0=(B4 ids).getD (c+1) 0+(Ba ids).getD c 0:=by
 rw[Hp _ _ h,FP _ _ h,Hp _ _ (by omega)]
 induction ids with
 | nil=>rfl
 | cons a r ih=>
  simp only[List.countP_cons,ih];by_cases h1:G1 a<=c
  ·simp[h1,show G1 a<=c+1 by omega,show G1 a≠c+1 by omega];omega
  ·by_cases h2:G1 a=c+1
   ·simp[h2,show ¬c+1<=c by omega];omega
   ·simp[h1,h2,show ¬G1 a<=c+1 by omega]
theorem Ij(ids:List Bs)(k:Nat)(h0:0<k)(h:k<256):BH ids (k+1)=(BH ids k).set k ((BH ids k).getD k 0+(BH ids k).getD (k-1) 0):=by
 have g1:(BH ids k).getD k 0=(B4 ids).getD k 0:=by
  unfold BH;rw[AbN,AcA (by rw[Ab5,BR];omega),Ab5,BR,AeM,show k+(k-min k 256)=k by omega,<-AbN]
 have g2:(BH ids k).getD (k-1) 0=(Ba ids).getD (k-1) 0:=by
  unfold BH;rw[AbN,AcG (by rw[Ab5,BR];omega),AdP,if_pos (by omega),<-AbN]
 have g3:=Rr ids (k-1) (by omega);rw[show k-1+1=k by omega]at g3;rw[g1,g2,<-g3];unfold BH;rw[Ac9 _ _ (by rw[Ab5,BR];omega),Ab5,BR,show k-min k 256=0 by omega,Acn (by rw[BR];exact h),Acj]
 congr 1
 rw[Ac1 (l:=B4 ids) (i:=k) (by rw[Cs];exact h)];simp only[Afv,Ae0,List.cons.injEq,and_true];rw[AbN,AbT (by rw[BR];exact h)];rfl
theorem OA(ids:List Bs):BH ids 256=Ba ids:=by
 unfold BH;rw[AcD (by rw[BR];omega),AcU (by rw[Cs];omega),AdG]
theorem Rs{w w0 w' :AbJ}{e:AbQ}{v:AbI}{l:Ah5}(h:w'.ownsRow w0.heap.size e 1 v l.length (AbK l))(hb:w.heap.size<=w0.heap.size):w'.ownsRow w.heap.size e 1 v l.length (AbK l):=BJ h hb
theorem Rt(z0 z1 z2 z3:Int)(w:AbJ):(Acq 27 4 #[(0, .int .u8 z0),(1, .int .u8 z1),(2, .int .u8 z2),(3, .int .u8 z3)]).run AbL w = .ok (.slice (some ⟨w.heap.size,0,none⟩) 4 4) (w.alloc (.cells #[.int .u8 z0, .int .u8 z1, .int .u8 z2, .int .u8 z3] 5)):=by kernel_rfl
theorem Ru(z:Int)(w:AbJ):(Acq 27 1 #[(0, .int .u8 z)]).run AbL w = .ok (.slice (some ⟨w.heap.size,0,none⟩) 1 1) (w.alloc (.cells #[.int .u8 z] 5)):=by kernel_rfl
theorem Rv:Plain AbL 177:=fun _ _=>by kernel_rfl
theorem JG(w0 w:AbJ)(hE:Ext w0 w)(v:AbI)(l:Ah5)(n:Nat)(hn:n<9223372036854775808)(hl:l.length+4<=140737488355328)(hown:w.ownsRow w0.heap.size 5 1 v l.length (AbK l)):
  Calls AbL 146 #[v,NI n] w fun e w' =>∃v',e = .returned v' /\w'.ownsRow w0.heap.size 5 1 v' (l++A5 n).length (AbK (l++A5 n))/\Grew w w' v v' :=by
 refine gG (args:= [v,NI n]) Tryz.func146 rfl 19 rfl rfl (gS (XR (xv:=NI n) (yv:= .int .u64 ((24:Nat):Int)) rfl rfl rfl (Lc _ _ _ _ (by omega)) (gS (Yt Tk u5 rfl (GY ((n)/2^(24))) (gS (XR (xv:=NI n) (yv:= .int .u64 ((16:Nat):Int)) rfl rfl rfl (Lc _ _ _ _ (by omega)) (gS (Yt Tk u5 rfl (GY ((n)/2^(16))) (gS (XR (xv:=NI n) (yv:= .int .u64 ((8:Nat):Int)) rfl rfl rfl (Lc _ _ _ _ (by omega)) (gS (Yt Tk u5 rfl (GY ((n)/2^(8))) (gS (Yt Tk u5 rfl (GY (n)) (gS (AaN (b0:=AcP ((n)/2^(24))) (b1:=AcP ((n)/2^(16))) (b2:=AcP ((n)/2^(8))) (b3:=AcP (n)) Rt (vr (B8 (AcP ((n)/2^(24)))) rfl) (vr (B8 (AcP ((n)/2^(16)))) rfl) (vr (B8 (AcP ((n)/2^(8)))) rfl) (vr (B8 (AcP (n))) rfl) fun g i a=> ?_))))))))))))))));have c:=AaY w;have o:=hE.size;have j:Ae v g:=DF hown a.own;have f:=a.own;have hE:=hE.trans a.ext;have hown:=Aa5 _ _ _ _ _ _ _ _ hown a.ext;refine gS (Yh _ _ w0.heap.size (.int .u8 0) F7 MM rfl F7 (l) (([AcP ((n)/2^(24)),AcP ((n)/2^(16)),AcP ((n)/2^(8)),AcP (n)]:Ah5)) (CV hown (vr v rfl)) (XV (Ya f) (vr g rfl)) (by simp;omega) hE.size fun h k m b=> ?_);have c:=c.trans a.ext;have hGr:=Grew.after c b;have b:Grew i k v h:=b;have hE:=Ao hE b hown (AbO _);have f:=Dr f b j;clear hown;refine Bp rfl (vr h rfl) ?_;exact⟨_,rfl,Dj m rfl,hGr⟩
theorem DP(w:AbJ)(v:AbI)(b:Ah5)(hr:RB w v b)(hl:4<=b.length):
  Calls AbL 127 #[v] w fun e w' =>e = .returned (NI (D5 b))/\Ext w w' :=by
 have c0:(b.getD 0 0).toNat<256:=(b.getD 0 0).toNat_lt;have c1:(b.getD 1 0).toNat<256:=(b.getD 1 0).toNat_lt;have c2:(b.getD 2 0).toNat<256:=(b.getD 2 0).toNat_lt;have c3:(b.getD 3 0).toNat<256:=(b.getD 3 0).toNat_lt;have a:(b.getD 0 0).toNat*2^24<9223372036854775808:=AcE (Ae4 c0 (by decide)) (by decide);have c:(b.getD 1 0).toNat*2^16<9223372036854775808:=AcE (Ae4 c1 (by decide)) (by decide);have f:(b.getD 2 0).toNat*2^8<9223372036854775808:=AcE (Ae4 c2 (by decide)) (by decide);have o:(b.getD 3 0).toNat<9223372036854775808:=by omega
 have g:(b.getD 0 0).toNat*2^24|||(b.getD 1 0).toNat*2^16<9223372036854775808:=Agw (n:=63) a c;have p:(b.getD 0 0).toNat*2^24|||(b.getD 1 0).toNat*2^16|||(b.getD 2 0).toNat*2^8<9223372036854775808:=Agw (n:=63) g f;refine gG (args:= [v]) Tryz.func127 rfl 25 rfl rfl ?_;have hE:=AaY w;refine CA [0,1,2,3,4,5,6,7,8,9,10,11,12,13,14,15,16,17,18,19,20,21,22] [] [] fun r q=> ?_;have hE:=hE.trans q;refine yA (Yd (l:=b) (i:=0) F7 PO (XV (hr.keep hE) rfl) rfl (by omega) fun s h=>(ys (X4 u5 rfl (Yb h rfl) zz) (ys (Yt u5 Tk rfl (Kd .i64 (b.getD (0) 0) (fun n hn=>C4 n (by omega))) zz) (ys (XR (xv:=NI ((b.getD (0) 0).toNat)) (yv:= .int .u64 ((24:Nat):Int)) rfl rfl rfl (I3 _ _ _ _ (by omega) (by exact a)) zz) (yA (Yd (l:=b) (i:=1) F7 PO (XV (hr.keep hE) rfl) rfl (by omega) fun t j=>(ys (X4 u5 rfl (Yb j rfl) zz) (ys (Yt u5 Tk rfl (Kd .i64 (b.getD (1) 0) (fun n hn=>C4 n (by omega))) zz) (ys (XR (xv:=NI ((b.getD (1) 0).toNat)) (yv:= .int .u64 ((16:Nat):Int)) rfl rfl rfl (I3 _ _ _ _ (by omega) (by exact c)) zz) (ys (XR (xv:=NI (((b.getD (0) 0).toNat)*2^(24))) (yv:=NI (((b.getD (1) 0).toNat)*2^(16))) rfl rfl rfl (Ke _ _ _ (by exact a) (by exact c)) zz) (yA (Yd (l:=b) (i:=2) F7 PO (XV (hr.keep hE) rfl) rfl (by omega) fun u k=>(ys (X4 u5 rfl (Yb k rfl) zz) (ys (Yt u5 Tk rfl (Kd .i64 (b.getD (2) 0) (fun n hn=>C4 n (by omega))) zz) (ys (XR (xv:=NI ((b.getD (2) 0).toNat)) (yv:= .int .u64 ((8:Nat):Int)) rfl rfl rfl (I3 _ _ _ _ (by omega) (by exact f)) zz) (ys (XR (xv:=NI ((((b.getD (0) 0).toNat)*2^(24))|||(((b.getD (1) 0).toNat)*2^(16)))) (yv:=NI (((b.getD (2) 0).toNat)*2^(8))) rfl rfl rfl (Ke _ _ _ (by exact g) (by exact f)) zz) (yA (Yd (l:=b) (i:=3) F7 PO (XV (hr.keep hE) rfl) rfl (by omega) fun x m=>(ys (X4 u5 rfl (Yb m rfl) zz) ?_)))))))))))))))))));refine ys (Yt u5 Tk rfl (Kd .i64 (b.getD (3) 0) (fun n hn=>C4 n (by omega))) zz) (ys (XR (xv:=NI (((((b.getD (0) 0).toNat)*2^(24))|||(((b.getD (1) 0).toNat)*2^(16)))|||(((b.getD (2) 0).toNat)*2^(8)))) (yv:=NI ((b.getD (3) 0).toNat)) rfl rfl rfl (Ke _ _ _ (by exact p) (by exact o)) zz) ?_);clear h;clear j;clear k;clear m;refine Bp rfl (vr (NI ((((((b.getD (0) 0).toNat)*2^(24))|||(((b.getD (1) 0).toNat)*2^(16)))|||(((b.getD (2) 0).toNat)*2^(8)))|||((b.getD (3) 0).toNat))) rfl) ?_;exact⟨by rw[show D5 b=_ from(XL _ _ _ _ (b.getD 1 0).toNat_lt (b.getD 2 0).toNat_lt (b.getD 3 0).toNat_lt).symm],hE⟩
theorem Rw(w:AbJ)(n:Nat)(hn:n<=9223372036854775807):
  Calls AbL 143 #[NI n] w fun e w' =>∃v,e = .returned v/\w'.ownsRow w.heap.size 5 1 v (80 :: Ab3 n).length (AbK (80 :: Ab3 n))/\Ext w w' :=by
 refine gG (args:= [NI n]) Tryz.func143 rfl 12 rfl rfl ?_;have hE:=AaY w;refine gS (YW (b:=80) Ru (vr (B8 (80)) rfl) fun g j c=> ?_);have h:=c.own;refine gS (XS Rv rfl rfl ((O7 _ g ([(80:UInt8)]) (Ya h) (by simp) n (by omega)).mono ?_));rintro e k ⟨a,rfl,f⟩;refine⟨_,rfl,?_⟩;have hE:=hE.trans c.ext;have l:=hE.size;have i:=f.own;refine gS (AaZ (vs:= [a,NI 0]) rfl rfl (gS (AaZ (vs:= [a,NI 0]) rfl rfl (Bp rfl (vr a rfl) ?_))));have hE:=hE.trans f.ext;exact⟨_,rfl,Rs i (by omega),hE⟩
section
variable {P : Acg} {K : AbI -> AbJ -> Prop} {ρ : Ac} {w : AbJ} {d : Option Tmp} {ty : AbQ} {pos : String} {af : Array AcI} {gd : Option (Nat × Bool)}
variable {α β : Type} {ek : α -> AbI} {ev : β -> AbI} {D : α -> Prop} {b : Nat} {G : α -> Option β}
variable {t Kt E : AbQ} {OK : AbI -> Prop}
theorem Zk(L:KL P Kt OK)(hD:∀a,D a->OK (ek a))(hi:∀a c,ek a=ek c->a=c)(ht:P.underlying t=some (.map Kt E)){z:AbI}(hz:∀u:AbJ,(zeroValue E).run P u = .ok z u){x y:AbV}{a:α} 
  (hm:Aa ρ x = .map (some b)) (hy:Aa ρ y=ek a) (h:MapF ek ev D w b G) (ha:D a) (hk:K ((G a).elim z ev) w):
  Yk P K ((execOp (Aa ρ) ⟨d, .lookup t x y false,ty,pos,af,gd⟩).run P w):=by
 have hrun:=h.look L hD hi ht hz ha false;refine Aa4 (v:=(G a).elim z ev) (w' :=w) ?_ hk;unfold execOp;simp only[hm,hy,AbY,hrun,AbU,Ab1];rfl
theorem Zw(L:KL P Kt OK)(hD:∀a,D a->OK (ek a))(hi:∀a c,ek a=ek c->a=c)(ht:P.underlying t=some (.map Kt E)){z:AbI}(hz:∀u:AbJ,(zeroValue E).run P u = .ok z u){x y:AbV}{a:α} 
  (hm:Aa ρ x = .map (some b)) (hy:Aa ρ y=ek a) (h:MapF ek ev D w b G) (ha:D a) (hk:K (.tuple #[(G a).elim z ev, .bool (G a).isSome]) w):
  Yk P K ((execOp (Aa ρ) ⟨d, .lookup t x y true,ty,pos,af,gd⟩).run P w):=by
 have hrun:=h.look L hD hi ht hz ha true;refine Aa4 (v:= .tuple #[(G a).elim z ev, .bool (G a).isSome]) (w' :=w) ?_ hk;unfold execOp;simp only[hm,hy,AbY,hrun,AbU,Ab1];rfl
theorem YG[DecidableEq α](L:KL P Kt OK)(hD:∀a,D a->OK (ek a))(ht:P.underlying t=some (.map Kt E)){x y z:AbV}{a:α}{c:β} 
  (hm:Aa ρ x = .map (some b)) (hy:Aa ρ y=ek a) (hz:Aa ρ z=ev c) (h:MapF ek ev D w b G) (ha:D a) (hk:∀w',MapF ek ev D w' b (updM G a (some c))->w.grownBy w' (some b)->w'.heap.size=w.heap.size->K undef w'):
  Yk P K ((execOp (Aa ρ) ⟨d, .mapUpdate t x y z,ty,pos,af,gd⟩).run P w):=by
 obtain⟨w',hrun,h1,h2,h3⟩:=h.put L hD ht ha c;have hr:(execOp (Aa ρ) ⟨d, .mapUpdate t x y z,ty,pos,af,gd⟩).run P w = .ok .skip w' \/(execOp (Aa ρ) ⟨d, .mapUpdate t x y z,ty,pos,af,gd⟩).run P w = .ok (.value undef) w' :=by
  unfold execOp;simp only[hm,hy,hz,AbY,hrun,AbU,Ab1];simp
 rcases hr with hr | hr <;> rw[hr] <;> exact hk w' h1 h2 h3
theorem Zu[DecidableEq α](L:KL P Kt OK)(hD:∀a,D a->OK (ek a))(hi:∀a c,ek a=ek c->a=c)(ht:P.underlying t=some (.map Kt E)){x y:AbV}{a:α} 
  (hm:Aa ρ x = .map (some b)) (hy:Aa ρ y=ek a) (h:MapF ek ev D w b G) (ha:D a) (hk:∀w',MapF ek ev D w' b (updM G a none)->w.grownBy w' (some b)->w'.heap.size=w.heap.size->K (.tuple #[]) w'):
  Yk P K ((execOp (Aa ρ) ⟨d, .call ⟨.builtin .delete,#[x,y],#[t,Kt]⟩,ty,pos,af,gd⟩).run P w):=by
 obtain⟨w',hrun,h1,h2,h3⟩:=h.del L hD hi ht (ty:=ty) ha;refine Aa4 (v:= .tuple #[]) (w' :=w') ?_ (hk w' h1 h2 h3);unfold execOp;simp only[resolve,invoke,builtin,AbY,Ab1,AbU,Acp,Aco,Acz,hm,hy,hrun]
theorem YJ(ek:α->AbI)(ev:β->AbI)(D:α->Prop)(hk:∀g w',w.heap.size=g->MapF ek ev D w' g (fun _=>none)->Ext w w' ->w'.heap.size=g+1->K (.map (some g)) w'):
  Yk P K ((execOp (Aa ρ) ⟨d, .makeMap t none,ty,pos,af,gd⟩).run P w):=by
 refine Aa4 (v:= .map (some w.heap.size)) (w' :=w.alloc (.map #[] 0)) ?_ (hk _ _ rfl (Aam ek ev D w) ((AcB _ _).alloc (AbO _) _) (by simp));unfold execOp;simp[Instr.makeMap,newObj,AcF];rfl
theorem Yw(L:KL P Kt OK)(hD:∀a,D a->OK (ek a))(hi:∀a c,ek a=ek c->a=c)(ht:P.underlying t=some (.map Kt E)){z:AbI}(hz:∀u:AbJ,(zeroValue E).run P u = .ok z u){x y:AbV}{a:α}{c:β} 
  (hm:Aa ρ x = .map (some b)) (hy:Aa ρ y=ek a) (h:MapF ek ev D w b G) (ha:D a) (hG:G a=some c) (hk:K (.tuple #[ev c, .bool true]) w):Yk P K ((execOp (Aa ρ) ⟨d, .lookup t x y true,ty,pos,af,gd⟩).run P w):=
 Zw L hD hi ht hz hm hy h ha (by rw[hG];exact hk)
theorem YC(L:KL P Kt OK)(hD:∀a,D a->OK (ek a))(hi:∀a c,ek a=ek c->a=c)(ht:P.underlying t=some (.map Kt E)){z:AbI}(hz:∀u:AbJ,(zeroValue E).run P u = .ok z u){x y:AbV}{a:α} 
  (hm:Aa ρ x = .map (some b)) (hy:Aa ρ y=ek a) (h:MapF ek ev D w b G) (ha:D a) (hG:G a=none) (hk:K (.tuple #[z, .bool false]) w):Yk P K ((execOp (Aa ρ) ⟨d, .lookup t x y true,ty,pos,af,gd⟩).run P w):=
 Zw L hD hi ht hz hm hy h ha (by rw[hG];exact hk)
theorem YM(L:KL P Kt OK)(hD:∀a,D a->OK (ek a))(hi:∀a c,ek a=ek c->a=c)(ht:P.underlying t=some (.map Kt E)){z:AbI}(hz:∀u:AbJ,(zeroValue E).run P u = .ok z u){x y:AbV}{a:α}{c:β} 
  (hm:Aa ρ x = .map (some b)) (hy:Aa ρ y=ek a) (h:MapF ek ev D w b G) (ha:D a) (hG:G a=some c) (hk:K (ev c) w):Yk P K ((execOp (Aa ρ) ⟨d, .lookup t x y false,ty,pos,af,gd⟩).run P w):=
 Zk L hD hi ht hz hm hy h ha (by rw[hG];exact hk)
theorem Za(L:KL P Kt OK)(hD:∀a,D a->OK (ek a))(hi:∀a c,ek a=ek c->a=c)(ht:P.underlying t=some (.map Kt E)){z:AbI}(hz:∀u:AbJ,(zeroValue E).run P u = .ok z u){x y:AbV}{a:α} 
  (hm:Aa ρ x = .map (some b)) (hy:Aa ρ y=ek a) (h:MapF ek ev D w b G) (ha:D a) (hG:G a=none) (hk:K z w):Yk P K ((execOp (Aa ρ) ⟨d, .lookup t x y false,ty,pos,af,gd⟩).run P w):=
 Zk L hD hi ht hz hm hy h ha (by rw[hG];exact hk)
theorem Yk.build{parts:Array (Nat × AbV)}{vs:Array (Nat × AbI)}{v:AbI}(hv:(parts.map fun(i,x)=>(i,Aa ρ x))=vs)(hr:∀w:AbJ,(AdF t vs).run P w = .ok v w)(hk:K v w):
  Yk P K ((execOp (Aa ρ) ⟨d, .build t parts,ty,pos,af,gd⟩).run P w):=by
 refine Aa4 (v:=v) (w' :=w) ?_ hk;unfold execOp;simp only[hv,hr,AbY,AbU,Ab1]
theorem Zb{i0:Nat}{x0:AbV}{a v:AbI}(h0:Aa ρ x0=a)(hr:∀w:AbJ,(AdF t #[(i0,a)]).run P w = .ok v w)(hk:K v w):Yk P K ((execOp (Aa ρ) ⟨d, .build t #[(i0,x0)],ty,pos,af,gd⟩).run P w):=
 Yk.build (by simp[h0]) hr hk
theorem YD{i0 i1:Nat}{x0 x1:AbV}{a b v:AbI}(h0:Aa ρ x0=a)(h1:Aa ρ x1=b)(hr:∀w:AbJ,(AdF t #[(i0,a),(i1,b)]).run P w = .ok v w)(hk:K v w):Yk P K ((execOp (Aa ρ) ⟨d, .build t #[(i0,x0),(i1,x1)],ty,pos,af,gd⟩).run P w):=
 Yk.build (by simp[h0,h1]) hr hk
theorem RG.slice{k:Nat}{enc:α->List AbI}{v:AbI}{l:List α}(h:RG k enc w v l):∃ao n c,v = .slice ao n c:=by
 obtain⟨ao,c,rfl⟩:=h.len;exact⟨ao,_,c,rfl⟩
theorem Z6{fs}(hu:P.underlying t=some (.struct fs)){x:AbV}{v:AbI}(hx:Aa ρ x=v)(hk:K (.iface t v) w):Yk P K ((execOp (Aa ρ) ⟨d, .makeInterface t x,ty,pos,af,gd⟩).run P w):=by
 refine Aa4 (v:= .iface t v) (w' :=w) ?_ hk;unfold execOp;simp[Instr.makeInterface,hx,run_underlying hu,AcF]
theorem Yu{k:Nat}{enc:α->List AbI}{e:AbQ}{x:AbV}{a:α}(hx:Aa ρ x = .agg (enc a).toArray)(hl:(enc a).length=k) 
  (hr:∀(cs:Array AbI),cs.size=k->∀w:AbJ,(Acq t 1 #[(0, .agg cs)]).run P w = .ok (.slice (some ⟨w.heap.size,0,none⟩) 1 1) (w.alloc (.cells cs e)))
  (hk:∀v w',RG k enc w' v [a]->Ext w w' ->K v w'):Yk P K ((execOp (Aa ρ) ⟨d, .buildSlice t 1 #[(0,x)],ty,pos,af,gd⟩).run P w):=by
 have hE:Ext w (w.alloc (.cells (enc a).toArray e)):=(AcB _ _).alloc (AbO _) _;refine Aa4 (v:= .slice (some ⟨w.heap.size,0,none⟩) 1 1) (w' :=w.alloc (.cells (enc a).toArray e)) ?_ (hk _ _ (Aak hl (heap_alloc_new w _)) hE);unfold execOp;simp only[Acp,Aco,Acz,hx,AbY,hr _ (show(enc a).toArray.size=k by rw[Ab4];exact hl),AbU,Ab1]
theorem RG.elem{k:Nat}{enc:α->List AbI}{v:AbI}{l:List α}(h:RG k enc w v l)(dd:α){i:Nat}(hi:i<l.length):(enc (l.getD i dd)).length=k:=by
 refine h.1 _ ?_;rw[AbN,AbT hi];exact Adu hi
abbrev Aa6:=@RG.elem
theorem RG.cut{k:Nat}{enc:α->List AbI}{v:AbI}{l:List α}(h:∀x∈l,(enc x).length=k){a c:Nat}(ha:a<=c)(hc:c<=l.length)(hR:Reads w k v (c-a) (((l.flatMap enc).drop (a*k)).take ((c-a)*k))):RG k enc w v ((l.drop a).take (c-a)):=by
 have hd:∀(l:List α) (n:Nat),(∀x∈l,(enc x).length=k)->(l.flatMap enc).drop (n*k)=(l.drop n).flatMap enc:=by
  intro l n
  induction n generalizing l with
  | zero=>intro _;simp
  | succ n ih=>
   intro h;cases l with
   | nil=>simp
   | cons x r=>
    have hx:=h x (by simp);rw[AcJ,AeE,<-ih r (fun y hy=>h y (by simp[hy])),show(n+1)*k=(enc x).length+n*k by rw[hx,Aee];omega,AfP,AcU (by omega),AdT,AcO]
 have htk:∀(l:List α) (n:Nat),(∀x∈l,(enc x).length=k)->(l.flatMap enc).take (n*k)=(l.take n).flatMap enc:=by
  intro l n
  induction n generalizing l with
  | zero=>intro _;simp
  | succ n ih=>
   intro h;cases l with
   | nil=>simp
   | cons x r=>
    have hx:=h x (by simp);rw[AcJ,List.take_succ_cons,AcJ,<-ih r (fun y hy=>h y (by simp[hy])),show(n+1)*k=(enc x).length+n*k by rw[hx,Aee];omega,AgR,AcD (by omega),AdT]
 refine⟨fun x hx=>h x (Ahq (List.mem_of_mem_take hx)),?_⟩;rw[hd l a h,htk _ _ (fun x hx=>h x (Ahq hx))]at hR;rw[show((l.drop a).take (c-a)).length=c-a by rw[Ab5,Ab6];omega];exact hR
theorem F9{l:List Nat}{i:Nat}(hi:i<l.length):(l.map fun x=>NI x)[i]? =some (NI (l.getD i 0)):=by simp[hi]
theorem PY(l:List Nat):∀v∈(l.map fun x=>NI x),v.oneCell' =true:=by
 intro v hv;obtain⟨_,_,rfl⟩:=Acw.1 hv;rfl
theorem Zc{t' :AbQ}{x y:AbV}{g i:Nat}{l:List Nat}{t:AbQ}{v:Nat}(hx:Aa ρ x = .pointer (some ⟨g,i,none⟩))(hy:Aa ρ y=NI v)(hg:w.heap[g]? =some (.cells (l.map fun x=>NI x).toArray t (0,0)))(hi:i<l.length)(hz:(P.info? t').map (·.size)=some 1) 
  (hk:∀w',w'.heap[g]? =some (.cells ((l.set i v).map fun x=>NI x).toArray t (0,0))->w.grownBy w' (some g)->w'.heap.size=w.heap.size->K undef w'):Yk P K ((execOp (Aa ρ) ⟨d, .store t' x y,ty,pos,af,gd⟩).run P w):=
 X5 hx hy hg (by simpa using hi) hz rfl rfl fun w' h1 h2 h3=>hk w' (by rw[AgL];exact h1) h2 h3
theorem ZX{xType e:AbQ}{n:Nat}(ht:P.underlying xType=some (.array n e)){de:TypeDesc}(he:P.underlying e=some de)(hd:(match de with | .struct _ | .array _ _=>false | _=>true)=true)(hs:∀w' :AbJ,(sizeOf e).run P w' = .ok 1 w'){x y:AbV}{l:List Nat}{i:Nat}{k:AcK} 
  (hx:Aa ρ x = .agg (l.map fun x=>NI x).toArray) (hy:Aa ρ y = .int k (i:Int)) (hi:i<n) (hl:l.length=n) (hk:K (NI (l.getD i 0)) w):Yk P K ((execOp (Aa ρ) ⟨d, .index xType x y,ty,pos,af,gd⟩).run P w):=
 Zr ht he hd hs hx hy hi (F9 (by omega)) hk
theorem Aap{f:AdB}(hp:Plain P f){x0:AbV}{a:AbI}{at_:Array AbQ}{J:List PanicEntry->AbJ->Prop}(h0:Aa ρ x0=a) 
  (h:Calls P f #[a] w fun e w' =>match e with | .returned v=>K v w' | .panicked ch=>J ch w' | .outgrown=>False):Yp P K J ((execOp (Aa ρ) ⟨d, .call ⟨.value (.func f),#[x0],at_⟩,ty,pos,af,gd⟩).run P w):=
 Yp.call hp [a] (by simp[h0]) h
theorem X8{f:AdB}(hp:Plain P f){x0 x1:AbV}{a b:AbI}{at_:Array AbQ}{J:List PanicEntry->AbJ->Prop}(h0:Aa ρ x0=a)(h1:Aa ρ x1=b) 
  (h:Calls P f #[a,b] w fun e w' =>match e with | .returned v=>K v w' | .panicked ch=>J ch w' | .outgrown=>False):Yp P K J ((execOp (Aa ρ) ⟨d, .call ⟨.value (.func f),#[x0,x1],at_⟩,ty,pos,af,gd⟩).run P w):=
 Yp.call hp [a,b] (by simp[h0,h1]) h
theorem Zx{f:AdB}(hp:Plain P f){x0 x1 x2:AbV}{a b c:AbI}{at_:Array AbQ}{J:List PanicEntry->AbJ->Prop}(h0:Aa ρ x0=a)(h1:Aa ρ x1=b)(h2:Aa ρ x2=c) 
  (h:Calls P f #[a,b,c] w fun e w' =>match e with | .returned v=>K v w' | .panicked ch=>J ch w' | .outgrown=>False):Yp P K J ((execOp (Aa ρ) ⟨d, .call ⟨.value (.func f),#[x0,x1,x2],at_⟩,ty,pos,af,gd⟩).run P w):=
 Yp.call hp [a,b,c] (by simp[h0,h1,h2]) h
theorem Aaq{f:AdB}(hp:Plain P f){x0 x1 x2 x3:AbV}{a b c g:AbI}{at_:Array AbQ}{J:List PanicEntry->AbJ->Prop}(h0:Aa ρ x0=a)(h1:Aa ρ x1=b)(h2:Aa ρ x2=c)(h3:Aa ρ x3=g) 
  (h:Calls P f #[a,b,c,g] w fun e w' =>match e with | .returned v=>K v w' | .panicked ch=>J ch w' | .outgrown=>False):Yp P K J ((execOp (Aa ρ) ⟨d, .call ⟨.value (.func f),#[x0,x1,x2,x3],at_⟩,ty,pos,af,gd⟩).run P w):=
 Yp.call hp [a,b,c,g] (by simp[h0,h1,h2,h3]) h
end
open Go.ChangeMaps (setBlock heap_setBlock_same heap_setBlock_other)
def rk(r:Ah5):AbI:= .agg (AbK r).toArray
theorem B9{r s:Ah5}(h:rk r=rk s):r=s:=by
 unfold rk at h;injection h with h
 have h2:AbK r=AbK s:=List.toArray_inj h;unfold AbK at h2;exact(List.map_inj_right (fun a b hab=>by injection hab with _ h3;exact UInt8.toNat_inj.1 (by omega))).1 h2
theorem Pa{α β:Type}{f:α->Option β}:∀ {l:List α},(∀x∈l,∃y,f x=some y)->∃ys,l.mapM f=some ys
 | [],_=>⟨[],rfl⟩
 | x :: l,h=>by
  obtain⟨y,hy⟩:=h x (by simp);obtain⟨ys,hys⟩:=Pa (l:=l) (fun z hz=>h z (by simp[hz]));exact⟨y :: ys,by simp[List.mapM_cons,hy,hys]⟩
theorem LJ{P:Acg}{k e:AbQ}{n:Nat}(hu:P.underlying k=some (.array n e))(he:P.underlying e=some (.int .u8))(hc:P.cellsOf e=1)(hn:P.cellsOf k=n)(hk:P.keyType k=true)(hsz:0<P.types.size){r:Ah5}(hr:r.length=n):∃l,keyOf P k (rk r)=some l:=by
 have hf:(rk r).formed P k=true:=by simp[rk,Value.formed,hu,hn,hr,AbK]
 have hl:∀i∈AcZ n,∃y,P.keyLits P.types.size e (((AbK r).drop (i*P.cellsOf e)).take (P.cellsOf e))=some y:=fun i hi=>by
  have hi' :i<r.length:=by rw[hr];simpa using hi
  have h1:((AbK r).drop (i*P.cellsOf e)).take (P.cellsOf e)= [Value.int .u8 ((r[i]).toNat:Int)]:=by
   rw[hc,Nat.mul_one];simp[AbK,hi',List.take_one,List.head?_drop]
  have hw:(Lit.int .u8 ((r[i]).toNat:Int)).wf=true:=by
   have:=(r[i]).toNat_lt;simp[Lit.wf,IntKind.min,IntKind.max,IntKind.signed,IntKind.bits];omega
  rw[h1];obtain⟨m,hm⟩:∃m,P.types.size=m+1:=⟨P.types.size-1,by omega⟩;rw[hm];exact⟨[.int .u8 ((r[i]).toNat:Int)],by simp[Program.keyLits,he,hw]⟩
 obtain⟨ys,hys⟩:=Pa hl;refine⟨.string (keyBytes ys.flatten),?_⟩
 ·unfold keyOf;simp only[hu];rw[if_pos (by simp[hk,hf])];unfold Program.keyLits;simp only[hu,rk,Aff];rw[if_pos (by rw[hn];simp[AbK,hr]),hys];rfl
def EntAt(w:AbJ)(base:Nat)(I:AbQ)(G:Ah5->List Nat)(e:Adv):Prop:=∃r,r.length=8/\e.key=rk r/\G r≠ []/\w.ownsRow base I 1 e.val (G r).length ((G r).map NI)
structure IdxIn (w : AbJ) (base : Nat) (I : AbQ) (G : Ah5 -> List Nat) (es : List Adv) (clock : Nat) : Prop where
 born:∀e∈es,e.born<clock
 nodup:(es.map (·.born)).Nodup
 keys:(es.map (·.key)).Nodup
 ent:∀e∈es,EntAt w base I G e
 all:∀r,r.length=8->G r≠ []->∃e∈es,e.key=rk r
 apart:es.Pairwise fun e f=>Ae e.val f.val/\Ae f.val e.val
def IdxAt(w:AbJ)(b base:Nat)(I:AbQ)(G:Ah5->List Nat):Prop:=b<base/\∃es clock,w.heap[b]? =some (.map es.toArray clock)/\IdxIn w base I G es clock
section
variable {P : Acg} {w w' : AbJ} {b base : Nat} {I : AbQ} {G : Ah5 -> List Nat}
theorem EntAt.keep{e:Adv}(h:EntAt w base I G e)(k:Ext w w'):EntAt w' base I G e:=by
 obtain⟨r,h1,h2,h3,h4⟩:=h;exact⟨r,h1,h2,h3,Aa5 _ _ _ _ _ _ _ _ h4 k⟩
theorem IdxIn.keep{es:List Adv}{c:Nat}(h:IdxIn w base I G es c)(k:Ext w w'):IdxIn w' base I G es c:=
 ⟨h.born,h.nodup,h.keys,fun e he=>(h.ent e he).keep k,h.all,h.apart⟩
theorem IdxAt.keep(h:IdxAt w b base I G)(k:Ext w w'):IdxAt w' b base I G:=by
 obtain⟨h1,es,c,h2,h3⟩:=h;exact⟨h1,es,c,Abk k h2,h3.keep k⟩
theorem IdxAt.lt(h:IdxAt w b base I G):b<w.heap.size:=by
 obtain⟨h1,es,c,h2,h3⟩:=h;exact(Ace.1 h2).1
theorem Z7(w:AbJ):IdxAt (w.alloc (.map #[] 0)) w.heap.size (w.heap.size+1) I (fun _=> []):=
 ⟨AfO _,[],0,heap_alloc_new w _,by simp,by simp,by simp,by simp,fun r _ h=>absurd rfl h,by simp⟩
structure WE (w : AbJ) (base : Nat) (I : AbQ) (G : Ah5 -> List Nat) (r : Ah5) (v : AbI) (l1 : List Adv) (e0 : Adv) (l2 : List Adv) (clock : Nat) : Prop where
 key:e0.key=rk r
 born:∀e∈l1++e0 :: l2,e.born<clock
 nodup:((l1++e0 :: l2).map (·.born)).Nodup
 keys:((l1++e0 :: l2).map (·.key)).Nodup
 ent:∀e∈l1++l2,EntAt w base I G e
 all:∀s,s.length=8->s≠r->G s≠ []->∃e∈l1++l2,e.key=rk s
 apart:(l1++l2).Pairwise fun e f=>Ae e.val f.val/\Ae f.val e.val
 mine:∀e∈l1++l2,Ae e.val v/\Ae v e.val
def IdxOpen(w:AbJ)(b base:Nat)(I:AbQ)(G:Ah5->List Nat)(r:Ah5)(v:AbI)(zs:List Nat)(st:Nat):Prop:=
 b<base/\r.length=8/\w.ownsRow base I 1 v zs.length (zs.map NI)/\∃l1 e0 l2 clock,w.heap[b]? =some (.map (l1++e0 :: l2).toArray clock)/\e0.born=st/\WE w base I G r v l1 e0 l2 clock
theorem IdxOpen.grew{r:Ah5}{v v' :AbI}{zs zs' :List Nat}{st:Nat}(h:IdxOpen w b base I G r v zs st)(gr:Grew w w' v v')(ho:w'.ownsRow base I 1 v' zs'.length (zs'.map NI)):IdxOpen w' b base I G r v' zs' st:=by
 obtain⟨h1,h2,h3,l1,a,l2,c,h4,h5,h6⟩:=h;have hvb:v.ownBlock≠some b:=fun e=>by have:=(h3.lt b e).1;omega
 refine⟨h1,h2,ho,l1,a,l2,c,Ar h4 gr hvb,h5,h6.key,h6.born,h6.nodup,h6.keys,fun e he=> ?_,h6.all,h6.apart,fun e he=> ?_⟩
 ·obtain⟨q,k1,k2,k3,k4⟩:=h6.ent e he;refine⟨q,k1,k2,k3,k4.kept gr.by_ ?_⟩;cases hb:e.val.ownBlock with
  | none=>exact .inl rfl
  | some g=>exact .inr (fun f=>(h6.mine e he).1 g hb f.symm)
 ·obtain⟨q,k1,k2,k3,k4⟩:=h6.ent e he;have key:∀k,e.val.ownBlock=some k->v'.ownBlock≠some k:=fun k hk hv=>by
   rcases gr.fresh k hv with h7 | h7
   ·exact(h6.mine e he).1 k hk h7
   ·have:=(k4.lt k hk).2;omega
  exact⟨key,fun k hv hk=>key k hk hv⟩
def updG(G:Ah5->List Nat)(r:Ah5)(zs:List Nat)(s:Ah5):List Nat:=if s=r then zs else G s
theorem Km{α:Type}(f:α->α)(x:α)(l2:List α):∀l1:List α,(l1++x :: l2).modify l1.length f=l1++f x :: l2
 | []=>rfl
 | a :: r=>by simp[List.modify_succ_cons,Km f x l2 r]
section
variable {t K E e8 : AbQ} (L : KeyLaw P K) (hk : ∀ r : Ah5, r.length = 8 -> ∃ l, keyOf P K (rk r) = some l) (ht : P.underlying t = some (.map K E)) (hz : ∀ u : AbJ, (zeroValue E).run P u = .ok (.slice none 0 0) u)
include L hk ht hz
theorem IdxAt.look(h:IdxAt w b base I G){r:Ah5}(hr:r.length=8):∃v,(Aft t (.map (some b)) (rk r) false).run P w = .ok v w/\w.ownsRow base I 1 v (G r).length ((G r).map NI):=by
 obtain⟨h1,es,c,hb,H⟩:=h;obtain⟨l,hl⟩:=hk r hr;have hkeys:∀e∈es,∃l,keyOf P K e.key=some l:=fun e he=>by
  obtain⟨q,k1,k2,-⟩:=H.ent e he;rw[k2];exact hk q k1
 rcases L.find w hl es hkeys with ⟨f1,f2⟩ | ⟨j,a,f1,f2,f3⟩
 ·have hG:G r= []:=by
   by_cases hG:G r= []
   ·exact hG
   ·obtain⟨e,he,hek⟩:=H.all r hr hG;exact absurd hek (f2 e he)
  refine⟨.slice none 0 0,by simp[Aft,run_underlying ht,AcY hb,L.check w _ hl,f1,hz,AcF],?_⟩;rw[hG];exact World.ownsRow_nil _ _ _ _
 ·have hm:a∈es:=AcV f2;obtain⟨q,k1,k2,k3,k4⟩:=H.ent a hm;have:q=r:=B9 (k2.symm.trans f3);subst this;exact⟨a.val,by simp[Aft,run_underlying ht,AcY hb,L.check w _ hl,f1,AcF],k4⟩
theorem IdxAt.entry(h:IdxAt w b base I G){r:Ah5}(hr:r.length=8):∃v st w1,(Age t (.map (some b)) (rk r)).run P w = .ok (.tuple #[v,goInt ((st:Nat):Int)]) w1/\w.grownBy w1 (some b)/\w1.heap.size=w.heap.size/\IdxOpen w1 b base I G r v (G r) st:=by
 obtain⟨h1,es,c,hb,H⟩:=h;obtain⟨l,hl⟩:=hk r hr;have hblt:b<w.heap.size:=(Ace.1 hb).1;have hkeys:∀e∈es,∃l,keyOf P K e.key=some l:=fun e he=>by
  obtain⟨q,k1,k2,-⟩:=H.ent e he;rw[k2];exact hk q k1
 have hgr:∀o,w.grownBy { w with heap:=w.heap.setIfInBounds b o } (some b):=fun o=>⟨rfl,rfl,rfl,by simp,fun i _ hi=>by simp only[Adp];rw[if_neg (fun e=>hi (by rw[e]))]⟩;have hnew:∀o,({ w with heap:=w.heap.setIfInBounds b o } :AbJ).heap[b]? =some o:=fun o=>by simp[hblt]
 have hkeep:∀(o:Obj) e,EntAt w base I G e->EntAt { w with heap:=w.heap.setIfInBounds b o } base I G e:=fun o e ⟨q,k1,k2,k3,k4⟩=>by
  refine⟨q,k1,k2,k3,k4.kept (hgr o) ?_⟩;cases he:e.val.ownBlock with
  | none=>exact .inl rfl
  | some g=>
   have:=(k4.lt g he).1;exact .inr (fun f=>by cases f;omega)
 rcases L.find w hl es hkeys with ⟨f1,f2⟩ | ⟨j,a,f1,f2,f3⟩
 ·have hG:G r= []:=by
   by_cases hG:G r= []
   ·exact hG
   ·obtain⟨e,he,hek⟩:=H.all r hr hG;exact absurd hek (f2 e he)
  refine⟨.slice none 0 0,c,{ w with heap:=w.heap.setIfInBounds b (.map (es++({ key:=rk r,val:= .slice none 0 0,born:=c } :Adv) :: []).toArray (c+1)) },?_,hgr _,by simp,h1,hr,?_,es,({ key:=rk r,val:= .slice none 0 0,born:=c } :Adv),[],c+1,hnew _,rfl,rfl,?_,?_,?_,?_,?_,?_,?_⟩
  ·simp[Age,run_underlying ht,AcY hb,L.check w false hl,f1,hz,AdH _ hb,AcF]
  ·rw[hG];exact World.ownsRow_nil _ _ _ _
  ·intro e he;rcases Acb.1 he with h2 | h2
   ·have:=H.born e h2;omega
   ·rw[AbW.1 h2];simp
  ·simp only[Adc,Aco,Acz];refine AdU.2 ⟨H.nodup,by simp,fun x hx y hy e=> ?_⟩;obtain⟨f,he1,rfl⟩:=Acw.1 hx;have:=H.born f he1;simp at hy;omega
  ·simp only[Adc,Aco,Acz];refine AdU.2 ⟨H.keys,by simp,fun x hx y hy e=> ?_⟩;obtain⟨f,he1,rfl⟩:=Acw.1 hx;simp at hy;exact f2 f he1 (e.trans hy)
  ·simp only[AdG];exact fun e he=>hkeep _ e (H.ent e he)
  ·simp only[AdG];exact fun s h2 _ h3=>H.all s h2 h3
  ·simp only[AdG];exact H.apart
  ·exact fun e _=>⟨fun k _ hk=>by simp[AbS]at hk,fun k hk=>by simp[AbS]at hk⟩
 ·have hm:a∈es:=AcV f2;obtain⟨q,k1,k2,k3,k4⟩:=H.ent a hm;have hq:q=r:=B9 (k2.symm.trans f3);subst hq;have hsame:es.modify j (fun e=> { e with key:=rk q })=es:=by
   rw[Ae3 _ _ _ _ f2];have:({ a with key:=rk q } :Adv)=a:=by rw[<-f3]
   rw[this];exact Go.WideElems.set_self _ _ _ f2
  have hrun:(Age t (.map (some b)) (rk q)).run P w = .ok (.tuple #[a.val,goInt ((a.born:Nat):Int)]) { w with heap:=w.heap.setIfInBounds b (.map es.toArray c) } :=by
   simp[Age,run_underlying ht,AcY hb,L.check w false hl,f1,f2,f3,L.stays w hl,hsame,AdH _ hb,AcF]
  obtain⟨l1,l2,rfl⟩:=List.append_of_mem hm;have hp:=H.apart;rw[Ac6,AcS]at hp;have hsub:∀e,e∈l1++l2->e∈l1++a :: l2:=fun e he=>by
   rcases Acb.1 he with h2 | h2
   ·simp[h2]
   ·simp[h2]
  refine⟨a.val,a.born,{ w with heap:=w.heap.setIfInBounds b (.map (l1++a :: l2).toArray c) },?_,hgr _,by simp,h1,hr,?_,l1,a,l2,c,hnew _,rfl,f3,H.born,H.nodup,H.keys,fun e he=>hkeep _ e (H.ent e (hsub e he)),?_,?_,?_⟩
  ·exact hrun
  ·refine k4.kept (hgr _) ?_;cases he:a.val.ownBlock with
   | none=>exact .inl rfl
   | some g=>
    have:=(k4.lt g he).1;exact .inr (fun f=>by cases f;omega)
  ·intro s h2 h3 h4;obtain⟨e,he,hek⟩:=H.all s h2 h4;refine⟨e,?_,hek⟩;rcases Acb.1 he with h5 | h5
   ·simp[h5]
   ·rcases Acy.1 h5 with h6 | h6
    ·subst h6;exact absurd (B9 (hek.symm.trans f3)) h3
    ·simp[h6]
  ·rw[Ac6];exact⟨hp.1,hp.2.1.2,fun x hx y hy=>hp.2.2 x hx y (by simp[hy])⟩
  ·intro e he;rcases Acb.1 he with h5 | h5
   ·exact hp.2.2 e h5 a (by simp)
   ·exact⟨(hp.2.1.1 e h5).2,(hp.2.1.1 e h5).1⟩
end
theorem IdxOpen.store{t:AbQ}{r:Ah5}{v:AbI}{zs:List Nat}{st:Nat}(h:IdxOpen w b base I G r v zs st)(hne:zs≠ []):∃w1,(AgS t (.map (some b)) (goInt ((st:Nat):Int)) v).run P w = .ok () w1/\w.grownBy w1 (some b)/\w1.heap.size=w.heap.size/\IdxAt w1 b base I (updG G r zs):=by
 obtain⟨h1,hr,h3,l1,a,l2,c,hb,rfl,H⟩:=h;have hblt:b<w.heap.size:=(Ace.1 hb).1;have hgr:∀o,w.grownBy { w with heap:=w.heap.setIfInBounds b o } (some b):=fun o=>⟨rfl,rfl,rfl,by simp,fun i _ hi=>by simp only[Adp];rw[if_neg (fun e=>hi (by rw[e]))]⟩;have hnew:∀o,({ w with heap:=w.heap.setIfInBounds b o } :AbJ).heap[b]? =some o:=fun o=>by simp[hblt]
 have hrow:∀(o:Obj) {x:AbI} {n:Nat} {xs:List AbI},w.ownsRow base I 1 x n xs->World.ownsRow { w with heap:=w.heap.setIfInBounds b o } base I 1 x n xs:=fun o x n xs k4=>by
  refine k4.kept (hgr o) ?_;cases he:x.ownBlock with
  | none=>exact .inl rfl
  | some g=>
   have:=(k4.lt g he).1;exact .inr (fun f=>by cases f;omega)
 have hidx:(l1++a :: l2).toArray.findIdx? (fun e=>((e.born:Nat):Int)==((a.born:Nat):Int))=some l1.length:=by
  rw[Go.WideElems.findIdx_arr];exact Go.WideElems.findIdx_born H.nodup (by simp)
 have hmod:(l1++a :: l2).toArray.modify l1.length (fun e=> { e with val:=v })=(l1 ++ { a with val:=v } :: l2).toArray:=by
  apply Array.ext'
  rw[Array.toList_modify];exact Km _ _ _ _
 have hsub:∀e,e∈l1++l2->e∈l1++a :: l2:=fun e he=>by
  rcases Acb.1 he with h2 | h2
  ·simp[h2]
  ·simp[h2]
 have hkn:∀e∈l1++l2,e.key≠a.key:=fun e he hke=>by
  have hkk:=H.keys;simp only[Adc,Aco,AdU,List.nodup_cons]at hkk;rcases Acb.1 he with h2 | h2
  ·exact hkk.2.2 e.key (Acw.2 ⟨e,h2,rfl⟩) a.key (by simp) hke
  ·exact hkk.2.1.1 (hke▸Acw.2 ⟨e,h2,rfl⟩)
 have hent:∀(o:Obj),∀e∈l1++l2,EntAt { w with heap:=w.heap.setIfInBounds b o } base I (updG G r zs) e:=fun o e he=>by
  obtain⟨q,k1,k2,k3,k4⟩:=H.ent e he;have hqr:q≠r:=fun f=>hkn e he (by rw[k2,f,H.key]);have hu:updG G r zs q=G q:=if_neg hqr;exact⟨q,k1,k2,by rw[hu];exact k3,by rw[hu];exact hrow o k4⟩
 have hur:updG G r zs r=zs:=if_pos rfl;have hp:=H.apart;rw[Ac6]at hp;refine⟨{ w with heap:=w.heap.setIfInBounds b (.map (l1 ++ { a with val:=v } :: l2).toArray c) },?_,hgr _,by simp,h1,_,c,hnew _,?_,?_,?_,?_,?_,?_⟩
 ·simp[AgS,AcY hb,asInt,asIntOf,goInt,hidx,hmod,AdH _ hb,AcF]
 ·intro e he;rcases Acb.1 he with h2 | h2
  ·exact H.born e (by simp[h2])
  ·rcases Acy.1 h2 with h4 | h4
   ·rw[h4];exact H.born a (by simp)
   ·exact H.born e (by simp[h4])
 ·have:=H.nodup
  simpa using this
 ·have:=H.keys
  simpa using this
 ·intro e he;rcases Acb.1 he with h2 | h2
  ·exact hent _ e (by simp[h2])
  ·rcases Acy.1 h2 with h4 | h4
   ·rw[h4];exact⟨r,hr,H.key,by rw[hur];exact hne,by rw[hur];exact hrow _ h3⟩
   ·exact hent _ e (by simp[h4])
 ·intro s h2 h4;by_cases hs:s=r
  ·exact⟨{ a with val:=v },by simp,by rw[hs];exact H.key⟩
  ·rw[show updG G r zs s=G s from if_neg hs]at h4;obtain⟨e,he,hek⟩:=H.all s h2 hs h4;refine⟨e,?_,hek⟩;rcases Acb.1 he with h5 | h5
   ·simp[h5]
   ·simp[h5]
 ·rw[Ac6,AcS];refine⟨hp.1,⟨fun e he=> ?_,hp.2.1⟩,fun x hx y hy=> ?_⟩
  ·have:=H.mine e (by simp[he]);exact⟨this.2,this.1⟩
  ·rcases Acy.1 hy with h4 | h4
   ·rw[h4];exact H.mine x (by simp[hx])
   ·exact hp.2.2 x hx y h4
end
structure BX (N : Nat) (r : Option Nat) (w w' : AbJ) : Prop where
 os:w'.os=w.os
 tape:w'.tape=w.tape
 output:w'.output=w.output
 size:w.heap.size<=w'.heap.size
 block:∀k,k<N->some k≠r->w'.heap[k]? =w.heap[k]?
def EW(B N:Nat)(e:AbQ)(r:Option Nat)(l:Ah5)(x:AbI)(w' :AbJ):Prop:=w'.ownsRow B e 1 x l.length (AbK l)/\∀k,x.ownBlock=some k->r=some k\/N<=k
section
variable {N B : Nat} {r : Option Nat} {w w' w1 w0 : AbJ} {e t : AbQ}
theorem BX.refl(N:Nat)(r:Option Nat)(w:AbJ):BX N r w w:=⟨rfl,rfl,rfl,AbO _,fun _ _ _=>rfl⟩
theorem BX.trans{a b c:AbJ}(h:BX N r a b)(k:BX N r b c):BX N r a c:=⟨k.os.trans h.os,k.tape.trans h.tape,k.output.trans h.output,AbM h.size k.size,fun i hi hr=>(k.block i hi hr).trans (h.block i hi hr)⟩
theorem Yq(h:Ext w w')(hN:N<=w.heap.size):BX N r w w' :=⟨h.os,h.tape,h.output,h.size,fun k hk _=>h.block k (AcE hk hN)⟩
theorem Yr{q:Option Nat}(h:w.grownBy w' q)(hN:N<=w.heap.size)(hq:∀k,q=some k->r=some k\/N<=k):BX N r w w' :=
 ⟨h.os,h.tape,h.output,h.size,fun k hk hr=>h.block k (AcE hk hN) (fun e=>(hq k e.symm).elim (fun x=>hr x.symm) (fun x=>by omega))⟩
theorem BX.grown(h:BX w.heap.size r w w'):w.grownBy w' r:=⟨h.os,h.tape,h.output,h.size,h.block⟩
theorem Dz(h:Ext w0 w)(k:BX N r w w1)(hle:w0.heap.size<=N)(hr:∀k,r=some k->w0.heap.size<=k):Ext w0 w1:=
 Below.trans h ⟨k.os,k.tape,k.output,k.size,fun i hi=>k.block i (AcE hi hle) (fun e=>by have:=hr i e.symm;omega)⟩
theorem BX.blk{g:Nat}{o:Obj}(k:BX w.heap.size r w w1)(h:w.heap[g]? =some o)(hne:r≠some g):w1.heap[g]? =some o:=(k.block g (Ace.1 h).1 (fun e=>hne e.symm)).trans h
end
section
variable {P : Acg} {n : Nat} {ρ : Ac} {w : AbJ} {Q : BG}
def MO(w:AbJ)(r:Option Nat)(es:List Nat)(m:Nat):AbJ->Prop:=bif es.contains m then Ext w else BX w.heap.size r w
def I5(N:Nat)(r:Option Nat)(cs:List Nat)(m:Nat):AbJ->AbJ->Prop:=bif cs.contains m then BX N r else Ext
def WF(l:List Aca)(cs es:List Nat):Bool:=cs.all fun m=>es.all fun i=>((AN l []).getD m 0).testBit i
theorem Em{l:List Aca}(r:Option Nat)(cs es:List Nat)(ks ls:Nat->List Nat)(Φs:List Bu){id:Nat}(hm:P.follows .mixedOrders=true)(ds:List Tmp)(hg:Cy l n=true)(hkl:CY l ks=true)(hds:slotsW l=ds) 
  (hls:lsOk l cs ks ls=true) (hes:WF l cs es=true) (hgc:(cs.all fun m=>((l[m]?).bind (·.guard)).isNone)=true) (hst:AllStab Ext Φs) (hsB:AllCh (BX w.heap.size r) ls Φs cs)
  (hs:StepsF P l (MO w r es) (I5 w.heap.size r cs) (AT Φs) ρ 0 l)
  (hQ:∀(ρ' :Ac) w',BX w.heap.size r w w' ->EndF ds ρ ρ' ->Bg l ks (AT Φs) ρ' w' ds->Q .normal ρ' w'):B1 P n (.region id l.toArray true) Q ρ w:=by
 have stepR:∀m a b,BX w.heap.size r w a->I5 w.heap.size r cs m a b->BX w.heap.size r w b:=fun m a b h k=>by
  unfold I5 at k;cases hc:cs.contains m <;> rw[hc]at k
  ·exact h.trans (Yq k h.size)
  ·exact h.trans k
 have drew:Ext w w.drew:=(AcB _ _).drew;intro a ha;obtain⟨T,df⟩:=a;have hz:T.size=n:=ha.size;subst hz;refine Ej ks (MO w r es) (fun _ w' =>BX w.heap.size r w w') _ (AT Φs) hm T df hg hkl ds hds (fun m i _ _ hne hbit w1 w' hc hr=> ?_) (fun m listed w1 w' _ _ _ _ hE hR=>stepR m _ _ hE hR) (fun m i hm' hi hni hne hbit v w1 w' h hr=> ?_) (fun m o w1 ho hgo=> ?_) (fun m _=> ?_) (Yq drew (AbO _)) (Abq ha.get l 0 hs) (fun u listed w' hall hE hf=> ?_)
 ·unfold MO at hc ⊢;cases he:es.contains i <;> rw[he]at hc
  ·exact stepR m _ _ hc hr
  ·unfold I5 at hr;cases hcm:cs.contains m <;> rw[hcm]at hr
   ·exact Ext.trans hc hr
   ·unfold WF at hes;have:=Acx.1 (Acx.1 hes m (by simpa using hcm)) i (by simpa using he);rw[this]at hbit;cases hbit
 ·unfold I5 at hr;cases hc:cs.contains m <;> rw[hc]at hr
  ·exact hst.get Φs i v w1 w' h hr
  ·refine(AllCh.get cs hsB m hc).get Φs 0 i ?_ v w1 w' h hr;rw[Ac2];intro hmem;unfold lsOk at hls;have h1:=Acx.1 (Acx.1 hls m (by simpa using hc)) i hmem;simp only[Bool.or_eq_true]at h1;rcases h1 with (h1 | h1) | h1
   ·exact hni (by simpa using h1)
   ·exact hne (AfR h1)
   ·rw[h1]at hbit;cases hbit
 ·unfold I5;cases hc:cs.contains m
  ·exact AaY w1
  ·have:=Acx.1 hgc m (by simpa using hc);rw[ho]at this;simp only[Option.bind_some,Option.isNone_iff_eq_none]at this;rw[this]at hgo;cases hgo
 ·unfold MO;cases es.contains m
  ·exact Yq drew (AbO _)
  ·exact drew
 ·have hw:=Fj ha.get ds (Gq hg ds hds) u;refine⟨fun t=>if t∈ds then u t else ρ t,⟨by rw[Dg],ha.defers,hw⟩,hQ _ w' hE ⟨fun t ht=>if_neg (by simpa using ht)⟩ ?_⟩;have key:∀es:List Tmp,(∀d∈es,d∈ds)->Bg l ks (AT Φs) u w' es->Bg l ks (AT Φs) (fun t=>if t∈ds then u t else ρ t) w' es:=by
   intro es
   induction es with
   | nil=>exact fun _ _=>trivial
   | cons d es ih=>
    intro hm h;refine⟨?_,ih (fun x hx=>hm x (by simp[hx])) h.2⟩;have:=h.1;simp only[if_pos (hm d (by simp))];exact this
  exact key ds (fun _ h=>h) hf
end
def CO(e:Nat):PanicEntry:= { v:= .iface 143 (.agg ([NI e]:List AbI).toArray),recovered:=false }
theorem XC{vx vy:AbI}{x y:Bs}{w:AbJ}(hx:RB w vx x)(hy:RB w vy y):(callFunc 184 #[vx,vy]).run AbL w = .ok (.value (.int .i64 (Acd x y))) w:=by
 rw[run_callFunc_extern (e:=Extern.BytealgCompare.compare) Tryz.func184 (by kernel_rfl) (by kernel_rfl) (by kernel_rfl) (by kernel_rfl),MC hx hy];rfl
theorem Nc(z0:Int)(w:AbJ):(AdF 143 #[(0, .int .i64 z0)]).run AbL w = .ok (.agg ([.int .i64 z0]:List AbI).toArray) w:=by kernel_rfl
theorem Rx:∃fs,Tryz.prog.underlying 143=some (.struct fs):=Fs (by kernel_rfl)
theorem Ry:Plain AbL 147:=fun _ _=>by kernel_rfl
theorem AS(w:AbJ)(b:Bool)(e:Nat):
  Calls AbL 129 #[.bool b,NI e] w fun r w' =>(∃v,r = .returned v/\v = .tuple #[]/\b=true/\Ext w w')\/∃ch,r = .panicked ch/\ch= [CO e]/\b=false/\Ext w w' :=by
 refine gG (args:= [.bool (b),NI e]) Tryz.func129 rfl 9 rfl rfl ?_;have hE:=AaY w;refine gS (Yz rfl ?_);refine cB (!(b)) rfl (fun a=> ?_) fun a=> ?_
 ·refine gS (Zb (vr (NI e) rfl) (fun w=>Nc (((e:Nat):Int)) w) (gS (Z6 (Rx).choose_spec (vr (.agg ([NI e]).toArray) rfl) (gP (Yp.panic rfl (Au ?_))))));exact .inr ⟨_,rfl,rfl,by simpa using a,hE⟩
 refine rt0 rfl ?_;exact .inl ⟨_,rfl,rfl,by simpa using a,hE⟩
theorem JH(w:AbJ)(vx vy:AbI)(x y:Bs)(hx:RB w vx x)(hy:RB w vy y):
  Calls AbL 147 #[vx,vy] w fun e w' =>e = .returned (.int .i64 (Acd x y))/\Ext w w' :=by
 refine gG (args:= [vx,vy]) Tryz.func147 rfl 8 rfl rfl ?_;have hE:=AaY w;refine gS (Z5 rfl rfl (XC (hx.keep hE) (hy.keep hE)) (Bp rfl (vr (.int .i64 (Acd x y:Int)) rfl) ?_));exact⟨rfl,hE⟩
theorem GN(w:AbJ)(x y:Bs)(hxl:x.length=32)(hyl:y.length=32):
  Calls AbL 100 #[AB x,AB y] w fun e w' =>e = .returned (.int .i64 (Acd x y))/\Ext w w' :=by
 refine gG (args:= [AB x,AB y]) Tryz.func100 rfl 8 rfl rfl ?_;have hE:=AaY w;refine gS (Abh (vr (AB x) rfl) fun h i q c j r=> ?_);have a:=c;clear c;have s:h<i.heap.size:=by omega
 refine gS (Abh (vr (AB y) rfl) fun k l m f n t=> ?_);have hE:=hE.trans j;have u:=hE.size;have b:=f;clear f;have v:k<l.heap.size:=by omega
 refine CA [0,1,2,3] [2] [] fun o g=>(ys (Yy U7 PO rfl zz) (ys (Yy U7 PO rfl zz) ?_));have hC:=AaY o;have z:=As (bl a) m;have hZ1:=n.trans g;have a:=eb hZ1 a;have b:=eb g b;refine yC (XS Ry rfl rfl ((JH _ _ _ x y (YL (eb hC a) hxl (by decide)) (YL (eb hC b) hyl (by decide))).mono ?_));rintro e aa ⟨rfl,p⟩;refine⟨_,rfl,?_⟩;refine Bp rfl (vr (.int .i64 (Acd x y:Int)) rfl) ?_;have hZ2:=hZ1.trans p;have hE:=hE.trans hZ2;exact⟨rfl,hE⟩
theorem Rz(ids:List Bs)(c:Nat):(B4 ids).getD c 0<=ids.length:=by
 by_cases h:c<256
 ·rw[FP _ _ h];exact Ahh
 ·rw[AbN,AcR (by rw[Cs];omega)];simp
theorem OC(ids:List Bs)(c:Nat)(h0:0<c)(h:c<256):(BH ids c).getD c 0+(BH ids c).getD (c-1) 0<=ids.length:=by
 have h1:=Ij ids c h0 h;have h2:(BH ids (c+1)).getD c 0=(Ba ids).getD c 0:=by
  unfold BH;rw[AbN,AcG (by rw[Ab5,BR];omega),AdP,if_pos (by omega),<-AbN]
 rw[h1,AbN,AeT (by rw[Fl _ _ (by omega)];exact h)]at h2;have h3:=I4 ids c;rw[AcL]at h2;omega
theorem Hq:(Tryz.prog.info? 205).map (·.size)=some 256:=by kernel_rfl
theorem LK{d:Option Tmp}{ty:AbQ}{pos:String}{af:Array AcI}{gd:Option (Nat × Bool)}(σ:AbV->AbI)(w:AbJ):(execOp σ ⟨d, .alloc 205,ty,pos,af,gd⟩).run AbL w = .ok (.value (PQ w.heap.size 0)) (w.alloc (.cells ((AbX 256 0).map fun x=>NI x).toArray 205)):=by kernel_rfl
theorem Nd:Tryz.prog.underlying 42=some (.slice 33):=by kernel_rfl
theorem RA:∀w' :AbJ,(sizeOf 33).run AbL w' = .ok 32 w' :=fun _=>by kernel_rfl
theorem Tn{d:Option Tmp}{ty:AbQ}{pos:String}{af:Array AcI}{gd:Option (Nat × Bool)}(σ:AbV->AbI)(w:AbJ):(execOp σ ⟨d, .alloc 33,ty,pos,af,gd⟩).run AbL w = .ok (.value (PQ w.heap.size 0)) (w.alloc (.cells (AbK (AbX 32 0)).toArray 33)):=by kernel_rfl
theorem D6:Tryz.prog.underlying 205=some (.array 256 3):=by kernel_rfl
theorem G2:∀w' :AbJ,(sizeOf 3).run AbL w' = .ok 1 w' :=fun _=>by kernel_rfl
theorem Nf:(Tryz.prog.info? 3).map (·.size)=some 1:=by kernel_rfl
theorem Pb(w:AbJ)(v:AbI)(ids:List Bs)(hr:RG 32 AbK w v ids):
  Calls AbL 132 #[v] w fun e w' =>e = .returned (.agg ((Ba ids).map fun x=>NI x).toArray)/\Ext w w' :=by
 have hil:=hr.lenLt;refine gG (args:= [v]) Tryz.func132 rfl 34 rfl rfl ?_;have hE:=AaY w;refine gS (Aa3 LK fun n s a7 ae ap a8=> ?_);have f:=ae;clear ae;have a9:n<s.heap.size:=by omega
 refine gS (Aa3 LK fun k aq ar af aa ba=> ?_);have g:=AaY s;have hE:=hE.trans ap;have ag:=hE.size;have ah:=af;clear af;have bb:k<aq.heap.size:=by omega
 have bc:=As (bl f) ar;have f:=eb aa f;have hE:=hE.trans aa;have g:=g.trans aa;refine gS (X6 Nd (XW (hr.keep hE) rfl) (gL (fun(ρ:Ac) (wz:AbJ)=>∃i:Nat,ρ 0=(v:AbI)/\ρ 2=(PQ n 0:AbI)/\ρ 3=(PQ k 0:AbI)/\ρ 7=(v:AbI)/\ρ 8=(NI ids.length:AbI)/\ρ 9=(NI i:AbI)/\Ext w wz/\wz.heap[n]? =some (.cells ((AbX 256 0).map fun x=>NI x).toArray 205 (0,0))/\Ext s wz/\wz.heap[k]? =some (.cells ((B4 (ids.take i)).map fun x=>NI x).toArray 205 (0,0))/\(i<=ids.length)/\True) (fun ρ _=>ids.length-(intOf (ρ 9)).toNat) ⟨0,rfl,rfl,rfl,rfl,rfl,rfl,hE,f,g,AW ah (congrArg (Aeq fun x=>NI x) (show _=B4 []from by decide+kernel)),Ack _,trivial⟩ ?_));clear ah;clear hE f;rintro au av ⟨i,t,l,h,o,p,j,hE,f,g,hb21l,hi,-⟩;have q9:=j;refine gS (XQ (a:=(i:Nat)) (b:=(ids.length:Nat)) j p (AK _ _ _ _) ?_);refine cD rfl (fun aw=> ?_) fun aw=> ?_
 ·have ax:(ids.getD i []).length=32:=by have h1:=Aa6 hr [] (show i<ids.length by omega);rwa [AbZ]at h1
  have ab:(AbK (ids.getD (i) ([]:Ah5))).length=32:=(Aa6 (hr.keep hE) ([]:Ah5) (by omega));refine gS (X9 Nd RA (by decide) ([]:Ah5) (XW (hr.keep hE) o) j (by omega) fun bd ai=>(gS (Yg (Yc ai rfl) U7 rfl (by rw[ab];exact Rl) (gS (Aa3 Tn fun aj ay az ak u be=> ?_)))));have q:=AaY av;have a0:=hE.size;have a1:=g.size;have r:=ak;clear ak;have bf:aj<ay.heap.size:=by omega
  refine gS (XT (vr (PQ aj 0) rfl) (vr (AB (ids.getD (i) ([]:Ah5))) rfl) r (by exact BC (AC (ab)) Ab8) (by exact Ad (AC (ab))) (Ag _) fun bg al y bh=> ?_);clear r;have r:=al;clear al;have bi:=bl r;clear ai;have q:=q.trans u;have q:=Ab q y (AbM (AbO _) (by omega));have hb21l:=eb q hb21l;refine gS (X3 (i:=0) U7 PO rfl rfl (by decide) (gS (XP u5 rfl rfl (cellAt r (I2 (i:=0) (by rw[ax];omega))) (gS (X3 (i:=((ids.getD (i) ([]:Ah5)).getD (0) 0).toNat) D6 G2 h rfl (by exact Agf _) (gS (XP Tk rfl rfl (cellAt hb21l (F9 (i:=((ids.getD (i) ([]:Ah5)).getD (0) 0).toNat) (by rw[Cs];exact Agf _))) (gS (XR (xv:=NI ((B4 (ids.take i)).getD (((ids.getD (i) ([]:Ah5)).getD (0) 0).toNat) 0)) (yv:=NI 1) rfl rfl rfl (Ah _ _ _ (by have:=Rz (ids.take i) ((ids.getD i []).getD 0 0).toNat;rw[Ab5]at this;omega)) (gS (X3 (i:=((ids.getD (i) ([]:Ah5)).getD (0) 0).toNat) D6 G2 h rfl (by exact Agf _) (gS (Zc (i:=((ids.getD (i) ([]:Ah5)).getD (0) 0).toNat) (v:=((B4 (ids.take i)).getD (((ids.getD (i) ([]:Ah5)).getD (0) 0).toNat) 0)+(1)) rfl rfl hb21l (by rw[Cs];exact Agf _) Nf fun bj am ac bk=> ?_)))))))))))));clear hb21l;have hb21l:=am;clear am;have bm:=bl hb21l;have bn:=As (bl f) az;have f:=eb u f;have f:=kb y f (by omega);have f:=kb ac f (by omega);have hE:=hE.trans u;have hE:=Ab hE y (AbM a0 (by omega));have hE:=Ab hE ac (AbM ag (by omega));have g:=g.trans u;have g:=Ab g y (AbM a1 (by omega));have g:=Ab g ac (AbM (AbO _) (by omega));refine gS (XR (xv:=NI i) (yv:=NI 1) j rfl rfl (Ah _ _ _ (by omega)) ?_);refine gK (And.intro ⟨i+1,t,l,h,o,p,rfl,hE,f,g,AW hb21l (congrArg (Aeq fun x=>NI x) (by rw[Acn (by omega),Oz];simp only[AbN,AbT (show i<ids.length by omega),AcL];rfl)),by omega,trivial⟩ ?_);show ids.length-(intOf (NI ((i)+(1)))).toNat<ids.length-(intOf (au 9)).toNat;rw[q9];simp only[intOf,Ab0];omega
 refine gL (fun(ρ:Ac) (wz:AbJ)=>∃c:Nat,ρ 0=(v:AbI)/\ρ 2=(PQ n 0:AbI)/\ρ 3=(PQ k 0:AbI)/\ρ 7=(v:AbI)/\ρ 8=(NI ids.length:AbI)/\ρ 9=(NI i:AbI)/\ρ 6=(NI c:AbI)/\Ext w wz/\wz.heap[n]? =some (.cells ((AbX 256 0).map fun x=>NI x).toArray 205 (0,0))/\Ext s wz/\wz.heap[k]? =some (.cells ((BH ids c).map fun x=>NI x).toArray 205 (0,0))/\(0<c)/\(c<=256)/\True) (fun ρ _=>256-(intOf (ρ 6)).toNat) ⟨1,t,l,h,o,p,j,rfl,hE,f,g,AW hb21l (congrArg (Aeq fun x=>NI x) (by rw[fanStep_one,show i=ids.length by omega,List.take_length])),by omega,by omega,trivial⟩ ?_;clear hb21l;clear hE f g;rintro a2 a3 ⟨c,t,l,h,o,p,j,m,hE,f,g,hb21ll,hc0',hcl,-⟩;have q6:=m;refine gS (XQ (a:=(c:Nat)) (b:=(256:Nat)) m rfl (AK _ _ _ _) ?_);refine cD rfl (fun a4=> ?_) fun a4=> ?_
 ·refine CA [0,1,2,3,4,5,6,7,8,9] [9] [] fun bo z=> ?_;have hb21ll:=eb z hb21ll;refine ys (X3 (i:=c) D6 G2 h m (by omega) zz) (ys (XP Tk rfl rfl (cellAt hb21ll (F9 (i:=c) (by rw[Fl _ _ hcl];omega))) zz) (ys (XR (xv:=NI c) (yv:=NI 1) m rfl rfl (BB _ _ _ (by omega) (by omega)) zz) (ys (X3 (i:=(c)-(1)) D6 G2 h rfl (by omega) zz) (ys (XP Tk rfl rfl (cellAt hb21ll (F9 (i:=(c)-(1)) (by rw[Fl _ _ hcl];omega))) zz) (ys (XR (xv:=NI ((BH ids c).getD (c) 0)) (yv:=NI ((BH ids c).getD ((c)-(1)) 0)) rfl rfl rfl (Ah _ _ _ (by have:=OC ids c hc0' (by omega);omega)) zz) (ys (X3 (i:=c) D6 G2 h m (by omega) zz) (yC (Zc (i:=c) (v:=((BH ids c).getD (c) 0)+((BH ids c).getD ((c)-(1)) 0)) rfl rfl hb21ll (by rw[Fl _ _ hcl];omega) Nf fun bp an ad bq=> ?_))))))));clear hb21ll;have hb21ll:=an;clear an;have br:=bl hb21ll;have hE:=hE.trans z;have hE:=Ab hE ad (AbM ag (by omega));have f:=eb z f;have f:=kb ad f (by omega);have g:=g.trans z;have g:=Ab g ad (AbM (AbO _) (by omega));refine gS (XR (xv:=NI c) (yv:=NI 1) m rfl rfl (Ah _ _ _ (by omega)) (gK (And.intro ⟨c+1,t,l,h,o,p,j,rfl,hE,f,g,AW hb21ll (congrArg (Aeq fun x=>NI x) (Ij ids c hc0' (by omega)).symm),by omega,by omega,trivial⟩ ?_)));show 256-(intOf (NI ((c)+(1)))).toNat<256-(intOf (a2 6)).toNat;rw[q6];simp only[intOf,Ab0];omega
 have a5:c=256:=by omega
 obtain⟨F,hF⟩:∃F,F=Ba ids:=⟨_,rfl⟩;have hb21ll:a3.heap[k]? =some (.cells (F.map fun x=>NI x).toArray 205 (0,0)):=AW hb21ll (by rw[a5,OA,hF]);have hFl:F.length=256:=by rw[hF,BR]
 refine gS (XU h hb21ll D6 rfl (by rw[Ab4,Ab9,hFl];exact Hq) (gS (XT l (vr (.agg (F.map fun x=>NI x).toArray) rfl) f (by rw[Ab4,Ab4,Ab9,Ab9,hFl];rfl) (by rw[Ab4,Ab9,hFl];exact Hq) (PY _) fun bs ao a6 bt=> ?_)));clear g;clear f;have f:=ao;clear ao;have bu:=bl f;refine LI rfl (Aa9 l f D6 rfl (by rw[Ab4,Ab9,hFl];exact Hq)) ?_;subst hF;have hE:=Ab hE a6 (AbM (AbO _) (by omega));exact⟨rfl,hE⟩
section
variable {P : Acg}
theorem Fv{t e:AbQ}{size:Nat}(ht:P.underlying t=some (.slice e))(he:∀w' :AbJ,(sizeOf e).run P w' = .ok size w'){w:AbJ}{v:AbI}{n:Nat}{xs:List AbI}(hr:Reads w size v n xs)(lo hi:Option AbI)(l h:Nat)(hlh:l<=h)(hn:h<=n) 
  (hlo:lo=none/\l=0\/∃k,lo=some (.int k l)) (hhi:hi=none/\h=n\/∃k,hi=some (.int k h)):
  ∃ao c,((∀w:AbJ,(Instr.sliceAt t v lo hi none).run P w = .ok (.slice ao (h-l) c) w)/\(Value.slice ao (h-l) c).ownBlock=v.ownBlock)/\Reads w size (.slice ao (h-l) c) (h-l) ((xs.drop (l*size)).take ((h-l)*size)):=by
 obtain⟨h1,ao,cap,rfl,h2,h3,h4,h5⟩:=hr;have hE:P.elem t=e:=by simp[AeY,ht]
 have ht' :P.underlying t=some (.slice (P.elem t)):=by rw[hE];exact ht
 refine⟨if cap=l then ao else ao.map (·.add (l*size)),cap-l,⟨?_,?_⟩,?_,_,_,rfl,by omega,by omega,?_,?_⟩
 ·intro w;rw[run_sliceAt_slice (P:=P) w t _ _ _ _ ht'];have hl' :(l:Int)<=(h:Int):=by omega
  have hh' :(h:Int)<=(cap:Int):=by omega
  have hn' :(l:Int)<=(n:Int):=by omega
  rcases hlo with ⟨rfl,rfl⟩ | ⟨k,rfl⟩ <;> rcases hhi with ⟨rfl,rfl⟩ | ⟨k',rfl⟩
  ·rw[run_slice_all (P:=P) w t ao h cap ht',hE,he];simp[AcF,sliced]
  ·rw[run_slice_h (P:=P) w t ao n cap ht' k' h (by omega) hh',hE,he];simp[AcF,sliced]
  ·rw[run_slice_l (P:=P) w t ao h cap ht' k l (by omega) hl',hE,he];simp[AcF,sliced]
  ·rw[run_slice_lh (P:=P) w t ao n cap ht' k k' l h (by omega) hl' hh',hE,he];simp[AcF,sliced]
 ·cases ao with
  | none=>simp[AbS]
  | some x=>
   split
   ·rfl
   ·simp only[Ac3,AbS,Option.some.injEq];unfold AdO;split <;> rfl
 ·rw[Ab5,Ab6,h1];have:(h-l)*size<=n*size-l*size:=by rw[<-Nat.sub_mul];exact Nat.mul_le_mul_right _ (by omega)
  omega
 ·intro hnone;have:ao=none:=by
   cases ao with
   | none=>rfl
   | some x=>split at hnone <;> simp at hnone
  obtain⟨h6,h7⟩:=h4 this;omega
 ·intro a ha j u hu;have hj:j<((xs.drop (l*size)).take ((h-l)*size)).length:=(Acf.1 hu).1;have hj2:j<(h-l)*size:=by rw[Ab5]at hj;omega
  have hhl:h-l≠0:=fun e=>by rw[e]at hj2;simp at hj2
  rw[if_neg (by omega)]at ha;cases ao with
  | none=>simp at ha
  | some x=>
   simp at ha;subst ha;rw[F4];refine h5 x rfl _ _ ?_;rw[AdP,if_pos hj2,AeM]at hu;exact hu
end
section
variable {P : Acg} {K : AbI -> AbJ -> Prop} {ρ : Ac} {w w0 : AbJ} {d : Option Tmp} {ty : AbQ} {pos : String} {af : Array AcI} {gd : Option (Nat × Bool)}
variable {α : Type} {k : Nat} {enc : α -> List AbI} {t e : AbQ}
theorem Y3(ht:P.underlying t=some (.slice e))(he:∀w' :AbJ,(sizeOf e).run P w' = .ok k w'){x lo:AbV}{v:AbI}{xs:List α}(hx:Aa ρ x=v)(h:RG k enc w0 v xs){kd:AcK}{l:Nat}(hlo:Aa ρ lo = .int kd (l:Int))(hl:l<=xs.length) 
  (hk:∀v',RG k enc w0 v' (xs.drop l)->v'.ownBlock=v.ownBlock->K v' w):Yk P K ((execOp (Aa ρ) ⟨d, .slice t x (some lo) none none,ty,pos,af,gd⟩).run P w):=by
 obtain⟨ao,c,⟨hrun,hb⟩,hR⟩:=Fv ht he h.2 (some (.int kd l)) none l xs.length hl (AbO _) (.inr ⟨kd,rfl⟩) (.inl ⟨rfl,rfl⟩);have hR' :=RG.cut h.1 hl (AbO _) hR;rw[AcD (by rw[Ab6];exact AbO _)]at hR';refine Aa4 (v:= .slice ao (xs.length-l) c) (w' :=w) ?_ (hk _ hR' hb);unfold execOp;simp only[hx,hlo,Ac3,AdE,hrun,AbY,Ab1,AbU]
theorem ZR(ht:P.underlying t=some (.slice e))(he:∀w' :AbJ,(sizeOf e).run P w' = .ok k w'){x hi:AbV}{v:AbI}{xs:List α}(hx:Aa ρ x=v)(h:RG k enc w0 v xs){kd:AcK}{n:Nat}(hhi:Aa ρ hi = .int kd (n:Int))(hl:n<=xs.length) 
  (hk:∀v',RG k enc w0 v' (xs.take n)->v'.ownBlock=v.ownBlock->K v' w):Yk P K ((execOp (Aa ρ) ⟨d, .slice t x none (some hi) none,ty,pos,af,gd⟩).run P w):=by
 obtain⟨ao,c,⟨hrun,hb⟩,hR⟩:=Fv ht he h.2 none (some (.int kd n)) 0 n (Ack _) hl (.inl ⟨rfl,rfl⟩) (.inr ⟨kd,rfl⟩);have hR' :=RG.cut h.1 (Ack _) hl hR;rw[Aec,Nat.sub_zero]at hR';refine Aa4 (v:= .slice ao (n-0) c) (w' :=w) ?_ (hk _ hR' hb);unfold execOp;simp only[hx,hhi,Ac3,AdE,hrun,AbY,Ab1,AbU]
theorem E8{P:Acg}{e:AbQ}{k b:Nat}(h:(P.info? e).map (fun i=>(i.zero.map (fun z=>z.cells.size),i.size,i.bytes))=some (some k,k,b)):∃z,(P.info? e).map (fun i=>(i.zero,i.size,i.bytes))=some (some z,k,b)/\z.cells.size=k:=by
 cases hi:P.info? e with
 | none=>rw[hi]at h;cases h
 | some i=>
  rw[hi]at h;simp only[Ac3,Option.some.injEq,Prod.mk.injEq]at h;cases hz:i.zero with
  | none=>rw[hz]at h;cases h.1
  | some z=>
   rw[hz]at h;simp only[Ac3,Option.some.injEq]at h;exact⟨z,by simp[hz,h.2.1,h.2.2],h.1⟩
theorem AaB(base:Nat)(z:AbI)(bytes:Nat)(ht:P.underlying t=some (.slice e))(hi:(P.info? e).map (fun i=>(i.zero,i.size,i.bytes))=some (some z,k,bytes)){x y:AbV}{kl kc:AcK}{n:Nat}(hx:Aa ρ x = .int kl 0)(hy:Aa ρ y = .int kc (n:Int))(hb:bytes*n<=281474976710656)(hn:n<=9223372036854775807)(hbase:base<=w.heap.size) 
  (hk:∀v w',OG base e k enc w' v ([]:List α)->Ext w w' ->K v w'):Yk P K ((execOp (Aa ρ) ⟨d, .makeSlice t x y,ty,pos,af,gd⟩).run P w):=by
 obtain⟨i,hi,hz,hsize,hby⟩:=info_parts hi;obtain⟨w',hr,h2,h3⟩:=run_make_own (P:=P) (w:=w) base t e i z k ht hi hz hsize kl kc n (by rw[hby];exact hb) (by unfold maxLen;omega) hbase;refine Aa4 (v:= .slice (some ⟨w.heap.size,0,none⟩) 0 n) (w' :=w') ?_ (hk _ w' ⟨by simp,h2⟩ (Zl h3));unfold execOp;simp only[hx,hy,hr,AbY,Ab1,AbU]
theorem AaC(bytes:Nat)(ht:P.underlying t=some (.slice e))(hi:(P.info? e).map (fun i=>(i.zero,i.size,i.bytes))=some (some (.int .i64 0),1,bytes)){x y:AbV}{kl kc:AcK}{n:Nat}(hx:Aa ρ x = .int kl (n:Int))(hy:Aa ρ y = .int kc (n:Int))(hb:bytes*n<=281474976710656)(hn:n<=9223372036854775807) 
  (hk:∀g w',w.heap.size=g->w'.heap[g]? =some (.cells ((AbX n 0).map fun x=>NI x).toArray e (0,0))->Ext w w' ->w'.heap.size=g+1->K (.slice (some ⟨g,0,none⟩) n n) w'):Yk P K ((execOp (Aa ρ) ⟨d, .makeSlice t x y,ty,pos,af,gd⟩).run P w):=by
 obtain⟨i,hi,hz,hsize,hby⟩:=info_parts hi;have hb' :(i.bytes:Int)*(n:Int)<=281474976710656:=by
  have h:((i.bytes*n:Nat):Int)<=281474976710656:=by rw[hby];omega
  rwa [Int.natCast_mul]at h
 have hr:=run_make (P:=P) w t e i _ ht hi hz kl kc (n:Int) n (by omega) (by omega) hb' (by omega);have hm:madeCells (Value.int .i64 0).cells (n*i.size)=((AbX n 0).map fun x=>NI x).toArray:=by
  rw[hsize,Nat.mul_one]
  apply Array.ext
  ·simp[madeCells]
  ·intro j h1 h2;simp[madeCells,Aff,Nat.mod_one]
 simp only[Ab0]at hr;rw[hm]at hr;refine Aa4 (v:= .slice (some ⟨w.heap.size,0,none⟩) n n) (w' :=w.alloc (.cells ((AbX n 0).map fun x=>NI x).toArray e)) ?_ (hk w.heap.size _ rfl (heap_alloc_new w _) ((AcB _ _).alloc (AbO _) _) (by simp));unfold execOp;simp only[hx,hy,hr,AbY,Ab1,AbU]
theorem Y0(ht:P.underlying t=some (.slice e))(he:∀w' :AbJ,(sizeOf e).run P w' = .ok 1 w'){x y:AbV}{b i n c:Nat}{kd:AcK}(hx:Aa ρ x = .slice (some ⟨b,0,none⟩) n c)(hy:Aa ρ y = .int kd (i:Int))(hi:i<n)(hk:K (.pointer (some ⟨b,i,none⟩)) w):Yk P K ((execOp (Aa ρ) ⟨d, .indexAddr t x y,ty,pos,af,gd⟩).run P w):=
 Y4 ht he hx hy hi (by rw[Ac2];exact hk)
theorem OG.base{α:Type}{b b' k:Nat}{e:AbQ}{enc:α->List AbI}{v:AbI}{l:List α}(h:OG b e k enc w v l)(hb:b' <=b):OG b' e k enc w v l:=⟨h.1,BJ h.2 hb⟩
theorem B5{α β:Type}{ek:α->AbI}{ev:β->AbI}{D:α->Prop}{b:Nat}{G G' :α->Option β}(h:MapF ek ev D w b G)(e:G=G'):MapF ek ev D w b G' :=by rw[<-e];exact h
def FC{α:Type}(B N:Nat)(e:AbQ)(k:Nat)(enc:α->List AbI)(r:Option Nat)(l:List α)(x:AbI)(w' :AbJ):Prop:=OG B e k enc w' x l/\∀k,x.ownBlock=some k->r=some k\/N<=k
theorem Aar(w:AbJ)(b:Nat)(e:AbQ):OG b e k enc w (.slice none 0 0) ([]:List α):=Abg b e k enc w
structure MI (l O A B : List Ah5) : Prop where
 perm:(O++(A++B)).Perm l
 ascO:C1 O
 ascA:C1 A
 ascB:C1 B
 le:∀x∈O,∀y∈A++B,Acd x y<=0
theorem AaD{l A B:List Ah5}{h:Nat}(hA:A.Perm (l.take h))(hB:B.Perm (l.drop h))(a1:C1 A)(b1:C1 B):MI l [] A B:=
 ⟨by rw[AcO];exact(hA.append hB).trans (by rw[List.take_append_drop]),List.Pairwise.nil,a1,b1,by simp⟩
theorem MI.left{l O A B:List Ah5}(h:MI l O A B)(hA:0<A.length)(hB:0<B.length)(hc:Acd (A.getD 0 []) (B.getD 0 [])<=0):MI l (O++ [A.getD 0 []]) (A.drop 1) B:=by
 match A,B,hA,hB,h,hc with
 | a :: A,b :: B,_,_,h,hc=>
  simp only[Af6,AeE,Aec]at hc ⊢;have hp:=AcS.1 h.ascA;have hq:=AcS.1 h.ascB;have hall:∀y∈A++b :: B,Acd a y<=0:=fun y hy=>by
   rcases Acb.1 hy with h1 | h1
   ·exact hp.1 y h1
   ·rcases Acy.1 h1 with rfl | h1
    ·exact hc
    ·exact Gr hc (hq.1 y h1)
  refine⟨by rw[Acj];exact h.perm,?_,hp.2,h.ascB,?_⟩
  ·unfold C1;rw[Ac6];exact⟨h.ascO,by simp,fun x hx y hy=>by rw[AbW.1 hy];exact h.le x hx a (by simp)⟩
  ·intro x hx y hy;rcases Acb.1 hx with h1 | h1
   ·exact h.le x h1 y (by simp only[AcM,Acy];exact .inr hy)
   ·rw[AbW.1 h1];exact hall y hy
theorem MI.right{l O A B:List Ah5}(h:MI l O A B)(hA:0<A.length)(hB:0<B.length)(hc:¬Acd (A.getD 0 []) (B.getD 0 [])<=0):MI l (O++ [B.getD 0 []]) A (B.drop 1):=by
 match A,B,hA,hB,h,hc with
 | a :: A,b :: B,_,_,h,hc=>
  simp only[Af6,AeE,Aec]at hc ⊢;have hp:=AcS.1 h.ascA;have hq:=AcS.1 h.ascB;have hba:Acd b a<=0:=by have:=G0 a b;omega
  have hall:∀y∈a :: A++B,Acd b y<=0:=fun y hy=>by
   rcases Acb.1 hy with h1 | h1
   ·rcases Acy.1 h1 with rfl | h1
    ·exact hba
    ·exact Gr hba (hp.1 y h1)
   ·exact hq.1 y h1
  refine⟨?_,?_,h.ascA,hq.2,?_⟩
  ·refine List.Perm.trans ?_ h.perm;rw[Acj];refine List.Perm.append_left O ?_;simp only[Ae0];exact(List.perm_middle (l₁:=a :: A) (l₂:=B) (a:=b)).symm
  ·unfold C1;rw[Ac6];exact⟨h.ascO,by simp,fun x hx y hy=>by rw[AbW.1 hy];exact h.le x hx b (by simp)⟩
  ·intro x hx y hy;rcases Acb.1 hx with h1 | h1
   ·exact h.le x h1 y (by
     rcases Acb.1 hy with h2 | h2
     ·exact Aeu _ h2
     ·exact AdL _ (by simp[h2]))
   ·rw[AbW.1 h1];exact hall y hy
theorem MI.done{l O A B:List Ah5}(h:MI l O A B)(he:A.length=0\/B.length=0):((O++A)++B).Perm l/\C1 ((O++A)++B):=by
 refine⟨by rw[Acj];exact h.perm,?_⟩;rw[Acj];unfold C1;rw[Ac6];refine⟨h.ascO,?_,h.le⟩;rcases he with he | he
 ·rw[Acv he,AcO];exact h.ascB
 ·rw[Acv he,AdG];exact h.ascA
theorem RC{l:List Ah5}(h:l.length<2):C1 l:=by
 match l,h with
 | [],_=>exact List.Pairwise.nil
 | [a],_=>simp[C1]
end
end Go.Proofs.YtfpekahfdalfkaaGreatDoor
