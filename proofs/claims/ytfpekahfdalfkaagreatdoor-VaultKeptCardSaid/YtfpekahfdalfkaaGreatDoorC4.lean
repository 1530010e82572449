/- Part 4 of what stands behind these statements: laws and walks of the functions that are reached. Conditions: those that each theorem names. -/
import Derived.Test.YtfpekahfdalfkaaGreatDoorC3
set_option linter.unusedVariables false
set_option linter.unusedSimpArgs false
namespace Go.Proofs.YtfpekahfdalfkaaGreatDoor
open _root_.Go renaming Value->Ae2,World->Ae3,TypeId->Afa,Program->AfD,Operand->Aff
open _root_.List renaming replicate->Afk,mem_append->Afy,mem_singleton->Afh,getElem?_cons_succ->AgP,getElem?_eq_some_iff->Afx,mem_cons->AfT,not_mem_nil->AgX,length_take->Afi,size_toArray->Afr,length_drop->Afn,length_replicate->Afp,length_cons->AfA,length_nil->AfK,map_append->AgC,length_append->Ae9,getD_eq_getElem?_getD->Ae6,getElem?_eq_getElem->Afb,length_map->Afu,all_eq_true->AfP,mem_map->AfO,getElem?_toArray->Af0,getElem?_eq_none->Agj,getElem?_cons_zero->AhF
open _root_.Go.Lib renaming byteCells->Ae4,byteCells_length->Afl,compareBytes->Aft
open _root_.Go.Proofs.Tryz renaming prog->Ae5
open _root_.Nat renaming lt_of_lt_of_le->AfZ,le_refl->Ae8,zero_le->AfC,le_trans->Ae7,not_lt_zero->Age,blt->Ag5,le_of_ble_eq_true->Afj,beq->Ahy,beq_refl->Ai3
open _root_.Go.Instr renaming build->Ag3,buildSlice->AfM
open _root_.Go.Value renaming bool->AfE,slice->Afc,ownBlock->Afd
open _root_.Prod renaming fst->AfB
open _root_.And renaming intro->AfF
open _root_.Int renaming toNat_natCast->Afg
open _root_.Go.World renaming cell?->AhB,cell?_spot->Ah3,drew->Ajc
open _root_.Array renaming replicate->AgU,getD_eq_getD_getElem?->AfS,getElem?_append->Ajs,getElem?_replicate->AgA
open _root_.Go.RowKit.Below renaming refl->AfV
open Go.RowKit
def BQ(b:Bs)(a fin:Nat):Option (Bs × Nat):=
 match AX 0 ((b.take fin).drop a)with
 | none=>none
 | some x=>if 1048576<x.1 then none else if(b.take fin).length<a+x.2+x.1 then none else some (((b.take fin).drop (a+x.2)).take x.1,a+x.2+x.1)
structure Ent where
 pos:Nat
 based:Bool
 base:Bs
 bytes:Bs
abbrev Aj:=Ent × Ae2
def dEnt:Aj:=(⟨0,false,Afk 32 0,[]⟩, .slice none 0 0)
def entC(x:Aj):List Ae2:=NI x.1.pos :: .bool x.1.based :: (Ae4 x.1.base++ [x.2])
def EntsOk(w:Ae3)(xs:List Aj):Prop:=∀x∈xs,RB w x.2 x.1.bytes/\x.1.base.length=32
theorem EntsOk.keep{w w' :Ae3}{xs:List Aj}(h:EntsOk w xs)(k:Ext w w'):EntsOk w' xs:=fun x hx=>⟨(h x hx).1.keep k,(h x hx).2⟩
def NewV(n:Nat)(v:Ae2):Prop:=∀k,v.ownBlock=some k->n<=k
theorem NewV.nil(n:Nat):NewV n (.slice none 0 0):=fun k h=>by cases h
def NewM{α:Type}(n:Nat)(M:Bs->Option (α × Ae2)):Prop:=∀id x,M id=some x->NewV n x.2
theorem NewM.none{α:Type}(n:Nat):NewM (α:=α) n (fun _=> .none):=fun _ _ h=>by cases h
theorem NewM.put{α:Type}{n:Nat}{M:Bs->Option (α × Ae2)}(h:NewM n M)(id:Bs){x:α × Ae2}(hx:NewV n x.2):NewM n (updM M id (some x)):=fun a c hc=>by
 unfold updM at hc;split at hc
 ·cases hc;exact hx
 ·exact h a c hc
theorem NewM.get{n:Nat}{M:Bs->Option Aj}(h:NewM n M)(k:Bs):NewV n ((M k).getD dEnt).2:=by
 cases e:M k with
 | none=>exact NewV.nil n
 | some c=>exact h k c e
theorem Oy{α:Type}{l:List α}{y:α}{P:α->Prop}(h:∀x∈l,P x)(hy:P y):∀x∈l++ [y],P x:=fun x hx=>by
 rcases Afy.1 hx with hx | hx
 ·exact h x hx
 ·rw[Afh.1 hx];exact hy
theorem entC_len{x:Aj}(h:x.1.base.length=32):(entC x).length=35:=by simp[entC,Ae4,h]
theorem Oz{x:Aj}(h:x.1.base.length=32):(entC x)[34]? =some x.2:=by
 unfold entC;rw[AgP,AgP,List.getElem?_append_right (by rw[Afl,h];omega),Afl,h];rfl
theorem EL{w:Ae3}{g:Nat}{x:Aj}{t:Afa}{fr:Nat × Nat}(hb:w.heap[g]? =some (.cells (entC x).toArray t fr)):w.rangeAt g 2 (Ae4 x.1.base):=fun j u hu=>by
 refine cellAt hb ?_;unfold entC;rw[show 2+j=j+1+1 by omega,AgP,AgP,List.getElem?_append_left (Afx.1 hu).1];exact hu
theorem BF{x:Aj}(h:x.2.oneCell' =true):∀u∈entC x,u.oneCell' =true:=by
 intro u hu;simp only[entC,AfT,Afy,AgX,or_false]at hu;rcases hu with rfl | rfl | hu | rfl
 ·rfl
 ·rfl
 ·exact Ag _ u hu
 ·exact h
def entOne(b:Bs)(fin pos:Nat):Option (Ent × Nat):=
 if pos<fin/\(b.getD pos 0).toNat<=1 then
  if b.getD pos 0=1 then
   if fin-(pos+1)<32 then none
   else(BQ b (pos+33) fin).map fun x=>(⟨pos,true,((b.take fin).drop (pos+1)).take 32,x.1⟩,x.2)
  else(BQ b (pos+1) fin).map fun x=>(⟨pos,false,Afk 32 0,x.1⟩,x.2)
 else none
def CF(b:Bs)(fin first:Nat):Nat->Option (List Ent × Nat)
 | 0=>some ([],first)
 | i+1=>(CF b fin first i).bind fun x=>(entOne b fin x.2).map fun y=>(x.1++ [y.1],y.2)
theorem D8{b:Bs}{fin first i:Nat}(h:CF b fin first i=none):∀k,CF b fin first (i+k)=none
 | 0=>h
 | k+1=>by
  show(CF b fin first (i+k)).bind _=none;rw[D8 h k];rfl
theorem Fz{b:Bs}{fin first i:Nat}{es:List Ent}{p:Nat}(h:CF b fin first i=some (es,p)):CF b fin first (i+1)=(entOne b fin p).map fun y=>(es++ [y.1],y.2):=by
 show(CF b fin first i).bind _=_;rw[h];rfl
def Cj(b:Bs)(n first fin:Nat):Option (List Ent):=(CF b fin first n).bind fun x=>if x.2=fin then some x.1 else none
theorem OA{b:Bs}{a fin:Nat}{s:Bs}{n:Nat}(h:BQ b a fin=some (s,n))(ha:a<=fin)(hf:fin<=b.length):n<=fin/\a<=n:=by
 unfold BQ at h;split at h
 ·cases h
 ·split at h
  ·cases h
  ·split at h
   ·cases h
   ·rename_i h1
    cases h;rw[Afi]at h1;omega
set_option maxRecDepth 100000
set_option maxHeartbeats 1600000
theorem Gz:Plain Ae5 210:=fun _ _=>by kernel_rfl
theorem GA:Plain Ae5 129:=fun _ _=>by kernel_rfl
theorem OC(w:Ae3)(v:Ae2)(b:Bs)(hr:RB w v b)(a fin:Nat)(ha:a<=fin)(hf:fin<=b.length):
  Calls Ae5 172 #[v,NI a,NI fin] w fun r w' =>(∃x,r = .returned x/\∃s n,BQ b a fin=some (s,n)/\x = .tuple #[St s,NI n]/\Ext w w')\/∃ch,r = .panicked ch/\BQ b a fin=none/\ch= [C6 6]/\Ext w w' :=by
 refine gG (args:= [v,NI a,NI fin]) Tryz.func172 rfl 25 rfl rfl ?_;have hE:=Ad4 w;have htk:(b.take fin).length=fin:=by rw[Afi];omega
 rcases hd:AX 0 ((b.take fin).drop a)with _ | ⟨xn,xk⟩
 ·have hP:BQ b a fin=none:=by unfold BQ;rw[hd]
  refine gS (Abr (xs:=b) (n:=fin) GR Rg rfl (hr.keep hE) rfl (by omega) fun c f ha5=>(gS (Aa9 Gz rfl rfl rfl ?_)));refine((show Calls _ _ _ _ (fun e w2=>e = .returned (.tuple #[St (([]:AlJ)),NI 0,NI 6])/\Ext _ w2)from(Gx _ c (b.take (fin)) f a (by omega) 1048576).mono fun e w2 ⟨h1,h2⟩=>by subst h2;subst h1;refine⟨?_,Ad4 _⟩;unfold Cf;rw[hd];simp only;rfl)).mono ?_;rintro e w7 ⟨rfl,g⟩;refine⟨_,rfl,?_⟩;refine gS (Ad5 (vs:= [St (([]:AlJ)),NI 0,NI 6]) rfl rfl (gS (Ad5 (vs:= [St (([]:AlJ)),NI 0,NI 6]) rfl rfl (gS (Ad5 (vs:= [St (([]:AlJ)),NI 0,NI 6]) rfl rfl (gS (Aay (a:=(6:Nat)) (b:=(0:Nat)) rfl rfl (AH _ _ _ _) (gP (Aa3 GA rfl rfl ?_)))))))));refine Aw (A1 _ (decide ((6:Nat)=(0))) 6) ?_ ?_;rotate_left
  ·rintro ch ac ⟨rfl,hb,hx⟩;refine Ax ?_;have hno:=of_decide_eq_false hb;have hE:=hE.trans g;exact .inr ⟨_,rfl,hP,rfl,hE.trans hx⟩
  rintro v_ ad ⟨rfl,h,ae⟩;have af:=of_decide_eq_true h;refine BI rfl (vr (St (([]:AlJ))) rfl) (vr (NI 0) rfl) ?_;omega
 by_cases hm:1048576<xn
 ·have hP:BQ b a fin=none:=by unfold BQ;rw[hd];simp only;rw[if_pos hm]
  refine gS (Abr (xs:=b) (n:=fin) GR Rg rfl (hr.keep hE) rfl (by omega) fun i j ha19=>(gS (Aa9 Gz rfl rfl rfl ?_)));refine((show Calls _ _ _ _ (fun e w2=>e = .returned (.tuple #[St (([]:AlJ)),NI 0,NI 2])/\Ext _ w2)from(Gx _ i (b.take (fin)) j a (by omega) 1048576).mono fun e w2 ⟨h1,h2⟩=>by subst h2;subst h1;refine⟨?_,Ad4 _⟩;unfold Cf;rw[hd];simp only;rw[if_pos (by omega)];rfl)).mono ?_;rintro e ag ⟨rfl,k⟩;refine⟨_,rfl,?_⟩;refine gS (Ad5 (vs:= [St (([]:AlJ)),NI 0,NI 2]) rfl rfl (gS (Ad5 (vs:= [St (([]:AlJ)),NI 0,NI 2]) rfl rfl (gS (Ad5 (vs:= [St (([]:AlJ)),NI 0,NI 2]) rfl rfl (gS (Aay (a:=(2:Nat)) (b:=(0:Nat)) rfl rfl (AH _ _ _ _) (gP (Aa3 GA rfl rfl ?_)))))))));refine Aw (A1 _ (decide ((2:Nat)=(0))) 6) ?_ ?_;rotate_left
  ·rintro ch ah ⟨rfl,hb,hx⟩;refine Ax ?_;have hno:=of_decide_eq_false hb;have hE:=hE.trans k;exact .inr ⟨_,rfl,hP,rfl,hE.trans hx⟩
  rintro v_ ai ⟨rfl,l,aj⟩;have ak:=of_decide_eq_true l;refine BI rfl (vr (St (([]:AlJ))) rfl) (vr (NI 0) rfl) ?_;omega
 by_cases hl:(b.take fin).length<a+xk+xn
 ·have hP:BQ b a fin=none:=by unfold BQ;rw[hd];simp only;rw[if_neg hm,if_pos hl]
  refine gS (Abr (xs:=b) (n:=fin) GR Rg rfl (hr.keep hE) rfl (by omega) fun m o ha33=>(gS (Aa9 Gz rfl rfl rfl ?_)));refine((show Calls _ _ _ _ (fun e w2=>e = .returned (.tuple #[St (([]:AlJ)),NI 0,NI 6])/\Ext _ w2)from(Gx _ m (b.take (fin)) o a (by omega) 1048576).mono fun e w2 ⟨h1,h2⟩=>by subst h2;subst h1;refine⟨?_,Ad4 _⟩;unfold Cf;rw[hd];simp only;rw[if_neg (by omega),if_pos hl];rfl)).mono ?_;rintro e al ⟨rfl,p⟩;refine⟨_,rfl,?_⟩;refine gS (Ad5 (vs:= [St (([]:AlJ)),NI 0,NI 6]) rfl rfl (gS (Ad5 (vs:= [St (([]:AlJ)),NI 0,NI 6]) rfl rfl (gS (Ad5 (vs:= [St (([]:AlJ)),NI 0,NI 6]) rfl rfl (gS (Aay (a:=(6:Nat)) (b:=(0:Nat)) rfl rfl (AH _ _ _ _) (gP (Aa3 GA rfl rfl ?_)))))))));refine Aw (A1 _ (decide ((6:Nat)=(0))) 6) ?_ ?_;rotate_left
  ·rintro ch am ⟨rfl,hb,hx⟩;refine Ax ?_;have hno:=of_decide_eq_false hb;have hE:=hE.trans p;exact .inr ⟨_,rfl,hP,rfl,hE.trans hx⟩
  rintro v_ an ⟨rfl,q,ao⟩;have ap:=of_decide_eq_true q;refine BI rfl (vr (St (([]:AlJ))) rfl) (vr (NI 0) rfl) ?_;omega
 have hP:BQ b a fin=some (((b.take fin).drop (a+xk)).take xn,a+xk+xn):=by unfold BQ;rw[hd];simp only;rw[if_neg hm,if_neg hl]
 refine gS (Abr (xs:=b) (n:=fin) GR Rg rfl (hr.keep hE) rfl (by omega) fun t u ha47=>(gS (Aa9 Gz rfl rfl rfl ?_)));refine((show Calls _ _ _ _ (fun e w2=>e = .returned (.tuple #[St (((b.take fin).drop (a+xk)).take xn),NI (a+xk+xn),NI 0])/\Ext _ w2)from(Gx _ t (b.take (fin)) u a (by omega) 1048576).mono fun e w2 ⟨h1,h2⟩=>by subst h2;subst h1;refine⟨?_,Ad4 _⟩;unfold Cf;rw[hd];simp only;rw[if_neg (by omega),if_neg hl];rfl)).mono ?_;rintro e aq ⟨rfl,y⟩;refine⟨_,rfl,?_⟩;refine gS (Ad5 (vs:= [St (((b.take fin).drop (a+xk)).take xn),NI (a+xk+xn),NI 0]) rfl rfl (gS (Ad5 (vs:= [St (((b.take fin).drop (a+xk)).take xn),NI (a+xk+xn),NI 0]) rfl rfl (gS (Ad5 (vs:= [St (((b.take fin).drop (a+xk)).take xn),NI (a+xk+xn),NI 0]) rfl rfl (gS (Aay (a:=(0:Nat)) (b:=(0:Nat)) rfl rfl (AH _ _ _ _) (gP (Aa3 GA rfl rfl ?_)))))))));refine Aw (A1 _ (decide ((0:Nat)=(0))) 6) ?_ ?_;rotate_left
 ·rintro ch ar ⟨rfl,hb,hx⟩;refine Ax ?_;have hno:=of_decide_eq_false hb;exact absurd rfl hno
 rintro v_ au ⟨rfl,z,aa⟩;have av:=of_decide_eq_true z;refine BI rfl (vr (St (((b.take fin).drop (a+xk)).take xn)) rfl) (vr (NI (a+xk+xn)) rfl) ?_;have hZ1:=y.trans aa;have hE:=hE.trans hZ1;exact .inl ⟨_,rfl,_,_,hP,rfl,hE⟩
def EntsIn(w:Ae3)(va:Ae2)(xs:List Aj):Prop:=∀x∈xs,RB w x.2 x.1.bytes/\x.1.base.length=32/\∀k,x.2.ownBlock=some k->k<w.heap.size/\va.ownBlock≠some k
theorem EntsIn.keep{w w' :Ae3}{va:Ae2}{xs:List Aj}(h:EntsIn w va xs)(k:Ext w w'):EntsIn w' va xs:=fun x hx=>
 ⟨(h x hx).1.keep k,(h x hx).2.1,fun j hj=>⟨AfZ ((h x hx).2.2 j hj).1 k.size,((h x hx).2.2 j hj).2⟩⟩
theorem EntsIn.nil(w:Ae3)(va:Ae2):EntsIn w va []:=fun x hx=>by cases hx
theorem Ace{w:Ae3}{va:Ae2}{xs:List Aj}(h:EntsIn w va xs){x:Aj}(h1:RB w x.2 x.1.bytes)(h2:x.1.base.length=32)(h3:∀k,x.2.ownBlock=some k->k<w.heap.size/\va.ownBlock≠some k):EntsIn w va (xs++ [x]):=fun y hy=>by
 rcases Afy.1 hy with hy | hy
 ·exact h y hy
 ·rw[Afh.1 hy];exact⟨h1,h2,h3⟩
theorem Il{w w' :Ae3}{v v' x:Ae2}{m:AlJ}(h:RB w x m)(hx:∀k,x.ownBlock=some k->v.ownBlock≠some k)(gr:Grew w w' v v'):RB w' x m:=by
 refine h.kept gr.by_ ?_;cases hv:x.ownBlock with
 | none=>exact .inl rfl
 | some g=>exact .inr (fun e=>hx g hv (by rw[<-e]))
theorem EntsIn.grew{w w' :Ae3}{va va' :Ae2}{xs:List Aj}(h:EntsIn w va xs)(g:Grew w w' va va'):EntsIn w' va' xs:=fun x hx=>
 ⟨Il (h x hx).1 (fun k hk=>((h x hx).2.2 k hk).2) g,(h x hx).2.1,fun j hj=>⟨AfZ ((h x hx).2.2 j hj).1 g.by_.size,fun e=>(g.fresh j e).elim (fun q=>((h x hx).2.2 j hj).2 q) (fun q=>by have:=((h x hx).2.2 j hj).1;omega)⟩⟩
theorem EntsIn.ok{w:Ae3}{va:Ae2}{xs:List Aj}(h:EntsIn w va xs):EntsOk w xs:=fun x hx=>⟨(h x hx).1,(h x hx).2.1⟩
section
variable {P : AfD} {K : Ae2 -> Ae3 -> Prop} {ρ : Ae} {w : Ae3} {d : Option Tmp} {ty : Afa} {pos : String} {af : Array Edge} {gd : Option (Nat × Bool)}
theorem Acm{t e s:Afa}{u:TypeDesc}(hs:P.underlying s=some u)(ht:P.underlying t=some (.slice e))(he:P.underlying e=some (.int .u8)){x:Aff}{l:AlJ}(hx:Aa ρ x=St l)(hl:l.length<=9223372036854775807) 
  (hk:∀v w',RB w' v l->Ext w w' ->(∀k,v.ownBlock=some k->w.heap.size<=k/\k<w'.heap.size)->K v w'):Yk P K ((execOp (Aa ρ) ⟨d, .convert s t x,ty,pos,af,gd⟩).run P w):=by
 have hr:=Lib.run_convert_string_bytes (P:=P) w s t e ⟨l.toArray⟩ hs ht he;have hsz:(⟨l.toArray⟩:ByteArray).size=l.length:=by simp[ByteArray.size]
 rw[hsz]at hr;refine Aea (v:= .slice (some ⟨w.heap.size,0,none⟩) l.length (grownCap w l.length 0 e)) (w' :=Lib.bytesWorld w e ⟨l.toArray⟩) ?_ (hk _ _ ?_ (Lib.bytesWorld_below w e _) ?_)
 ·unfold execOp;simp only[hx,hr,Sem.run_bind,Sem.run_pure,Result.andThen_ok]
 ·refine⟨by rw[Afl,Nat.mul_one],_,_,rfl,grownCap_ge w _ _ _,grownCap_le_maxLen w _ _ _ (by simpa [maxLen] using hl),(fun h=>by cases h),fun a ha j u hu=> ?_⟩;cases ha;have hj:j<l.length:=by have:=(Afx.1 hu).1;rwa [Afl]at this
  have hc:=Lib.bytesWorld_cell w e ⟨l.toArray⟩ j (by rw[hsz];exact hj);rw[show(⟨w.heap.size,0,none⟩:Addr).add j=⟨w.heap.size,j,none⟩ by simp[Addr.add];exact fun h=>h.symm];rw[hc,<-hu,JQ hj]
 ·intro k hk;cases hk;rw[Lib.bytesWorld_size];exact⟨Ae8 _,Nat.lt_succ_self _⟩
theorem KC(p:Nat)(q:Bool)(B s:Bs)(v:Ae2):entC (⟨p,q,B,s⟩,v)= [NI p, .bool q]++Ae4 B++ [v]:=rfl
theorem Ada{t' :Afa}{x y:Aff}{g p:Nat}{q:Bool}{B B' s:Bs}{v:Ae2}{t:Afa}(hx:Aa ρ x = .pointer (some ⟨g,2,none⟩))(hy:Aa ρ y = .agg (Ae4 B').toArray)(hg:w.heap[g]? =some (.cells (entC (⟨p,q,B,s⟩,v)).toArray t (0,0)))(hB:B.length=32)(hB' :B'.length=32)(hi:(P.info? t').map (·.size)=some 32) 
  (hk:∀w',w'.heap[g]? =some (.cells (entC (⟨p,q,B',s⟩,v)).toArray t (0,0))->w.grownBy w' (some g)->w'.heap.size=w.heap.size->K undef w'):Yk P K ((execOp (Aa ρ) ⟨d, .store t' x y,ty,pos,af,gd⟩).run P w):=
 AcQ (a:= [NI p, .bool q]) (m:=Ae4 B) (z:= [v]) hx hy (by rw[<-KC];exact hg) rfl (by rw[Afl,Afl,hB,hB']) (by rw[Afl,hB'];exact hi) (Ag _) hk
theorem TH(p:Nat)(q:Bool)(B s:Bs)(v v' :Ae2)(hB:B.length=32):(entC (⟨p,q,B,s⟩,v)).set 34 v' =entC (⟨p,q,B,s⟩,v'):=by
 rw[KC,KC,List.set_append_right _ _ (by simp[Ae4,hB])]
 congr 1
 simp[Ae4,hB]
theorem Acz{t' :Afa}{x y:Aff}{g p:Nat}{q:Bool}{B s s' :Bs}{v v' :Ae2}{t:Afa}(hx:Aa ρ x = .pointer (some ⟨g,34,none⟩))(hy:Aa ρ y=v')(hg:w.heap[g]? =some (.cells (entC (⟨p,q,B,s⟩,v)).toArray t (0,0)))(hB:B.length=32)(hi:(P.info? t').map (·.size)=some 1)(hr:RB w v' s') 
  (hk:∀w',w'.heap[g]? =some (.cells (entC (⟨p,q,B,s'⟩,v')).toArray t (0,0))->w.grownBy w' (some g)->w'.heap.size=w.heap.size->K undef w'):Yk P K ((execOp (Aa ρ) ⟨d, .store t' x y,ty,pos,af,gd⟩).run P w):=
 Aa0 (i:=34) hx hy hg (by rw[entC_len (x:=(⟨p,q,B,s⟩,v)) hB];decide) hi hr.one.1 hr.one.2 fun w' h1 h2 h3=>hk w' (by rw[TH p q B s v v' hB]at h1;exact h1) h2 h3
end
theorem Bo{P:AfD}{t:Afa}{x:Aj}(hi:(P.info? t).map (·.size)=some 35)(h:x.1.base.length=32):(P.info? t).map (·.size)=some (entC x).toArray.size:=by rw[Afr,entC_len h];exact hi
theorem BA{x y:Aj}(h:x.1.base.length=32)(h' :y.1.base.length=32):(entC x).toArray.size=(entC y).toArray.size:=by rw[Afr,Afr,entC_len h,entC_len h']
theorem TI{b:Bs}{fin pos:Nat}(h:pos<fin/\(b.getD pos 0).toNat<=1):entOne b fin pos =
 if b.getD pos 0=1 then
  if fin-(pos+1)<32 then none
  else(BQ b (pos+33) fin).map fun x=>(⟨pos,true,((b.take fin).drop (pos+1)).take 32,x.1⟩,x.2)
 else(BQ b (pos+1) fin).map fun x=>(⟨pos,false,Afk 32 0,x.1⟩,x.2):=if_pos h
theorem Hh{b:Bs}{a fin:Nat}{s:Bs}{n:Nat}(h:BQ b a fin=some (s,n))(hf:fin<=b.length):s.length<=b.length:=by
 unfold BQ at h;split at h
 ·cases h
 ·split at h
  ·cases h
  ·split at h
   ·cases h
   ·cases h;rw[Afi,Afn,Afi];omega
theorem Lr{b:Bs}{fin pos:Nat}{e:Ent}{n:Nat}(h:entOne b fin pos=some (e,n))(hf:fin<=b.length):n<=fin/\pos<n:=by
 unfold entOne at h;split at h
 ·rename_i hc
  split at h
  ·split at h
   ·cases h
   ·cases ht:BQ b (pos+33) fin with
    | none=>rw[ht]at h;cases h
    | some x=>rw[ht]at h;cases h;have:=OA ht (by omega) hf;omega
  ·cases ht:BQ b (pos+1) fin with
   | none=>rw[ht]at h;cases h
   | some x=>rw[ht]at h;cases h;have:=OA ht (by omega) hf;omega
 ·cases h
theorem Im(z0:Int)(z1:Bool)(w:Ae3):(Ag3 208 #[(0, .int .i64 z0),(1, .bool z1)]).run Ae5 w = .ok (.agg (Value.int .i64 z0 :: AfE z1 :: (Ae4 (Afk 32 0)++ [Afc none 0 0])).toArray) w:=by kernel_rfl
theorem In{d:Option Tmp}{ty:Afa}{pos:String}{af:Array Edge}{gd:Option (Nat × Bool)}(σ:Aff->Ae2)(w:Ae3):(execOp σ ⟨d, .alloc 208,ty,pos,af,gd⟩).run Ae5 w = .ok (.value (PQ w.heap.size 0)) (w.alloc (.cells (entC dEnt).toArray 208)):=by kernel_rfl
theorem EX:(Tryz.prog.info? 208).map (·.size)=some 35:=by kernel_rfl
theorem GW:AZ Ae5 208 1 1:=fun b o w=>by simp[go_sem]
theorem KD:Tryz.prog.underlying 4=some (.bool):=by kernel_rfl
theorem Ls:Plain Ae5 171:=fun _ _=>by kernel_rfl
theorem OD:AZ Ae5 208 2 2:=fun b o w=>by simp[go_sem]
theorem Lt:Plain Ae5 172:=fun _ _=>by kernel_rfl
theorem Jm:AZ Ae5 208 3 34:=fun b o w=>by simp[go_sem]
theorem Lu:∃fs,Tryz.prog.underlying 208=some (.struct fs):=Fg (by kernel_rfl)
theorem RI(c0 c1 c2 c3 c4 c5 c6 c7 c8 c9 c10 c11 c12 c13 c14 c15 c16 c17 c18 c19 c20 c21 c22 c23 c24 c25 c26 c27 c28 c29 c30 c31 c32 c33 c34:Ae2)(w:Ae3):(AfM 200 1 #[(0, .agg #[c0,c1,c2,c3,c4,c5,c6,c7,c8,c9,c10,c11,c12,c13,c14,c15,c16,c17,c18,c19,c20,c21,c22,c23,c24,c25,c26,c27,c28,c29,c30,c31,c32,c33,c34])]).run Ae5 w = .ok (.slice (some ⟨w.heap.size,0,none⟩) 1 1) (w.alloc (.cells #[c0,c1,c2,c3,c4,c5,c6,c7,c8,c9,c10,c11,c12,c13,c14,c15,c16,c17,c18,c19,c20,c21,c22,c23,c24,c25,c26,c27,c28,c29,c30,c31,c32,c33,c34] 208)):=by kernel_rfl
theorem Lv:∀(cs:Array Ae2),cs.size=35->∀w:Ae3,(AfM 200 1 #[(0, .agg cs)]).run Ae5 w = .ok (.slice (some ⟨w.heap.size,0,none⟩) 1 1) (w.alloc (.cells cs 208))
 | ⟨c0 :: c1 :: c2 :: c3 :: c4 :: c5 :: c6 :: c7 :: c8 :: c9 :: c10 :: c11 :: c12 :: c13 :: c14 :: c15 :: c16 :: c17 :: c18 :: c19 :: c20 :: c21 :: c22 :: c23 :: c24 :: c25 :: c26 :: c27 :: c28 :: c29 :: c30 :: c31 :: c32 :: c33 :: c34 :: []⟩,_,w=>RI c0 c1 c2 c3 c4 c5 c6 c7 c8 c9 c10 c11 c12 c13 c14 c15 c16 c17 c18 c19 c20 c21 c22 c23 c24 c25 c26 c27 c28 c29 c30 c31 c32 c33 c34 w
theorem pk12_ig208:∃z,(Tryz.prog.info? 208).map (fun i=>(i.zero,i.size,i.bytes))=some (some z,35,72)/\z.cells.size=35:=FS (by kernel_rfl)
theorem GB:Tryz.prog.underlying 200=some (.slice 208):=by kernel_rfl
theorem PX(w:Ae3)(v:Ae2)(b:Bs)(hr:RB w v b)(n first fin:Nat)(hff:first<=fin)(hf:fin<=b.length)(hn:n<=1048576)(hb:b.length<=1048576):
  Calls Ae5 130 #[v,NI n,NI first,NI fin] w fun r w' =>(∃x,r = .returned x/\∃es:List Aj,Cj b n first fin=some (es.map AfB)/\RG 35 entC w' x es/\EntsOk w' es/\(∀x∈es,NewV w.heap.size x.2)/\Ext w w')\/∃ch,r = .panicked ch/\Cj b n first fin=none/\ch= [C6 6]/\Ext w w' :=by
 refine gG (args:= [v,NI n,NI first,NI fin]) Tryz.func130 rfl 77 rfl rfl ?_;have hE:=Ad4 w;have hen0:OG w.heap.size 208 35 entC w (Afc none 0 0) ([]:List Aj):=Aem _ _ _ _ _;refine gL (fun(ρ:Ae) (wz:Ae3)=>∃i:Nat,∃es:List Aj,∃p:Nat,∃va:Ae2,ρ 0=(v:Ae2)/\ρ 1=(NI n:Ae2)/\ρ 3=(NI fin:Ae2)/\ρ 8=((Afc none 0 0):Ae2)/\ρ 16=(NI n:Ae2)/\ρ 17=(NI i:Ae2)/\ρ 2=(NI p:Ae2)/\ρ 9=(va:Ae2)/\Ext w wz/\EntsIn wz va es/\OG w.heap.size 208 35 (entC) wz va (es)/\(CF b fin first i=some (es.map AfB,p))/\(i<=n)/\(p<=fin)/\(es.length=i)/\(∀x∈es,NewV w.heap.size x.2)/\True) (fun ρ _=>n-(intOf (ρ 17)).toNat) ⟨0,[],first,(Afc none 0 0),rfl,rfl,rfl,rfl,rfl,rfl,rfl,rfl,hE,EntsIn.nil _ _,Bd hen0 (rfl),rfl,AfC _,by omega,rfl,(fun x hx=>by cases hx),trivial⟩ ?_;clear hen0;clear hE;rintro be w6 ⟨i,es,p,va,u,T1,z,T8,a5,ao,g,T9,hE,hEn,hr_va,hs,hi,hp,hil,hnw,-⟩;have q17:=ao;refine gS (Aay (a:=(i:Nat)) (b:=(n:Nat)) ao a5 (AE _ _ _ _) ?_);refine cD rfl (fun bh=> ?_) fun bh=> ?_
 ·have hil0:i<n:=bh;have hst:=Fz hs;have hlen:(b.take fin).length=fin:=by rw[Afi];omega
  by_cases hlt:p<fin
  ·by_cases hle:(b.getD p 0).toNat<=1
   ·have hO1:=TI ⟨hlt,hle⟩;by_cases h1:b.getD p 0=1
    ·rw[if_pos h1]at hO1;have h1n:(b.getD p 0).toNat=1:=by rw[h1];rfl
     by_cases hg:fin-(p+1)<32
     ·rw[if_pos hg]at hO1;refine gS (Aay (a:=(p:Nat)) (b:=(fin:Nat)) g z (AE _ _ _ _) (kT (hlt) (gS (Aba (l:=b) (i:=p) GR Rg (AaF (hr.keep hE) u) g (by omega) fun dr bi=>(gS (AaY u5 rfl (Aa7 bi rfl) (gS (Aay (a:=((b.getD (p) 0).toNat:Nat)) (b:=(1:Nat)) rfl rfl (DR _ _ _ _) (kT (hle) (gS (AaS rfl rfl (gP (Aa3 GA rfl rfl ?_)))))))))))));refine Aw (A1 _ (true) 6) ?_ ?_;rotate_left
      ·rintro ch ds ⟨rfl,hb,hx⟩;refine Ax ?_;cases hb
      rintro v_ bj ⟨rfl,dt,bk⟩;have hEn:EntsIn bj va es:=(hEn.keep bk);clear bi;have hE:=hE.trans bk;refine gS (Aba (l:=b) (i:=p) GR Rg (AaF (hr.keep hE) u) g (by omega) fun du bm=>(gS (AaY u5 rfl (Aa7 bm rfl) (gS (Aay (a:=((b.getD (p) 0).toNat:Nat)) (b:=(1:Nat)) rfl rfl (AH _ _ _ _) (kT (h1n) (gS (Abu g (vr (.bool (true)) rfl) (fun w=>Im (p:Int) true w) (gS (Ad9 In fun bn co dv bo cp dw=> ?_))))))))));have ad:=Ad4 bj;have dx:=hE.size;have ab:=bo;clear bo;have dy:bn<co.heap.size:=by omega
      refine gS (AaB (vr (PQ bn 0) rfl) (vr (.agg (entC ((⟨p,true,Afk 32 0,[]⟩, .slice none 0 0))).toArray) rfl) ab (BA (x:=((⟨p,true,Afk 32 0,[]⟩, .slice none 0 0):Aj)) (y:=dEnt) (by simp) (by simp[dEnt])) (Bo (x:=((⟨p,true,Afk 32 0,[]⟩, .slice none 0 0):Aj)) EX (by simp)) (BF (x:=((⟨p,true,Afk 32 0,[]⟩, .slice none 0 0):Aj)) rfl) fun dz bp cq d0=> ?_);clear ab;have ab:=bp;clear bp;have d1:=bl ab;clear bm;have ad:=ad.trans cp;have ad:=Ab ad cq (Ae7 (Ae8 _) (by omega));have hE:=hE.trans ad;refine gS (Aaz (xv:=NI p) (yv:=NI 1) g rfl rfl (Ah _ _ _ (by omega)) (gS (Ad6 GW rfl (gS (Aax KD rfl rfl (cellAt ab (show(entC ((⟨p,true,Afk 32 0,[]⟩, .slice none 0 0)))[1]? =some (.bool (true):Ae2)from rfl)) (cT rfl (gS (Abr (xs:=b) (n:=fin) GR Rg u (hr.keep hE) z (by omega) fun cr cs ha44=>(gS (AaA Ls rfl rfl ?_))))))))));refine((show Calls _ _ _ _ (fun e w2=>e = .returned (.tuple #[AB zero32,NI 0,NI 6])/\Ext _ w2)from(Ku _ cr (b.take fin) cs (p+1) (by omega)).mono fun e w2 ⟨h1,h2⟩=>by subst h1;refine⟨?_,h2⟩;unfold Eu;rw[hlen];rw[if_pos (by omega)];rfl)).mono ?_;rintro e d2 ⟨rfl,a6⟩;refine⟨_,rfl,?_⟩;refine gS (Ad5 (vs:= [AB zero32,NI 0,NI 6]) rfl rfl (gS (Ad5 (vs:= [AB zero32,NI 0,NI 6]) rfl rfl (gS (Ad5 (vs:= [AB zero32,NI 0,NI 6]) rfl rfl (gS (Ad9 VA fun bq ct cu br cv d3=> ?_)))))));have hE:=hE.trans a6;have ad:=ad.trans a6;have cw:=hE.size;have ab:=eb a6 ab;have d4:=Av (bl ab) cu;have ap:=br;clear br;have d5:bq<ct.heap.size:=by omega
      refine gS (AaB (vr (PQ bq 0) rfl) (vr (AB zero32) rfl) ap (by exact Bp (by decide) Afp) (by exact Ac (by decide)) (Ag _) fun d6 bs cx d7=> ?_);clear ap;have ap:=bs;clear bs;have d8:=bl ap;refine gS (Aay (a:=(6:Nat)) (b:=(0:Nat)) rfl rfl (AH _ _ _ _) (kF (by decide) (gP (Aa3 GA rfl rfl ?_))));refine Aw (A1 _ (false) 6) ?_ ?_;rotate_left
      ·rintro ch d9 ⟨rfl,hb,hx⟩;refine Ax ?_;have o:=D8 (show CF b fin first (i+1)=none by rw[hst,hO1];rfl) (n-(i+1));rw[show i+1+(n-(i+1))=n by omega]at o;have hE:=hE.trans cv;have hE:=Ab hE cx (Ae7 cw (by omega));exact .inr ⟨_,rfl,by unfold Cj;rw[o];rfl,rfl,hE.trans hx⟩
      rintro v_ ea ⟨rfl,cy,ec⟩;cases cy
     rw[if_neg hg]at hO1;have ac:(((b.take fin).drop (p+1)).take 32).length=32:=by rw[Afi,Afn,hlen];omega
     refine gS (Aay (a:=(p:Nat)) (b:=(fin:Nat)) g z (AE _ _ _ _) (kT (hlt) (gS (Aba (l:=b) (i:=p) GR Rg (AaF (hr.keep hE) u) g (by omega) fun ed bt=>(gS (AaY u5 rfl (Aa7 bt rfl) (gS (Aay (a:=((b.getD (p) 0).toNat:Nat)) (b:=(1:Nat)) rfl rfl (DR _ _ _ _) (kT (hle) (gS (AaS rfl rfl (gP (Aa3 GA rfl rfl ?_)))))))))))));refine Aw (A1 _ (true) 6) ?_ ?_;rotate_left
     ·rintro ch ee ⟨rfl,hb,hx⟩;refine Ax ?_;cases hb
     rintro v_ bu ⟨rfl,ef,a7⟩;have hEn:EntsIn bu va es:=(hEn.keep a7);clear bt;have hE:=hE.trans a7;refine gS (Aba (l:=b) (i:=p) GR Rg (AaF (hr.keep hE) u) g (by omega) fun eg bv=>(gS (AaY u5 rfl (Aa7 bv rfl) (gS (Aay (a:=((b.getD (p) 0).toNat:Nat)) (b:=(1:Nat)) rfl rfl (AH _ _ _ _) (kT (h1n) (gS (Abu g (vr (.bool (true)) rfl) (fun w=>Im (p:Int) true w) (gS (Ad9 In fun aq cz eh bw bx ei=> ?_))))))))));have f:=Ad4 bu;have bz:=hE.size;have hr_va:=hr_va.keep a7;have ar:OB va aq:=A4 hr_va.2 (by omega);have c:=bw;clear bw;have ej:aq<cz.heap.size:=by omega
     refine gS (AaB (vr (PQ aq 0) rfl) (vr (.agg (entC ((⟨p,true,Afk 32 0,[]⟩, .slice none 0 0))).toArray) rfl) c (BA (x:=((⟨p,true,Afk 32 0,[]⟩, .slice none 0 0):Aj)) (y:=dEnt) (by simp) (by simp[dEnt])) (Bo (x:=((⟨p,true,Afk 32 0,[]⟩, .slice none 0 0):Aj)) EX (by simp)) (BF (x:=((⟨p,true,Afk 32 0,[]⟩, .slice none 0 0):Aj)) rfl) fun el b0 b1 em=> ?_);clear c;have c:=b0;clear b0;have en:=bl c;clear bv;have f:=f.trans bx;have f:=Ab f b1 (Ae7 (Ae8 _) (by omega));have hE:=hE.trans f;refine gS (Aaz (xv:=NI p) (yv:=NI 1) g rfl rfl (Ah _ _ _ (by omega)) (gS (Ad6 GW rfl (gS (Aax KD rfl rfl (cellAt c (show(entC ((⟨p,true,Afk 32 0,[]⟩, .slice none 0 0)))[1]? =some (.bool (true):Ae2)from rfl)) (cT rfl (gS (Abr (xs:=b) (n:=fin) GR Rg u (hr.keep hE) z (by omega) fun c0 c1 ha108=>(gS (AaA Ls rfl rfl ?_))))))))));refine((show Calls _ _ _ _ (fun e w2=>e = .returned (.tuple #[AB (((b.take fin).drop (p+1)).take 32),NI (p+1+32),NI 0])/\Ext _ w2)from(Ku _ c0 (b.take fin) c1 (p+1) (by omega)).mono fun e w2 ⟨h1,h2⟩=>by subst h1;refine⟨?_,h2⟩;unfold Eu;rw[hlen];rw[if_neg (by omega)];rfl)).mono ?_;rintro e eo ⟨rfl,au⟩;refine⟨_,rfl,?_⟩;refine gS (Ad5 (vs:= [AB (((b.take fin).drop (p+1)).take 32),NI (p+1+32),NI 0]) rfl rfl (gS (Ad5 (vs:= [AB (((b.take fin).drop (p+1)).take 32),NI (p+1+32),NI 0]) rfl rfl (gS (Ad5 (vs:= [AB (((b.take fin).drop (p+1)).take 32),NI (p+1+32),NI 0]) rfl rfl (gS (Ad9 VA fun a8 c2 c3 b2 av ep=> ?_)))))));have hE:=hE.trans au;have f:=f.trans au;have c4:=hE.size;have c5:=f.size;have c:=eb au c;have eq:=Av (bl c) c3;have hr_va:=hr_va.keep bx;have hr_va:=Aei hr_va b1 ar;have hr_va:=hr_va.keep au;have b3:OB va a8:=A4 hr_va.2 (by omega);have j:=b2;clear b2;have er:a8<c2.heap.size:=by omega
     refine gS (AaB (vr (PQ a8 0) rfl) (vr (AB (((b.take fin).drop (p+1)).take 32)) rfl) j (by exact Bp ac Afp) (by exact Ac ac) (Ag _) fun et b4 aw eu=> ?_);clear j;have j:=b4;clear b4;have ew:=bl j;refine gS (Aay (a:=(0:Nat)) (b:=(0:Nat)) rfl rfl (AH _ _ _ _) (kT (rfl) (gP (Aa3 GA rfl rfl ?_))));refine Aw (A1 _ (true) 6) ?_ ?_;rotate_left
     ·rintro ch ex ⟨rfl,hb,hx⟩;refine Ax ?_;cases hb
     rintro v_ ey ⟨rfl,ez,ai⟩;have c:=eb av c;have c:=kb aw c (by omega);have c:=eb ai c;have j:=eb ai j;refine gS (AaC rfl j XM rfl (by exact Ac ac) (gS (Ad6 OD rfl (gS (Ada (B:=Afk 32 0) (B' :=((b.take fin).drop (p+1)).take 32) rfl rfl c (by simp) ac SY fun e0 b5 ax e1=> ?_)))));clear c;have c:=b5;clear b5;have e2:=bl c;have hE:=hE.trans av;have hE:=Ab hE aw (Ae7 c4 (by omega));have hE:=hE.trans ai;have hE:=Ab hE ax (Ae7 bz (by omega));refine gP (Acy Lt u rfl z ?_);refine Aw (OC _ v b (hr.keep hE) (p+33) fin (by omega) hf) ?_ ?_;rotate_left
     ·rintro ch e3 ⟨hT,rfl,hx⟩;refine Ax ?_;have hO1:entOne b fin p=none:=by rw[hO1,show BQ b (p+33) fin=none from hT];rfl
      have o:=D8 (show CF b fin first (i+1)=none by rw[hst,hO1];rfl) (n-(i+1));rw[show i+1+(n-(i+1))=n by omega]at o;exact .inr ⟨_,rfl,by unfold Cj;rw[o];rfl,rfl,hE.trans hx⟩
     rintro v_ c6 ⟨ts,tn,hT,rfl,aj⟩;have hO:entOne b fin p=some (⟨p,true,((b.take fin).drop (p+1)).take 32,ts⟩,tn):=by rw[hO1,show BQ b (p+33) fin=some (ts,tn)from hT];rfl
     refine gS (Ad5 (vs:= [St (ts),NI tn]) rfl rfl (gS (Ad5 (vs:= [St (ts),NI tn]) rfl rfl (gS (Acm QD GR u5 rfl (by have:=Hh hT hf;omega) fun q c7 ae ak ay=> ?_)))));have j:=kb ax j (by omega);have j:=eb aj j;have c:=eb aj c;have c8:OB q aq:=fun e=>by have h1:=(ay _ e).1;have h2:=(bl c);omega
     have hr_va:=hr_va.keep av;have hr_va:=Aei hr_va aw b3;have hr_va:=hr_va.keep ai;have hr_va:=Aei hr_va ax ar;have hr_va:=hr_va.keep aj;have hva:∀k,Afd va=some k->k<c6.heap.size:=fun k hk=>((hr_va).2.lt k hk).2;have hkv:∀k,Afd q=some k->k<c7.heap.size/\OB va k:=fun k hk=>⟨(ay k hk).2,fun e=>by have h1:=hva k e;have h2:=(ay k hk).1;omega⟩;have hE:=hE.trans aj;have hnv:NewV w.heap.size q:=fun k hk=>Ae7 (hE).size (ay k hk).1;have c:=eb ak c;refine gS (Ad6 Jm rfl (gS (Acz (s:= []) (s' :=ts) rfl rfl c ac Li ae fun b6 b7 al e4=> ?_)));clear c;have c:=b7;clear b7;have e5:=bl c;have hkv2:∀k,Afd q=some k->k<b6.heap.size/\OB va k:=fun k hk=>⟨by have:=(hkv k hk).1;omega,(hkv k hk).2⟩;have f:=f.trans av;have f:=Ab f aw (Ae7 c5 (by omega));have f:=f.trans ai;have f:=Ab f ax (Ae7 (Ae8 _) (by omega));have f:=f.trans (aj.trans ak);have f:=Ab f al (Ae7 (Ae8 _) (by omega));have ae:=AeE ae al (.inr c8);have hEn:EntsIn b6 va (es++ [((⟨p,true,((b.take fin).drop (p+1)).take 32,ts⟩,q):Aj)]):=Ace (hEn.keep f) ae ac hkv2;have hone_:=BF (x:=((⟨p,true,((b.take fin).drop (p+1)).take 32,ts⟩,q):Aj)) (Aeg ae).2;refine gS (AaC rfl c (Lu).choose_spec rfl (Bo (x:=((⟨p,true,((b.take fin).drop (p+1)).take 32,ts⟩,q):Aj)) EX ac) (gS (Abg (a:=((⟨p,true,((b.take fin).drop (p+1)).take 32,ts⟩,q))) (enc:=entC) (vr (.agg (entC ((⟨p,true,((b.take fin).drop (p+1)).take 32,ts⟩,q))).toArray) rfl) ((entC_len (x:=((⟨p,true,((b.take fin).drop (p+1)).take 32,ts⟩,q):Aj)) ac)) Lv fun c9 b8 b9 am=> ?_)));have hEn:EntsIn b8 va (es++ [((⟨p,true,((b.take fin).drop (p+1)).take 32,ts⟩,q):Aj)]):=(hEn.keep am);have hE:=hE.trans ak;have hE:=Ab hE al (Ae7 bz (by omega));have hE:=hE.trans am;have hr_va:=hr_va.keep ak;have hr_va:=Aei hr_va al ar;have hr_va:=hr_va.keep am;refine gS (Aa2 _ _ w.heap.size _ 72 GB pk12_ig208.choose_spec.1 pk12_ig208.choose_spec.2 GB (es) ([((⟨p,true,((b.take fin).drop (p+1)).take 32,ts⟩,q))]) (Aen hr_va T9) (AaD b9 (vr c9 rfl)) (fun y hy=>by rw[Afh.1 hy];exact hone_) (by simp only[AfA,AfK];omega) (by simp only[AfA,AfK];omega) hE.size fun a9 ca da af=> ?_);have hEn_:=hEn;have af:Grew b8 ca va a9:= .eqv T9 af;have c:=eb am c;have j:=eb ak j;have j:=kb al j (by omega);have j:=eb am j;have hE:=As hE af hr_va.2 (Ae8 _);have j:=Aq j af b3;clear ae;have c:=Aq c af ar;clear b9;clear hr_va;have hEn:EntsIn ca a9 (es++ [((⟨p,true,((b.take fin).drop (p+1)).take 32,ts⟩,q):Aj)]):=EntsIn.grew hEn_ af;clear hEn_;refine gS (Aaz (xv:=NI i) (yv:=NI 1) ao rfl rfl (Ah _ _ _ (by omega)) (gK (AfF ⟨i+1,es++ [(⟨p,true,((b.take fin).drop (p+1)).take 32,ts⟩,q)],tn,a9,u,T1,z,T8,a5,rfl,rfl,rfl,hE,hEn,Bd da (rfl),by rw[hst,hO,AgC];rfl,by omega,(Lr hO hf).1,by rw[Ae9,hil];rfl,Oy hnw hnv,trivial⟩ ?_)));show n-(intOf (NI ((i)+(1)))).toNat<n-(intOf (be 17)).toNat;rw[q17];simp only[intOf,Afg];omega
    rw[if_neg h1]at hO1;have h1n:¬(b.getD p 0).toNat=1:=fun h=>h1 (UInt8.toNat_inj.1 (by rw[h];rfl));refine gS (Aay (a:=(p:Nat)) (b:=(fin:Nat)) g z (AE _ _ _ _) (kT (hlt) (gS (Aba (l:=b) (i:=p) GR Rg (AaF (hr.keep hE) u) g (by omega) fun e6 cb=>(gS (AaY u5 rfl (Aa7 cb rfl) (gS (Aay (a:=((b.getD (p) 0).toNat:Nat)) (b:=(1:Nat)) rfl rfl (DR _ _ _ _) (kT (hle) (gS (AaS rfl rfl (gP (Aa3 GA rfl rfl ?_)))))))))))));refine Aw (A1 _ (true) 6) ?_ ?_;rotate_left
    ·rintro ch e7 ⟨rfl,hb,hx⟩;refine Ax ?_;cases hb
    rintro v_ cc ⟨rfl,e8,ba⟩;have hEn:EntsIn cc va es:=(hEn.keep ba);clear cb;have hE:=hE.trans ba;refine gS (Aba (l:=b) (i:=p) GR Rg (AaF (hr.keep hE) u) g (by omega) fun e9 cd=>(gS (AaY u5 rfl (Aa7 cd rfl) (gS (Aay (a:=((b.getD (p) 0).toNat:Nat)) (b:=(1:Nat)) rfl rfl (AH _ _ _ _) (kF (h1n) (gS (Abu g (vr (.bool (false)) rfl) (fun w=>Im (p:Int) false w) (gS (Ad9 In fun az db fa ce cf fb=> ?_))))))))));have aa:=Ad4 cc;have dc:=hE.size;have hr_va:=hr_va.keep ba;have bb:OB va az:=A4 hr_va.2 (by omega);have m:=ce;clear ce;have fc:az<db.heap.size:=by omega
    refine gS (AaB (vr (PQ az 0) rfl) (vr (.agg (entC ((⟨p,false,Afk 32 0,[]⟩, .slice none 0 0))).toArray) rfl) m (BA (x:=((⟨p,false,Afk 32 0,[]⟩, .slice none 0 0):Aj)) (y:=dEnt) (by simp) (by simp[dEnt])) (Bo (x:=((⟨p,false,Afk 32 0,[]⟩, .slice none 0 0):Aj)) EX (by simp)) (BF (x:=((⟨p,false,Afk 32 0,[]⟩, .slice none 0 0):Aj)) rfl) fun fd cg ci fe=> ?_);clear m;have m:=cg;clear cg;have ff:=bl m;clear cd;have aa:=aa.trans cf;have aa:=Ab aa ci (Ae7 (Ae8 _) (by omega));have hE:=hE.trans aa;refine gS (Aaz (xv:=NI p) (yv:=NI 1) g rfl rfl (Ah _ _ _ (by omega)) (gS (Ad6 GW rfl (gS (Aax KD rfl rfl (cellAt m (show(entC ((⟨p,false,Afk 32 0,[]⟩, .slice none 0 0)))[1]? =some (.bool (false):Ae2)from rfl)) (cF rfl (gP (Acy Lt u rfl z ?_))))))));refine Aw (OC _ v b (hr.keep hE) (p+1) fin (by omega) hf) ?_ ?_;rotate_left
    ·rintro ch fg ⟨hT,rfl,hx⟩;refine Ax ?_;have hO1:entOne b fin p=none:=by rw[hO1,show BQ b (p+1) fin=none from hT];rfl
     have o:=D8 (show CF b fin first (i+1)=none by rw[hst,hO1];rfl) (n-(i+1));rw[show i+1+(n-(i+1))=n by omega]at o;exact .inr ⟨_,rfl,by unfold Cj;rw[o];rfl,rfl,hE.trans hx⟩
    rintro v_ dd ⟨ts,tn,hT,rfl,a0⟩;have hO:entOne b fin p=some (⟨p,false,Afk 32 0,ts⟩,tn):=by rw[hO1,show BQ b (p+1) fin=some (ts,tn)from hT];rfl
    refine gS (Ad5 (vs:= [St (ts),NI tn]) rfl rfl (gS (Ad5 (vs:= [St (ts),NI tn]) rfl rfl (gS (Acm QD GR u5 rfl (by have:=Hh hT hf;omega) fun t de ag a1 a2=> ?_)))));have m:=eb a0 m;have df:OB t az:=fun e=>by have h1:=(a2 _ e).1;have h2:=(bl m);omega
    have hr_va:=hr_va.keep cf;have hr_va:=Aei hr_va ci bb;have hr_va:=hr_va.keep a0;have hva:∀k,Afd va=some k->k<dd.heap.size:=fun k hk=>((hr_va).2.lt k hk).2;have hkv:∀k,Afd t=some k->k<de.heap.size/\OB va k:=fun k hk=>⟨(a2 k hk).2,fun e=>by have h1:=hva k e;have h2:=(a2 k hk).1;omega⟩;have hE:=hE.trans a0;have hnv:NewV w.heap.size t:=fun k hk=>Ae7 (hE).size (a2 k hk).1;have m:=eb a1 m;refine gS (Ad6 Jm rfl (gS (Acz (s:= []) (s' :=ts) rfl rfl m (by simp) Li ag fun cj ck a3 fh=> ?_)));clear m;have m:=ck;clear ck;have fi:=bl m;have hkv2:∀k,Afd t=some k->k<cj.heap.size/\OB va k:=fun k hk=>⟨by have:=(hkv k hk).1;omega,(hkv k hk).2⟩;have aa:=aa.trans (a0.trans a1);have aa:=Ab aa a3 (Ae7 (Ae8 _) (by omega));have ag:=AeE ag a3 (.inr df);have hEn:EntsIn cj va (es++ [((⟨p,false,Afk 32 0,ts⟩,t):Aj)]):=Ace (hEn.keep aa) ag (by simp) hkv2;have hone_:=BF (x:=((⟨p,false,Afk 32 0,ts⟩,t):Aj)) (Aeg ag).2;refine gS (AaC rfl m (Lu).choose_spec rfl (Bo (x:=((⟨p,false,Afk 32 0,ts⟩,t):Aj)) EX (by simp)) (gS (Abg (a:=((⟨p,false,Afk 32 0,ts⟩,t))) (enc:=entC) (vr (.agg (entC ((⟨p,false,Afk 32 0,ts⟩,t))).toArray) rfl) ((entC_len (x:=((⟨p,false,Afk 32 0,ts⟩,t):Aj)) (by simp))) Lv fun dh cl cm a4=> ?_)));have hEn:EntsIn cl va (es++ [((⟨p,false,Afk 32 0,ts⟩,t):Aj)]):=(hEn.keep a4);have hE:=hE.trans a1;have hE:=Ab hE a3 (Ae7 dc (by omega));have hE:=hE.trans a4;have hr_va:=hr_va.keep a1;have hr_va:=Aei hr_va a3 bb;have hr_va:=hr_va.keep a4;refine gS (Aa2 _ _ w.heap.size _ 72 GB pk12_ig208.choose_spec.1 pk12_ig208.choose_spec.2 GB (es) ([((⟨p,false,Afk 32 0,ts⟩,t))]) (Aen hr_va T9) (AaD cm (vr dh rfl)) (fun y hy=>by rw[Afh.1 hy];exact hone_) (by simp only[AfA,AfK];omega) (by simp only[AfA,AfK];omega) hE.size fun bc cn di an=> ?_);have hEn_:=hEn;have an:Grew cl cn va bc:= .eqv T9 an;have m:=eb a4 m;have hE:=As hE an hr_va.2 (Ae8 _);clear ag;have m:=Aq m an bb;clear cm;clear hr_va;have hEn:EntsIn cn bc (es++ [((⟨p,false,Afk 32 0,ts⟩,t):Aj)]):=EntsIn.grew hEn_ an;clear hEn_;refine gS (Aaz (xv:=NI i) (yv:=NI 1) ao rfl rfl (Ah _ _ _ (by omega)) (gK (AfF ⟨i+1,es++ [(⟨p,false,Afk 32 0,ts⟩,t)],tn,bc,u,T1,z,T8,a5,rfl,rfl,rfl,hE,hEn,Bd di (rfl),by rw[hst,hO,AgC];rfl,by omega,(Lr hO hf).1,by rw[Ae9,hil];rfl,Oy hnw hnv,trivial⟩ ?_)));show n-(intOf (NI ((i)+(1)))).toNat<n-(intOf (be 17)).toNat;rw[q17];simp only[intOf,Afg];omega
   have hO1:entOne b fin p=none:=by unfold entOne;rw[if_neg (fun h=>hle h.2)]
   refine gS (Aay (a:=(p:Nat)) (b:=(fin:Nat)) g z (AE _ _ _ _) (kT (hlt) (gS (Aba (l:=b) (i:=p) GR Rg (AaF (hr.keep hE) u) g (by omega) fun fj dj=>(gS (AaY u5 rfl (Aa7 dj rfl) (gS (Aay (a:=((b.getD (p) 0).toNat:Nat)) (b:=(1:Nat)) rfl rfl (DR _ _ _ _) (kF (hle) (gS (AaS rfl rfl (gP (Aa3 GA rfl rfl ?_)))))))))))));refine Aw (A1 _ (false) 6) ?_ ?_;rotate_left
   ·rintro ch fk ⟨rfl,hb,hx⟩;refine Ax ?_;have o:=D8 (show CF b fin first (i+1)=none by rw[hst,hO1];rfl) (n-(i+1));rw[show i+1+(n-(i+1))=n by omega]at o;exact .inr ⟨_,rfl,by unfold Cj;rw[o];rfl,rfl,hE.trans hx⟩
   rintro v_ fl ⟨rfl,dk,fm⟩;cases dk
  have hO1:entOne b fin p=none:=by unfold entOne;rw[if_neg (fun h=>hlt h.1)]
  refine gS (Aay (a:=(p:Nat)) (b:=(fin:Nat)) g z (AE _ _ _ _) (kF (hlt) (gS (AaX rfl rfl (gP (Aa3 GA rfl rfl ?_))))));refine Aw (A1 _ (false) 6) ?_ ?_;rotate_left
  ·rintro ch fn ⟨rfl,hb,hx⟩;refine Ax ?_;have o:=D8 (show CF b fin first (i+1)=none by rw[hst,hO1];rfl) (n-(i+1));rw[show i+1+(n-(i+1))=n by omega]at o;exact .inr ⟨_,rfl,by unfold Cj;rw[o];rfl,rfl,hE.trans hx⟩
  rintro v_ fo ⟨rfl,dl,fp⟩;cases dl
 have hin:i=n:=by omega
 refine gS (Aay (a:=(p:Nat)) (b:=(fin:Nat)) g z (AH _ _ _ _) (gP (Aa3 GA rfl rfl ?_)));refine Aw (A1 _ (decide ((p:Nat)=(fin))) 6) ?_ ?_;rotate_left
 ·rintro ch fq ⟨rfl,hb,hx⟩;refine Ax ?_;have hno:=of_decide_eq_false hb;exact .inr ⟨_,rfl,by unfold Cj;rw[<-hin,hs];exact if_neg hno,rfl,hE.trans hx⟩
 rintro v_ dm ⟨rfl,dn,bd⟩;have hEn:EntsIn dm va es:=(hEn.keep bd);have dp:=of_decide_eq_true dn;refine A8 rfl T9 ?_;have hE:=hE.trans bd;have hr_va:=hr_va.keep bd;exact .inl ⟨_,rfl,es,by unfold Cj;rw[<-hin,hs];exact if_pos dp,AaR hr_va,hEn.ok,hnw,hE⟩
abbrev BK(x:Aj):Ae2:= .agg (entC x).toArray
theorem GX:KL Ae5 3 (MapKept.IsKey (.int .i64)):=AcG (by kernel_rfl)
theorem GY:∀n:Nat,True->MapKept.IsKey (.int .i64) (NI n):=fun n _=>by first | exact⟨_,rfl⟩ | simp[MapKept.IsKey]
theorem HV{a b:Nat}(h:NI a=NI b):a=b:=by injection h with _ h;exact Int.ofNat.inj h
theorem Dv:∀u:Ae3,(zeroValue 208).run Ae5 u = .ok (BK dEnt) u:=fun _=>by kernel_rfl
structure IxS (α : Type) where
 ids:List Bs
 G:Nat->Option α
 M:Bs->Option α
section
variable {α : Type} (at_ : α -> Nat) (d : α) (t : Bs) (es : List α)
def Ek:Nat->Nat->Option α
 | 0=>fun _=>none
 | i+1=>updM (Ek i) (at_ (es.getD i d)) (some (es.getD i d))
def B3(i:Nat):Bs:=(t.drop (36*i)).take 32
def E7(i:Nat):Nat:=DN ((t.drop (36*i)).drop 32)
def Ef(i:Nat)(s:IxS α)(c:α):IxS α:=⟨s.ids++ [B3 t i],updM s.G (at_ c) none,updM s.M (B3 t i) (some c)⟩
def DD(i:Nat)(s:IxS α):Option (IxS α):=
 match s.G (E7 t i)with
 | none=>none
 | some c=>if i=0\/Aft (s.ids.getD (i-1) []) (B3 t i)<0 then some (Ef at_ t i s c)else none
def DX:Nat->Option (IxS α)
 | 0=>some ⟨[],Ek at_ d es es.length,fun _=>none⟩
 | i+1=>(DX i).bind (DD at_ t i)
variable {at_ d t es}
theorem Fi{i:Nat}(h:DX at_ d t es i=none):∀k,DX at_ d t es (i+k)=none
 | 0=>h
 | k+1=>by
  show(DX at_ d t es (i+k)).bind _=none;rw[Fi h k];rfl
theorem Ge{i:Nat}{s:IxS α}(h:DX at_ d t es i=some s):DX at_ d t es (i+1)=DD at_ t i s:=by
 show(DX at_ d t es i).bind _=_;rw[h];rfl
theorem Ke:∀i,i<=es.length->∀k c,Ek at_ d es i k=some c->c∈es/\at_ c=k
 | 0,_,_,_,h=>by cases h
 | i+1,hi,k,c,h=>by
  unfold Ek updM at h;split at h
  ·rename_i hk
   cases h;refine⟨?_,hk.symm⟩;rw[Ae6,Afb (by omega)];exact List.getElem_mem _
  ·exact Ke i (by omega) k c h
structure ZC (t : Bs) (es : List α) (i : Nat) (s : IxS α) : Prop where
 len:s.ids.length=i
 ids:∀x∈s.ids,∃j,j<i/\x=B3 t j
 G:∀k c,s.G k=some c->c∈es
 M:∀k c,s.M k=some c->c∈es
 all:∀x∈s.ids,(s.M x).isSome=true
theorem JV:∀i s,DX at_ d t es i=some s->ZC t es i s
 | 0,s,h=>by
  cases h;exact⟨rfl,(fun x hx=>by cases hx),(fun k c hk=>(Ke _ (Ae8 _) k c hk).1),(fun k c hk=>by cases hk),(fun x hx=>by cases hx)⟩
 | i+1,s,h=>by
  cases h1:DX at_ d t es i with
  | none=>rw[Fi h1 1]at h;cases h
  | some s0=>
   have ih:=JV i s0 h1;rw[Ge h1]at h;unfold DD at h;split at h
   ·cases h
   ·rename_i c hc
    split at h
    ·cases h;have hcm:=ih.G _ c hc;refine⟨?_,fun x hx=> ?_,fun k c' hk=> ?_,fun k c' hk=> ?_,fun x hx=> ?_⟩
     ·show(s0.ids++ [B3 t i]).length=i+1;rw[Ae9,ih.len];rfl
     ·rcases Afy.1 hx with hx | hx
      ·obtain⟨j,hj,e⟩:=ih.ids x hx;exact⟨j,by omega,e⟩
      ·exact⟨i,by omega,Afh.1 hx⟩
     ·unfold Ef updM at hk
      dsimp only at hk
      split at hk
      ·cases hk
      ·exact ih.G k c' hk
     ·unfold Ef updM at hk
      dsimp only at hk
      split at hk
      ·cases hk;exact hcm
      ·exact ih.M k c' hk
     ·unfold Ef updM
      dsimp only
      split
      ·rfl
      ·rename_i hne
       rcases Afy.1 hx with hx | hx
       ·exact ih.all x hx
       ·exact absurd (Afh.1 hx) hne
    ·cases h
end
theorem rowId_len{t:Bs}{i n:Nat}(h:t.length=36*n)(hi:i<n):(B3 t i).length=32:=by
 unfold B3;rw[Afi,Afn];omega
theorem PY:∀w' :Ae3,(sizeOf 208).run Ae5 w' = .ok 35 w' :=fun _=>by kernel_rfl
theorem GZ:AZ Ae5 208 0 0:=fun b o w=>by simp[go_sem]
theorem D9:Tryz.prog.underlying 262=some (.map 3 208):=by kernel_rfl
theorem GC:Plain Ae5 127:=fun _ _=>by kernel_rfl
theorem MU:∀(cs:Array Ae2),cs.size=32->∀w:Ae3,(AfM 42 1 #[(0, .agg cs)]).run Ae5 w = .ok (.slice (some ⟨w.heap.size,0,none⟩) 1 1) (w.alloc (.cells cs 33))
 | ⟨[c0,c1,c2,c3,c4,c5,c6,c7,c8,c9,c10,c11,c12,c13,c14,c15,c16,c17,c18,c19,c20,c21,c22,c23,c24,c25,c26,c27,c28,c29,c30,c31]⟩,_,w=>VB c0 c1 c2 c3 c4 c5 c6 c7 c8 c9 c10 c11 c12 c13 c14 c15 c16 c17 c18 c19 c20 c21 c22 c23 c24 c25 c26 c27 c28 c29 c30 c31 w
theorem Lw:Tryz.prog.underlying 202=some (.map 33 208):=by kernel_rfl
theorem RJ(w:Ae3)(v:Ae2)(t:Bs)(hr:RB w v t)(ve:Ae2)(es:List Aj)(hg:RG 35 entC w ve es)(hok:EntsOk w es)(htl:t.length=36*es.length)(hn:es.length<=1048576):
  Calls Ae5 131 #[v,ve] w fun r w' =>(∃x,r = .returned x/\∃s vi b,DX (fun x:Aj=>x.1.pos) dEnt t es es.length=some s/\x = .tuple #[vi, .map (some b)]/\RG 32 Ae4 w' vi s.ids/\MapF rk BK (fun id:AlJ =>id.length=32) w' b s.M/\NewV w.heap.size vi/\Ext w w')\/∃ch,r = .panicked ch/\DX (fun x:Aj=>x.1.pos) dEnt t es es.length=none/\ch= [C6 6]/\Ext w w' :=by
 refine gG (args:= [v,ve]) Tryz.func131 rfl 83 rfl rfl ?_;have hE:=Ad4 w;refine gS (AbB NI BK (fun _:Nat=>True) fun u w4 ew b5 dc ex=> ?_);have ey:u<w4.heap.size:=by omega
 have hE:=hE.trans dc;refine gS (AaW GB (AaD (hg.keep hE) rfl) (gL (fun(ρ:Ae) (wz:Ae3)=>∃m:Nat,ρ 0=(v:Ae2)/\ρ 1=(ve:Ae2)/\ρ 4=((Afc none 0 0):Ae2)/\ρ 5=((Value.map none):Ae2)/\ρ 6=(.map (some u):Ae2)/\ρ 19=(ve:Ae2)/\ρ 20=(NI es.length:Ae2)/\ρ 21=(NI m:Ae2)/\Ext w wz/\MapF NI BK (fun _:Nat=>True) wz u (Ek (fun x:Aj=>x.1.pos) dEnt es m)/\(m<=es.length)/\True) (fun ρ _=>es.length-(intOf (ρ 21)).toNat) ⟨0,rfl,rfl,rfl,rfl,rfl,rfl,rfl,rfl,hE,Ci b5 (rfl),AfC _,trivial⟩ ?_));clear b5;clear hE;rintro dd b6 ⟨m,T0,T1,T4,T5,T6,aq,ar,aj,hE,hb6l,hm,-⟩;have q21:=aj;refine gS (Aay (a:=(m:Nat)) (b:=(es.length:Nat)) aj ar (AE _ _ _ _) ?_);refine cD rfl (fun b7=> ?_) fun b7=> ?_
 ·have hmi:=getD_mem dEnt (l:=es) (i:=m) b7;have hel:=hok _ hmi;have de:(entC (es.getD (m) dEnt)).length=35:=(Aec (hg.keep hE) dEnt (by omega));refine gS (AaZ GB PY (by decide) dEnt (AaD (hg.keep hE) aq) aj (by omega) fun ez b8=>(gS (Aa4 (Aa6 b8 rfl) (Lu).choose_spec rfl (by rw[de];exact EX) (gS (Ad9 In fun b9 df dh ca cb e0=> ?_)))));have a3:=Ad4 b6;have e1:=hE.size;have e2:=Av hb6l.lt dh;have au:=ca;clear ca;have e3:b9<df.heap.size:=by omega
  refine gS (AaB (vr (PQ b9 0) rfl) (vr (.agg (entC (es.getD (m) dEnt)).toArray) rfl) au (BA (x:=((es.getD (m) dEnt):Aj)) (y:=(dEnt:Aj)) hel.2 (by simp[dEnt])) (Bo (x:=((es.getD (m) dEnt):Aj)) EX hel.2) (BF (x:=((es.getD (m) dEnt):Aj)) (Aeg hel.1).2) fun e4 cc cd e5=> ?_);have hb6l:=hb6l.keep cb;have hb6l:=Ad8 hb6l cd (Ak (by omega));clear au;have au:=cc;clear cc;have e6:=bl au;clear b8;refine gS (Ad6 GZ rfl (gS (Aax Vx rfl rfl (cellAt au ((show(entC ((es.getD (m) dEnt)))[0]? =some (NI (((es.getD (m) dEnt)).1.pos):Ae2)from rfl))) (gS (AaC rfl au (Lu).choose_spec rfl (Bo (x:=((es.getD (m) dEnt):Aj)) EX hel.2) ?_)))));have a3:=a3.trans cb;have a3:=Ab a3 cd (Ae7 (Ae8 _) (by omega));have hE:=hE.trans a3;refine gS (Aby (ek:=NI) (ev:=BK) (D:=(fun _:Nat=>True)) (c:=((es.getD (m) dEnt))) GX GY D9 T6 (vr (NI (((es.getD (m) dEnt)).1.pos)) rfl) (vr (.agg (entC ((es.getD (m) dEnt))).toArray) rfl) hb6l trivial fun di ce dj e7=> ?_);clear hb6l;have e8:u<di.heap.size:=ce.lt;have hE:=Ab hE dj (Ae7 (Ae8 _) (by omega));refine gS (Aaz (xv:=NI m) (yv:=NI 1) aj rfl rfl (Ah _ _ _ (by omega)) (gK (AfF ⟨m+1,T0,T1,T4,T5,T6,aq,ar,rfl,hE,Ci ce (rfl),by omega,trivial⟩ ?_)));show es.length-(intOf (NI ((m)+(1)))).toNat<es.length-(intOf (dd 21)).toNat;rw[q21];simp only[intOf,Afg];omega
 have hie:m=es.length:=by omega
 have hids0:OG w.heap.size 33 32 Ae4 b6 (Afc none 0 0) ([]:List Bs):=Aem _ _ _ _ _;have dk:Afd (Afc none 0 0)≠some u:=fun h=>by cases h
 refine gS (AbB rk BK (fun id:AlJ =>id.length=32) fun ae dl dm cf bh e9=> ?_);have cg:=hE.size;have fa:=Av hb6l.lt dm;have dn:Afd (Afc none 0 0)≠some ae:=A4 hids0.2 (by omega);have fb:ae<dl.heap.size:=by omega
 have hE:=hE.trans bh;have hb6l:=hb6l.keep bh;have hids0:=hids0.keep bh;refine gS (AaW GB (AaD (hg.keep hE) T1) (gL (fun(ρ:Ae) (wz:Ae3)=>∃i:Nat,∃s:IxS Aj,∃vi:Ae2,ρ 0=(v:Ae2)/\ρ 1=(ve:Ae2)/\ρ 4=((Afc none 0 0):Ae2)/\ρ 5=((Value.map none):Ae2)/\ρ 6=(.map (some u):Ae2)/\ρ 10=(.map (some ae):Ae2)/\ρ 19=(ve:Ae2)/\ρ 20=(NI es.length:Ae2)/\ρ 21=(NI m:Ae2)/\ρ 32=(NI es.length:Ae2)/\ρ 33=(NI i:Ae2)/\ρ 9=(vi:Ae2)/\Ext w wz/\OG w.heap.size 33 32 (Ae4) wz vi (s.ids)/\MapF NI BK (fun _:Nat=>True) wz u (s.G)/\MapF rk BK (fun id:AlJ =>id.length=32) wz ae (s.M)/\(DX (fun x:Aj=>x.1.pos) dEnt t es i=some s)/\(i<=es.length)/\(OB vi u)/\(OB vi ae)/\True) (fun ρ _=>es.length-(intOf (ρ 33)).toNat) ⟨0,⟨[],Ek (fun x:Aj=>x.1.pos) dEnt es es.length,fun _=>none⟩,(Afc none 0 0),T0,T1,T4,T5,T6,rfl,aq,ar,aj,rfl,rfl,rfl,hE,Bd hids0 (rfl),Ci hb6l (by rw[hie]),Ci cf (rfl),rfl,AfC _,dk,dn,trivial⟩ ?_));clear hb6l;clear hids0;clear cf;clear hE;rintro ci fc ⟨i,s,vi,T0,T1,T4,T5,T6,a4,aq,ar,aj,bi,ac,T9,hE,hr_vi,hb6ll,hb49l,hs,hi,hap_vi_n3,hap_vi_n46,-⟩;have q33:=ac;refine gS (Aay (a:=(i:Nat)) (b:=(es.length:Nat)) ac bi (AE _ _ _ _) ?_);refine cD rfl (fun cj=> ?_) fun cj=> ?_
 ·have hil:i<es.length:=cj;have hI:=JV i s hs;have hIl:=hI.len;have hst:=Ge hs;have h32:=rowId_len htl hil;refine gS (Aaz (xv:=NI 36) (yv:=NI i) rfl ac rfl (Cy _ _ _ (by omega)) (gS (Abj (xs:=t) (l:=(36)*(i)) GR Rg T0 (hr.keep hE) rfl (by omega) fun dp o ha69=>(gS (AaA Ls rfl rfl ?_)))));refine((show Calls _ _ _ _ (fun e w2=>e = .returned (.tuple #[AB (B3 t i),NI 32,NI 0])/\Ext _ w2)from(Ku _ dp (t.drop ((36)*(i))) o 0 (AfC _)).mono fun e w2 ⟨h1,h2⟩=>by subst h1;refine⟨?_,h2⟩;unfold Eu B3;rw[if_neg (by simp only[Afn];omega),List.drop_zero];rfl)).mono ?_;rintro e dq ⟨rfl,ak⟩;refine⟨_,rfl,?_⟩;refine gS (Ad5 (vs:= [AB (B3 t i),NI 32,NI 0]) rfl rfl (gS (Ad5 (vs:= [AB (B3 t i),NI 32,NI 0]) rfl rfl (gS (Ad5 (vs:= [AB (B3 t i),NI 32,NI 0]) rfl rfl (gS (Ad9 VA fun bj dr ck cl p fd=> ?_)))))));have g:=Ad4 dq;have hE:=hE.trans ak;have bb:=hE.size;have hb6ll:=hb6ll.keep ak;have fe:=Av hb6ll.lt ck;have hb49l:=hb49l.keep ak;have ff:=Av hb49l.lt ck;have hr_vi:=hr_vi.keep ak;have a5:OB vi bj:=A4 hr_vi.2 (by omega);have f:=cl;clear cl;have fg:bj<dr.heap.size:=by omega
  refine gS (AaB (vr (PQ bj 0) rfl) (vr (AB (B3 t i)) rfl) f (by exact Bp h32 Afp) (by exact Ac h32) (Ag _) fun fh cm q fi=> ?_);have hb6ll:=hb6ll.keep p;have hb6ll:=Ad8 hb6ll q (Ak (by omega));have hb49l:=hb49l.keep p;have hb49l:=Ad8 hb49l q (Ak (by omega));clear f;have f:=cm;clear cm;have fj:=bl f;rcases hG:s.G (E7 t i)with _ | c
  ·have hO:DD (fun x:Aj=>x.1.pos) t i s=none:=by unfold DD;rw[hG]
   have o:=o.keep ak;have g:=g.trans p;have g:=Ab g q (Ae7 (Ae8 _) (by omega));refine gS (Abj (xs:=t.drop ((36)*(i))) (l:=32) GR Rg rfl (o.keep g) rfl (by simp only[Afn];omega) fun ds dt ha95=>(gS (AaE GC rfl (((show Calls _ _ _ _ (fun e w2=>e = .returned (NI (E7 t i))/\Ext _ w2)from Ej _ ds ((t.drop ((36)*(i)):AlJ).drop (32)) dt (by simp only[Afn];omega))).mono ?_))));rintro e du ⟨rfl,bc⟩;refine⟨_,rfl,?_⟩;have hE:=hE.trans p;have hE:=Ab hE q (Ae7 bb (by omega));have hE:=hE.trans bc;have hb6ll:=hb6ll.keep bc;refine gS (Abz (ek:=NI) (ev:=BK) (D:=(fun _:Nat=>True)) GX GY (fun _ _=>HV) D9 (z:=BK dEnt) Dv T6 rfl hb6ll trivial hG (gS (Ad5 (vs:= [.agg (entC (dEnt)).toArray, .bool (false)]) rfl rfl (gS (Ad5 (vs:= [.agg (entC (dEnt)).toArray, .bool (false)]) rfl rfl (gS (Ad9 In fun cn dv co cp bk fk=> ?_)))))));have am:=Ad4 du;have g:=g.trans bc;have fl:=hE.size;have fm:=g.size;have fn:=Av hb6ll.lt co;have hb49l:=hb49l.keep bc;have fo:=Av hb49l.lt co;have bd:=cp;clear cp;have fp:cn<dv.heap.size:=by omega
   refine gS (AaB (vr (PQ cn 0) rfl) (vr (.agg (entC (dEnt)).toArray) rfl) bd (BA (x:=((dEnt):Aj)) (y:=(dEnt:Aj)) (by simp[dEnt]) (by simp[dEnt])) (Bo (x:=((dEnt):Aj)) EX (by simp[dEnt])) (BF (x:=((dEnt):Aj)) rfl) fun fq cq bm fr=> ?_);have hb6ll:=hb6ll.keep bk;have hb6ll:=Ad8 hb6ll bm (Ak (by omega));have hb49l:=hb49l.keep bk;have hb49l:=Ad8 hb49l bm (Ak (by omega));clear bd;have bd:=cq;clear cq;have fs:=bl bd;refine Co [0,1,2,3,4,5,6,7,8,9,10,11,12,13,14,15] [11,15] [] fun ft dw=>(ys (AaX rfl rfl zz) (XL (Aa3 GA rfl rfl ?_)));refine Aw (A1 _ (false) 6) ?_ ?_;rotate_left
   ·rintro ch fu ⟨rfl,hb,hx⟩;refine Ax ?_;rw[hO]at hst;have a6:=Fi hst (es.length-(i+1));rw[show i+1+(es.length-(i+1))=es.length by omega]at a6;have am:=am.trans bk;have am:=Ab am bm (Ae7 (Ae8 _) (by omega));have am:=am.trans dw;have hE:=hE.trans am;exact .inr ⟨_,rfl,a6,rfl,hE.trans hx⟩
   rintro v_ fv ⟨rfl,dx,fw⟩;cases dx
  have hcm:=hI.G _ c hG;have hcl:=hok _ hcm;by_cases h0:i=0
  ·have hO:DD (fun x:Aj=>x.1.pos) t i s=some (Ef (fun x:Aj=>x.1.pos) t i s c):=by unfold DD;rw[hG];exact if_pos (.inl h0)
   rw[hO]at hst;have o:=o.keep ak;have g:=g.trans p;have g:=Ab g q (Ae7 (Ae8 _) (by omega));refine gS (Abj (xs:=t.drop ((36)*(i))) (l:=32) GR Rg rfl (o.keep g) rfl (by simp only[Afn];omega) fun dy dz ha131=>(gS (AaE GC rfl (((show Calls _ _ _ _ (fun e w2=>e = .returned (NI (E7 t i))/\Ext _ w2)from Ej _ dy ((t.drop ((36)*(i)):AlJ).drop (32)) dz (by simp only[Afn];omega))).mono ?_))));rintro e d0 ⟨rfl,av⟩;refine⟨_,rfl,?_⟩;have hE:=hE.trans p;have hE:=Ab hE q (Ae7 bb (by omega));have hE:=hE.trans av;have hb6ll:=hb6ll.keep av;refine gS (Abs (ek:=NI) (ev:=BK) (D:=(fun _:Nat=>True)) GX GY (fun _ _=>HV) D9 (z:=BK dEnt) Dv T6 rfl hb6ll trivial hG (gS (Ad5 (vs:= [.agg (entC (c)).toArray, .bool (true)]) rfl rfl (gS (Ad5 (vs:= [.agg (entC (c)).toArray, .bool (true)]) rfl rfl (gS (Ad9 In fun bn d1 bo cr aw fx=> ?_)))))));have an:=Ad4 d0;have g:=g.trans av;have fy:=hE.size;have d2:=g.size;have fz:=Av hb6ll.lt bo;have hb49l:=hb49l.keep av;have f0:=Av hb49l.lt bo;have hr_vi:=hr_vi.keep p;have hr_vi:=Aei hr_vi q a5;have hr_vi:=hr_vi.keep av;have cs:OB vi bn:=A4 hr_vi.2 (by omega);have j:=cr;clear cr;have f1:bn<d1.heap.size:=by omega
   refine gS (AaB (vr (PQ bn 0) rfl) (vr (.agg (entC (c)).toArray) rfl) j (BA (x:=((c):Aj)) (y:=(dEnt:Aj)) hcl.2 (by simp[dEnt])) (Bo (x:=((c):Aj)) EX hcl.2) (BF (x:=((c):Aj)) (Aeg hcl.1).2) fun f2 ct ax f3=> ?_);have hb6ll:=hb6ll.keep aw;have hb6ll:=Ad8 hb6ll ax (Ak (by omega));have hb49l:=hb49l.keep aw;have hb49l:=Ad8 hb49l ax (Ak (by omega));clear j;have j:=ct;clear ct;have f4:=bl j;refine Co [0,1,2,3,4,5,6,7,8,9,10,11,12,13,14,15] [11,15] [] fun f5 d3=>(ys (Aay (a:=(i:Nat)) (b:=(0:Nat)) ac rfl (AH _ _ _ _) zz) (kT (h0) (ys (AaS rfl rfl zz) (ys (AaS rfl rfl zz) (XL (Aa3 GA rfl rfl ?_))))));refine Aw (A1 _ (true) 6) ?_ ?_;rotate_left
   ·rintro ch f6 ⟨rfl,hb,hx⟩;refine Ax ?_;cases hb
   rintro v_ f7 ⟨rfl,f8,d4⟩;have hZ1:=d3.trans d4;have hb6ll:=hb6ll.keep hZ1;have j:=eb hZ1 j;refine gS (Ad6 GZ rfl (gS (Aax Vx rfl rfl (cellAt j ((show(entC ((c)))[0]? =some (NI (((c)).1.pos):Ae2)from rfl))) ?_)));have an:=an.trans aw;have an:=Ab an ax (Ae7 (Ae8 _) (by omega));have an:=an.trans hZ1;have hE:=hE.trans an;have g:=g.trans aw;have g:=Ab g ax (Ae7 d2 (by omega));have g:=g.trans hZ1;refine gS (Acu (ek:=NI) (ev:=BK) (D:=(fun _:Nat=>True)) GX GY (fun _ _=>HV) D9 T6 rfl hb6ll trivial fun d5 af a7 f9=> ?_);have hb49l:=hb49l.keep hZ1;have hb49l:=Ad8 hb49l a7 (Ak (by omega));clear hb6ll;have ga:u<d5.heap.size:=af.lt;refine Ed [0,1,2,3,6,4,5,7,8] [4,5,7,8] [] [1,6] fun gb bp=> ?_;have f:=eb av f;have gc:=Av (bl f) bo;have f:=eb aw f;have f:=kb ax f (by omega);have f:=eb hZ1 f;have f:=kb a7 f (by omega);have f:=eb bp f;have j:=kb a7 j (by omega);have j:=eb bp j;refine mb2 f j ?_;refine yf (fun _ ⟨f,_,_⟩=>AaC rfl f XM rfl (by exact Ac h32) zz) (ys (AaC rfl f XM rfl (by exact Ac h32) zz) (yf (fun _ ⟨_,j,_⟩=>AaC rfl j (Lu).choose_spec rfl (Bo (x:=((c):Aj)) EX hcl.2) zz) (yI (Abg (a:=(B3 t i)) (enc:=Ae4) (vr (AB (B3 t i)) rfl) (by rw[Afl];exact h32) MU fun d6 d7 cu bq=> ?_))));have hr_vi:=hr_vi.keep aw;have hr_vi:=Aei hr_vi ax cs;have hr_vi:=hr_vi.keep hZ1;have hr_vi:=Aei hr_vi a7 hap_vi_n3;have hZ2:=bp.trans bq;have hr_vi:=hr_vi.keep hZ2;have hE:=Ab hE a7 (Ae7 (Ae8 _) (by omega));have hE:=hE.trans hZ2;have f:=eb bq f;have j:=eb bq j;refine⟨⟨f,j,trivial⟩,?_⟩;refine yI (Aa2 _ _ w.heap.size _ 32 Oi pk6_ig33.choose_spec.1 pk6_ig33.choose_spec.2 Oi (s.ids) ([(B3 t i)]) (Aen hr_vi T9) (AaD cu (vr d6 rfl)) (fun _ _=>Ag _) (by simp only[AfA,AfK];omega) (by simp only[AfA,AfK];omega) hE.size fun be d8 br ag=> ?_);have ag:Grew d7 d8 vi be:= .eqv T9 ag;have af:=af.keep hZ2;have d9:OB be u:=Ap ag hap_vi_n3 af.lt;have hb49l:=hb49l.keep hZ2;have cv:OB be ae:=Ap ag hap_vi_n46 hb49l.lt;have hE:=As hE ag hr_vi.2 (Ae8 _);have hb49l:=Aeh hb49l ag hap_vi_n46;have f:=Aq f ag a5;have j:=Aq j ag cs;have af:=Aeh af ag hap_vi_n3;clear cu;clear hr_vi;refine⟨⟨f,j,trivial⟩,?_⟩;refine yI (Aek rfl ?_);refine⟨⟨f,j,trivial⟩,?_⟩;refine yD rfl (Aby (ek:=rk) (ev:=BK) (D:=(fun id:AlJ =>id.length=32)) (c:=((c))) Cu Cv Lw a4 (vr (AB (B3 t i)) rfl) (vr (.agg (entC ((c))).toArray) rfl) hb49l h32 fun ea cw bs gd=> ?_);have af:=Ad8 af bs (Ak (by omega));clear hb49l;have ge:ae<ea.heap.size:=cw.lt;have hE:=Ab hE bs (Ae7 cg (by omega));have br:=Aei br bs cv;refine gS (Aaz (xv:=NI i) (yv:=NI 1) ac rfl rfl (Ah _ _ _ (by omega)) (gK (AfF ⟨i+1,Ef (fun x:Aj=>x.1.pos) t i s c,be,T0,T1,T4,T5,T6,a4,aq,ar,aj,bi,rfl,rfl,hE,Bd br (rfl),Ci af (rfl),Ci cw (rfl),hst,by omega,d9,cv,trivial⟩ ?_)));show es.length-(intOf (NI ((i)+(1)))).toNat<es.length-(intOf (ci 33)).toNat;rw[q33];simp only[intOf,Afg];omega
  by_cases hlt:Aft (s.ids.getD (i-1) []) (B3 t i)<0
  ·have hO:DD (fun x:Aj=>x.1.pos) t i s=some (Ef (fun x:Aj=>x.1.pos) t i s c):=by unfold DD;rw[hG];exact if_pos (.inr hlt)
   rw[hO]at hst;have o:=o.keep ak;have g:=g.trans p;have g:=Ab g q (Ae7 (Ae8 _) (by omega));refine gS (Abj (xs:=t.drop ((36)*(i))) (l:=32) GR Rg rfl (o.keep g) rfl (by simp only[Afn];omega) fun ec ed ha192=>(gS (AaE GC rfl (((show Calls _ _ _ _ (fun e w2=>e = .returned (NI (E7 t i))/\Ext _ w2)from Ej _ ec ((t.drop ((36)*(i)):AlJ).drop (32)) ed (by simp only[Afn];omega))).mono ?_))));rintro e ee ⟨rfl,ay⟩;refine⟨_,rfl,?_⟩;have hE:=hE.trans p;have hE:=Ab hE q (Ae7 bb (by omega));have hE:=hE.trans ay;have hb6ll:=hb6ll.keep ay;refine gS (Abs (ek:=NI) (ev:=BK) (D:=(fun _:Nat=>True)) GX GY (fun _ _=>HV) D9 (z:=BK dEnt) Dv T6 rfl hb6ll trivial hG (gS (Ad5 (vs:= [.agg (entC (c)).toArray, .bool (true)]) rfl rfl (gS (Ad5 (vs:= [.agg (entC (c)).toArray, .bool (true)]) rfl rfl (gS (Ad9 In fun bt ef cx cy a8 gf=> ?_)))))));have ad:=Ad4 ee;have g:=g.trans ay;have gg:=hE.size;have eg:=g.size;have gh:=Av hb6ll.lt cx;have hb49l:=hb49l.keep ay;have gi:=Av hb49l.lt cx;have hr_vi:=hr_vi.keep p;have hr_vi:=Aei hr_vi q a5;have hr_vi:=hr_vi.keep ay;have cz:OB vi bt:=A4 hr_vi.2 (by omega);have n:=cy;clear cy;have gj:bt<ef.heap.size:=by omega
   refine gS (AaB (vr (PQ bt 0) rfl) (vr (.agg (entC (c)).toArray) rfl) n (BA (x:=((c):Aj)) (y:=(dEnt:Aj)) hcl.2 (by simp[dEnt])) (Bo (x:=((c):Aj)) EX hcl.2) (BF (x:=((c):Aj)) (Aeg hcl.1).2) fun gk c0 a9 gl=> ?_);have hb6ll:=hb6ll.keep a8;have hb6ll:=Ad8 hb6ll a9 (Ak (by omega));have hb49l:=hb49l.keep a8;have hb49l:=Ad8 hb49l a9 (Ak (by omega));clear n;have n:=c0;clear c0;have gm:=bl n;refine Co [0,1,2,3,4,5,6,7,8,9,10,11,12,13,14,15] [11,15] [] fun gn bu=>(ys (Aay (a:=(i:Nat)) (b:=(0:Nat)) ac rfl (AH _ _ _ _) zz) (kF (h0) (ys (Aaz (xv:=NI i) (yv:=NI 1) ac rfl rfl (BL _ _ _ (by omega) (by omega)) zz) ?_)));have hr_vi:=hr_vi.keep a8;have hr_vi:=Aei hr_vi a9 cz;have hr_vi:=hr_vi.keep bu;have c1:(Ae4 ((s.ids).getD ((i)-(1)) ([]:AlJ))).length=32:=(Aec (AaR hr_vi) ([]:AlJ) (by omega));have ad:=ad.trans a8;have ad:=Ab ad a9 (Ae7 (Ae8 _) (by omega));have ad:=ad.trans bu;have f:=eb (ay.trans ad) f;refine yA (AaZ Oi Td (by decide) ([]:AlJ) (AaD (AaR hr_vi) T9) rfl (by omega) fun go az=>(ys (Aa4 (Aa6 az rfl) XM rfl (by rw[c1];exact SY) zz) (ys (AaC rfl f XM rfl (by exact Ac h32) zz) (yC (AaA Tf rfl rfl ((F6 _ ((s.ids).getD ((i)-(1)) ([]:AlJ)) (B3 t i) ((Ay (c1))) (h32)).mono ?_))))));rintro e gp ⟨rfl,bv⟩;refine⟨_,rfl,?_⟩;have az:=Aej az bv;refine ys (Aay rfl rfl (F4 _ .i64 (Aft ((s.ids).getD ((i)-(1)) ([]:AlJ)) (B3 t i):Int) ((0:Nat):Int)) zz) (kT (hlt) (ys (AaX rfl rfl zz) (ys (AaS rfl rfl zz) (XL (Aa3 GA rfl rfl ?_)))));refine Aw (A1 _ (true) 6) ?_ ?_;rotate_left
   ·rintro ch gq ⟨rfl,hb,hx⟩;refine Ax ?_;cases hb
   rintro v_ gr ⟨rfl,gs,bw⟩;have az:=Aej az bw;clear az;have hZ3:=(bu.trans bv).trans bw;have hb6ll:=hb6ll.keep hZ3;have n:=eb hZ3 n;refine gS (Ad6 GZ rfl (gS (Aax Vx rfl rfl (cellAt n ((show(entC ((c)))[0]? =some (NI (((c)).1.pos):Ae2)from rfl))) ?_)));have hZ4:=bv.trans bw;have ad:=ad.trans hZ4;have hE:=hE.trans ad;have g:=g.trans a8;have g:=Ab g a9 (Ae7 eg (by omega));have g:=g.trans hZ3;refine gS (Acu (ek:=NI) (ev:=BK) (D:=(fun _:Nat=>True)) GX GY (fun _ _=>HV) D9 T6 rfl hb6ll trivial fun eh ah ba gt=> ?_);have hb49l:=hb49l.keep hZ3;have hb49l:=Ad8 hb49l ba (Ak (by omega));clear hb6ll;have gu:u<eh.heap.size:=ah.lt;refine Ed [0,1,2,3,6,4,5,7,8] [4,5,7,8] [] [1,6] fun gv bx=> ?_;have f:=eb hZ4 f;have f:=kb ba f (by omega);have f:=eb bx f;have n:=kb ba n (by omega);have n:=eb bx n;refine mb2 f n ?_;refine yf (fun _ ⟨f,_,_⟩=>AaC rfl f XM rfl (by exact Ac h32) zz) (ys (AaC rfl f XM rfl (by exact Ac h32) zz) (yf (fun _ ⟨_,n,_⟩=>AaC rfl n (Lu).choose_spec rfl (Bo (x:=((c):Aj)) EX hcl.2) zz) (yI (Abg (a:=(B3 t i)) (enc:=Ae4) (vr (AB (B3 t i)) rfl) (by rw[Afl];exact h32) MU fun ei ej c2 bz=> ?_))));have hr_vi:=hr_vi.keep hZ4;have hr_vi:=Aei hr_vi ba hap_vi_n3;have hZ5:=bx.trans bz;have hr_vi:=hr_vi.keep hZ5;have hE:=Ab hE ba (Ae7 (Ae8 _) (by omega));have hE:=hE.trans hZ5;have f:=eb bz f;have n:=eb bz n;refine⟨⟨f,n,trivial⟩,?_⟩;refine yI (Aa2 _ _ w.heap.size _ 32 Oi pk6_ig33.choose_spec.1 pk6_ig33.choose_spec.2 Oi (s.ids) ([(B3 t i)]) (Aen hr_vi T9) (AaD c2 (vr ei rfl)) (fun _ _=>Ag _) (by simp only[AfA,AfK];omega) (by simp only[AfA,AfK];omega) hE.size fun bf el b0 ai=> ?_);have ai:Grew ej el vi bf:= .eqv T9 ai;have ah:=ah.keep hZ5;have em:OB bf u:=Ap ai hap_vi_n3 ah.lt;have hb49l:=hb49l.keep hZ5;have c3:OB bf ae:=Ap ai hap_vi_n46 hb49l.lt;have hE:=As hE ai hr_vi.2 (Ae8 _);have hb49l:=Aeh hb49l ai hap_vi_n46;have f:=Aq f ai a5;have n:=Aq n ai cz;have ah:=Aeh ah ai hap_vi_n3;clear c2;clear hr_vi;refine⟨⟨f,n,trivial⟩,?_⟩;refine yI (Aek rfl ?_);refine⟨⟨f,n,trivial⟩,?_⟩;refine yD rfl (Aby (ek:=rk) (ev:=BK) (D:=(fun id:AlJ =>id.length=32)) (c:=((c))) Cu Cv Lw a4 (vr (AB (B3 t i)) rfl) (vr (.agg (entC ((c))).toArray) rfl) hb49l h32 fun en c4 b1 gw=> ?_);have ah:=Ad8 ah b1 (Ak (by omega));clear hb49l;have gx:ae<en.heap.size:=c4.lt;have hE:=Ab hE b1 (Ae7 cg (by omega));have b0:=Aei b0 b1 c3;refine gS (Aaz (xv:=NI i) (yv:=NI 1) ac rfl rfl (Ah _ _ _ (by omega)) (gK (AfF ⟨i+1,Ef (fun x:Aj=>x.1.pos) t i s c,bf,T0,T1,T4,T5,T6,a4,aq,ar,aj,bi,rfl,rfl,hE,Bd b0 (rfl),Ci ah (rfl),Ci c4 (rfl),hst,by omega,em,c3,trivial⟩ ?_)));show es.length-(intOf (NI ((i)+(1)))).toNat<es.length-(intOf (ci 33)).toNat;rw[q33];simp only[intOf,Afg];omega
  have hO:DD (fun x:Aj=>x.1.pos) t i s=none:=by unfold DD;rw[hG];exact if_neg (fun h=>h.elim h0 hlt)
  have o:=o.keep ak;have g:=g.trans p;have g:=Ab g q (Ae7 (Ae8 _) (by omega));refine gS (Abj (xs:=t.drop ((36)*(i))) (l:=32) GR Rg rfl (o.keep g) rfl (by simp only[Afn];omega) fun eo ep ha258=>(gS (AaE GC rfl (((show Calls _ _ _ _ (fun e w2=>e = .returned (NI (E7 t i))/\Ext _ w2)from Ej _ eo ((t.drop ((36)*(i)):AlJ).drop (32)) ep (by simp only[Afn];omega))).mono ?_))));rintro e eq ⟨rfl,a0⟩;refine⟨_,rfl,?_⟩;have hE:=hE.trans p;have hE:=Ab hE q (Ae7 bb (by omega));have hE:=hE.trans a0;have hb6ll:=hb6ll.keep a0;refine gS (Abs (ek:=NI) (ev:=BK) (D:=(fun _:Nat=>True)) GX GY (fun _ _=>HV) D9 (z:=BK dEnt) Dv T6 rfl hb6ll trivial hG (gS (Ad5 (vs:= [.agg (entC (c)).toArray, .bool (true)]) rfl rfl (gS (Ad5 (vs:= [.agg (entC (c)).toArray, .bool (true)]) rfl rfl (gS (Ad9 In fun c5 er c6 c7 b2 gy=> ?_)))))));have ab:=Ad4 eq;have g:=g.trans a0;have gz:=hE.size;have g0:=g.size;have g1:=Av hb6ll.lt c6;have hb49l:=hb49l.keep a0;have g2:=Av hb49l.lt c6;have bg:=c7;clear c7;have g3:c5<er.heap.size:=by omega
  refine gS (AaB (vr (PQ c5 0) rfl) (vr (.agg (entC (c)).toArray) rfl) bg (BA (x:=((c):Aj)) (y:=(dEnt:Aj)) hcl.2 (by simp[dEnt])) (Bo (x:=((c):Aj)) EX hcl.2) (BF (x:=((c):Aj)) (Aeg hcl.1).2) fun g4 c8 b3 g5=> ?_);have hb6ll:=hb6ll.keep b2;have hb6ll:=Ad8 hb6ll b3 (Ak (by omega));have hb49l:=hb49l.keep b2;have hb49l:=Ad8 hb49l b3 (Ak (by omega));clear bg;have bg:=c8;clear c8;have g6:=bl bg;refine Co [0,1,2,3,4,5,6,7,8,9,10,11,12,13,14,15] [11,15] [] fun g7 et=>(ys (Aay (a:=(i:Nat)) (b:=(0:Nat)) ac rfl (AH _ _ _ _) zz) (kF (h0) (ys (Aaz (xv:=NI i) (yv:=NI 1) ac rfl rfl (BL _ _ _ (by omega) (by omega)) zz) ?_)));have hr_vi:=hr_vi.keep p;have hr_vi:=Aei hr_vi q a5;have ab:=ab.trans b2;have ab:=Ab ab b3 (Ae7 (Ae8 _) (by omega));have ab:=ab.trans et;have hr_vi:=hr_vi.keep (a0.trans ab);have c9:(Ae4 ((s.ids).getD ((i)-(1)) ([]:AlJ))).length=32:=(Aec (AaR hr_vi) ([]:AlJ) (by omega));have f:=eb (a0.trans ab) f;refine yA (AaZ Oi Td (by decide) ([]:AlJ) (AaD (AaR hr_vi) T9) rfl (by omega) fun g8 b4=>(ys (Aa4 (Aa6 b4 rfl) XM rfl (by rw[c9];exact SY) zz) (ys (AaC rfl f XM rfl (by exact Ac h32) zz) (yC (AaA Tf rfl rfl ((F6 _ ((s.ids).getD ((i)-(1)) ([]:AlJ)) (B3 t i) ((Ay (c9))) (h32)).mono ?_))))));rintro e g9 ⟨rfl,da⟩;refine⟨_,rfl,?_⟩;have b4:=Aej b4 da;refine ys (Aay rfl rfl (F4 _ .i64 (Aft ((s.ids).getD ((i)-(1)) ([]:AlJ)) (B3 t i):Int) ((0:Nat):Int)) zz) (kF (hlt) (ys (AaX rfl rfl zz) (ys (AaS rfl rfl zz) (XL (Aa3 GA rfl rfl ?_)))));refine Aw (A1 _ (false) 6) ?_ ?_;rotate_left
  ·rintro ch ha ⟨rfl,hb,hx⟩;refine Ax ?_;rw[hO]at hst;have a6:=Fi hst (es.length-(i+1));rw[show i+1+(es.length-(i+1))=es.length by omega]at a6;have ab:=ab.trans da;have hE:=hE.trans ab;exact .inr ⟨_,rfl,a6,rfl,hE.trans hx⟩
  rintro v_ hc ⟨rfl,eu,hd⟩;cases eu
 have hie1:i=es.length:=by omega
 refine BI rfl T9 a4 ?_;exact .inl ⟨_,rfl,s,_,_,by rw[<-hie1];exact hs,rfl,AaR hr_vi,hb49l,(fun k hk=>(hr_vi.2.lt k hk).1),hE⟩
theorem Ab6{P:AfD}{K:Ae2->Ae3->Prop}{ρ:Ae}{w:Ae3}{d:Option Tmp}{ty:Afa}{pos:String}{af:Array Edge}{gd:Option (Nat × Bool)}{α β:Type}{ek:α->Ae2}{ev:β->Ae2}{D:α->Prop}{b:Nat}{G:α->Option β}{t Kt E:Afa}{OK:Ae2->Prop} 
  (L:KL P Kt OK) (hD:∀a,D a->OK (ek a)) (hi:∀a c,ek a=ek c->a=c) (ht:P.underlying t=some (.map Kt E)) {df:β} (hz:∀u:Ae3,(zeroValue E).run P u = .ok (ev df) u) {x y:Aff} {a:α}
  (hm:Aa ρ x = .map (some b)) (hy:Aa ρ y=ek a) (h:MapF ek ev D w b G) (ha:D a) (hk:K (ev ((G a).getD df)) w):Yk P K ((execOp (Aa ρ) ⟨d, .lookup t x y false,ty,pos,af,gd⟩).run P w):=
 Ack L hD hi ht hz hm hy h ha (by cases e:G a <;> rw[e]at hk <;> exact hk)
def OE(w:Ae3)(x:Aj):Prop:=RB w x.2 x.1.bytes/\x.1.base.length=32/\x.1.bytes.length<=1048576
def MOk(w:Ae3)(M:Bs->Option Aj):Prop:=∀k c,M k=some c->OE w c
theorem MOk.keep{w w' :Ae3}{M:Bs->Option Aj}(h:MOk w M)(k:Ext w w'):MOk w' M:=fun a c hc=>⟨(h a c hc).1.keep k,(h a c hc).2⟩
theorem MOk.get{w:Ae3}{M:Bs->Option Aj}(h:MOk w M)(k:Bs):OE w ((M k).getD dEnt):=by
 cases e:M k with
 | none=>exact⟨Aeq w,by simp[dEnt],by simp[dEnt]⟩
 | some c=>exact h k c e
def AI(M:Bs->Option Aj)(k:Bs):Ent:=((M k).getD dEnt).1
section
variable (E : Bs -> Ent)
def Bc:Nat->Ent->Option Nat
 | 0,e=>if e.based then none else some 0
 | n+1,e=>if e.based then(Bc n (E e.base)).map (· + 1)else some 0
def BV:Nat->Bs->Option (Bs × Nat)
 | 0,_=>none
 | n+1,id=>
  if(E id).based then(BV n (E id).base).bind fun x=>if(Bb x.1 (E id).bytes).2=0 then(if(Bb x.1 (E id).bytes).1.length<=262144 then some ((Bb x.1 (E id).bytes).1,x.2+1)else none)else none
  else if(E id).bytes.length<=262144 then some ((E id).bytes,0)else none
variable {E}
theorem Ez{n:Nat}{e:Ent}(h:e.based=false):Bc E n e=some 0:=by
 cases n <;> (unfold Bc;rw[h];rfl)
theorem FA{e:Ent}(h:e.based=true):Bc E 0 e=none:=by unfold Bc;rw[h];rfl
theorem DY{n:Nat}{e:Ent}(h:e.based=true):Bc E (n+1) e=(Bc E n (E e.base)).map (· + 1):=by
 show(if e.based=true then _ else _)=_;rw[if_pos h]
theorem RK{n c:Nat}{e:Ent}(h:e.based=true):(Bc E (n+1) e).map (· + c)=(Bc E n (E e.base)).map (· + (c+1)):=by
 rw[DY h];cases Bc E n (E e.base)with
 | none=>rfl
 | some d=>show some (d+1+c)=some (d+(c+1));rw[Nat.add_assoc,Nat.add_comm 1 c]
theorem G0:∀(n m:Nat) (e:Ent) (d:Nat),Bc E n e=some d->d<=m->Bc E m e=some d
 | n,m,e,d,h,hm=>by
  cases hb:e.based with
  | false=>rw[Ez hb]at h ⊢;exact h
  | true=>
   cases n with
   | zero=>rw[FA hb]at h;cases h
   | succ n=>
    rw[DY hb]at h;cases h1:Bc E n (E e.base)with
    | none=>rw[h1]at h;cases h
    | some d1=>
     rw[h1]at h;cases h;cases m with
     | zero=>simp at hm
     | succ m=>rw[DY hb,G0 n m _ d1 h1 (by simpa using hm)];rfl
end
theorem Jn:AZ Ae5 212 0 0:=fun b o w=>by simp[go_sem]
theorem RL(w:Ae3)(gm be bm:Nat)(M:Bs->Option Aj)(hmk:w.heap[gm]? =some (.cells ([.map (some be), .map (some bm)]).toArray 212 (0,0)))(hme:MapF rk BK (fun id:AlJ =>id.length=32) w be M)(hMO:MOk w M)(id:Bs)(hid:id.length=32):
  Calls Ae5 133 #[PQ gm 0,AB id] w fun r w' =>(∃x,r = .returned x/\∃d,Bc (AI M) 50 (AI M id)=some d/\x=NI d/\Ext w w')\/∃ch,r = .panicked ch/\Bc (AI M) 50 (AI M id)=none/\ch= [C6 17]/\Ext w w' :=by
 refine gG (args:= [PQ gm 0,AB id]) Tryz.func133 rfl 29 rfl rfl ?_;have hE:=Ad4 w;refine gS (Ael (vr (AB id) rfl) fun s w3 ab ac an a3=> ?_);have a4:=Av hme.lt ab;have e:=ac;clear ac;have a5:s<w3.heap.size:=by omega
 refine Ed [0,1,2,3,4,5,6,7] [6,7] [1,2] [3,4,5] fun ao ad=> ?_;have hZ1:=an.trans ad;have hE:=hE.trans hZ1;have ap:=hE.size;have k:=Ad4 ao;have a6:=Av (bl hmk) ab;have hmk:=eb hZ1 hmk;have hme:=hme.keep hZ1;have e:=eb ad e;refine DV k ?_;refine yp (Ad7 rfl zz) (yp (Ad6 Jn rfl zz) (yf (fun _ ⟨hZ,_⟩=>Aax Lw rfl rfl (cellAt (eb hZ hmk) rfl) zz) (yf (fun _ ⟨hZ,_⟩=>AaC rfl (eb hZ e) XM rfl (by exact Ac hid) zz) (yf (fun _ ⟨hZ,_⟩=>Ab6 (ek:=rk) (ev:=BK) (D:=(fun id:AlJ =>id.length=32)) (df:=dEnt) Cu Cv (fun _ _=>Cp) Lw Dv rfl rfl (hme.keep hZ) hid zz) (yE (Ad9 In fun t aq u ae i a7=> ?_))))));have a8:=Av hme.lt u;have h:=ae;clear ae;have a9:t<aq.heap.size:=by omega
 have k:=k.trans i;refine⟨k,?_⟩;refine yD rfl (AaB (vr (PQ t 0) rfl) (vr (.agg (entC ((M (id)).getD dEnt)).toArray) rfl) h (BA (x:=(((M (id)).getD dEnt):Aj)) (y:=(dEnt:Aj)) (hMO.get (id)).2.1 (by simp[dEnt])) (Bo (x:=(((M (id)).getD dEnt):Aj)) EX (hMO.get (id)).2.1) (BF (x:=(((M (id)).getD dEnt):Aj)) (Aeg (hMO.get (id)).1).2) fun ba af l bb=> ?_);have hme:=hme.keep i;have hme:=Ad8 hme l (Ak (by omega));clear h;have h:=af;clear af;have bc:=bl h;have bd:=Av (bl hmk) u;have hmk:=eb i hmk;have hmk:=kb l hmk (by omega);have bf:=Av (bl e) u;have e:=eb i e;have e:=kb l e (by omega);have hE:=hE.trans i;have hE:=Ab hE l (Ae7 ap (by omega));refine gL (fun(ρ:Ae) (wz:Ae3)=>∃c:Nat,∃x:Aj,∃q:Nat,ρ 0=(PQ gm 0:Ae2)/\ρ 1=(AB id:Ae2)/\ρ 3=(PQ s 0:Ae2)/\ρ 4=(NI 0:Ae2)/\ρ 5=(NI c:Ae2)/\ρ 6=(PQ q 0:Ae2)/\wz.heap[gm]? =some (.cells ([.map (some be), .map (some bm)]).toArray 212 (0,0))/\MapF rk BK (fun id:AlJ =>id.length=32) wz be M/\Ext w wz/\wz.heap[s]? =some (.cells (Ae4 id).toArray 33 (0,0))/\wz.heap[q]? =some (.cells (entC (x)).toArray 208 (0,0))/\(c<=50)/\(Bc (AI M) 50 (AI M id)=(Bc (AI M) (50-c) x.1).map (· + c))/\(OE w x)/\(w.heap.size<=q)/\True) (fun ρ _=>51-(intOf (ρ 5)).toNat) ⟨0,(M id).getD dEnt,t,rfl,rfl,rfl,rfl,rfl,rfl,hmk,hme,hE,e,h,AfC _,by simp[AI],hMO.get id,by omega,trivial⟩ ?_;clear h;clear hmk hme hE e;rintro ar bg ⟨c,x,q,T0,T1,T3,T4,v,T6,hmk,hme,hE,e,hbq,hc,hd,hxo,hqw,-⟩;have q5:=v;refine gS (Ad6 GW T6 (gS (Aax KD rfl rfl (cellAt hbq ((show(entC (x))[1]? =some (.bool ((x).1.based):Ae2)from rfl))) ?_)));refine cB ((x).1.based) rfl (fun m=> ?_) fun m=> ?_
 ·have ax:x.1.based=true:=m;refine gS (Aaz (xv:=NI c) (yv:=NI 1) v rfl rfl (Ah _ _ _ (by omega)) (gS (Aay (a:=((c)+(1):Nat)) (b:=(50:Nat)) rfl rfl (DR _ _ _ _) (gP (Aa3 GA rfl rfl ?_)))));refine Aw (A1 _ (decide (((c)+(1))<=(50))) 17) ?_ ?_;rotate_left
  ·rintro ch bh ⟨rfl,hb,hx⟩;refine Ax ?_;have hno:=of_decide_eq_false hb;refine .inr ⟨_,rfl,?_,rfl,hE.trans hx⟩;rw[hd,show 50-c=0 by omega,FA m];rfl
  rintro v_ ay ⟨rfl,az,j⟩;have bi:=of_decide_eq_true az;have hbq:=eb j hbq;refine gS (AaC T6 hbq (Lu).choose_spec rfl (Bo (x:=(x:Aj)) EX hxo.2.1) (gS (Ad9 In fun n a0 a1 ai z bj=> ?_)));have g:=Ad4 ay;have hE:=hE.trans j;have aj:=hE.size;have hme:=hme.keep j;have bk:=Av hme.lt a1;have f:=ai;clear ai;have bn:n<a0.heap.size:=by omega
  refine gS (AaB (vr (PQ n 0) rfl) (vr (.agg (entC (x)).toArray) rfl) f (BA (x:=((x):Aj)) (y:=(dEnt:Aj)) hxo.2.1 (by simp[dEnt])) (Bo (x:=((x):Aj)) EX hxo.2.1) (BF (x:=((x):Aj)) (Aeg hxo.1).2) fun bo ak aa bp=> ?_);have hme:=hme.keep z;have hme:=Ad8 hme aa (Ak (by omega));clear f;have f:=ak;clear ak;have bq:=bl f;refine Co [0,1,2,3,4,5,6,7] [7] [] fun br o=> ?_;have g:=g.trans z;have g:=Ab g aa (Ae7 (Ae8 _) (by omega));have g:=g.trans o;have hmk:=eb (j.trans g) hmk;have hme:=hme.keep o;have f:=eb o f;refine ys (Ad7 T0 zz) (ys (Ad6 Jn rfl zz) (ys (Aax Lw rfl rfl (cellAt hmk rfl) zz) (ys (Ad6 OD rfl zz) (ys (Abi rfl (EL (x:=((x):Aj)) f) XM rfl (by rw[Afl,hxo.2.1];exact SY) zz) (ys (Ab6 (ek:=rk) (ev:=BK) (D:=(fun id:AlJ =>id.length=32)) (df:=dEnt) Cu Cv (fun _ _=>Cp) Lw Dv rfl rfl hme hxo.2.1 zz) (yC (AaB (vr (PQ n 0) rfl) (vr (.agg (entC ((M (((x)).1.base)).getD dEnt)).toArray) rfl) f (BA (x:=(((M (((x)).1.base)).getD dEnt):Aj)) (y:=((x):Aj)) (hMO.get (((x)).1.base)).2.1 hxo.2.1) (Bo (x:=(((M (((x)).1.base)).getD dEnt):Aj)) EX (hMO.get (((x)).1.base)).2.1) (BF (x:=(((M (((x)).1.base)).getD dEnt):Aj)) (Aeg (hMO.get (((x)).1.base)).1).2) fun bs al p bt=> ?_)))))));have hme:=Ad8 hme p (Ak (by omega));clear f;have f:=al;clear al;have bu:=bl f;have g:=Ab g p (Ae7 (Ae8 _) (by omega));have e:=eb (j.trans g) e;have hE:=hE.trans z;have hE:=Ab hE aa (Ae7 aj (by omega));have hE:=hE.trans o;have hE:=Ab hE p (Ae7 aj (by omega));have hmk:=kb p hmk (by omega);refine gK (AfF ⟨c+1,(M x.1.base).getD dEnt,n,T0,T1,T3,T4,rfl,rfl,hmk,hme,hE,e,f,by omega,hd.trans (by rw[show 50-c=(50-(c+1))+1 by omega];exact RK ax),hMO.get _,by omega,trivial⟩ ?_);show 51-(intOf (NI ((c)+(1)))).toNat<51-(intOf (ar 5)).toNat;rw[q5];simp only[intOf,Afg];omega
 have a2:x.1.based=false:=by simpa using m
 refine A8 rfl v ?_;exact .inl ⟨_,rfl,c,by rw[hd,Ez a2];exact congrArg some (Nat.zero_add c),rfl,hE⟩
abbrev Cw:=(Bs × Nat)× Ae2
abbrev Ct(x:Cw):Ae2:= .agg ([x.2,NI x.1.2]).toArray
def Mb:Cw:=(([],0), .slice none 0 0)
theorem HW:∀u:Ae3,(zeroValue 215).run Ae5 u = .ok (Ct Mb) u:=fun _=>by kernel_rfl
theorem CD{v:Ae2}{n:Nat}(h:v.oneCell' =true):∀u∈([v,NI n]).toArray.toList,u.oneCell' =true:=by
 intro u hu;simp only[AfT,AgX,or_false]at hu;rcases hu with rfl | rfl
 ·exact h
 ·rfl
def IsMapB(w:Ae3)(b:Nat):Prop:=∃es c,w.heap[b]? =some (.map es c)
theorem AbK{α β:Type}{ek:α->Ae2}{ev:β->Ae2}{D:α->Prop}{w:Ae3}{b:Nat}{G:α->Option β}(h:MapF ek ev D w b G):IsMapB w b:=by
 obtain⟨es,c,h,-⟩:=h;exact⟨_,c,h⟩
def EA(w:Ae3)(b:Nat):Prop:=∀j x,w.cell? ⟨b,j,none⟩≠some (B8 x)
theorem IsMapB.noB8{w:Ae3}{b:Nat}(h:IsMapB w b):EA w b:=fun j x hc=>by
 obtain⟨es,c,hm⟩:=h;unfold AhB at hc;rw[hm]at hc;simp at hc
theorem KE{w:Ae3}{g k:Nat}{v:Ae2}{T:Afa}{fr:Nat × Nat}(hb:w.heap[g]? =some (.cells ([v,NI k]).toArray T fr))(hv:∃ao n c,v = .slice ao n c):EA w g:=fun j x hc=>by
 obtain⟨ao,n,c,rfl⟩:=hv;unfold AhB at hc;rw[hb]at hc
 match j,hc with
 | 0,hc=>simp at hc
 | 1,hc=>simp at hc
 | j+2,hc=>simp at hc
theorem RB.keepN{w w' :Ae3}{b:Nat}{v:Ae2}{l:AlJ}(h:RB w v l)(hm:EA w b)(hg:w.grownBy w' (some b)):RB w' v l:=by
 by_cases hv:v.ownBlock=some b
 ·obtain⟨h1,ao,cap,rfl,h2,h3,h4,h5⟩:=h;refine⟨h1,ao,cap,rfl,h2,h3,h4,fun a ha j u hu=> ?_⟩;subst ha;exfalso;have hb:a.block=b:=by injection hv
  have hc:=h5 a rfl j u hu;have hj:j<l.length:=by have:=(Afx.1 hu).1;rwa [Afl]at this
  rw[JQ hj]at hu;cases hu;have hsp:=Ah3 hc;obtain⟨ab,ao,asp⟩:=a;have e:({ block:=ab,off:=ao,spot:=asp } :Addr).add j=⟨b,(({ block:=ab,off:=ao,spot:=asp } :Addr).add j).off,none⟩:=by
   have h1:(({ block:=ab,off:=ao,spot:=asp } :Addr).add j).block=b:=by rw[<-hb];unfold Addr.add;split <;> rfl
   generalize ({ block:=ab,off:=ao,spot:=asp } :Addr).add j=q at h1 hsp ⊢
   obtain⟨q1,q2,q3⟩:=q;simp only at h1 hsp;rw[h1,hsp]
  rw[e]at hc;exact hm _ _ hc
 ·exact h.kept hg (.inr hv)
theorem MOk.keepN{w w' :Ae3}{b:Nat}{M:Bs->Option Aj}(h:MOk w M)(hm:EA w b)(hg:w.grownBy w' (some b)):MOk w' M:=fun a c hc=>⟨(h a c hc).1.keepN hm hg,(h a c hc).2⟩
theorem BX.keep{w0 w w' :Ae3}{r:Option Nat}(h:BX w0.heap.size r w0 w)(k:Ext w w'):BX w0.heap.size r w0 w' :=h.trans (Abm k h.size)
theorem BX.set{w0 w w' :Ae3}{r:Option Nat}{g:Nat}(h:BX w0.heap.size r w0 w)(hg:w.grownBy w' (some g))(hn:w0.heap.size<=g):BX w0.heap.size r w0 w' :=h.trans (Abn hg h.size (fun k hk=>by cases hk;exact .inr hn))
theorem BX.put{w0 w w' :Ae3}{b:Nat}(h:BX w0.heap.size (some b) w0 w)(hg:w.grownBy w' (some b)):BX w0.heap.size (some b) w0 w' :=h.trans (Abn hg h.size (fun k hk=> .inl hk))
def HOk(w:Ae3)(M:Bs->Option Aj)(H:Bs->Option Cw):Prop:=∀id x,H id=some x->RB w x.2 x.1.1/\∃n d,Bc (AI M) n (AI M id)=some d/\BV (AI M) (d+1) id=some x.1
theorem HOk.keep{w w' :Ae3}{M:Bs->Option Aj}{H:Bs->Option Cw}(h:HOk w M H)(k:Ext w w'):HOk w' M H:=fun a c hc=>⟨(h a c hc).1.keep k,(h a c hc).2⟩
theorem HOk.keepN{w w' :Ae3}{b:Nat}{M:Bs->Option Aj}{H:Bs->Option Cw}(h:HOk w M H)(hm:EA w b)(hg:w.grownBy w' (some b)):HOk w' M H:=fun a c hc=>⟨(h a c hc).1.keepN hm hg,(h a c hc).2⟩
theorem HOk.nil{w:Ae3}{M:Bs->Option Aj}:HOk w M (fun _=>none):=fun _ _ h=>by cases h
theorem HOk.put{w:Ae3}{M:Bs->Option Aj}{H:Bs->Option Cw}(h:HOk w M H){id:Bs}{x:Cw}(h1:RB w x.2 x.1.1){n d:Nat}(h2:Bc (AI M) n (AI M id)=some d)(h3:BV (AI M) (d+1) id=some x.1):HOk w M (updM H id (some x)):=fun a c hc=>by
 unfold updM at hc;split at hc
 ·rename_i e
  cases hc;subst e;exact⟨h1,n,d,h2,h3⟩
 ·exact h a c hc
section
variable {E : Bs -> Ent}
theorem OF{n m:Nat}{e:Ent}{d d' :Nat}(h:Bc E n e=some d)(h' :Bc E m e=some d'):d=d' :=by
 have h1:=G0 n (max d d') e d h (Nat.le_max_left _ _);have h2:=G0 m (max d d') e d' h' (Nat.le_max_right _ _);rw[h1]at h2;cases h2;rfl
theorem OH{n:Nat}{e:Ent}{d:Nat}(hb:e.based=true)(h:Bc E n e=some d):∃n' d',d=d' +1/\Bc E n' (E e.base)=some d' :=by
 cases n with
 | zero=>rw[FA hb]at h;cases h
 | succ n=>
  rw[DY hb]at h;cases h1:Bc E n (E e.base)with
  | none=>rw[h1]at h;cases h
  | some d1=>rw[h1]at h;cases h;exact⟨n,d1,rfl,h1⟩
theorem Gm{n:Nat}{id:Bs}(hb:(E id).based=true):BV E (n+1) id=(BV E n (E id).base).bind fun x=>if(Bb x.1 (E id).bytes).2=0 then(if(Bb x.1 (E id).bytes).1.length<=262144 then some ((Bb x.1 (E id).bytes).1,x.2+1)else none)else none:=by
 show(if _=true then _ else _)=_;rw[if_pos hb]
theorem G1{n:Nat}{id:Bs}(hb:(E id).based=false):BV E (n+1) id=if(E id).bytes.length<=262144 then some ((E id).bytes,0)else none:=by
 show(if _=true then _ else _)=_;rw[if_neg (by rw[hb];decide)]
theorem Io:∀ {n:Nat} {id:Bs} {b:Bs} {k:Nat},BV E n id=some (b,k)->b.length<=262144/\k<n
 | 0,_,_,_,h=>by cases h
 | n+1,id,b,k,h=>by
  cases hb:(E id).based with
  | false=>
   rw[G1 hb]at h;split at h
   ·cases h;exact⟨‹_›,Nat.succ_pos _⟩
   ·cases h
  | true=>
   rw[Gm hb]at h;cases h1:BV E n (E id).base with
   | none=>rw[h1]at h;cases h
   | some x=>
    rw[h1]at h;have h2:(if(Bb x.1 (E id).bytes).2=0 then(if(Bb x.1 (E id).bytes).1.length<=262144 then some ((Bb x.1 (E id).bytes).1,x.2+1)else none)else none)=some (b,k):=h;split at h2
    ·split at h2
     ·cases h2;have:=Io (b:=x.1) (k:=x.2) h1;exact⟨‹_›,by omega⟩
     ·cases h2
    ·cases h2
end
theorem Bu:(Tryz.prog.info? 215).map (·.size)=some 2:=by kernel_rfl
theorem Ea{d:Option Tmp}{ty:Afa}{pos:String}{af:Array Edge}{gd:Option (Nat × Bool)}(σ:Aff->Ae2)(w:Ae3):(execOp σ ⟨d, .alloc 215,ty,pos,af,gd⟩).run Ae5 w = .ok (.value (PQ w.heap.size 0)) (w.alloc (.cells ([(Afc none 0 0),NI 0]).toArray 215)):=by kernel_rfl
theorem EB:AZ Ae5 212 1 1:=fun b o w=>by simp[go_sem]
theorem CX:Tryz.prog.underlying 161=some (.map 33 215):=by kernel_rfl
theorem IQ{z0:Ae2}(h0:∃ao n c,z0 = .slice ao n c)(w:Ae3):(Ag3 215 #[(0,z0)]).run Ae5 w = .ok (.agg ([z0,NI 0]:List Ae2).toArray) w:=by obtain⟨_,_,_,rfl⟩:=h0;kernel_rfl
theorem G2:AZ Ae5 215 0 0:=fun b o w=>by simp[go_sem]
theorem DE:∃fs,Tryz.prog.underlying 215=some (.struct fs):=Fg (by kernel_rfl)
theorem RM:Plain Ae5 134:=fun _ _=>by kernel_rfl
theorem RN:Plain Ae5 173:=fun _ _=>by kernel_rfl
theorem OI:AZ Ae5 215 1 1:=fun b o w=>by simp[go_sem]
theorem Lx{z0:Ae2}(h0:∃ao n c,z0 = .slice ao n c)(z1:Int)(w:Ae3):(Ag3 215 #[(0,z0),(1, .int .i64 z1)]).run Ae5 w = .ok (.agg ([z0, .int .i64 z1]:List Ae2).toArray) w:=by obtain⟨_,_,_,rfl⟩:=h0;kernel_rfl
theorem RO(gm be bm:Nat)(M:Bs->Option Aj)(d:Nat)(ih:∀d1,d1<d->∀(w:Ae3) (H:Bs->Option Cw) (id:Bs) (hmk:w.heap[gm]? =some (.cells ([.map (some be), .map (some bm)]).toArray 212 (0,0))) (hme:MapF rk BK (fun id:AlJ =>id.length=32) w be M) (hmm:MapF rk Ct (fun id:AlJ =>id.length=32) w bm H) (hMO:MOk w M) (hHO:HOk w M H) (hne:be≠bm) (hid:id.length=32) (hd50:d1<=50) (n0:Nat) (hdp:Bc (AI M) n0 (AI M id)=some d1) (n0w:Nat) (hNM:NewM n0w M) (hNH:NewM n0w H) (b7:n0w<=w.heap.size),Calls Ae5 134 #[PQ gm 0,AB id] w fun r w' =>(∃x,r = .returned x/\∃v b k H',x = .agg ([v,NI k]).toArray/\BV (AI M) (d1+1) id=some (b,k)/\RB w' v b/\MapF rk Ct (fun id:AlJ =>id.length=32) w' bm H' /\HOk w' M H' /\BX w.heap.size (some bm) w w' /\NewV n0w v/\NewM n0w H')\/∃ch,r = .panicked ch/\BV (AI M) (d1+1) id=none/\ch= [C6 6]/\BX w.heap.size (some bm) w w')(w:Ae3)(H:Bs->Option Cw)(id:Bs)(hmk:w.heap[gm]? =some (.cells ([.map (some be), .map (some bm)]).toArray 212 (0,0)))(hme:MapF rk BK (fun id:AlJ =>id.length=32) w be M)(hmm:MapF rk Ct (fun id:AlJ =>id.length=32) w bm H)(hMO:MOk w M)(hHO:HOk w M H)(hne:be≠bm)(hid:id.length=32)(hd50:d<=50)(n0:Nat)(hdp:Bc (AI M) n0 (AI M id)=some d)(n0w:Nat)(hNM:NewM n0w M)(hNH:NewM n0w H)(b7:n0w<=w.heap.size):
  Calls Ae5 134 #[PQ gm 0,AB id] w fun r w' =>(∃x,r = .returned x/\∃v b k H',x = .agg ([v,NI k]).toArray/\BV (AI M) (d+1) id=some (b,k)/\RB w' v b/\MapF rk Ct (fun id:AlJ =>id.length=32) w' bm H' /\HOk w' M H' /\BX w.heap.size (some bm) w w' /\NewV n0w v/\NewM n0w H')\/∃ch,r = .panicked ch/\BV (AI M) (d+1) id=none/\ch= [C6 6]/\BX w.heap.size (some bm) w w' :=by
 have hX:=BX.refl w.heap.size (some bm) w;have hgb:gm≠bm:=fun e=>by obtain⟨es_,c_,h_⟩:=AbK hmm;rw[<-e,hmk]at h_;cases h_
 have hbl:=hmm.lt;have hgl:=(bl hmk);have hel:=hme.lt;refine gG (args:= [PQ gm 0,AB id]) Tryz.func134 rfl 66 rfl rfl ?_;have hE:=Ad4 w;refine gS (Ael (vr (AB id) rfl) fun n2 w3 bd ci a6 ew=> ?_);have ex:=Av hme.lt bd;have ey:=Av hmm.lt bd;have f:=ci;clear ci;have ez:n2<w3.heap.size:=by omega
 refine gS (Ad9 Ea fun am dv aq cj b8 e0=> ?_);have hE:=hE.trans a6;have dw:=hE.size;have hme:=hme.keep a6;have e1:=Av hme.lt aq;have hmm:=hmm.keep a6;have e2:=Av hmm.lt aq;have g:=cj;clear cj;have e3:am<dv.heap.size:=by omega
 rcases hH:H id with _ | x
 ·rcases hb:(AI M id).based with _ | _
  ·have hcg:=G1 (n:=d) (E:=AI M) hb;have hbx:((M (id)).getD dEnt).1.based=false:=hb;refine Ed [0,1,2,3,4,5,6,7,8,9,10,11] [9,10] [1,2,7,8] [3,4,5] fun ck cl=> ?_;have m:=Ad4 ck;have hZ1:=b8.trans cl;have hE:=hE.trans hZ1;have dx:=hE.size;have bq:=Ad4 ck;have cm:=Av (bl hmk) bd;have hmk:=eb a6 hmk;have cn:=Av (bl hmk) aq;have hmk:=eb hZ1 hmk;have co:=Av (bl f) aq;have f:=eb hZ1 f;have hmm:=hmm.keep hZ1;refine DV bq ?_;refine yp (Ad7 rfl zz) (yp (Ad6 EB rfl zz) (yf (fun _ ⟨hZ,_⟩=>Aax CX rfl rfl (cellAt (eb hZ hmk) rfl) zz) (yf (fun _ ⟨hZ,_⟩=>AaC rfl (eb hZ f) XM rfl (by exact Ac hid) zz) (yf (fun _ ⟨hZ,_⟩=>Abz (ek:=rk) (ev:=Ct) (D:=(fun id:AlJ =>id.length=32)) Cu Cv (fun _ _=>Cp) CX (z:=Ct Mb) HW rfl rfl (hmm.keep hZ) hid hH zz) (yp (Ad5 (vs:= [.agg ([(Afc none 0 0),NI 0]).toArray, .bool (false)]) rfl rfl zz) (yp (Ad5 (vs:= [.agg ([(Afc none 0 0),NI 0]).toArray, .bool (false)]) rfl rfl zz) (yE (Ad9 Ea fun b9 dy br cp az e4=> ?_))))))));have hme:=hme.keep hZ1;have e5:=Av hme.lt br;have e6:=Av hmm.lt br;have ar:=cp;clear cp;have e7:b9<dy.heap.size:=by omega
   have bq:=bq.trans az;refine⟨bq,?_⟩;refine yD rfl (AaB (vr (PQ b9 0) rfl) (vr (.agg ([(Afc none 0 0),NI 0]).toArray) rfl) ar rfl (show(Tryz.prog.info? 215).map (·.size)=some 2 from Bu) (CD rfl) fun e8 cq a7 e9=> ?_);have hme:=hme.keep az;have hme:=Ad8 hme a7 (Ak (by omega));have hmm:=hmm.keep az;have hmm:=Ad8 hmm a7 (Ak (by omega));clear ar;have ar:=cq;clear cq;have fa:=bl ar;refine cF rfl (Ed [0,1,2,3,4,5,6,7] [6,7] [1,2] [3,4,5] fun cr a0=> ?_);have ad:=Ad4 cr;have hE:=hE.trans az;have hE:=Ab hE a7 (Ae7 dx (by omega));have hE:=hE.trans a0;have m:=m.trans az;have m:=Ab m a7 (Ae7 (Ae8 _) (by omega));have m:=m.trans a0;have dz:=hE.size;have bs:=Ad4 cr;have fb:=Av (bl hmk) br;have hmk:=eb az hmk;have hmk:=kb a7 hmk (by omega);have hmk:=eb a0 hmk;have fc:=Av (bl f) br;have f:=eb az f;have f:=kb a7 f (by omega);have f:=eb a0 f;have hme:=hme.keep a0;refine DV bs ?_;refine yp (Ad7 rfl zz) (yp (Ad6 Jn rfl zz) (yf (fun _ ⟨hZ,_⟩=>Aax Lw rfl rfl (cellAt (eb hZ hmk) rfl) zz) (yf (fun _ ⟨hZ,_⟩=>AaC rfl (eb hZ f) XM rfl (by exact Ac hid) zz) (yf (fun _ ⟨hZ,_⟩=>Ab6 (ek:=rk) (ev:=BK) (D:=(fun id:AlJ =>id.length=32)) (df:=dEnt) Cu Cv (fun _ _=>Cp) Lw Dv rfl rfl (hme.keep hZ) hid zz) (yE (Ad9 In fun ca d0 bt cs au fd=> ?_))))));have fe:=Av hme.lt bt;have hmm:=hmm.keep a0;have ff:=Av hmm.lt bt;have ae:=cs;clear cs;have fg:ca<d0.heap.size:=by omega
   have bs:=bs.trans au;refine⟨bs,?_⟩;refine yD rfl (AaB (vr (PQ ca 0) rfl) (vr (.agg (entC ((M (id)).getD dEnt)).toArray) rfl) ae (BA (x:=(((M (id)).getD dEnt):Aj)) (y:=(dEnt:Aj)) (hMO.get (id)).2.1 (by simp[dEnt])) (Bo (x:=(((M (id)).getD dEnt):Aj)) EX (hMO.get (id)).2.1) (BF (x:=(((M (id)).getD dEnt):Aj)) (Aeg (hMO.get (id)).1).2) fun ct cu a1 fh=> ?_);have hme:=hme.keep au;have hme:=Ad8 hme a1 (Ak (by omega));have hmm:=hmm.keep au;have hmm:=Ad8 hmm a1 (Ak (by omega));clear ae;have ae:=cu;clear cu;have fi:=bl ae;refine gS (Ad6 Jm rfl ?_);have hE:=hE.trans au;have hE:=Ab hE a1 (Ae7 dz (by omega));have hre91:RB ct (((M (id)).getD dEnt)).2 (AI M id).bytes:=(MOk.get (hMO.keep hE) id).1;refine gS (Aax GR rfl rfl (cellAt ae (Oz (x:=(((M (id)).getD dEnt):Aj)) (hMO.get (id)).2.1)) (gS (Aca (vr ((((M (id)).getD dEnt)).2) rfl) (fun w=>IQ (AeA hre91) w) (gS (Ad9 Ea fun cb d3 cv cw bf fj=> ?_)))));have s:=Ad4 ct;have d4:=m.size;have m:=m.trans au;have m:=Ab m a1 (Ae7 d4 (by omega));have ad:=ad.trans au;have ad:=Ab ad a1 (Ae7 (Ae8 _) (by omega));have fk:=hE.size;have fl:=Av hme.lt cv;have fm:=Av hmm.lt cv;have ah:=cw;clear cw;have fn:cb<d3.heap.size:=by omega
   have s:=s.trans bf;refine gS (AaB (vr (PQ cb 0) rfl) (vr (.agg ([(((M (id)).getD dEnt)).2,NI 0]).toArray) rfl) ah rfl (show(Tryz.prog.info? 215).map (·.size)=some 2 from Bu) (CD (Aeg (hre91.keep s)).2) fun fo cx bg fp=> ?_);have hme:=hme.keep bf;have hme:=Ad8 hme bg (Ak (by omega));have hmm:=hmm.keep bf;have hmm:=Ad8 hmm bg (Ak (by omega));clear ah;have ah:=cx;clear cx;have fq:=bl ah;have s:=Ab s bg (Ae7 (Ae8 _) (by omega));have ae:=eb s ae;refine gS (Ad6 GW rfl (gS (Aax KD rfl rfl (cellAt ae ((show(entC (((M (id)).getD dEnt)))[1]? =some (.bool false:Ae2)from congrArg (fun b=>some (AfE b)) hbx))) (cF rfl (gS (Ad6 G2 rfl (gS (Aax GR rfl rfl (cellAt ah rfl) (gS (AaT GR (AaF (hre91.keep s) rfl) (gS (Aay (a:=(((AI M id).bytes:AlJ).length:Nat)) (b:=(262144:Nat)) rfl rfl (DR _ _ _ _) (gP (Aa3 GA rfl rfl ?_))))))))))))));refine Aw (A1 _ (decide ((((AI M id).bytes:AlJ).length)<=(262144))) 6) ?_ ?_;rotate_left
   ·rintro ch fr ⟨rfl,hb,hx⟩;refine Ax ?_;have hno:=of_decide_eq_false hb;have hE:=hE.trans s;refine .inr ⟨_,rfl,?_,rfl,(BX.keep (hX.keep hE) hx)⟩;rw[hcg];exact if_neg hno
   rintro v_ fs ⟨rfl,d5,d6⟩;have d7:=of_decide_eq_true d5;have hcf:BV (AI M) (d+1) id=some ((AI M id).bytes,0):=hcg.trans (if_pos d7);refine Co [0,1,2,3,4,5,6] [6] [] fun d8 d9=> ?_;have ft:=Av (bl hmk) bt;have hmk:=eb au hmk;have hmk:=kb a1 hmk (by omega);have hZ2:=d6.trans d9;have s:=s.trans hZ2;have hmk:=eb s hmk;have fu:=Av (bl f) bt;have f:=eb au f;have f:=kb a1 f (by omega);have f:=eb s f;have hmm:=hmm.keep hZ2;have ah:=eb hZ2 ah;refine ys (Ad7 rfl zz) (ys (Ad6 EB rfl zz) (ys (Aax CX rfl rfl (cellAt hmk rfl) zz) (ys (AaC rfl f XM rfl (by exact Ac hid) zz) (ys (AaC rfl ah (DE).choose_spec rfl (show(Tryz.prog.info? 215).map (·.size)=some 2 from Bu) zz) (yC (Aby (ek:=rk) (ev:=Ct) (D:=(fun id:AlJ =>id.length=32)) (c:=((((AI M id).bytes,0),(((M (id)).getD dEnt)).2):Cw)) Cu Cv CX (vr (.map (some bm)) rfl) (vr (AB id) rfl) (vr (.agg ([(((M (id)).getD dEnt)).2,NI 0]).toArray) rfl) hmm hid fun ac cc ai fv=> ?_))))));have hE:=hE.trans s;have hP:=HOk.put (hHO.keep hE) (id:=id) (x:=((((AI M id).bytes,0),(((M (id)).getD dEnt)).2):Cw)) (hre91.keep s) hdp hcf;have hm137:EA d8 bm:=(AbK hmm).noB8;have hX:BX w.heap.size (some bm) w ac:=BX.put (hX.keep hE) ai;have hmk:ac.heap[gm]? =some (.cells ([.map (some be), .map (some bm)]).toArray 212 (0,0)):=kb ai hmk (by omega);have hme:=hme.keep hZ2;have hme:MapF rk BK (fun id:AlJ =>id.length=32) ac be M:=Ad8 hme ai (Ak (by omega));clear hmm;have hMO:MOk ac M:=(hMO.keep hE).keepN hm137 ai;have f:ac.heap[n2]? =some (.cells (Ae4 id).toArray 33 (0,0)):=kb ai f (by omega);have ea:=m.size;have m:=m.trans bf;have m:=Ab m bg (Ae7 ea (by omega));have m:=m.trans hZ2;have g:=eb (cl.trans m) g;have g:ac.heap[am]? =some (.cells ([(Afc none 0 0),NI 0]).toArray 215 (0,0)):=kb ai g (by omega);have ec:=ad.size;have ad:=ad.trans bf;have ad:=Ab ad bg (Ae7 ec (by omega));have ad:=ad.trans hZ2;have ar:=eb (a0.trans ad) ar;have ar:ac.heap[b9]? =some (.cells ([(Afc none 0 0),NI 0]).toArray 215 (0,0)):=kb ai ar (by omega);have ae:=eb hZ2 ae;have ae:ac.heap[ca]? =some (.cells (entC (((M (id)).getD dEnt))).toArray 208 (0,0)):=kb ai ae (by omega);have hre91:RB ac (((M (id)).getD dEnt)).2 (AI M id).bytes:=(hre91.keep s).keepN hm137 ai;have ah:ac.heap[cb]? =some (.cells ([(((M (id)).getD dEnt)).2,NI 0]).toArray 215 (0,0)):=kb ai ah (by omega);have hP:HOk ac M (updM H (id) (some (((((AI M id).bytes,0),(((M (id)).getD dEnt)).2):Cw)))):=hP.keepN hm137 ai;have fw:=Ad4 ac;have fx:=hX.size;refine gS (AaC rfl ah (DE).choose_spec rfl (show(Tryz.prog.info? 215).map (·.size)=some 2 from Bu) (gS (AaB (vr (PQ am 0) rfl) (vr (.agg ([(((M (id)).getD dEnt)).2,NI 0]).toArray) rfl) g rfl (show(Tryz.prog.info? 215).map (·.size)=some 2 from Bu) (CD (Aeg hre91).2) fun bh cy a8 fy=> ?_)));have hnb_:EA ac am:=KE g ⟨_,_,_,rfl⟩;have hX:BX w.heap.size (some bm) w bh:=BX.set hX a8 (by omega);have hme:=Ad8 hme a8 (Ak (by omega));have hMO:MOk bh M:=hMO.keepN hnb_ a8;have hre91:RB bh (((M (id)).getD dEnt)).2 (AI M id).bytes:=hre91.keepN hnb_ a8;have hP:HOk bh M (updM H (id) (some (((((AI M id).bytes,0),(((M (id)).getD dEnt)).2):Cw)))):=hP.keepN hnb_ a8;have cc:=Ad8 cc a8 (Ak (by omega));clear g;have g:=cy;clear cy;have fz:=bl g;have f0:=Ad4 bh;have f1:=hX.size;refine MG rfl (Aee rfl g (DE).choose_spec rfl ((show(Tryz.prog.info? 215).map (·.size)=some 2 from Bu))) ?_;exact .inl ⟨_,rfl,_,_,_,_,rfl,hcf,hre91,cc,hP,hX,(hNM.get id),NewM.put hNH id (hNM.get id)⟩
  have hcg:=Gm (n:=d) (E:=AI M) hb;have hbx:((M (id)).getD dEnt).1.based=true:=hb;obtain⟨na_,d1,hd1,hdp1⟩:=OH hb hdp;refine Ed [0,1,2,3,4,5,6,7,8,9,10,11] [9,10] [1,2,7,8] [3,4,5] fun cz c0=> ?_;have o:=Ad4 cz;have hZ3:=b8.trans c0;have hE:=hE.trans hZ3;have ed:=hE.size;have bu:=Ad4 cz;have cm:=Av (bl hmk) bd;have hmk:=eb a6 hmk;have cn:=Av (bl hmk) aq;have hmk:=eb hZ3 hmk;have co:=Av (bl f) aq;have f:=eb hZ3 f;have hmm:=hmm.keep hZ3;refine DV bu ?_;refine yp (Ad7 rfl zz) (yp (Ad6 EB rfl zz) (yf (fun _ ⟨hZ,_⟩=>Aax CX rfl rfl (cellAt (eb hZ hmk) rfl) zz) (yf (fun _ ⟨hZ,_⟩=>AaC rfl (eb hZ f) XM rfl (by exact Ac hid) zz) (yf (fun _ ⟨hZ,_⟩=>Abz (ek:=rk) (ev:=Ct) (D:=(fun id:AlJ =>id.length=32)) Cu Cv (fun _ _=>Cp) CX (z:=Ct Mb) HW rfl rfl (hmm.keep hZ) hid hH zz) (yp (Ad5 (vs:= [.agg ([(Afc none 0 0),NI 0]).toArray, .bool (false)]) rfl rfl zz) (yp (Ad5 (vs:= [.agg ([(Afc none 0 0),NI 0]).toArray, .bool (false)]) rfl rfl zz) (yE (Ad9 Ea fun bv ee bw c1 a2 f2=> ?_))))))));have hme:=hme.keep hZ3;have f3:=Av hme.lt bw;have f4:=Av hmm.lt bw;have j:=c1;clear c1;have f5:bv<ee.heap.size:=by omega
  have bu:=bu.trans a2;refine⟨bu,?_⟩;refine yD rfl (AaB (vr (PQ bv 0) rfl) (vr (.agg ([(Afc none 0 0),NI 0]).toArray) rfl) j rfl (show(Tryz.prog.info? 215).map (·.size)=some 2 from Bu) (CD rfl) fun f6 c2 a9 f7=> ?_);have hme:=hme.keep a2;have hme:=Ad8 hme a9 (Ak (by omega));have hmm:=hmm.keep a2;have hmm:=Ad8 hmm a9 (Ak (by omega));clear j;have j:=c2;clear c2;have f8:=bl j;refine cF rfl (Ed [0,1,2,3,4,5,6,7] [6,7] [1,2] [3,4,5] fun c3 a3=> ?_);have ak:=Ad4 c3;have hE:=hE.trans a2;have hE:=Ab hE a9 (Ae7 ed (by omega));have hE:=hE.trans a3;have o:=o.trans a2;have o:=Ab o a9 (Ae7 (Ae8 _) (by omega));have o:=o.trans a3;have ef:=hE.size;have bx:=Ad4 c3;have f9:=Av (bl hmk) bw;have hmk:=eb a2 hmk;have hmk:=kb a9 hmk (by omega);have hmk:=eb a3 hmk;have ga:=Av (bl f) bw;have f:=eb a2 f;have f:=kb a9 f (by omega);have f:=eb a3 f;have hme:=hme.keep a3;refine DV bx ?_;refine yp (Ad7 rfl zz) (yp (Ad6 Jn rfl zz) (yf (fun _ ⟨hZ,_⟩=>Aax Lw rfl rfl (cellAt (eb hZ hmk) rfl) zz) (yf (fun _ ⟨hZ,_⟩=>AaC rfl (eb hZ f) XM rfl (by exact Ac hid) zz) (yf (fun _ ⟨hZ,_⟩=>Ab6 (ek:=rk) (ev:=BK) (D:=(fun id:AlJ =>id.length=32)) (df:=dEnt) Cu Cv (fun _ _=>Cp) Lw Dv rfl rfl (hme.keep hZ) hid zz) (yE (Ad9 In fun bz eg b0 c4 av gb=> ?_))))));have gc:=Av hme.lt b0;have hmm:=hmm.keep a3;have gd:=Av hmm.lt b0;have h:=c4;clear c4;have ge:bz<eg.heap.size:=by omega
  have bx:=bx.trans av;refine⟨bx,?_⟩;refine yD rfl (AaB (vr (PQ bz 0) rfl) (vr (.agg (entC ((M (id)).getD dEnt)).toArray) rfl) h (BA (x:=(((M (id)).getD dEnt):Aj)) (y:=(dEnt:Aj)) (hMO.get (id)).2.1 (by simp[dEnt])) (Bo (x:=(((M (id)).getD dEnt):Aj)) EX (hMO.get (id)).2.1) (BF (x:=(((M (id)).getD dEnt):Aj)) (Aeg (hMO.get (id)).1).2) fun c5 c6 a4 gf=> ?_);have hme:=hme.keep av;have hme:=Ad8 hme a4 (Ak (by omega));have hmm:=hmm.keep av;have hmm:=Ad8 hmm a4 (Ak (by omega));clear h;have h:=c6;clear c6;have gg:=bl h;refine gS (Ad6 Jm rfl ?_);have hE:=hE.trans av;have hE:=Ab hE a4 (Ae7 ef (by omega));have hre211:RB c5 (((M (id)).getD dEnt)).2 (AI M id).bytes:=(MOk.get (hMO.keep hE) id).1;refine gS (Aax GR rfl rfl (cellAt h (Oz (x:=(((M (id)).getD dEnt):Aj)) (hMO.get (id)).2.1)) (gS (Aca (vr ((((M (id)).getD dEnt)).2) rfl) (fun w=>IQ (AeA hre211) w) (gS (Ad9 Ea fun ba eh c7 c8 bi gh=> ?_)))));have al:=Ad4 c5;have ei:=o.size;have o:=o.trans av;have o:=Ab o a4 (Ae7 ei (by omega));have ak:=ak.trans av;have ak:=Ab ak a4 (Ae7 (Ae8 _) (by omega));have gi:=hE.size;have gj:=Av hme.lt c7;have gk:=Av hmm.lt c7;have i:=c8;clear c8;have gl:ba<eh.heap.size:=by omega
  have al:=al.trans bi;refine gS (AaB (vr (PQ ba 0) rfl) (vr (.agg ([(((M (id)).getD dEnt)).2,NI 0]).toArray) rfl) i rfl (show(Tryz.prog.info? 215).map (·.size)=some 2 from Bu) (CD (Aeg (hre211.keep al)).2) fun c9 da bj gn=> ?_);have hme:=hme.keep bi;have hme:=Ad8 hme bj (Ak (by omega));have hmm:=hmm.keep bi;have hmm:=Ad8 hmm bj (Ak (by omega));clear i;have i:=da;clear da;have go:=bl i;have gp:=Av (bl hmk) b0;have hmk:=eb av hmk;have hmk:=kb a4 hmk (by omega);have al:=Ab al bj (Ae7 (Ae8 _) (by omega));have hmk:=eb al hmk;have h:=eb al h;have hE:=hE.trans al;refine gS (Ad6 GW rfl (gS (Aax KD rfl rfl (cellAt h ((show(entC (((M (id)).getD dEnt)))[1]? =some (.bool true:Ae2)from congrArg (fun b=>some (AfE b)) hbx))) (cT rfl (gS (Ad6 OD rfl (gS (Abi rfl (EL (x:=(((M (id)).getD dEnt):Aj)) h) XM rfl (by rw[Afl,(hMO.get (id)).2.1];exact SY) (gP (Aa3 RM rfl rfl ?_))))))))));refine Aw (ih d1 (by omega) c9 H ((M (id)).getD dEnt).1.base hmk hme hmm (hMO.keep hE) (hHO.keep hE) hne (MOk.get (hMO.keep hE) id).2.1 (by omega) na_ hdp1 n0w hNM hNH (Ae7 b7 (hX.keep hE).size)) ?_ ?_;rotate_left
  ·rintro ch gq ⟨hno,rfl,hx⟩;refine Ax ?_;refine .inr ⟨_,rfl,?_,rfl,BX.put (hX.keep hE) hx.grown⟩;rw[hcg,show BV (AI M) d (AI M id).base=none from by rw[hd1];exact hno];rfl
  rintro v_ af ⟨a5,bb,kk,H1,rfl,db,ag,hm250,hHO251,ej,hNv1,hNH1⟩;have aj:=ej.grown;have hm257:EA c9 bm:=(AbK hmm).noB8;have hX:BX w.heap.size (some bm) w af:=BX.put (hX.keep hE) aj;have hmk:af.heap[gm]? =some (.cells ([.map (some be), .map (some bm)]).toArray 212 (0,0)):=kb aj hmk (by omega);have hme:MapF rk BK (fun id:AlJ =>id.length=32) af be M:=Ad8 hme aj (Ak (by omega));clear hmm;have hMO:MOk af M:=(hMO.keep hE).keepN hm257 aj;have hHO:HOk af M H:=(hHO.keep hE).keepN hm257 aj;have gr:=Av (bl f) b0;have f:=eb av f;have f:=kb a4 f (by omega);have f:=eb al f;have f:af.heap[n2]? =some (.cells (Ae4 id).toArray 33 (0,0)):=kb aj f (by omega);have el:=o.size;have o:=o.trans bi;have o:=Ab o bj (Ae7 el (by omega));have g:=eb (c0.trans o) g;have g:af.heap[am]? =some (.cells ([(Afc none 0 0),NI 0]).toArray 215 (0,0)):=kb aj g (by omega);have em:=ak.size;have ak:=ak.trans bi;have ak:=Ab ak bj (Ae7 em (by omega));have j:=eb (a3.trans ak) j;have j:af.heap[bv]? =some (.cells ([(Afc none 0 0),NI 0]).toArray 215 (0,0)):=kb aj j (by omega);have h:af.heap[bz]? =some (.cells (entC (((M (id)).getD dEnt))).toArray 208 (0,0)):=kb aj h (by omega);have hre211:RB af (((M (id)).getD dEnt)).2 (AI M id).bytes:=(hre211.keep al).keepN hm257 aj;have i:af.heap[ba]? =some (.cells ([(((M (id)).getD dEnt)).2,NI 0]).toArray 215 (0,0)):=kb aj i (by omega);have l:=Ad4 af;have gs:=hX.size;have hcl:=Io db;rw[show BV (AI M) d (AI M id).base=some (bb,kk)from by rw[hd1];exact db]at hcg;refine gS (Ad9 Ea fun cd en aw dc an gt=> ?_);have gu:=Av hme.lt aw;have gv:=Av hm250.lt aw;have ab:=dc;clear dc;have gw:cd<en.heap.size:=by omega
  have l:=l.trans an;refine gS (AaB (vr (PQ cd 0) rfl) (vr (.agg ([a5,NI kk]).toArray) rfl) ab rfl (show(Tryz.prog.info? 215).map (·.size)=some 2 from Bu) (CD (Aeg (ag.keep l)).2) fun dd de ao gx=> ?_);have hme:=hme.keep an;have hme:=Ad8 hme ao (Ak (by omega));have hm250:=hm250.keep an;have hm250:=Ad8 hm250 ao (Ak (by omega));clear ab;have ab:=de;clear de;have gy:=bl ab;refine gS (Ad6 G2 rfl (gS (Aax GR rfl rfl (cellAt ab rfl) (gS (Ad6 Jm rfl ?_)))));have l:=Ab l ao (Ae7 (Ae8 _) (by omega));have hre282:RB dd (((M (id)).getD dEnt)).2 (AI M id).bytes:=(MOk.get (hMO.keep l) id).1;have gz:=Av (bl h) aw;have h:=eb an h;have h:=kb ao h (by omega);refine gS (Aax GR rfl rfl (cellAt h (Oz (x:=(((M (id)).getD dEnt):Aj)) (hMO.get (id)).2.1)) (gS (AaA RN rfl rfl ((Tp _ a5 (((M (id)).getD dEnt)).2 bb (AI M id).bytes (ag.keep l) hre282 (by omega) (by have:(AI M id).bytes.length<=1048576:=(MOk.get (hMO.keep l) id).2.2;omega)).mono ?_))));rintro e g0 ⟨t,rfl,q,dh,hap_⟩;refine⟨_,rfl,?_⟩;have hsz_:n0w<=dd.heap.size:=Ae7 b7 ((hX.keep l)).size;have hNa:NewV n0w t:=fun k hk=>Ae7 hsz_ (hap_ k hk).1;refine gS (Ad5 (vs:= [t,NI ((Bb bb (AI M id).bytes).2)]) rfl rfl (gS (Ad5 (vs:= [t,NI ((Bb bb (AI M id).bytes).2)]) rfl rfl (gS (Aay (a:=((Bb bb (AI M id).bytes).2:Nat)) (b:=(0:Nat)) rfl rfl (AH _ _ _ _) (gP (Aa3 GA rfl rfl ?_)))))));refine Aw (A1 _ (decide (((Bb bb (AI M id).bytes).2:Nat)=(0))) 6) ?_ ?_;rotate_left
  ·rintro ch g1 ⟨rfl,hb,hx⟩;refine Ax ?_;have hno:=of_decide_eq_false hb;have l:=l.trans dh;refine .inr ⟨_,rfl,?_,rfl,(BX.keep (hX.keep l) hx)⟩;rw[hcg];exact if_neg hno
  rintro v_ bc ⟨rfl,eo,di⟩;have ep:=of_decide_eq_true eo;have hap:=ep;have g2:=Av (bl i) aw;have i:=eb an i;have i:=kb ao i (by omega);have hZ4:=dh.trans di;have i:=eb hZ4 i;have ab:=eb hZ4 ab;have q:=q.keep di;refine gS (Ad6 OI rfl (gS (Aax Vx rfl rfl (cellAt ab rfl) (gS (Aaz (xv:=NI kk) (yv:=NI 1) rfl rfl rfl (Ah _ _ _ (by omega)) (gS (Abu (vr t rfl) (vr (NI ((kk)+(1))) rfl) (fun w=>Lx (AeA q) ((((kk)+(1):Nat):Int)) w) (gS (AaB (vr (PQ ba 0) rfl) (vr (.agg ([t,NI ((kk)+(1))]).toArray) rfl) i rfl (show(Tryz.prog.info? 215).map (·.size)=some 2 from Bu) (CD (Aeg q).2) fun ax dj u g3=> ?_)))))))));have l:=l.trans hZ4;have hnb_:EA bc ba:=KE i (AeA (hre211.keep l));have hX:BX w.heap.size (some bm) w bc:=(hX.keep l);have hMO:MOk bc M:=(hMO.keep l);have hre211:RB bc (((M (id)).getD dEnt)).2 (AI M id).bytes:=(hre211.keep l);have ag:RB bc a5 bb:=(ag.keep l);have hHO251:HOk bc M H1:=(hHO251.keep l);have hX:BX w.heap.size (some bm) w ax:=BX.set hX u (by omega);have hme:=hme.keep hZ4;have hme:=Ad8 hme u (Ak (by omega));have hMO:MOk ax M:=hMO.keepN hnb_ u;have hre211:RB ax (((M (id)).getD dEnt)).2 (AI M id).bytes:=hre211.keepN hnb_ u;have ag:RB ax a5 bb:=ag.keepN hnb_ u;have hm250:=hm250.keep hZ4;have hm250:=Ad8 hm250 u (Ak (by omega));have hHO251:HOk ax M H1:=hHO251.keepN hnb_ u;have hre282:=hre282.keep hZ4;have hre282:RB ax (((M (id)).getD dEnt)).2 (AI M id).bytes:=hre282.keepN hnb_ u;have q:RB ax t (Bb bb (AI M id).bytes).1:=q.keepN hnb_ u;clear i;have i:=dj;clear dj;have g4:=bl i;have g5:=Ad4 ax;have g6:=hX.size;refine gS (Ad6 G2 rfl (gS (Aax GR rfl rfl (cellAt i rfl) (gS (AaT GR (AaF q rfl) (gS (Aay (a:=(((Bb bb (AI M id).bytes).1:AlJ).length:Nat)) (b:=(262144:Nat)) rfl rfl (DR _ _ _ _) (gP (Aa3 GA rfl rfl ?_)))))))));refine Aw (A1 _ (decide ((((Bb bb (AI M id).bytes).1:AlJ).length)<=(262144))) 6) ?_ ?_;rotate_left
  ·rintro ch g7 ⟨rfl,hb,hx⟩;refine Ax ?_;have hno:=of_decide_eq_false hb;refine .inr ⟨_,rfl,?_,rfl,(BX.keep hX hx)⟩;rw[hcg];exact(if_pos hap).trans (if_neg hno)
  rintro v_ ce ⟨rfl,eq,b1⟩;have hX:BX w.heap.size (some bm) w ce:=(hX.keep b1);have hMO:MOk ce M:=(hMO.keep b1);have hHO251:HOk ce M H1:=(hHO251.keep b1);have er:=of_decide_eq_true eq;have hcf:BV (AI M) (d+1) id=some ((Bb bb (AI M id).bytes).1,kk+1):=hcg.trans ((if_pos hap).trans (if_pos er));refine Co [0,1,2,3,4,5,6] [6] [] fun b2 b3=> ?_;have hX:BX w.heap.size (some bm) w b2:=(hX.keep b3);have hMO:MOk b2 M:=(hMO.keep b3);have hHO251:HOk b2 M H1:=(hHO251.keep b3);have g8:=Av (bl hmk) aw;have hmk:=eb an hmk;have hmk:=kb ao hmk (by omega);have hmk:=eb hZ4 hmk;have hmk:=kb u hmk (by omega);have hZ5:=b1.trans b3;have hmk:=eb hZ5 hmk;have g9:=Av (bl f) aw;have f:=eb an f;have f:=kb ao f (by omega);have f:=eb hZ4 f;have f:=kb u f (by omega);have f:=eb hZ5 f;have hm250:=hm250.keep hZ5;have i:=eb hZ5 i;refine ys (Ad7 rfl zz) (ys (Ad6 EB rfl zz) (ys (Aax CX rfl rfl (cellAt hmk rfl) zz) (ys (AaC rfl f XM rfl (by exact Ac hid) zz) (ys (AaC rfl i (DE).choose_spec rfl (show(Tryz.prog.info? 215).map (·.size)=some 2 from Bu) zz) (yC (Aby (ek:=rk) (ev:=Ct) (D:=(fun id:AlJ =>id.length=32)) (c:=((((Bb bb (AI M id).bytes).1,(kk)+(1)),t):Cw)) Cu Cv CX (vr (.map (some bm)) rfl) (vr (AB id) rfl) (vr (.agg ([t,NI ((kk)+(1))]).toArray) rfl) hm250 hid fun p cf aa ha=> ?_))))));have q:=q.keep hZ5;have hP:=HOk.put hHO251 (id:=id) (x:=((((Bb bb (AI M id).bytes).1,(kk)+(1)),t):Cw)) q hdp hcf;have hm315:EA b2 bm:=(AbK hm250).noB8;have hX:BX w.heap.size (some bm) w p:=BX.put hX aa;have hmk:p.heap[gm]? =some (.cells ([.map (some be), .map (some bm)]).toArray 212 (0,0)):=kb aa hmk (by omega);have hme:=hme.keep hZ5;have hme:MapF rk BK (fun id:AlJ =>id.length=32) p be M:=Ad8 hme aa (Ak (by omega));have hMO:MOk p M:=hMO.keepN hm315 aa;have f:p.heap[n2]? =some (.cells (Ae4 id).toArray 33 (0,0)):=kb aa f (by omega);have hc:=Av (bl g) aw;have g:=eb an g;have g:=kb ao g (by omega);have g:=eb hZ4 g;have g:=kb u g (by omega);have g:=eb hZ5 g;have g:p.heap[am]? =some (.cells ([(Afc none 0 0),NI 0]).toArray 215 (0,0)):=kb aa g (by omega);have hd:=Av (bl j) aw;have j:=eb an j;have j:=kb ao j (by omega);have j:=eb hZ4 j;have j:=kb u j (by omega);have j:=eb hZ5 j;have j:p.heap[bv]? =some (.cells ([(Afc none 0 0),NI 0]).toArray 215 (0,0)):=kb aa j (by omega);have h:=eb hZ4 h;have h:=kb u h (by omega);have h:=eb hZ5 h;have h:p.heap[bz]? =some (.cells (entC (((M (id)).getD dEnt))).toArray 208 (0,0)):=kb aa h (by omega);have hre211:=hre211.keep hZ5;have hre211:RB p (((M (id)).getD dEnt)).2 (AI M id).bytes:=hre211.keepN hm315 aa;have ag:=ag.keep hZ5;have ag:RB p a5 bb:=ag.keepN hm315 aa;clear hm250;have ab:=kb u ab (by omega);have ab:=eb hZ5 ab;have ab:p.heap[cd]? =some (.cells ([a5,NI kk]).toArray 215 (0,0)):=kb aa ab (by omega);have hre282:=hre282.keep hZ5;have hre282:RB p (((M (id)).getD dEnt)).2 (AI M id).bytes:=hre282.keepN hm315 aa;have q:RB p t (Bb bb (AI M id).bytes).1:=q.keepN hm315 aa;have i:p.heap[ba]? =some (.cells ([t,NI ((kk)+(1))]).toArray 215 (0,0)):=kb aa i (by omega);have hP:HOk p M (updM H1 (id) (some (((((Bb bb (AI M id).bytes).1,(kk)+(1)),t):Cw)))):=hP.keepN hm315 aa;have he:=Ad4 p;have hf:=hX.size;refine gS (AaC rfl i (DE).choose_spec rfl (show(Tryz.prog.info? 215).map (·.size)=some 2 from Bu) (gS (AaB (vr (PQ am 0) rfl) (vr (.agg ([t,NI ((kk)+(1))]).toArray) rfl) g rfl (show(Tryz.prog.info? 215).map (·.size)=some 2 from Bu) (CD (Aeg q).2) fun ay dk ap hg=> ?_)));have hnb_:EA p am:=KE g ⟨_,_,_,rfl⟩;have hX:BX w.heap.size (some bm) w ay:=BX.set hX ap (by omega);have hme:=Ad8 hme ap (Ak (by omega));have hMO:MOk ay M:=hMO.keepN hnb_ ap;have hre211:RB ay (((M (id)).getD dEnt)).2 (AI M id).bytes:=hre211.keepN hnb_ ap;have ag:RB ay a5 bb:=ag.keepN hnb_ ap;have hre282:RB ay (((M (id)).getD dEnt)).2 (AI M id).bytes:=hre282.keepN hnb_ ap;have q:RB ay t (Bb bb (AI M id).bytes).1:=q.keepN hnb_ ap;have hP:HOk ay M (updM H1 (id) (some (((((Bb bb (AI M id).bytes).1,(kk)+(1)),t):Cw)))):=hP.keepN hnb_ ap;have cf:=Ad8 cf ap (Ak (by omega));clear g;have g:=dk;clear dk;have hh:=bl g;have hi:=Ad4 ay;have hj:=hX.size;refine MG rfl (Aee rfl g (DE).choose_spec rfl ((show(Tryz.prog.info? 215).map (·.size)=some 2 from Bu))) ?_;exact .inl ⟨_,rfl,_,_,_,_,rfl,hcf,q,cf,hP,hX,hNa,NewM.put hNH1 id hNa⟩
 obtain⟨hxr,nb_,d2,es,dl⟩:=hHO id x hH;have hdd:=OF hdp es;rw[<-hdd]at dl;have hnx:=hNH id x hH;refine Ed [0,1,2,3,4,5,6,7,8,9,10,11] [9,10] [1,2,7,8] [3,4,5] fun dm dn=> ?_;have bk:=Ad4 dm;have hZ6:=b8.trans dn;have hE:=hE.trans hZ6;have et:=hE.size;have b4:=Ad4 dm;have cm:=Av (bl hmk) bd;have hmk:=eb a6 hmk;have cn:=Av (bl hmk) aq;have hmk:=eb hZ6 hmk;have co:=Av (bl f) aq;have f:=eb hZ6 f;have hmm:=hmm.keep hZ6;refine DV b4 ?_;refine yp (Ad7 rfl zz) (yp (Ad6 EB rfl zz) (yf (fun _ ⟨hZ,_⟩=>Aax CX rfl rfl (cellAt (eb hZ hmk) rfl) zz) (yf (fun _ ⟨hZ,_⟩=>AaC rfl (eb hZ f) XM rfl (by exact Ac hid) zz) (yf (fun _ ⟨hZ,_⟩=>Abs (ek:=rk) (ev:=Ct) (D:=(fun id:AlJ =>id.length=32)) Cu Cv (fun _ _=>Cp) CX (z:=Ct Mb) HW rfl rfl (hmm.keep hZ) hid hH zz) (yp (Ad5 (vs:= [.agg ([x.2,NI x.1.2]).toArray, .bool (true)]) rfl rfl zz) (yp (Ad5 (vs:= [.agg ([x.2,NI x.1.2]).toArray, .bool (true)]) rfl rfl zz) (yE (Ad9 Ea fun dp eu dq dr bn hl=> ?_))))))));have hme:=hme.keep hZ6;have hm:=Av hme.lt dq;have hn:=Av hmm.lt dq;have bo:=dr;clear dr;have ho:dp<eu.heap.size:=by omega
 have b4:=b4.trans bn;refine⟨b4,?_⟩;have hE:=hE.trans bn;refine yD rfl (AaB (vr (PQ dp 0) rfl) (vr (.agg ([x.2,NI x.1.2]).toArray) rfl) bo rfl (show(Tryz.prog.info? 215).map (·.size)=some 2 from Bu) (CD (Aeg (hxr.keep hE)).2) fun hp ds b5 hq=> ?_);have hme:=hme.keep bn;have hme:=Ad8 hme b5 (Ak (by omega));have hmm:=hmm.keep bn;have hmm:=Ad8 hmm b5 (Ak (by omega));clear bo;have bo:=ds;clear ds;have hr:=bl bo;have bk:=bk.trans bn;have bk:=Ab bk b5 (Ae7 (Ae8 _) (by omega));have g:=eb (dn.trans bk) g;have hE:=Ab hE b5 (Ae7 et (by omega));refine cT rfl (gS (AaC rfl bo (DE).choose_spec rfl (show(Tryz.prog.info? 215).map (·.size)=some 2 from Bu) (gS (AaB (vr (PQ am 0) rfl) (vr (.agg ([x.2,NI x.1.2]).toArray) rfl) g rfl (show(Tryz.prog.info? 215).map (·.size)=some 2 from Bu) (CD (Aeg (hxr.keep hE)).2) fun hs dt cg ht=> ?_))));have hme:=Ad8 hme cg (Ak (by omega));have hmm:=Ad8 hmm cg (Ak (by omega));clear g;have g:=dt;clear dt;have hu:=bl g;refine MG rfl (Aee rfl g (DE).choose_spec rfl ((show(Tryz.prog.info? 215).map (·.size)=some 2 from Bu))) ?_;have hE:=Ab hE cg (Ae7 dw (by omega));exact .inl ⟨_,rfl,_,_,_,H,rfl,dl,(hxr.keep hE),hmm,(hHO.keep hE),(hX.keep hE),hnx,hNH⟩
theorem TJ(gm be bm:Nat)(M:Bs->Option Aj):∀(d:Nat) (w:Ae3) (H:Bs->Option Cw) (id:Bs) (hmk:w.heap[gm]? =some (.cells ([.map (some be), .map (some bm)]).toArray 212 (0,0))) (hme:MapF rk BK (fun id:AlJ =>id.length=32) w be M) (hmm:MapF rk Ct (fun id:AlJ =>id.length=32) w bm H) (hMO:MOk w M) (hHO:HOk w M H) (hne:be≠bm) (hid:id.length=32) (hd50:d<=50) (a:Nat) (hdp:Bc (AI M) a (AI M id)=some d) (n0w:Nat) (hNM:NewM n0w M) (hNH:NewM n0w H) (c:n0w<=w.heap.size),Calls Ae5 134 #[PQ gm 0,AB id] w fun r w' =>(∃x,r = .returned x/\∃v b k H',x = .agg ([v,NI k]).toArray/\BV (AI M) (d+1) id=some (b,k)/\RB w' v b/\MapF rk Ct (fun id:AlJ =>id.length=32) w' bm H' /\HOk w' M H' /\BX w.heap.size (some bm) w w' /\NewV n0w v/\NewM n0w H')\/∃ch,r = .panicked ch/\BV (AI M) (d+1) id=none/\ch= [C6 6]/\BX w.heap.size (some bm) w w' :=by
 intro d
 induction d using Nat.strongRecOn with
 | _ d ih=>exact RO gm be bm M d ih
def OOk(w:Ae3)(O:Bs->Option Cw):Prop:=∀id x,O id=some x->RB w x.2 x.1.1
theorem OOk.keep{w w' :Ae3}{O:Bs->Option Cw}(h:OOk w O)(k:Ext w w'):OOk w' O:=fun a c hc=>(h a c hc).keep k
theorem OOk.keepN{w w' :Ae3}{b:Nat}{O:Bs->Option Cw}(h:OOk w O)(hm:EA w b)(hg:w.grownBy w' (some b)):OOk w' O:=fun a c hc=>(h a c hc).keepN hm hg
theorem OOk.nil(w:Ae3):OOk w (fun _=>none):=fun _ _ h=>by cases h
theorem OOk.put{w:Ae3}{O:Bs->Option Cw}(h:OOk w O){id:Bs}{x:Cw}(h1:RB w x.2 x.1.1):OOk w (updM O id (some x)):=fun a c hc=>by
 unfold updM at hc;split at hc
 ·cases hc;exact h1
 ·exact h a c hc
theorem entOne_len{b:Bs}{fin pos:Nat}{e:Ent}{n:Nat}(h:entOne b fin pos=some (e,n))(hf:fin<=b.length):e.bytes.length<=b.length:=by
 unfold entOne at h;split at h
 ·split at h
  ·split at h
   ·cases h
   ·cases ht:BQ b (pos+33) fin with
    | none=>rw[ht]at h;cases h
    | some x=>rw[ht]at h;cases h;exact Hh (s:=x.1) (n:=x.2) ht hf
  ·cases ht:BQ b (pos+1) fin with
   | none=>rw[ht]at h;cases h
   | some x=>rw[ht]at h;cases h;exact Hh (s:=x.1) (n:=x.2) ht hf
 ·cases h
theorem MV{b:Bs}{fin first:Nat}(hf:fin<=b.length):∀(n:Nat) (es:List Ent) (p:Nat),CF b fin first n=some (es,p)->es.length=n/\∀x∈es,x.bytes.length<=b.length
 | 0,es,p,h=>by cases h;exact⟨rfl,fun x hx=>by cases hx⟩
 | n+1,es,p,h=>by
  cases h1:CF b fin first n with
  | none=>rw[D8 h1 1]at h;cases h
  | some x=>
   rw[Fz (es:=x.1) (p:=x.2) h1]at h;have ih:=MV hf n x.1 x.2 h1;cases h2:entOne b fin x.2 with
   | none=>rw[h2]at h;cases h
   | some y=>
    rw[h2]at h;cases h;refine⟨by rw[Ae9,ih.1];rfl,fun z hz=> ?_⟩;rcases Afy.1 hz with hz | hz
    ·exact ih.2 z hz
    ·rw[Afh.1 hz];exact entOne_len (e:=y.1) (n:=y.2) h2 hf
theorem Jo{b:Bs}{n first fin:Nat}{es:List Ent}(h:Cj b n first fin=some es)(hf:fin<=b.length):es.length=n/\∀x∈es,x.bytes.length<=b.length:=by
 unfold Cj at h;cases h1:CF b fin first n with
 | none=>rw[h1]at h;cases h
 | some x=>
  rw[h1]at h;have h2:(if x.2=fin then some x.1 else none)=some es:=h;split at h2
  ·cases h2;exact MV hf n x.1 x.2 h1
  ·cases h2
def IxS.plain(s:IxS Aj):IxS Ent:=⟨s.ids,fun k=>(s.G k).map AfB,fun k=>(s.M k).map AfB⟩
theorem Ip{α β γ:Type}[DecidableEq α](G:α->Option β)(a:α)(y:Option β)(f:β->γ):(fun k=>(updM G a y k).map f)=updM (fun k=>(G k).map f) a (y.map f):=by
 funext k
 unfold updM;split <;> rfl
theorem placeGo_map(es:List Aj):∀i,(fun k=>(Ek (fun x:Aj=>x.1.pos) dEnt es i k).map AfB)=Ek Ent.pos dEnt.1 (es.map AfB) i
 | 0=>rfl
 | i+1=>by
  unfold Ek;rw[Ip,placeGo_map es i];have e:(es.map AfB).getD i dEnt.1=(es.getD i dEnt).1:=by
   rw[Ae6,Ae6,List.getElem?_map];cases es[i]? <;> rfl
  rw[e];rfl
theorem GD(t:Bs)(es:List Aj):∀i,DX Ent.pos dEnt.1 t (es.map AfB) i=(DX (fun x:Aj=>x.1.pos) dEnt t es i).map IxS.plain
 | 0=>by
  unfold DX;rw[Afu,<-placeGo_map];rfl
 | i+1=>by
  cases h:DX (fun x:Aj=>x.1.pos) dEnt t es i with
  | none=>
   have h' :DX Ent.pos dEnt.1 t (es.map AfB) i=none:=by rw[GD t es i,h];rfl
   rw[Fi h 1,Fi h' 1];rfl
  | some s=>
   have h' :DX Ent.pos dEnt.1 t (es.map AfB) i=some s.plain:=by rw[GD t es i,h];rfl
   rw[Ge h,Ge h'];cases hG:s.G (E7 t i)with
   | none=>
    have hG' :s.plain.G (E7 t i)=none:=by show(s.G (E7 t i)).map AfB=none;rw[hG];rfl
    unfold DD;rw[hG,hG'];rfl
   | some c=>
    have hG' :s.plain.G (E7 t i)=some c.1:=by show(s.G (E7 t i)).map AfB=some c.1;rw[hG];rfl
    unfold DD;rw[hG,hG'];by_cases hc:i=0\/Aft (s.ids.getD (i-1) []) (B3 t i)<0
    ·simp only[if_pos hc,if_pos (show i=0\/Aft (s.plain.ids.getD (i-1) []) (B3 t i)<0 from hc)];show some (Ef Ent.pos t i s.plain c.1)=some (Ef _ t i s c).plain;unfold Ef IxS.plain
     dsimp only
     rw[Ip,Ip];rfl
    ·simp only[if_neg hc,if_neg (show ¬(i=0\/Aft (s.plain.ids.getD (i-1) []) (B3 t i)<0)from hc)];rfl
def Ly(M:Bs->Option Ent)(k:Bs):Ent:=(M k).getD dEnt.1
theorem Kf(s:IxS Aj):AI s.M=Ly s.plain.M:=by
 funext k
 show((s.M k).getD dEnt).1=((s.M k).map AfB).getD dEnt.1;cases s.M k <;> rfl
structure IR where
 total:Nat
 O:Bs->Option (Bs × Nat)
def Dw(E:Bs->Ent)(id:Bs)(s:IR):Except Nat IR:=
 match Bc E 50 (E id)with
 | none=> .error 17
 | some d=>match BV E (d+1) id with
  | none=> .error 6
  | some x=>if Sha.sum x.1=id then(if s.total+x.1.length<=4194304 then .ok ⟨s.total+x.1.length,updM s.O id (some (x.1,d))⟩else .error 2)else .error 18
def DS(E:Bs->Ent)(ids:List Bs):Nat->Except Nat IR
 | 0=> .ok ⟨0,fun _=>none⟩
 | i+1=>match DS E ids i with
  | .error e=> .error e
  | .ok s=>Dw E (ids.getD i []) s
theorem Lz{E:Bs->Ent}{id:Bs}{s:IR}(h:Bc E 50 (E id)=none):Dw E id s = .error 17:=by unfold Dw;rw[h]
theorem MW{E:Bs->Ent}{id:Bs}{s:IR}{d:Nat}(h:Bc E 50 (E id)=some d)(h2:BV E (d+1) id=none):Dw E id s = .error 6:=by
 unfold Dw;rw[h]
 dsimp only
 rw[h2]
theorem FB{E:Bs->Ent}{id:Bs}{s:IR}{d:Nat}{b:Bs}{k:Nat}(h:Bc E 50 (E id)=some d)(h2:BV E (d+1) id=some (b,k)):Dw E id s=if Sha.sum b=id then(if s.total+b.length<=4194304 then .ok ⟨s.total+b.length,updM s.O id (some (b,d))⟩else .error 2)else .error 18:=by
 unfold Dw;rw[h]
 dsimp only
 rw[h2]
theorem FC{E:Bs->Ent}{ids:List Bs}{i:Nat}{s:IR}(h:DS E ids i = .ok s):DS E ids (i+1)=Dw E (ids.getD i []) s:=by
 show(match DS E ids i with | .error e=>_ | .ok s=>_)=_;rw[h]
theorem Hj{E:Bs->Ent}{ids:List Bs}{i:Nat}{e:Nat}(h:DS E ids i = .error e):∀k,DS E ids (i+k) = .error e
 | 0=>h
 | k+1=>by
  show(match DS E ids (i+k)with | .error e=>_ | .ok s=>_)=_;rw[Hj h k]
abbrev AT:=List Bs ×(Bs->Option (Bs × Nat))
def Hk(E:Bs->Ent)(ids:List Bs):Except Nat AT:=
 match DS E ids ids.length with
 | .error e=> .error e
 | .ok o=> .ok (ids,o.O)
theorem OJ{E:Bs->Ent}{ids:List Bs}{o:IR}(h:DS E ids ids.length = .ok o):Hk E ids = .ok (ids,o.O):=by unfold Hk;rw[h]
def LA(es:List Ent)(M:Bs->Option Ent):Bool:=es.all fun e=> !e.based||(M e.base).isSome
def VJ(b:Bs)(f:Nat)(ids:List Bs):Bool:=(List.range 256).all fun i=>DN (b.drop (f+4*i))==(Bf ids).getD i 0
def HX(b:Bs)(f:Nat)(es:List Ent)(s:IxS Ent):Except Nat AT:=if VJ b f s.ids=true then(if LA es s.M=true then Hk (Ly s.M) s.ids else .error 6)else .error 6
def Hl(b:Bs)(f:Nat)(es:List Ent):Except Nat AT:=
 match DX Ent.pos dEnt.1 ((b.drop (f+1024)).take (b.length-36-(f+1024))) es es.length with
 | none=> .error 6
 | some s=>HX b f es s
def Hm(b:Bs)(n first f:Nat):Except Nat AT:=
 match Cj b n first f with
 | none=> .error 6
 | some es=>Hl b f es
def Iq(b:Bs)(f n first:Nat):Except Nat AT:=
 if b.getD 0 0=80/\first<=f/\f<=b.length-36/\n<=b.length-36 then(if b.length-36-f=1024+36*n then Hm b n first f else .error 6)else .error 6
def CG(b:Bs):Except Nat AT:=
 match AX 0 (b.drop 1)with
 | none=> .error 6
 | some x=>Iq b (DN (b.drop (b.length-36))) x.1 (1+x.2)
theorem Ye{b:Bs}{f:Nat}{ids:List Bs}(h:VJ b f ids=true){i:Nat}(hi:i<256):DN (b.drop (f+4*i))=(Bf ids).getD i 0:=by
 have:=AfP.1 h i (by simpa using hi);exact beq_iff_eq.1 this
theorem fanB_of{b:Bs}{f:Nat}{ids:List Bs}(h:∀i,i<256->DN (b.drop (f+4*i))=(Bf ids).getD i 0):VJ b f ids=true:=
 AfP.2 fun i hi=>by rw[beq_iff_eq];exact h i (by simpa using hi)
theorem TK{es:List Aj}{M:Bs->Option Aj}(h:LA (es.map AfB) (fun k=>(M k).map AfB)=true){q:Nat}(hq:q<es.length):(es.getD q dEnt).1.based=true->M (es.getD q dEnt).1.base≠none:=fun hb hn=>by
 have h1:=AfP.1 h (es.getD q dEnt).1 (AfO.2 ⟨_,getD_mem dEnt hq,rfl⟩)
 dsimp only at h1
 rw[hb,hn]at h1;cases h1
theorem TL{es:List Aj}{M:Bs->Option Aj}(h:∀q,q<es.length->(es.getD q dEnt).1.based=true->M (es.getD q dEnt).1.base≠none):LA (es.map AfB) (fun k=>(M k).map AfB)=true:=
 AfP.2 fun e he=>by
  obtain⟨x,hx,rfl⟩:=AfO.1 he;obtain⟨q,hq,rfl⟩:=List.getElem_of_mem hx;have h1:=h q hq;rw[show es.getD q dEnt=es[q] by rw[Ae6,Afb hq];rfl]at h1;cases hb:(es[q]).1.based with
  | false=>rfl
  | true=>
   cases hm:M (es[q]).1.base with
   | none=>exact absurd hm (h1 hb)
   | some c=>dsimp only;rw[hm];rfl
theorem LB{E:Bs->Ent}:∀ {n:Nat} {e:Ent} {d:Nat},Bc E n e=some d->d<=n
 | 0,e,d,h=>by
  cases hb:e.based with
  | false=>rw[Ez hb]at h;cases h;exact Ae8 _
  | true=>rw[FA hb]at h;cases h
 | n+1,e,d,h=>by
  cases hb:e.based with
  | false=>rw[Ez hb]at h;cases h;exact AfC _
  | true=>
   rw[DY hb]at h;cases h1:Bc E n (E e.base)with
   | none=>rw[h1]at h;cases h
   | some d1=>rw[h1]at h;cases h;exact Nat.succ_le_succ (LB h1)
theorem Ad0{w:Ae3}{t:Bs}{es:List Aj}{s:IxS Aj}{i n:Nat}(h:EntsOk w es)(hI:ZC t es i s)(hb:∀x∈es.map AfB,x.bytes.length<=n)(hn:n<=1048576):MOk w s.M:=fun k c hc=>
 have hm:=hI.M k c hc
 ⟨(h c hm).1,(h c hm).2,Ae7 (hb c.1 (AfO.2 ⟨c,hm,rfl⟩)) hn⟩
theorem RP:Plain Ae5 130:=fun _ _=>by kernel_rfl
theorem RQ:Plain Ae5 131:=fun _ _=>by kernel_rfl
theorem LC(z0:Nat)(z1:Nat)(w:Ae3):(Ag3 212 #[(0, .map (some z0)),(1, .map (some z1))]).run Ae5 w = .ok (.agg ([.map (some z0), .map (some z1)]:List Ae2).toArray) w:=by kernel_rfl
theorem LD{z0:Ae2}(h0:∃ao n c,z0 = .slice ao n c)(z1:Nat)(w:Ae3):(Ag3 163 #[(0,z0),(1, .map (some z1))]).run Ae5 w = .ok (.agg ([z0, .map (some z1)]:List Ae2).toArray) w:=by obtain⟨_,_,_,rfl⟩:=h0;kernel_rfl
theorem RR:Plain Ae5 133:=fun _ _=>by kernel_rfl
theorem TM:Tryz.prog.eqGuardType Tryz.prog.depth 33=false:=by kernel_rfl
theorem OL:AZ Ae5 163 1 1:=fun b o w=>by simp[go_sem]
theorem VK(w:Ae3)(hG:Laid w)(v:Ae2)(b:Bs)(hr:RB w v b)(h36:36<=b.length)(hb:b.length<=1048576):
  Calls Ae5 79 #[v] w fun r w' =>(∃x,r = .returned x/\∃g vi bo ids O,x=PQ g 0/\CG b = .ok (ids,fun k=>(O k).map AfB)/\w'.heap[g]? =some (.cells ([vi, .map (some bo)]).toArray 163 (0,0))/\RG 32 Ae4 w' vi ids/\MapF rk Ct (fun id:AlJ =>id.length=32) w' bo O/\OOk w' O/\w.heap.size<=g/\w.heap.size<=bo/\NewV w.heap.size vi/\NewM w.heap.size O/\Ext w w')\/∃ch,r = .panicked ch/\∃c,CG b = .error c/\ch= [C6 c]/\Ext w w' :=by
 obtain⟨f,hf⟩:∃f,f=DN (b.drop (b.length-36)):=⟨_,rfl⟩;refine gG (args:= [v]) Tryz.func79 rfl 168 rfl rfl ?_;have hE:=Ad4 w;refine gS (AaT GR (AaF (hr.keep hE) rfl) (gS (Aaz (xv:=NI b.length) (yv:=NI 36) rfl rfl rfl (BL _ _ _ (by omega) (by omega)) (gS (Abj (xs:=b) (l:=(b.length)-(36)) GR Rg rfl (hr.keep hE) rfl (by omega) fun v4 ey ha6=>(gS (AaE GC rfl (((show Calls _ _ _ _ (fun e w2=>e = .returned (NI (f))/\Ext _ w2)from by rw[hf];exact Ej _ v4 (b.drop ((b.length)-(36))) ey (by simp only[Afn];omega))).mono ?_))))))));rintro e w8 ⟨rfl,ba⟩;refine⟨_,rfl,?_⟩;rcases hd:AX 0 (b.drop 1)with _ | ⟨n,k⟩
 ·have hP:CG b = .error 6:=by unfold CG;rw[hd]
  by_cases h80:(b.getD 0 0).toNat=80
  ·have hE:=hE.trans ba;refine gS (AaA CW rfl rfl (((show Calls _ _ _ _ (fun e w2=>e = .returned (.tuple #[NI 0,NI 0,NI 6])/\Ext _ w2)from(EW _ v b (hr.keep hE) 1 (by omega)).mono fun e w2 ⟨h1,h2⟩=>by subst h2;subst h1;rw[hd];exact⟨rfl,Ad4 _⟩)).mono ?_));rintro e hp ⟨rfl,ez⟩;refine⟨_,rfl,?_⟩;have hE:=hE.trans ez;refine gS (Ad5 (vs:= [NI 0,NI 0,NI 6]) rfl rfl (gS (Ad5 (vs:= [NI 0,NI 0,NI 6]) rfl rfl (gS (Ad5 (vs:= [NI 0,NI 0,NI 6]) rfl rfl (gS (Aba (l:=b) (i:=0) GR Rg (AaF (hr.keep hE) rfl) rfl (by omega) fun ht e0=>(gS (AaY u5 rfl (Aa7 e0 rfl) (gS (Aay (a:=((b.getD (0) 0).toNat:Nat)) (b:=(80:Nat)) rfl rfl (AH _ _ _ _) (kT (h80) (gS (Aay (a:=(6:Nat)) (b:=(0:Nat)) rfl rfl (AH _ _ _ _) (kF (by decide) (gS (AaS rfl rfl (gS (AaX rfl rfl (gS (AaX rfl rfl (gS (AaX rfl rfl (gP (Aa3 GA rfl rfl ?_)))))))))))))))))))))))));refine Aw (A1 _ (false) 6) ?_ ?_;rotate_left
   ·rintro ch hu ⟨rfl,hb,hx⟩;refine Ax ?_;exact .inr ⟨_,rfl,6,hP,rfl,hE.trans hx⟩
   rintro v_ hv ⟨rfl,e1,hw⟩;cases e1
  have hE:=hE.trans ba;refine gS (AaA CW rfl rfl (((show Calls _ _ _ _ (fun e w2=>e = .returned (.tuple #[NI 0,NI 0,NI 6])/\Ext _ w2)from(EW _ v b (hr.keep hE) 1 (by omega)).mono fun e w2 ⟨h1,h2⟩=>by subst h2;subst h1;rw[hd];exact⟨rfl,Ad4 _⟩)).mono ?_));rintro e hy ⟨rfl,e2⟩;refine⟨_,rfl,?_⟩;have hE:=hE.trans e2;refine gS (Ad5 (vs:= [NI 0,NI 0,NI 6]) rfl rfl (gS (Ad5 (vs:= [NI 0,NI 0,NI 6]) rfl rfl (gS (Ad5 (vs:= [NI 0,NI 0,NI 6]) rfl rfl (gS (Aba (l:=b) (i:=0) GR Rg (AaF (hr.keep hE) rfl) rfl (by omega) fun hz e3=>(gS (AaY u5 rfl (Aa7 e3 rfl) (gS (Aay (a:=((b.getD (0) 0).toNat:Nat)) (b:=(80:Nat)) rfl rfl (AH _ _ _ _) (kF (h80) (gS (AaX rfl rfl (gS (AaX rfl rfl (gS (AaX rfl rfl (gS (AaX rfl rfl (gP (Aa3 GA rfl rfl ?_))))))))))))))))))))));refine Aw (A1 _ (false) 6) ?_ ?_;rotate_left
  ·rintro ch h0 ⟨rfl,hb,hx⟩;refine Ax ?_;exact .inr ⟨_,rfl,6,hP,rfl,hE.trans hx⟩
  rintro v_ h3 ⟨rfl,e4,h4⟩;cases e4
 have hP0:CG b=Iq b f n (1+k):=by unfold CG;rw[hd];show Iq b (DN _) n (1+k)=_;rw[<-hf]
 by_cases h80:(b.getD 0 0).toNat=80
 ·by_cases q1:1+k<=f
  ·by_cases q2:f<=b.length-36
   ·by_cases q3:n<=b.length-36
    ·have hA:b.getD 0 0=80/\1+k<=f/\f<=b.length-36/\n<=b.length-36:=⟨UInt8.toNat_inj.1 (by rw[h80];rfl),q1,q2,q3⟩;have hE:=hE.trans ba;refine gS (AaA CW rfl rfl (((show Calls _ _ _ _ (fun e w2=>e = .returned (.tuple #[NI n,NI (1+k),NI 0])/\Ext _ w2)from(EW _ v b (hr.keep hE) 1 (by omega)).mono fun e w2 ⟨h1,h2⟩=>by subst h2;subst h1;rw[hd];exact⟨rfl,Ad4 _⟩)).mono ?_));rintro e h5 ⟨rfl,e5⟩;refine⟨_,rfl,?_⟩;have hE:=hE.trans e5;refine gS (Ad5 (vs:= [NI n,NI (1+k),NI 0]) rfl rfl (gS (Ad5 (vs:= [NI n,NI (1+k),NI 0]) rfl rfl (gS (Ad5 (vs:= [NI n,NI (1+k),NI 0]) rfl rfl (gS (Aba (l:=b) (i:=0) GR Rg (AaF (hr.keep hE) rfl) rfl (by omega) fun h6 c8=>(gS (AaY u5 rfl (Aa7 c8 rfl) (gS (Aay (a:=((b.getD (0) 0).toNat:Nat)) (b:=(80:Nat)) rfl rfl (AH _ _ _ _) (kT (h80) (gS (Aay (a:=(0:Nat)) (b:=(0:Nat)) rfl rfl (AH _ _ _ _) (kT (rfl) (gS (AaS rfl rfl (gS (Aay (a:=(f:Nat)) (b:=(1+k:Nat)) rfl rfl (E1 _ _ _ _) (kT (q1) (gS (AaS rfl rfl (gS (Aay (a:=(f:Nat)) (b:=((b.length)-(36):Nat)) rfl rfl (DR _ _ _ _) (kT (q2) (gS (AaS rfl rfl (gS (Aay (a:=(n:Nat)) (b:=((b.length)-(36):Nat)) rfl rfl (DR _ _ _ _) (kT (q3) (gS (AaS rfl rfl (gP (Aa3 GA rfl rfl ?_))))))))))))))))))))))))))))))))));refine Aw (A1 _ (true) 6) ?_ ?_;rotate_left
     ·rintro ch h7 ⟨rfl,hb,hx⟩;refine Ax ?_;cases hb
     rintro v_ h8 ⟨rfl,h9,c9⟩;clear c8;refine gS (Aaz (xv:=NI ((b.length)-(36))) (yv:=NI f) rfl rfl rfl (BL _ _ _ (by omega) (by omega)) (gS (Aaz (xv:=NI 36) (yv:=NI n) rfl rfl rfl (Cy _ _ _ (by omega)) (gS (Aaz (xv:=NI 1024) (yv:=NI ((36)*(n))) rfl rfl rfl (Ah _ _ _ (by omega)) (gS (Aay (a:=(((b.length)-(36))-(f):Nat)) (b:=((1024)+((36)*(n)):Nat)) rfl rfl (AH _ _ _ _) (gP (Aa3 GA rfl rfl ?_)))))))));refine Aw (A1 _ (decide ((((b.length)-(36))-(f):Nat)=((1024)+((36)*(n))))) 6) ?_ ?_;rotate_left
     ·rintro ch ia ⟨rfl,hb,hx⟩;refine Ax ?_;have hno:=of_decide_eq_false hb;have hE:=hE.trans c9;exact .inr ⟨_,rfl,6,hP0.trans ((if_pos hA).trans (if_neg hno)),rfl,hE.trans hx⟩
     rintro v_ ib ⟨rfl,e6,e7⟩;have e8:=of_decide_eq_true e6;have hq5:=e8;have hP1:CG b=Hm b n (1+k) f:=hP0.trans ((if_pos hA).trans (if_pos hq5));have hE:=hE.trans (c9.trans e7);refine gP (Adt RP rfl rfl rfl rfl ?_);refine Aw (PX _ v b (hr.keep hE) n (1+k) f (by omega) (by omega) (by omega) (by omega)) ?_ ?_;rotate_left
     ·rintro ch ic ⟨hno,rfl,hx⟩;refine Ax ?_;exact .inr ⟨_,rfl,6,hP1.trans (by unfold Hm;rw[hno]),rfl,hE.trans hx⟩
     rintro bq br ⟨es,hes,au,hok52,e9,fa⟩;have hnwE:∀x∈es,NewV w.heap.size x.2:=fun x hx k hk=>Ae7 (hE).size (e9 x hx k hk);have hok:=hok52;have hel:=Jo hes (by omega);rw[Afu]at hel;have heln:=hel.1;have hP2:CG b=Hl b f (es.map AfB):=hP1.trans (by unfold Hm;rw[hes]);have hE:=hE.trans fa;refine gS (Aaz (xv:=NI f) (yv:=NI 1024) rfl rfl rfl (Ah _ _ _ (by omega)) (gS (AbJ (xs:=b) (l:=(f)+(1024)) (n:=(b.length)-(36)) GR Rg rfl (hr.keep hE) rfl rfl (by omega) (by omega) fun fb fc ha60=>(gP (Aa3 RQ rfl rfl ?_)))));refine Aw (RJ _ fb ((b.drop (f+1024)).take (b.length-36-(f+1024))) fc bq es au hok (by rw[Afi,Afn];omega) (by omega)) ?_ ?_;rotate_left
     ·rintro ch ie ⟨hno,rfl,hx⟩;refine Ax ?_;exact .inr ⟨_,rfl,6,hP2.trans (by unfold Hl;rw[Afu,GD,hno];rfl),rfl,hE.trans hx⟩
     rintro v_ bc ⟨s,ah,ab,his,rfl,bd,hm64,hNv0,da⟩;have hNvi:NewV w.heap.size ah:=fun k hk=>Ae7 (hE).size (hNv0 k hk);have p:=Ad4 br;have ig:=hE.size;have hI:=JV _ _ his;have hNM:NewM w.heap.size s.M:=fun id c hc=>hnwE c (hI.M id c hc);have p:=p.trans da;have hMO:MOk bc s.M:=Ad0 (hok.keep p) hI hel.2 (by omega);have t:=Ad4 bc;have hE:=hE.trans da;have ih:=hE.size;have ii:=p.size;have hIl:=hI.len;have hlbe:=hm64.lt;have hP3:CG b=HX b f (es.map AfB) s.plain:=hP2.trans (by unfold Hl;rw[Afu,GD,his];rfl);refine gS (Ad5 (vs:= [ah, .map (some ab)]) rfl rfl (gS (Ad5 (vs:= [ah, .map (some ab)]) rfl rfl (gS (AaE TF rfl ((Qw _ ah s.ids (bd.keep t)).mono ?_))))));rintro e ij ⟨rfl,b8⟩;refine⟨_,rfl,?_⟩;have hE:=hE.trans b8;have p:=p.trans b8;have hm64:=hm64.keep b8;have t:=t.trans b8;refine gL (fun(ρ:Ae) (wz:Ae3)=>∃m:Nat,ρ 0=(v:Ae2)/\ρ 2=(.pointer none:Ae2)/\ρ 3=(NI ((b.length)-(36)):Ae2)/\ρ 4=(NI f:Ae2)/\ρ 5=(NI n:Ae2)/\ρ 6=(NI (1+k):Ae2)/\ρ 7=(NI 0:Ae2)/\ρ 8=(bq:Ae2)/\ρ 9=(ah:Ae2)/\ρ 10=(.map (some ab):Ae2)/\ρ 85=(.agg ((Bf (s.ids)).map fun x=>NI x).toArray:Ae2)/\ρ 86=(NI m:Ae2)/\Ext w wz/\Ext br wz/\MapF rk BK (fun id:AlJ =>id.length=32) wz ab s.M/\Ext bc wz/\(m<=256)/\(∀j,j<m->DN (b.drop (f+4*j))=(Bf s.ids).getD j 0)/\True) (fun ρ _=>256-(intOf (ρ 86)).toNat) ⟨0,rfl,rfl,rfl,rfl,rfl,rfl,rfl,rfl,rfl,rfl,rfl,rfl,hE,p,hm64,t,AfC _,fun j hj=>absurd hj (Age _),trivial⟩ ?_;clear hE hm64;rintro fd ik ⟨m,T0,T2,T3,T4,T5,T6,T7,T8,T9,af,ax,ai,hE,p,hm64,t,hm,hfan,-⟩;have q86:=ai;refine gS (Aay (a:=(m:Nat)) (b:=(256:Nat)) ai rfl (AE _ _ _ _) ?_);refine cD rfl (fun fe=> ?_) fun fe=> ?_
     ·refine gS (AcY (l:=Bf (s.ids)) (i:=m) Ev Vx rfl HT ax ai (by omega) (by rw[B4]) (gS (Aaz (xv:=NI 4) (yv:=NI m) rfl ai rfl (Cy _ _ _ (by omega)) (gS (Aaz (xv:=NI f) (yv:=NI ((4)*(m))) T4 rfl rfl (Ah _ _ _ (by omega)) (gS (Abj (xs:=b) (l:=(f)+((4)*(m))) GR Rg T0 (hr.keep hE) rfl (by omega) fun ff fg ha89=>(gS (AaE GC rfl (((show Calls _ _ _ _ (fun e w2=>e = .returned (NI (DN (b.drop (f+4*m))))/\Ext _ w2)from by skip;exact Ej _ ff (b.drop ((f)+((4)*(m)))) fg (by simp only[Afn];omega))).mono ?_))))))))));rintro e il ⟨rfl,db⟩;refine⟨_,rfl,?_⟩;refine gS (Aay (a:=(DN (b.drop (f+4*m)):Nat)) (b:=((Bf (s.ids)).getD (m) 0:Nat)) rfl rfl (AH _ _ _ _) (gP (Aa3 GA rfl rfl ?_)));refine Aw (A1 _ (decide ((DN (b.drop (f+4*m)):Nat)=((Bf (s.ids)).getD (m) 0))) 6) ?_ ?_;rotate_left
      ·rintro ch im ⟨rfl,hb,hx⟩;refine Ax ?_;have hno:=of_decide_eq_false hb;have hE:=hE.trans db;exact .inr ⟨_,rfl,6,hP3.trans (if_neg (fun h=>hno (Ye h (by omega)))),rfl,hE.trans hx⟩
      rintro v_ io ⟨rfl,fh,fi⟩;have fj:=of_decide_eq_true fh;have hZ1:=db.trans fi;have hE:=hE.trans hZ1;have p:=p.trans hZ1;have hm64:=hm64.keep hZ1;have t:=t.trans hZ1;refine gS (Aaz (xv:=NI m) (yv:=NI 1) ai rfl rfl (Ah _ _ _ (by omega)) (gK (AfF ⟨m+1,T0,T2,T3,T4,T5,T6,T7,T8,T9,af,ax,rfl,hE,p,hm64,t,by omega,fun j hj=>by by_cases e:j=m;subst e;exact fj;exact hfan j (by omega),trivial⟩ ?_)));show 256-(intOf (NI ((m)+(1)))).toNat<256-(intOf (fd 86)).toNat;rw[q86];simp only[intOf,Afg];omega
     have hfb:=fanB_of (fun j hj=>hfan j (by omega));have hP4:CG b=(if LA (es.map AfB) s.plain.M=true then Hk (Ly s.plain.M) s.plain.ids else .error 6):=hP3.trans (if_pos hfb);refine gS (AaW GB (AaD (au.keep p) T8) (gL (fun(ρ:Ae) (wz:Ae3)=>∃q:Nat,ρ 0=(v:Ae2)/\ρ 2=(.pointer none:Ae2)/\ρ 3=(NI ((b.length)-(36)):Ae2)/\ρ 4=(NI f:Ae2)/\ρ 5=(NI n:Ae2)/\ρ 6=(NI (1+k):Ae2)/\ρ 7=(NI 0:Ae2)/\ρ 8=(bq:Ae2)/\ρ 9=(ah:Ae2)/\ρ 10=(.map (some ab):Ae2)/\ρ 85=(.agg ((Bf (s.ids)).map fun x=>NI x).toArray:Ae2)/\ρ 86=(NI m:Ae2)/\ρ 101=(bq:Ae2)/\ρ 102=(NI es.length:Ae2)/\ρ 103=(NI q:Ae2)/\Ext w wz/\Ext br wz/\MapF rk BK (fun id:AlJ =>id.length=32) wz ab s.M/\Ext bc wz/\(q<=es.length)/\(∀j,j<q->(es.getD j dEnt).1.based=true->s.M (es.getD j dEnt).1.base≠none)/\True) (fun ρ _=>es.length-(intOf (ρ 103)).toNat) ⟨0,T0,T2,T3,T4,T5,T6,T7,T8,T9,af,ax,ai,T8,rfl,rfl,hE,p,hm64,t,AfC _,fun j hj=>absurd hj (Age _),trivial⟩ ?_));clear hE p hm64 t;rintro cw b9 ⟨q,T0,T2,T3,T4,T5,T6,T7,T8,T9,af,ax,ai,ay,be,am,hE,p,hm64,t,hq,hbs,-⟩;have q103:=am;refine gS (Aay (a:=(q:Nat)) (b:=(es.length:Nat)) am be (AE _ _ _ _) ?_);refine cD rfl (fun dc=> ?_) fun dc=> ?_
     ·have hc2_:q<es.length:=dc;have hcl:=hok _ (getD_mem dEnt (l:=es) (i:=q) hc2_);rcases hl:s.M (es.getD (q) dEnt).1.base with _ | c
      ·rcases hbx:(es.getD (q) dEnt).1.based with _ | _
       ·have fk:(entC (es.getD (q) dEnt)).length=35:=(Aec (au.keep p) dEnt (by omega));refine gS (AaZ GB PY (by decide) dEnt (AaD (au.keep p) ay) am (by omega) fun ip de=>(gS (Aa4 (Aa6 de rfl) (Lu).choose_spec rfl (by rw[fk];exact EX) (gS (Ad9 In fun df fl fm dh di iq=> ?_)))));have bf:=Ad4 b9;have ir:=hE.size;have iu:=p.size;have iv:=t.size;have iw:=Av hm64.lt fm;have a5:=dh;clear dh;have ix:df<fl.heap.size:=by omega
        refine gS (AaB (vr (PQ df 0) rfl) (vr (.agg (entC (es.getD (q) dEnt)).toArray) rfl) a5 (BA (x:=((es.getD (q) dEnt):Aj)) (y:=(dEnt:Aj)) hcl.2 (by simp[dEnt])) (Bo (x:=((es.getD (q) dEnt):Aj)) EX hcl.2) (BF (x:=((es.getD (q) dEnt):Aj)) (Aeg hcl.1).2) fun fn dj dk iy=> ?_);have hm64:=hm64.keep di;have hm64:=Ad8 hm64 dk (Ak (by omega));clear a5;have a5:=dj;clear dj;have iz:=bl a5;clear de;refine gS (Ad6 OD rfl (gS (Abi rfl (EL (x:=((es.getD (q) dEnt):Aj)) a5) XM rfl (by rw[Afl,hcl.2];exact SY) (gS (Abz (ek:=rk) (ev:=BK) (D:=(fun id:AlJ =>id.length=32)) Cu Cv (fun _ _=>Cp) Lw (z:=BK dEnt) Dv af rfl hm64 hcl.2 hl (gS (Ad5 (vs:= [.agg (entC (dEnt)).toArray, .bool (false)]) rfl rfl (gS (Ad5 (vs:= [.agg (entC (dEnt)).toArray, .bool (false)]) rfl rfl (gS (Ad9 In fun dl fo fp dm bu i0=> ?_)))))))))));have bv:=Ad4 fn;have bf:=bf.trans di;have bf:=Ab bf dk (Ae7 (Ae8 _) (by omega));have hE:=hE.trans bf;have p:=p.trans bf;have t:=t.trans bf;have fq:=hE.size;have fr:=p.size;have fs:=t.size;have i1:=Av hm64.lt fp;have ca:=dm;clear dm;have i2:dl<fo.heap.size:=by omega
        refine gS (AaB (vr (PQ dl 0) rfl) (vr (.agg (entC (dEnt)).toArray) rfl) ca (BA (x:=((dEnt):Aj)) (y:=(dEnt:Aj)) (by simp[dEnt]) (by simp[dEnt])) (Bo (x:=((dEnt):Aj)) EX (by simp[dEnt])) (BF (x:=((dEnt):Aj)) rfl) fun i3 dn bw i4=> ?_);have hm64:=hm64.keep bu;have hm64:=Ad8 hm64 bw (Ak (by omega));clear ca;have ca:=dn;clear dn;have i5:=bl ca;have bv:=bv.trans bu;have bv:=Ab bv bw (Ae7 (Ae8 _) (by omega));have a5:=eb bv a5;refine gS (Ad6 GW rfl (gS (Aax KD rfl rfl (cellAt a5 ((show(entC ((es.getD (q) dEnt)))[1]? =some (.bool false:Ae2)from congrArg (fun b=>some (AfE b)) hbx))) (gS (Abl rfl (gS (AaS rfl rfl (gP (Aa3 GA rfl rfl ?_)))))))));refine Aw (A1 _ (true) 6) ?_ ?_;rotate_left
        ·rintro ch i6 ⟨rfl,hb,hx⟩;refine Ax ?_;cases hb
        rintro v_ i7 ⟨rfl,i8,cb⟩;have hE:=hE.trans bu;have hE:=Ab hE bw (Ae7 fq (by omega));have hE:=hE.trans cb;have p:=p.trans bu;have p:=Ab p bw (Ae7 fr (by omega));have p:=p.trans cb;have t:=t.trans bu;have t:=Ab t bw (Ae7 fs (by omega));have t:=t.trans cb;have hm64:=hm64.keep cb;refine gS (Aaz (xv:=NI q) (yv:=NI 1) am rfl rfl (Ah _ _ _ (by omega)) (gK (AfF ⟨q+1,T0,T2,T3,T4,T5,T6,T7,T8,T9,af,ax,ai,ay,be,rfl,hE,p,hm64,t,by omega,fun j hj=>by by_cases e:j=q;subst e;exact(fun hbt=>by rw[hbx]at hbt;cases hbt);exact hbs j (by omega),trivial⟩ ?_)));show es.length-(intOf (NI ((q)+(1)))).toNat<es.length-(intOf (cw 103)).toNat;rw[q103];simp only[intOf,Afg];omega
       have ft:(entC (es.getD (q) dEnt)).length=35:=(Aec (au.keep p) dEnt (by omega));refine gS (AaZ GB PY (by decide) dEnt (AaD (au.keep p) ay) am (by omega) fun i9 dp=>(gS (Aa4 (Aa6 dp rfl) (Lu).choose_spec rfl (by rw[ft];exact EX) (gS (Ad9 In fun dq fu fv dr ds ja=> ?_)))));have bg:=Ad4 b9;have jb:=hE.size;have jc:=p.size;have jd:=t.size;have je:=Av hm64.lt fv;have a6:=dr;clear dr;have jf:dq<fu.heap.size:=by omega
       refine gS (AaB (vr (PQ dq 0) rfl) (vr (.agg (entC (es.getD (q) dEnt)).toArray) rfl) a6 (BA (x:=((es.getD (q) dEnt):Aj)) (y:=(dEnt:Aj)) hcl.2 (by simp[dEnt])) (Bo (x:=((es.getD (q) dEnt):Aj)) EX hcl.2) (BF (x:=((es.getD (q) dEnt):Aj)) (Aeg hcl.1).2) fun fw dt du jg=> ?_);have hm64:=hm64.keep ds;have hm64:=Ad8 hm64 du (Ak (by omega));clear a6;have a6:=dt;clear dt;have jh:=bl a6;clear dp;refine gS (Ad6 OD rfl (gS (Abi rfl (EL (x:=((es.getD (q) dEnt):Aj)) a6) XM rfl (by rw[Afl,hcl.2];exact SY) (gS (Abz (ek:=rk) (ev:=BK) (D:=(fun id:AlJ =>id.length=32)) Cu Cv (fun _ _=>Cp) Lw (z:=BK dEnt) Dv af rfl hm64 hcl.2 hl (gS (Ad5 (vs:= [.agg (entC (dEnt)).toArray, .bool (false)]) rfl rfl (gS (Ad5 (vs:= [.agg (entC (dEnt)).toArray, .bool (false)]) rfl rfl (gS (Ad9 In fun dv fx fy dw cx ji=> ?_)))))))))));have bx:=Ad4 fw;have bg:=bg.trans ds;have bg:=Ab bg du (Ae7 (Ae8 _) (by omega));have hE:=hE.trans bg;have p:=p.trans bg;have t:=t.trans bg;have fz:=hE.size;have jj:=p.size;have jk:=t.size;have jl:=Av hm64.lt fy;have cc:=dw;clear dw;have jm:dv<fx.heap.size:=by omega
       refine gS (AaB (vr (PQ dv 0) rfl) (vr (.agg (entC (dEnt)).toArray) rfl) cc (BA (x:=((dEnt):Aj)) (y:=(dEnt:Aj)) (by simp[dEnt]) (by simp[dEnt])) (Bo (x:=((dEnt):Aj)) EX (by simp[dEnt])) (BF (x:=((dEnt):Aj)) rfl) fun jn dx cy jo=> ?_);have hm64:=hm64.keep cx;have hm64:=Ad8 hm64 cy (Ak (by omega));clear cc;have cc:=dx;clear dx;have jp:=bl cc;have bx:=bx.trans cx;have bx:=Ab bx cy (Ae7 (Ae8 _) (by omega));have a6:=eb bx a6;refine gS (Ad6 GW rfl (gS (Aax KD rfl rfl (cellAt a6 ((show(entC ((es.getD (q) dEnt)))[1]? =some (.bool true:Ae2)from congrArg (fun b=>some (AfE b)) hbx))) (gS (Abl rfl (gS (AaX rfl rfl (gP (Aa3 GA rfl rfl ?_)))))))));refine Aw (A1 _ (false) 6) ?_ ?_;rotate_left
       ·rintro ch jq ⟨rfl,hb,hx⟩;refine Ax ?_;have hE:=hE.trans cx;have hE:=Ab hE cy (Ae7 fz (by omega));exact .inr ⟨_,rfl,6,hP4.trans (if_neg (fun h=>TK h hc2_ hbx hl)),rfl,hE.trans hx⟩
       rintro v_ jr ⟨rfl,f0,js⟩;cases f0
      have hcx:=hMO _ c hl;rcases hbx:(es.getD (q) dEnt).1.based with _ | _
      ·have f1:(entC (es.getD (q) dEnt)).length=35:=(Aec (au.keep p) dEnt (by omega));refine gS (AaZ GB PY (by decide) dEnt (AaD (au.keep p) ay) am (by omega) fun jt dy=>(gS (Aa4 (Aa6 dy rfl) (Lu).choose_spec rfl (by rw[f1];exact EX) (gS (Ad9 In fun dz f2 f3 d0 d1 ju=> ?_)))));have bh:=Ad4 b9;have jv:=hE.size;have jw:=p.size;have jx:=t.size;have jy:=Av hm64.lt f3;have a7:=d0;clear d0;have jz:dz<f2.heap.size:=by omega
       refine gS (AaB (vr (PQ dz 0) rfl) (vr (.agg (entC (es.getD (q) dEnt)).toArray) rfl) a7 (BA (x:=((es.getD (q) dEnt):Aj)) (y:=(dEnt:Aj)) hcl.2 (by simp[dEnt])) (Bo (x:=((es.getD (q) dEnt):Aj)) EX hcl.2) (BF (x:=((es.getD (q) dEnt):Aj)) (Aeg hcl.1).2) fun f4 d2 d3 j0=> ?_);have hm64:=hm64.keep d1;have hm64:=Ad8 hm64 d3 (Ak (by omega));clear a7;have a7:=d2;clear d2;have j1:=bl a7;clear dy;refine gS (Ad6 OD rfl (gS (Abi rfl (EL (x:=((es.getD (q) dEnt):Aj)) a7) XM rfl (by rw[Afl,hcl.2];exact SY) (gS (Abs (ek:=rk) (ev:=BK) (D:=(fun id:AlJ =>id.length=32)) Cu Cv (fun _ _=>Cp) Lw (z:=BK dEnt) Dv af rfl hm64 hcl.2 hl (gS (Ad5 (vs:= [.agg (entC (c)).toArray, .bool (true)]) rfl rfl (gS (Ad5 (vs:= [.agg (entC (c)).toArray, .bool (true)]) rfl rfl (gS (Ad9 In fun d4 f5 f6 d5 bz j2=> ?_)))))))))));have b0:=Ad4 f4;have bh:=bh.trans d1;have bh:=Ab bh d3 (Ae7 (Ae8 _) (by omega));have hE:=hE.trans bh;have p:=p.trans bh;have t:=t.trans bh;have f7:=hE.size;have f8:=p.size;have f9:=t.size;have j3:=Av hm64.lt f6;have cd:=d5;clear d5;have j4:d4<f5.heap.size:=by omega
       refine gS (AaB (vr (PQ d4 0) rfl) (vr (.agg (entC (c)).toArray) rfl) cd (BA (x:=((c):Aj)) (y:=(dEnt:Aj)) hcx.2.1 (by simp[dEnt])) (Bo (x:=((c):Aj)) EX hcx.2.1) (BF (x:=((c):Aj)) (Aeg hcx.1).2) fun j5 d6 b1 j6=> ?_);have hm64:=hm64.keep bz;have hm64:=Ad8 hm64 b1 (Ak (by omega));clear cd;have cd:=d6;clear d6;have j7:=bl cd;have b0:=b0.trans bz;have b0:=Ab b0 b1 (Ae7 (Ae8 _) (by omega));have a7:=eb b0 a7;refine gS (Ad6 GW rfl (gS (Aax KD rfl rfl (cellAt a7 ((show(entC ((es.getD (q) dEnt)))[1]? =some (.bool false:Ae2)from congrArg (fun b=>some (AfE b)) hbx))) (gS (Abl rfl (gS (AaS rfl rfl (gP (Aa3 GA rfl rfl ?_)))))))));refine Aw (A1 _ (true) 6) ?_ ?_;rotate_left
       ·rintro ch j8 ⟨rfl,hb,hx⟩;refine Ax ?_;cases hb
       rintro v_ j9 ⟨rfl,ka,ce⟩;have hE:=hE.trans bz;have hE:=Ab hE b1 (Ae7 f7 (by omega));have hE:=hE.trans ce;have p:=p.trans bz;have p:=Ab p b1 (Ae7 f8 (by omega));have p:=p.trans ce;have t:=t.trans bz;have t:=Ab t b1 (Ae7 f9 (by omega));have t:=t.trans ce;have hm64:=hm64.keep ce;refine gS (Aaz (xv:=NI q) (yv:=NI 1) am rfl rfl (Ah _ _ _ (by omega)) (gK (AfF ⟨q+1,T0,T2,T3,T4,T5,T6,T7,T8,T9,af,ax,ai,ay,be,rfl,hE,p,hm64,t,by omega,fun j hj=>by by_cases e:j=q;subst e;exact(fun hbt=>by rw[hbx]at hbt;cases hbt);exact hbs j (by omega),trivial⟩ ?_)));show es.length-(intOf (NI ((q)+(1)))).toNat<es.length-(intOf (cw 103)).toNat;rw[q103];simp only[intOf,Afg];omega
      have ga:(entC (es.getD (q) dEnt)).length=35:=(Aec (au.keep p) dEnt (by omega));refine gS (AaZ GB PY (by decide) dEnt (AaD (au.keep p) ay) am (by omega) fun kc d7=>(gS (Aa4 (Aa6 d7 rfl) (Lu).choose_spec rfl (by rw[ga];exact EX) (gS (Ad9 In fun d8 gb gc d9 ea kd=> ?_)))));have bi:=Ad4 b9;have ke:=hE.size;have kf:=p.size;have kg:=t.size;have kh:=Av hm64.lt gc;have a8:=d9;clear d9;have ki:d8<gb.heap.size:=by omega
      refine gS (AaB (vr (PQ d8 0) rfl) (vr (.agg (entC (es.getD (q) dEnt)).toArray) rfl) a8 (BA (x:=((es.getD (q) dEnt):Aj)) (y:=(dEnt:Aj)) hcl.2 (by simp[dEnt])) (Bo (x:=((es.getD (q) dEnt):Aj)) EX hcl.2) (BF (x:=((es.getD (q) dEnt):Aj)) (Aeg hcl.1).2) fun gd ec ed kj=> ?_);have hm64:=hm64.keep ea;have hm64:=Ad8 hm64 ed (Ak (by omega));clear a8;have a8:=ec;clear ec;have kl:=bl a8;clear d7;refine gS (Ad6 OD rfl (gS (Abi rfl (EL (x:=((es.getD (q) dEnt):Aj)) a8) XM rfl (by rw[Afl,hcl.2];exact SY) (gS (Abs (ek:=rk) (ev:=BK) (D:=(fun id:AlJ =>id.length=32)) Cu Cv (fun _ _=>Cp) Lw (z:=BK dEnt) Dv af rfl hm64 hcl.2 hl (gS (Ad5 (vs:= [.agg (entC (c)).toArray, .bool (true)]) rfl rfl (gS (Ad5 (vs:= [.agg (entC (c)).toArray, .bool (true)]) rfl rfl (gS (Ad9 In fun ee ge gf ef b2 km=> ?_)))))))))));have b3:=Ad4 gd;have bi:=bi.trans ea;have bi:=Ab bi ed (Ae7 (Ae8 _) (by omega));have hE:=hE.trans bi;have p:=p.trans bi;have t:=t.trans bi;have gg:=hE.size;have gh:=p.size;have gi:=t.size;have kn:=Av hm64.lt gf;have cf:=ef;clear ef;have ko:ee<ge.heap.size:=by omega
      refine gS (AaB (vr (PQ ee 0) rfl) (vr (.agg (entC (c)).toArray) rfl) cf (BA (x:=((c):Aj)) (y:=(dEnt:Aj)) hcx.2.1 (by simp[dEnt])) (Bo (x:=((c):Aj)) EX hcx.2.1) (BF (x:=((c):Aj)) (Aeg hcx.1).2) fun kp eg b4 kq=> ?_);have hm64:=hm64.keep b2;have hm64:=Ad8 hm64 b4 (Ak (by omega));clear cf;have cf:=eg;clear eg;have kr:=bl cf;have b3:=b3.trans b2;have b3:=Ab b3 b4 (Ae7 (Ae8 _) (by omega));have a8:=eb b3 a8;refine gS (Ad6 GW rfl (gS (Aax KD rfl rfl (cellAt a8 ((show(entC ((es.getD (q) dEnt)))[1]? =some (.bool true:Ae2)from congrArg (fun b=>some (AfE b)) hbx))) (gS (Abl rfl (gS (AaX rfl rfl (gP (Aa3 GA rfl rfl ?_)))))))));refine Aw (A1 _ (true) 6) ?_ ?_;rotate_left
      ·rintro ch ks ⟨rfl,hb,hx⟩;refine Ax ?_;cases hb
      rintro v_ kt ⟨rfl,ku,cg⟩;have hE:=hE.trans b2;have hE:=Ab hE b4 (Ae7 gg (by omega));have hE:=hE.trans cg;have p:=p.trans b2;have p:=Ab p b4 (Ae7 gh (by omega));have p:=p.trans cg;have t:=t.trans b2;have t:=Ab t b4 (Ae7 gi (by omega));have t:=t.trans cg;have hm64:=hm64.keep cg;refine gS (Aaz (xv:=NI q) (yv:=NI 1) am rfl rfl (Ah _ _ _ (by omega)) (gK (AfF ⟨q+1,T0,T2,T3,T4,T5,T6,T7,T8,T9,af,ax,ai,ay,be,rfl,hE,p,hm64,t,by omega,fun j hj=>by by_cases e:j=q;subst e;exact(fun _ hn=>by rw[hl]at hn;cases hn);exact hbs j (by omega),trivial⟩ ?_)));show es.length-(intOf (NI ((q)+(1)))).toNat<es.length-(intOf (cw 103)).toNat;rw[q103];simp only[intOf,Afg];omega
     have hbb:=TL (fun j hj=>hbs j (by omega));have hP5:CG b=Hk (Ly s.plain.M) s.ids:=hP4.trans (if_pos hbb);refine gS (AbB rk Ct (fun id:AlJ =>id.length=32) fun aj gj gk aq ci kv=> ?_);have kw:=hE.size;have kx:=p.size;have ky:=t.size;have kz:=Av hm64.lt gk;have k0:aj<gj.heap.size:=by omega
     refine gS (Abu af (vr (.map (some aj)) rfl) (fun w=>LC (ab) (aj) w) (gS (Ael (cs:=([.map (some ab), .map (some aj)]:List Ae2).toArray) (show _=(.agg ([.map (some ab), .map (some aj)]).toArray:Ae2)from rfl) fun bj gl eh ei b5 k1=> ?_)));have hE:=hE.trans ci;have p:=p.trans ci;have t:=t.trans ci;have k2:=hE.size;have k3:=p.size;have k4:=t.size;have hm64:=hm64.keep ci;have k5:=Av hm64.lt eh;have k6:=Av aq.lt eh;have aa:=ei;clear ei;have k7:bj<gl.heap.size:=by omega
     refine gS (AbB rk Ct (fun id:AlJ =>id.length=32) fun ak gm cz b6 bs k8=> ?_);have hE:=hE.trans b5;have p:=p.trans b5;have t:=t.trans b5;have k9:=hE.size;have la:=p.size;have lb:=t.size;have hm64:=hm64.keep b5;have lc:=Av hm64.lt cz;have aq:=aq.keep b5;have ld:=Av aq.lt cz;have le:ak<gm.heap.size:=by omega
     have hlo_bo:w.heap.size<=ak:=by omega
     have t:=t.trans bs;refine gS (Abu T9 (vr (.map (some ak)) rfl) (fun w=>LD (RG.slice (bd.keep t)) (ak) w) (gS (Ael (cs:=([ah, .map (some ak)]:List Ae2).toArray) (show _=(.agg ([ah, .map (some ak)]).toArray:Ae2)from rfl) fun bt gn cj ej bk lf=> ?_)));have hE:=hE.trans bs;have p:=p.trans bs;have lg:=hE.size;have lh:=p.size;have li:=t.size;have hm64:=hm64.keep bs;have lj:=Av hm64.lt cj;have aq:=aq.keep bs;have lk:=Av aq.lt cj;have ll:=Av b6.lt cj;have ag:=ej;clear ej;have lm:bt<gn.heap.size:=by omega
     have hlo_gp:w.heap.size<=bt:=by omega
     have ln:=Av (bl aa) cz;have aa:=eb bs aa;have lo:=Av (bl aa) cj;have aa:=eb bk aa;have hE:=hE.trans bk;have p:=p.trans bk;have hm64:=hm64.keep bk;have t:=t.trans bk;have aq:=aq.keep bk;have b6:=b6.keep bk;refine gS (AaW Oi (AaD (bd.keep t) T9) (gL (fun(ρ:Ae) (wz:Ae3)=>∃i:Nat,∃st:IR,∃H:Bs->Option Cw,∃O:Bs->Option Cw,ρ 0=(v:Ae2)/\ρ 2=(.pointer none:Ae2)/\ρ 3=(NI ((b.length)-(36)):Ae2)/\ρ 4=(NI f:Ae2)/\ρ 5=(NI n:Ae2)/\ρ 6=(NI (1+k):Ae2)/\ρ 7=(NI 0:Ae2)/\ρ 8=(bq:Ae2)/\ρ 9=(ah:Ae2)/\ρ 10=(.map (some ab):Ae2)/\ρ 17=(PQ bj 0:Ae2)/\ρ 18=(PQ bt 0:Ae2)/\ρ 85=(.agg ((Bf (s.ids)).map fun x=>NI x).toArray:Ae2)/\ρ 86=(NI m:Ae2)/\ρ 101=(bq:Ae2)/\ρ 102=(NI es.length:Ae2)/\ρ 103=(NI q:Ae2)/\ρ 130=(ah:Ae2)/\ρ 131=(NI ((s.ids).length):Ae2)/\ρ 132=(NI i:Ae2)/\ρ 19=(NI st.total:Ae2)/\Ext w wz/\Ext br wz/\MapF rk BK (fun id:AlJ =>id.length=32) wz ab s.M/\Ext bc wz/\wz.heap[bj]? =some (.cells ([.map (some ab), .map (some aj)]).toArray 212 (0,0))/\wz.heap[bt]? =some (.cells ([ah, .map (some ak)]).toArray 163 (0,0))/\HOk wz s.M H/\OOk wz O/\MapF rk Ct (fun id:AlJ =>id.length=32) wz aj (H)/\MapF rk Ct (fun id:AlJ =>id.length=32) wz ak (O)/\(DS (AI s.M) s.ids i = .ok st)/\(i<=s.ids.length)/\((fun k=>(O k).map AfB)=st.O)/\(st.total<=4194304)/\(NewM w.heap.size H)/\(NewM w.heap.size O)/\True) (fun ρ _=>s.ids.length-(intOf (ρ 132)).toNat) ⟨0,⟨0,fun _=>none⟩,fun _=>none,fun _=>none,T0,T2,T3,T4,T5,T6,T7,T8,T9,af,rfl,rfl,ax,ai,ay,be,am,T9,rfl,rfl,rfl,hE,p,hm64,t,aa,ag,HOk.nil,OOk.nil _,Ci aq (rfl),Ci b6 (rfl),rfl,AfC _,rfl,AfC _,NewM.none _,NewM.none _,trivial⟩ ?_));clear aq;clear b6;clear hE p hm64 t aa ag;rintro go gp ⟨i,st,H,O,T0,T2,T3,T4,T5,T6,T7,T8,T9,af,c0,c1,ax,ai,ay,be,am,el,em,ck,gq,hE,p,hm64,t,aa,ag,hHO,hOO,hb332l,hb367l,hs,hi,hO,htot,hNH,hNO,-⟩;have q132:=ck;refine gS (Aay (a:=(i:Nat)) (b:=((s.ids).length:Nat)) ck em (AE _ _ _ _) ?_);refine cD rfl (fun en=> ?_) fun en=> ?_
     ·have hc3_:i<s.ids.length:=en;have hid32:(s.ids.getD i []).length=32:=by have:=Aec (bd.keep t) ([]:AlJ) hc3_;rwa [Afl]at this
      have oerr:∀c,Dw (AI s.M) (s.ids.getD i []) st = .error c->CG b = .error c:=fun c hc=>by rw[hP5];unfold Hk;rw[<-Kf];have h1:=Hj ((FC hs).trans hc) (s.ids.length-(i+1));rw[show i+1+(s.ids.length-(i+1))=s.ids.length by omega]at h1;show(match DS (AI s.M) s.ids s.ids.length with | .error e=>_ | .ok o=>_)=_;rw[h1]
      have a9:(Ae4 ((s.ids).getD (i) ([]:AlJ))).length=32:=(Aec (bd.keep t) ([]:AlJ) (by omega));refine gS (AaZ Oi Td (by decide) ([]:AlJ) (AaD (bd.keep t) el) ck (by omega) fun lp eo=>(gS (Aa4 (Aa6 eo rfl) XM rfl (by rw[a9];exact SY) (gS (Ad9 VA fun cl gr c2 ep cm lq=> ?_)))));have ad:=Ad4 gp;have lr:=hE.size;have ls:=p.size;have lu:=t.size;have lv:=Av hm64.lt c2;have lw:=Av hb332l.lt c2;have lx:=Av hb367l.lt c2;have ac:=ep;clear ep;have ly:cl<gr.heap.size:=by omega
      refine gS (AaB (vr (PQ cl 0) rfl) (vr (AB ((s.ids).getD (i) ([]:AlJ))) rfl) ac (by exact Bp (Ay (a9)) Afp) (by exact Ac (Ay (a9))) (Ag _) fun lz eq cn l0=> ?_);have hm64:=hm64.keep cm;have hm64:=Ad8 hm64 cn (Ak (by omega));have hb332l:=hb332l.keep cm;have hb332l:=Ad8 hb332l cn (Ak (by omega));have hb367l:=hb367l.keep cm;have hb367l:=Ad8 hb367l cn (Ak (by omega));clear ac;have ac:=eq;clear eq;have l3:=bl ac;clear eo;have ad:=ad.trans cm;have ad:=Ab ad cn (Ae7 (Ae8 _) (by omega));have aa:=eb ad aa;have t:=t.trans ad;refine gS (AaC rfl ac XM rfl (by exact Ac (Ay (a9))) (gP (Aa3 RR c0 rfl ?_)));refine Aw (RL _ bj ab aj s.M aa hm64 (hMO.keep t) (s.ids.getD i []) hid32) ?_ ?_;rotate_left
      ·rintro ch l4 ⟨hno,rfl,hx⟩;refine Ax ?_;have hE:=hE.trans ad;exact .inr ⟨_,rfl,17,oerr 17 (Lz hno),rfl,hE.trans hx⟩
      rintro v_ gs ⟨dd,hdp,rfl,bm⟩;have hdle:=LB hdp;have ad:=ad.trans bm;have hE:=hE.trans ad;have hm64:=hm64.keep bm;have t:=t.trans bm;have aa:=eb bm aa;have hb332l:=hb332l.keep bm;have ac:=eb bm ac;refine gS (AaC rfl ac XM rfl (by exact Ac (Ay (a9))) (gP (Aa3 RM c0 rfl ?_)));refine Aw (TJ bj ab aj s.M dd _ H (s.ids.getD i []) aa hm64 hb332l (hMO.keep t) (hHO.keep ad) (by omega) hid32 hdle 50 hdp w.heap.size hNM hNH (hE).size) ?_ ?_;rotate_left
      ·rintro ch l5 ⟨hno,rfl,hx⟩;refine Ax ?_;exact .inr ⟨_,rfl,6,oerr 6 (MW hdp hno),rfl,DW hE hx hE.size (fun k hk=>by cases hk;omega)⟩
      rintro v_ ar ⟨az,bb,kk,H1,rfl,hcg,bn,hm455,hHO456,co,hNv1,hNH1⟩;have bp:=co.grown;have hm461:EA gs aj:=(AbK hb332l).noB8;have hE:Ext w ar:=DW hE co hE.size (fun k hk=>by cases hk;omega);have p:=p.trans ad;have p:Ext br ar:=DW p co p.size (fun k hk=>by cases hk;omega);have hm64:MapF rk BK (fun id:AlJ =>id.length=32) ar ab s.M:=Ad8 hm64 bp (Ak (by omega));have t:Ext bc ar:=DW t co t.size (fun k hk=>by cases hk;omega);have aa:ar.heap[bj]? =some (.cells ([.map (some ab), .map (some aj)]).toArray 212 (0,0)):=kb bp aa (by omega);have ag:=eb ad ag;have ag:ar.heap[bt]? =some (.cells ([ah, .map (some ak)]).toArray 163 (0,0)):=kb bp ag (by omega);have hHO:HOk ar s.M H:=(hHO.keep ad).keepN hm461 bp;have hOO:OOk ar O:=(hOO.keep ad).keepN hm461 bp;clear hb332l;have hb367l:=hb367l.keep bm;have hb367l:MapF rk Ct (fun id:AlJ =>id.length=32) ar ak (O):=Ad8 hb367l bp (Ak (by omega));have ac:ar.heap[cl]? =some (.cells (Ae4 ((s.ids).getD (i) ([]:AlJ))).toArray 33 (0,0)):=kb bp ac (by omega);have l6:=hE.size;have l7:=p.size;have l8:=t.size;have hcl:=Io hcg;refine gS (Ad9 Ea fun c3 gt c4 er cp l9=> ?_);have u:=Ad4 ar;have ma:=hE.size;have mb:=p.size;have mc:=t.size;have md:=Av hm64.lt c4;have me:=Av hb367l.lt c4;have mf:=Av hm455.lt c4;have ae:=er;clear er;have mg:c3<gt.heap.size:=by omega
      have u:=u.trans cp;refine gS (AaB (vr (PQ c3 0) rfl) (vr (.agg ([az,NI kk]).toArray) rfl) ae rfl (show(Tryz.prog.info? 215).map (·.size)=some 2 from Bu) (CD (Aeg (bn.keep u)).2) fun mh et cq mi=> ?_);have hm64:=hm64.keep cp;have hm64:=Ad8 hm64 cq (Ak (by omega));have hb367l:=hb367l.keep cp;have hb367l:=Ad8 hb367l cq (Ak (by omega));have hm455:=hm455.keep cp;have hm455:=Ad8 hm455 cq (Ak (by omega));clear ae;have ae:=et;clear et;have mj:=bl ae;refine Ed [0,1,4,2,3,5,6] [2,3,6] [] [4] fun gu c5=> ?_;have cr:=Ad4 gu;have u:=Ab u cq (Ae7 (Ae8 _) (by omega));have u:=u.trans c5;have ac:=eb u ac;have ae:=eb c5 ae;refine DV cr ?_;refine ys (Ad6 G2 rfl zz) (ys (Aax GR rfl rfl (cellAt ae rfl) zz) (yf (fun _ ⟨hZ,_⟩=>AaC rfl (eb hZ ac) XM rfl (by exact Ac (Ay (a9))) zz) (yE (Abf GV (AaF (bn.keep u) (vr az rfl)) fun gv gw eu ct=> ?_))));have cr:=cr.trans ct;refine⟨cr,?_⟩;have c6:=Ad4 gw;have u:=u.trans ct;have hE:=hE.trans u;refine yE (AaE KB rfl ((GJ _ (hG.keep hE) gv (bb) eu (by omega)).mono ?_));rintro e mk ⟨rfl,b7⟩;refine⟨_,rfl,?_⟩;have c6:=c6.trans b7;refine⟨c6,?_⟩;refine ys (AbM (l1:=(Sha.sum (bb))) (l2:=((s.ids).getD (i) ([]:AlJ))) XM u5 Rg TM rfl rfl ((Sha.sum_length _)) (hid32) zz) (yDp rfl (Aa3 GA rfl rfl ?_));refine Aw (A1 _ (decide ((Sha.sum (bb))=((s.ids).getD (i) ([]:AlJ)))) 18) ?_ ?_;rotate_left
      ·rintro ch ml ⟨rfl,hb,hx⟩;refine Ax ?_;have hno:=of_decide_eq_false hb;have hE:=hE.trans b7;exact .inr ⟨_,rfl,18,oerr 18 ((FB hdp hcg).trans (if_neg hno)),rfl,hE.trans hx⟩
      rintro v_ mm ⟨rfl,gx,c7⟩;have gy:=of_decide_eq_true gx;have hsum:=gy;have hZ2:=(ct.trans b7).trans c7;have ae:=eb hZ2 ae;have hZ3:=b7.trans c7;have u:=u.trans hZ3;refine gS (Ad6 G2 rfl (gS (Aax GR rfl rfl (cellAt ae rfl) (gS (AaT GR (AaF (bn.keep u) rfl) (gS (Aaz (xv:=NI st.total) (yv:=NI bb.length) gq rfl rfl (Ah _ _ _ (by omega)) (gS (Aay (a:=((st.total)+(bb.length):Nat)) (b:=(4194304:Nat)) rfl rfl (DR _ _ _ _) (gP (Aa3 GA rfl rfl ?_)))))))))));refine Aw (A1 _ (decide (((st.total)+(bb.length))<=(4194304))) 2) ?_ ?_;rotate_left
      ·rintro ch mn ⟨rfl,hb,hx⟩;refine Ax ?_;have hno:=of_decide_eq_false hb;have hE:=hE.trans hZ3;exact .inr ⟨_,rfl,2,oerr 2 ((FB hdp hcg).trans ((if_pos hsum).trans (if_neg hno))),rfl,hE.trans hx⟩
      rintro v_ mo ⟨rfl,gz,cu⟩;have ew:=of_decide_eq_true gz;refine Co [0,1,2,3,4,5,6,7,8,9] [9] [] fun g0 cv=> ?_;have hZ4:=cu.trans cv;have u:=u.trans hZ4;have ag:=eb u ag;have hZ5:=((((c5.trans ct).trans b7).trans c7).trans cu).trans cv;have hb367l:=hb367l.keep hZ5;have ac:=eb ((hZ2.trans cu).trans cv) ac;have ae:=eb hZ4 ae;refine ys (Ad7 c1 zz) (ys (Ad6 OL rfl zz) (ys (Aax CX rfl rfl (cellAt ag rfl) zz) (ys (AaC rfl ac XM rfl (by exact Ac (Ay (a9))) zz) (ys (Ad6 G2 rfl zz) (ys (Aax GR rfl rfl (cellAt ae rfl) zz) (ys (Abu (vr az rfl) (vr (NI dd) rfl) (fun w=>Lx (AeA (bn.keep u)) (((dd:Nat):Int)) w) zz) (yC (Aby (ek:=rk) (ev:=Ct) (D:=(fun id:AlJ =>id.length=32)) (c:=(((bb,dd),az):Cw)) Cu Cv CX (vr (.map (some ak)) rfl) (vr (AB ((s.ids).getD (i) ([]:AlJ))) rfl) (vr (.agg ([az,NI dd]).toArray) rfl) hb367l (Ay (a9)) fun an g1 ao mp=> ?_))))))));have hOO:=OOk.put (hOO.keep u) (id:=s.ids.getD i []) (x:=(((bb,dd),az):Cw)) (bn.keep u);have hm523:EA g0 ak:=(AbK hb367l).noB8;have hZ6:=(hZ3.trans cu).trans cv;have hE:=hE.trans hZ6;have hE:Ext w an:=DW hE (Abn ao (Ae8 _) (fun k hk=> .inl hk)) hE.size (fun k hk=>by cases hk;omega);have p:=p.trans u;have p:Ext br an:=DW p (Abn ao (Ae8 _) (fun k hk=> .inl hk)) p.size (fun k hk=>by cases hk;omega);have hm64:=hm64.keep hZ5;have hm64:MapF rk BK (fun id:AlJ =>id.length=32) an ab s.M:=Ad8 hm64 ao (Ak (by omega));have t:=t.trans u;have t:Ext bc an:=DW t (Abn ao (Ae8 _) (fun k hk=> .inl hk)) t.size (fun k hk=>by cases hk;omega);have aa:=eb u aa;have aa:an.heap[bj]? =some (.cells ([.map (some ab), .map (some aj)]).toArray 212 (0,0)):=kb ao aa (by omega);have ag:an.heap[bt]? =some (.cells ([ah, .map (some ak)]).toArray 163 (0,0)):=kb ao ag (by omega);have hOO:OOk an (updM (O) (s.ids.getD (i) ([]:AlJ)) (some ((((bb,dd),az):Cw)))):=hOO.keepN hm523 ao;clear hb367l;have ac:an.heap[cl]? =some (.cells (Ae4 ((s.ids).getD (i) ([]:AlJ))).toArray 33 (0,0)):=kb ao ac (by omega);have bn:RB an az bb:=(bn.keep u).keepN hm523 ao;have hm455:=hm455.keep hZ5;have hm455:MapF rk Ct (fun id:AlJ =>id.length=32) an aj H1:=Ad8 hm455 ao (Ak (by omega));have hHO456:HOk an s.M H1:=(hHO456.keep u).keepN hm523 ao;have ae:an.heap[c3]? =some (.cells ([az,NI kk]).toArray 215 (0,0)):=kb ao ae (by omega);clear eu;have mq:=hE.size;have mr:=p.size;have ms:=t.size;refine gS (Aaz (xv:=NI i) (yv:=NI 1) ck rfl rfl (Ah _ _ _ (by omega)) (gK (AfF ⟨i+1,⟨st.total+bb.length,updM st.O (s.ids.getD i []) (some (bb,dd))⟩,H1,updM (O) (s.ids.getD (i) ([]:AlJ)) (some ((((bb,dd),az):Cw))),T0,T2,T3,T4,T5,T6,T7,T8,T9,af,c0,c1,ax,ai,ay,be,am,el,em,rfl,rfl,hE,p,hm64,t,aa,ag,hHO456,hOO,Ci hm455 (rfl),Ci g1 (rfl),(FC hs).trans ((FB hdp hcg).trans ((if_pos hsum).trans (if_pos ew))),by omega,by rw[Ip,hO];rfl,ew,hNH1,NewM.put hNO _ hNv1,trivial⟩ ?_)));show s.ids.length-(intOf (NI ((i)+(1)))).toNat<s.ids.length-(intOf (go 132)).toNat;rw[q132];simp only[intOf,Afg];omega
     have hie:i=s.ids.length:=by omega
     refine A8 rfl c1 ?_;exact .inl ⟨_,rfl,_,_,_,s.ids,O,rfl,by rw[hP5,<-Kf,OJ (by rw[<-hie];exact hs),hO],ag,(bd.keep t),hb367l,hOO,hlo_gp,hlo_bo,hNvi,hNO,hE⟩
    have hP:CG b = .error 6:=hP0.trans (if_neg (fun h=>by have h1:=h.2;exact q3 h1.2.2));have hE:=hE.trans ba;refine gS (AaA CW rfl rfl (((show Calls _ _ _ _ (fun e w2=>e = .returned (.tuple #[NI n,NI (1+k),NI 0])/\Ext _ w2)from(EW _ v b (hr.keep hE) 1 (by omega)).mono fun e w2 ⟨h1,h2⟩=>by subst h2;subst h1;rw[hd];exact⟨rfl,Ad4 _⟩)).mono ?_));rintro e mt ⟨rfl,g2⟩;refine⟨_,rfl,?_⟩;have hE:=hE.trans g2;refine gS (Ad5 (vs:= [NI n,NI (1+k),NI 0]) rfl rfl (gS (Ad5 (vs:= [NI n,NI (1+k),NI 0]) rfl rfl (gS (Ad5 (vs:= [NI n,NI (1+k),NI 0]) rfl rfl (gS (Aba (l:=b) (i:=0) GR Rg (AaF (hr.keep hE) rfl) rfl (by omega) fun mu g3=>(gS (AaY u5 rfl (Aa7 g3 rfl) (gS (Aay (a:=((b.getD (0) 0).toNat:Nat)) (b:=(80:Nat)) rfl rfl (AH _ _ _ _) (kT (h80) (gS (Aay (a:=(0:Nat)) (b:=(0:Nat)) rfl rfl (AH _ _ _ _) (kT (rfl) (gS (AaS rfl rfl (gS (Aay (a:=(f:Nat)) (b:=(1+k:Nat)) rfl rfl (E1 _ _ _ _) (kT (q1) (gS (AaS rfl rfl (gS (Aay (a:=(f:Nat)) (b:=((b.length)-(36):Nat)) rfl rfl (DR _ _ _ _) (kT (q2) (gS (AaS rfl rfl (gS (Aay (a:=(n:Nat)) (b:=((b.length)-(36):Nat)) rfl rfl (DR _ _ _ _) (kF (q3) (gS (AaS rfl rfl (gP (Aa3 GA rfl rfl ?_))))))))))))))))))))))))))))))))));refine Aw (A1 _ (false) 6) ?_ ?_;rotate_left
    ·rintro ch mv ⟨rfl,hb,hx⟩;refine Ax ?_;exact .inr ⟨_,rfl,6,hP,rfl,hE.trans hx⟩
    rintro v_ mw ⟨rfl,g4,mx⟩;cases g4
   have hP:CG b = .error 6:=hP0.trans (if_neg (fun h=>by have h1:=h.2;exact q2 h1.2.1));have hE:=hE.trans ba;refine gS (AaA CW rfl rfl (((show Calls _ _ _ _ (fun e w2=>e = .returned (.tuple #[NI n,NI (1+k),NI 0])/\Ext _ w2)from(EW _ v b (hr.keep hE) 1 (by omega)).mono fun e w2 ⟨h1,h2⟩=>by subst h2;subst h1;rw[hd];exact⟨rfl,Ad4 _⟩)).mono ?_));rintro e my ⟨rfl,g5⟩;refine⟨_,rfl,?_⟩;have hE:=hE.trans g5;refine gS (Ad5 (vs:= [NI n,NI (1+k),NI 0]) rfl rfl (gS (Ad5 (vs:= [NI n,NI (1+k),NI 0]) rfl rfl (gS (Ad5 (vs:= [NI n,NI (1+k),NI 0]) rfl rfl (gS (Aba (l:=b) (i:=0) GR Rg (AaF (hr.keep hE) rfl) rfl (by omega) fun mz g6=>(gS (AaY u5 rfl (Aa7 g6 rfl) (gS (Aay (a:=((b.getD (0) 0).toNat:Nat)) (b:=(80:Nat)) rfl rfl (AH _ _ _ _) (kT (h80) (gS (Aay (a:=(0:Nat)) (b:=(0:Nat)) rfl rfl (AH _ _ _ _) (kT (rfl) (gS (AaS rfl rfl (gS (Aay (a:=(f:Nat)) (b:=(1+k:Nat)) rfl rfl (E1 _ _ _ _) (kT (q1) (gS (AaS rfl rfl (gS (Aay (a:=(f:Nat)) (b:=((b.length)-(36):Nat)) rfl rfl (DR _ _ _ _) (kF (q2) (gS (AaS rfl rfl (gS (AaX rfl rfl (gP (Aa3 GA rfl rfl ?_)))))))))))))))))))))))))))))));refine Aw (A1 _ (false) 6) ?_ ?_;rotate_left
   ·rintro ch m0 ⟨rfl,hb,hx⟩;refine Ax ?_;exact .inr ⟨_,rfl,6,hP,rfl,hE.trans hx⟩
   rintro v_ m1 ⟨rfl,g7,m3⟩;cases g7
  have hP:CG b = .error 6:=hP0.trans (if_neg (fun h=>by have h1:=h.2;exact q1 h1.1));have hE:=hE.trans ba;refine gS (AaA CW rfl rfl (((show Calls _ _ _ _ (fun e w2=>e = .returned (.tuple #[NI n,NI (1+k),NI 0])/\Ext _ w2)from(EW _ v b (hr.keep hE) 1 (by omega)).mono fun e w2 ⟨h1,h2⟩=>by subst h2;subst h1;rw[hd];exact⟨rfl,Ad4 _⟩)).mono ?_));rintro e m4 ⟨rfl,g8⟩;refine⟨_,rfl,?_⟩;have hE:=hE.trans g8;refine gS (Ad5 (vs:= [NI n,NI (1+k),NI 0]) rfl rfl (gS (Ad5 (vs:= [NI n,NI (1+k),NI 0]) rfl rfl (gS (Ad5 (vs:= [NI n,NI (1+k),NI 0]) rfl rfl (gS (Aba (l:=b) (i:=0) GR Rg (AaF (hr.keep hE) rfl) rfl (by omega) fun m5 g9=>(gS (AaY u5 rfl (Aa7 g9 rfl) (gS (Aay (a:=((b.getD (0) 0).toNat:Nat)) (b:=(80:Nat)) rfl rfl (AH _ _ _ _) (kT (h80) (gS (Aay (a:=(0:Nat)) (b:=(0:Nat)) rfl rfl (AH _ _ _ _) (kT (rfl) (gS (AaS rfl rfl (gS (Aay (a:=(f:Nat)) (b:=(1+k:Nat)) rfl rfl (E1 _ _ _ _) (kF (q1) (gS (AaS rfl rfl (gS (AaX rfl rfl (gS (AaX rfl rfl (gP (Aa3 GA rfl rfl ?_))))))))))))))))))))))))))));refine Aw (A1 _ (false) 6) ?_ ?_;rotate_left
  ·rintro ch m6 ⟨rfl,hb,hx⟩;refine Ax ?_;exact .inr ⟨_,rfl,6,hP,rfl,hE.trans hx⟩
  rintro v_ m7 ⟨rfl,ha,m8⟩;cases ha
 have hP:CG b = .error 6:=hP0.trans (if_neg (fun h=>h80 (by rw[h.1];rfl)));have hE:=hE.trans ba;refine gS (AaA CW rfl rfl (((show Calls _ _ _ _ (fun e w2=>e = .returned (.tuple #[NI n,NI (1+k),NI 0])/\Ext _ w2)from(EW _ v b (hr.keep hE) 1 (by omega)).mono fun e w2 ⟨h1,h2⟩=>by subst h2;subst h1;rw[hd];exact⟨rfl,Ad4 _⟩)).mono ?_));rintro e m9 ⟨rfl,he⟩;refine⟨_,rfl,?_⟩;have hE:=hE.trans he;refine gS (Ad5 (vs:= [NI n,NI (1+k),NI 0]) rfl rfl (gS (Ad5 (vs:= [NI n,NI (1+k),NI 0]) rfl rfl (gS (Ad5 (vs:= [NI n,NI (1+k),NI 0]) rfl rfl (gS (Aba (l:=b) (i:=0) GR Rg (AaF (hr.keep hE) rfl) rfl (by omega) fun na hg=>(gS (AaY u5 rfl (Aa7 hg rfl) (gS (Aay (a:=((b.getD (0) 0).toNat:Nat)) (b:=(80:Nat)) rfl rfl (AH _ _ _ _) (kF (h80) (gS (AaX rfl rfl (gS (AaX rfl rfl (gS (AaX rfl rfl (gS (AaX rfl rfl (gP (Aa3 GA rfl rfl ?_))))))))))))))))))))));refine Aw (A1 _ (false) 6) ?_ ?_;rotate_left
 ·rintro ch nb ⟨rfl,hb,hx⟩;refine Ax ?_;exact .inr ⟨_,rfl,6,hP,rfl,hE.trans hx⟩
 rintro v_ nc ⟨rfl,hh,nd⟩;cases hh
structure FitsD (n : Nat) (D : List Deferred) (ρ : Ae) (a : Act) : Prop where
 size:a.tmps.size=n
 defers:a.defers=D
 get:∀t,a.tmps.getD t undef=ρ t
theorem FitsD.fits{n:Nat}{D:List Deferred}{ρ:Ae}{a:Act}(h:FitsD n D ρ a):Fits n ρ { a with defers:= [] } :=⟨h.size,rfl,h.get⟩
theorem AcK{n:Nat}{ρ:Ae}{a:Act}(h:Fits n ρ a):FitsD n [] ρ a:=⟨h.size,h.defers,h.get⟩
theorem FitsD.toFits{n:Nat}{ρ:Ae}{a:Act}(h:FitsD n [] ρ a):Fits n ρ a:=⟨h.size,h.defers,h.get⟩
theorem FitsD.eval{n:Nat}{D:List Deferred}{ρ:Ae}{a:Act}(h:FitsD n D ρ a):a.eval=Aa ρ:=by
 funext x
 cases x with
 | tmp t=>exact h.get t
 | _=>rfl
theorem FitsD.put{n:Nat}{D:List Deferred}{ρ:Ae}{a:Act}(h:FitsD n D ρ a)(d:Option Tmp)(hd:∀t,d=some t->t<n)(v:Ae2):FitsD n D (updO ρ d v) (a.put d v):=by
 have hf:=h.fits.put d hd v;cases d with
 | none=>exact h
 | some d=>exact⟨hf.size,h.defers,hf.get⟩
def OM(P:AfD)(n:Nat)(D:List Deferred)(c:Code)(QQ:Exit->Act->Ae3->Prop)(ρ:Ae)(w:Ae3):Prop:=∀a,FitsD n D ρ a->c.wp P QQ a w
def Jp(P:AfD)(ops:Array Oper)(n:Nat)(D:List Deferred)(QQ:Exit->Act->Ae3->Prop)(l:List Oper)(ρ:Ae)(w:Ae3):Prop:=∀a,FitsD n D ρ a->wpList P ops QQ l a w
section
variable {P : AfD} {n : Nat} {D : List Deferred} {QQ : Exit -> Act -> Ae3 -> Prop} {ρ : Ae} {w : Ae3}
theorem CM{x y:Code}(QR:BN)(hq:∀e ρ a w,e ≠ .normal->Fits n ρ a->QR e ρ w->QQ e a w)(h:∀K:Ae->Ae3->Prop,(∀ρ w,OM P n [] y QQ ρ w->K ρ w)->B9 P n x (Hb K QR) ρ w):OM P n [] (.seq x y) QQ ρ w:=fun a ha=>
 wp_seq (wp_mono (h (fun ρ w=>OM P n [] y QQ ρ w) (fun _ _ h=>h) a ha.toFits) fun e a' w' ⟨ρ',hf,hQ⟩=>by
  cases e with
  | normal=>exact hQ a' (AcK hf)
  | exit _=>exact hq _ ρ' a' w' (by simp) hf hQ
  | goto _=>exact hq _ ρ' a' w' (by simp) hf hQ
  | ret=>exact hq _ ρ' a' w' (by simp) hf hQ
  | panic _=>exact hq _ ρ' a' w' (by simp) hf hQ
  | outgrown=>exact hq _ ρ' a' w' (by simp) hf hQ)
theorem Jq{id:Nat}{l:List Oper}{y:Code}(h:Jp P l.toArray n D (Exit.then (y.wp P QQ) QQ) l ρ w):OM P n D (.seq (.region id l.toArray false) y) QQ ρ w:=fun a ha=>wp_seq (wp_region_lit (h a ha))
theorem Yf(h:∀a,FitsD n D ρ a->QQ .ret a w):OM P n D .ret QQ ρ w:=fun a ha=>wp_ret (h a ha)
theorem ON{ops:Array Oper}{y:Code}(I:Ae->Prop)(hI:I ρ)(h:∀ρ',I ρ' ->OM P n D y QQ ρ' w):Jp P ops n D (Exit.then (y.wp P QQ) QQ) [] ρ w:=fun a ha=>h ρ hI a ha
theorem LE{ops:Array Oper}{rest:List Oper}{dst:Option Tmp}{op:Op}{ty:Afa}{pos:String}{af:Array Edge}(hd:(match dst with | some d=>Ag5 d n | none=>true)=true) 
  (h:Yp P (fun v w' =>Jp P ops n D QQ rest (updO ρ dst v) w') (fun ch w' =>∀a,FitsD n D ρ a->QQ (.panic ch) a w') ((execOp (Aa ρ) ⟨dst,op,ty,pos,af,none⟩).run P w)):Jp P ops n D QQ (⟨dst,op,ty,pos,af,none⟩ :: rest) ρ w:=by
 intro a ha;have hdn:∀t,dst=some t->t<n:=fun t ht=>by subst ht;exact Afj hd
 refine wpList_plain rfl fun K hK=> ?_;unfold Oper.wp Oper.upon;rw[ha.eval];have hput:=fun v=>ha.put dst hdn v
 revert h
 generalize (execOp (Aa ρ) ⟨dst,op,ty,pos,af,none⟩).run P w=r
 intro h
 match r,h with
 | .ok (.value v) w',h=>exact hK _ _ (h _ (hput v))
 | .ok .skip w',h=>exact hK _ _ (h _ (hput undef))
 | .halt (.panic v) w',h=>exact h a ha
 | .ok (.enter f args) w',h=>
  refine Calls.mono h ?_;intro e w'' hx
  match e,hx with
  | .returned v,hx=>exact hK _ _ (hx _ (hput v))
  | .panicked ch,hx=>exact hx a ha
theorem Hn{ops:Array Oper}{rest:List Oper}{dst:Option Tmp}{op:Op}{ty:Afa}{pos:String}{af:Array Edge}(hd:(match dst with | some d=>Ag5 d n | none=>true)=true) 
  (h:Yk P (fun v w' =>Jp P ops n D QQ rest (updO ρ dst v) w') ((execOp (Aa ρ) ⟨dst,op,ty,pos,af,none⟩).run P w)):Jp P ops n D QQ (⟨dst,op,ty,pos,af,none⟩ :: rest) ρ w:=
 LE hd (Yp.ofK h)
theorem RS{ops:Array Oper}{rest:List Oper}{x:Aff}{ty:Afa}{pos:String}{af:Array Edge}{fv:Fn}{first cap:Array Ae2}(hx:Aa ρ x = .func fv first cap) 
  (hr:(execOp (Aa ρ) ⟨none, .defer ⟨.value x,#[],#[]⟩,ty,pos,af,none⟩).run P w = .ok (.defer ⟨.fn fv cap,first⟩) w)
  (h:Jp P ops n (⟨.fn fv cap,first⟩ :: D) QQ rest ρ w):Jp P ops n D QQ (⟨none, .defer ⟨.value x,#[],#[]⟩,ty,pos,af,none⟩ :: rest) ρ w:=by
 intro a ha;refine wpList_plain rfl fun K hK=> ?_;unfold Oper.wp Oper.upon;rw[ha.eval,hr];refine hK _ _ (h _ ⟨ha.size,?_,ha.get⟩);show _ :: a.defers=_;rw[ha.defers]
theorem Cd{fn:Func}{R:Ending->Ae3->Prop}:∀e ρ a w,e ≠ .normal->Fits n ρ a->CN P fn R e ρ w->bodyPostD P fn R e a w:=fun e ρ a w he ha h=>by
 cases e with
 | normal=>exact absurd rfl he
 | ret=>
  show Leaves P fn a.tmps R a.defers .returning w;rw[ha.defers];exact h a.tmps ha.get
 | panic ch=>
  show Leaves P fn a.tmps R a.defers (.panicking ch) w;rw[ha.defers];exact h
 | exit _=>exact h.elim
 | goto _=>exact h.elim
 | outgrown=>exact h.elim
theorem OO{f:FuncId}{fn:Func}{c:Code}{args:List Ae2}{R:Ending->Ae3->Prop}(hf:P.funcs[f]? =some fn)(hb:fn.body=some c)(m:Nat)(hm:fn.ntmps=m)(hn:args.length<=m) 
  (h:∀ρ,Begun args ρ->OM P m [] c (bodyPostD P fn R) ρ w):Calls P f args.toArray w R:=by
 subst hm;refine calls_of_wp_defers hf hb ?_;have hget:∀t,(args.toArray++AgU (fn.ntmps-args.toArray.size) undef).getD t undef=args.getD t undef:=fun t=>by
  simp only[AfS,Ae6,Ajs,Afr,Af0];by_cases ht:t<args.length
  ·rw[if_pos ht]
  ·rw[if_neg ht,Agj (by omega),AgA];split <;> rfl
 refine h (fun t=>args.getD t undef) ⟨fun _=>rfl⟩ _ ⟨?_,rfl,hget⟩;simp;omega
end
section
variable {P : AfD} {n : Nat}
theorem TN{c:Code}{QF:BN}{Q:Exit->Act->Ae3->Prop}{ρ:Ae}{a:Act}{w:Ae3}(h:B9 P n c QF ρ w)(ha:Fits n ρ a)(hq:∀e ρ' a' w',Fits n ρ' a' ->QF e ρ' w' ->Q e a' w'):c.wp P Q a w:=
 wp_mono (h a ha) fun e a' w' ⟨ρ',hf,hQ⟩=>hq e ρ' a' w' hf hQ
def Ck:FrameMode->Ae2 × FrameMode
 | .panicking ({ v,recovered:=false,goexit:=false } :: older)=>(v, .panicking ({ v,recovered:=true } :: older))
 | u=>(.nilIface,u)
theorem PZ(c₀:Frame)(cs:List Frame)(u:FrameMode)(hu:c₀.mode=u)(K:Ae2->List Frame->Prop)(h:K (Ck u).1 ({ c₀ with mode:=(Ck u).2 } :: cs)):
  match recoverD (c₀ :: cs)with
  | some (v,cs')=>K v cs'
  | none=>K .nilIface (c₀ :: cs):=by
 subst hu;obtain⟨cf,ct,ctodo,cd,cm,ck,cr⟩:=c₀
 match cm,h with
 | .run,h=>exact h
 | .returning,h=>exact h
 | .panicking [],h=>exact h
 | .panicking ({ v,recovered:=true,goexit:=g } :: older),h=>exact h
 | .panicking ({ v,recovered:=false,goexit:=true } :: older),h=>exact h
 | .panicking ({ v,recovered:=false,goexit:=false } :: older),h=>exact h
theorem HY{f:FuncId}{fn:Func}{c:Code}{args:List Ae2}{u:FrameMode}{w:Ae3}{R:Ending->Ae3->Prop}{id:Nat}{d0 d1:Tmp}{ty0 ty1:Afa}{p0 p1:String}{af0 af1:Array Edge} 
  (hf:P.funcs[f]? =some fn) (hb:fn.body=some (.seq (.region id #[⟨some d0, .call ⟨.builtin .recover,#[],#[]⟩,ty0,p0,af0,none⟩,⟨some d1, .assign (.tmp d0),ty1,p1,af1,none⟩] false) c)) (m:Nat) (hm:fn.ntmps=m) (hn:args.length<=m) (h0:Ag5 d0 m=true) (h1:Ag5 d1 m=true)
  (h:∀b,Begun args b->B9 P m c (CN P fn R) (updO (updO b (some d0) (Ck u).1) (some d1) (Ck u).1) w):
  CallsD P f args.toArray u w fun e u' w' =>u' =(Ck u).2/\R e w' :=by
 subst hm;refine callsD_of_wpS hf hb fun c₀ cs hu=> ?_;have hget:∀t,(args.toArray++AgU (fn.ntmps-args.toArray.size) undef).getD t undef=args.getD t undef:=fun t=>by
  simp only[AfS,Ae6,Ajs,Afr,Af0];by_cases ht:t<args.length
  ·rw[if_pos ht]
  ·rw[if_neg ht,Agj (by omega),AgA];split <;> rfl
 have hF:Fits fn.ntmps (fun t=>args.getD t undef) { tmps:=args.toArray++AgU (fn.ntmps-args.toArray.size) undef,defers:= [] } :=⟨by simp;omega,rfl,hget⟩
 generalize ({ tmps:=args.toArray++AgU (fn.ntmps-args.toArray.size) undef,defers:= [] } :Act)=a at hF ⊢
 have hd0:∀t,some d0=some t->t<fn.ntmps:=fun t ht=>by cases ht;exact Afj h0
 have hd1:∀t,some d1=some t->t<fn.ntmps:=fun t ht=>by cases ht;exact Afj h1
 have hF1:=hF.put (some d0) hd0 (Ck u).1;have hF2:=hF1.put (some d1) hd1 (Ck u).1
 apply wpS_seq
 apply wpS_region
 have g:(execOp a.eval (⟨some d0, .call ⟨.builtin .recover,#[],#[]⟩,ty0,p0,af0,none⟩:Oper)).run P w = .ok .recover w:=by
  simp[go_sem]
 have hkey:∀(v:Ae2) (cs' :List Frame),v=(Ck u).1->cs' = { c₀ with mode:=(Ck u).2 } :: cs->wpOpsS P #[⟨some d0, .call ⟨.builtin .recover,#[],#[]⟩,ty0,p0,af0,none⟩,⟨some d1, .assign (.tmp d0),ty1,p1,af1,none⟩] (Exit.thenS (c.wpS P (bodyPostS P fn c₀ cs fun e u' w' =>u' =(Ck u).2/\R e w')) (bodyPostS P fn c₀ cs fun e u' w' =>u' =(Ck u).2/\R e w')) [1] (a.put (some d0) v) cs' w:=by
  rintro v cs' rfl rfl;have hv:(a.put (some d0) (Ck u).1).eval (.tmp d0)=(Ck u).1:=by
   rw[hF1.eval];show(bif Ahy d0 d0 then _ else _)=_;rw[Ai3];rfl
  have i:(execOp (a.put (some d0) (Ck u).1).eval (⟨some d1, .assign (.tmp d0),ty1,p1,af1,none⟩:Oper)).run P w = .ok (.value (Ck u).1) w:=by
   simp[execOp,hv]
  simp only[wpOpsS,Af0,AgP,AhF,Region.wanted,i,Oper.upon,if_true];refine wpS_of_wp (TN (h _ ⟨fun _=>rfl⟩) hF2 fun e ρ' a' w' hf' hQ=> ?_);cases e with
  | normal=>obtain⟨v,hv,hR⟩:=hQ a'.tmps hf'.get;exact⟨hf'.defers,_,rfl,v,hv,rfl,hR⟩
  | ret=>obtain⟨v,hv,hR⟩:=hQ a'.tmps hf'.get;exact⟨hf'.defers,_,rfl,v,hv,rfl,hR⟩
  | panic ch=>exact⟨hf'.defers,_,rfl,rfl,hQ⟩
  | exit _=>exact hQ.elim
  | goto _=>exact hQ.elim
  | outgrown=>exact hQ.elim
 show wpOpsS P _ _ [0,1] a (c₀ :: cs) w;unfold wpOpsS;simp only[Af0,AhF,Region.wanted,if_true,g];exact PZ c₀ cs u hu (fun v cs' =>wpOpsS P _ _ [1] (a.put (some d0) v) cs' w) (hkey _ _ rfl rfl)
end
section
variable {P : AfD} {K : Ae2 -> Ae3 -> Prop} {ρ : Ae} {w : Ae3} {d : Option Tmp} {ty : Afa} {pos : String} {af : Array Edge} {gd : Option (Nat × Bool)} {t ty2 : Afa}
theorem AcU{x:Aff}{u:Afa}{v:Ae2}{fs}(hu:P.underlying u=some (.struct fs))(hx:Aa ρ x = .iface u v)(hk:K (.tuple #[v, .bool true]) w):Yk P K ((execOp (Aa ρ) ⟨d, .typeAssert x t u true,ty,pos,af,gd⟩).run P w):=by
 refine Aea (v:= .tuple #[v, .bool true]) (w' :=w) ?_ hk;unfold execOp;simp[Instr.typeAssert,hx,run_underlying hu,Result.andThen]
theorem Adb{x:Aff}(he:(Op.equal t .nilIface .nilIface).run P w = .ok true w)(hx:Aa ρ x = .nilIface)(hk:K (.bool false) w):Yk P K ((execOp (Aa ρ) ⟨d, .binOp .neq t x (.const .nilIface) ty2,ty,pos,af,gd⟩).run P w):=by
 have hy:Aa ρ (.const .nilIface) = .nilIface:=rfl;refine Aea (v:= .bool false) (w' :=w) ?_ hk;unfold execOp;simp only[hx,hy];simp[eqGuard,Go.binOp,he,Result.andThen]
theorem Adc{x:Aff}{u:Afa}{v:Ae2}(he:(Op.equal t (.iface u v) .nilIface).run P w = .ok false w)(hx:Aa ρ x = .iface u v)(hk:K (.bool true) w):Yk P K ((execOp (Aa ρ) ⟨d, .binOp .neq t x (.const .nilIface) ty2,ty,pos,af,gd⟩).run P w):=by
 have hy:Aa ρ (.const .nilIface) = .nilIface:=rfl;refine Aea (v:= .bool true) (w' :=w) ?_ hk;unfold execOp;simp only[hx,hy];simp[eqGuard,Go.binOp,he,Result.andThen]
theorem Yg{x:Aff}{fv:Fn}{first cap:Array Ae2}(hx:Aa ρ x = .func fv first cap):(execOp (Aa ρ) ⟨none, .defer ⟨.value x,#[],#[]⟩,ty,pos,af,none⟩).run P w = .ok (.defer ⟨.fn fv cap,first⟩) w:=by
 unfold execOp;simp[resolve,hx,Deferred.ofValue]
theorem Abo{p:Tmp}{ty:Afa}{g:Nat}{t:Afa}{v:Ae2}{fr:Nat × Nat}{d:TypeDesc}(hp:ρ p = .pointer (some ⟨g,0,none⟩))(hg:w.heap[g]? =some (.cells ([v]).toArray t fr)) 
  (hu:P.underlying ty=some d) (hd:(match d with | .struct _ | .array _ _=>false | _=>true)=true):ResF P ρ w (.cell p ty) v:=by
 refine⟨_,hp,?_⟩;have hc:w.cell? ⟨g,0,none⟩=some v:=cellAt hg rfl;have hagg:(isAgg ty).run P w = .ok false w:=by
  unfold isAgg;cases d <;> first | (simp at hd;done) | simp[run_underlying hu,Result.andThen]
 simp[loadVar,hagg,hc]
theorem LF{fn:Func}{tmps:Array Ae2}{R:Ending->Ae3->Prop}(rs:List ResultVar)(hrs:fn.results=rs.toArray)(vs:List Ae2)(v:Ae2)(hv:HJ vs=v)(ht:∀t,tmps.getD t undef=ρ t)(h:GP P ρ w rs vs)(hR:R (.returned v) w):Leaves P fn tmps R [] .returning w:=
 ⟨_,Ia hrs ht h,by rw[hv];exact hR⟩
end
section
variable {P : AfD} {n : Nat} {ρ : Ae} {w : Ae3} {Q : BN}
theorem OP{l r:List Oper}(kS k0:Nat)(S:Ae3->Ae3->Prop)(Φs:List Bm){id:Nat}(hm:P.follows .mixedOrders=true)(ds:List Tmp)(hg:CE l n=true)(hn:NS l k0=true)(c:Nat.ble Φs.length k0=true)(hds:slotsW l=ds)(hr:(l.drop k0)=r)(hlt:Ag5 k0 l.length=true) 
  (f:Ag5 kS k0=true) (hgS:(l[kS]?.bind (·.guard))=none) (hst:AllStab (fun a b=>a=b\/S w.drew b) Φs)
  (hs:StepsFC P l k0 (fun m w1=>bif Ahy m kS then w1=w.drew else(w1=w.drew\/S w.drew w1)) (fun m a b=>bif Ahy m kS then S w.drew b else a=b) (AU Φs) ρ 0 l)
  (hQ:∀(ρ' :Ae) w1,S w.drew w1->EndF ds ρ ρ' ->Be l (fun _=> []) (AU Φs) ρ' w1 ds->Cn P l.toArray n Q r ρ' w1):B9 P n (.region id l.toArray true) Q ρ w:=by
 have bf:∀ {a b:Nat},a≠b->Ahy a b=false:=fun h=>by rw[<-Bool.not_eq_true,Nat.beq_eq];exact h
 refine NJ k0 (fun _=> []) _ _ (fun listed w1=>On listed kS->S w.drew w1) Φs hm ds hg hn c (by unfold CT;simp) hds hr (fun i m _ _ hne' hbit a b hc hr=> ?_) (fun i j _ _ _ _ _ v a b h hr=> ?_) (fun i listed a b _ hsz hno hcl he hr=> ?_) (fun h=> ?_) (fun i o a ho hgo=> ?_) (fun m _=> ?_) hs hlt (fun ρ' w1 listed hon he hc h2 h3=> ?_)
 ·by_cases hmS:m=kS
  ·subst hmS;rw[Ai3]at hc ⊢;rw[bf hne']at hr;simp only[cond_true,cond_false]at hc hr ⊢;rw[<-hr];exact hc
  ·rw[bf hmS]at hc ⊢;simp only[cond_false]at hc ⊢;by_cases hiS:i=kS
   ·subst hiS;rw[Ai3]at hr;exact .inr hr
   ·rw[bf hiS]at hr;simp only[cond_false]at hr;rw[<-hr];exact hc
 ·refine hst.get Φs j v a b h ?_;by_cases hiS:i=kS
  ·subst hiS;rw[Ai3]at hr;exact .inr hr
  ·rw[bf hiS]at hr;exact .inl hr
 ·intro hon;by_cases hiS:i=kS
  ·subst hiS;rw[Ai3]at hr;exact hr
  ·have hon' :On listed kS:=by
    rcases(on_set (by omega)).1 hon with h1 | h1
    ·exact absurd h1.symm hiS
    ·exact h1
   rw[bf hiS]at hr;simp only[cond_false]at hr;rw[<-hr];exact he hon'
 ·exact absurd h AbE
 ·have hiS:i≠kS:=fun e=>by rw[e]at ho;rw[ho]at hgS;simp only[Option.bind_some]at hgS;rw[hgS]at hgo;cases hgo
  rw[bf hiS];rfl
 ·by_cases hmS:m=kS
  ·subst hmS;rw[Ai3];rfl
  ·rw[bf hmS];exact .inl rfl
 ·exact hQ ρ' w1 (he ((hon kS).2 (Afj f))) h2 h3
end
theorem Yh(w:Ae3):(Op.equal 20 .nilIface .nilIface).run Ae5 w = .ok true w:=by kernel_rfl
theorem Yi(u:Afa)(v:Ae2)(w:Ae3):(Op.equal 20 (.iface u v) .nilIface).run Ae5 w = .ok false w:=by kernel_rfl
theorem P0:(Tryz.prog.info? 143).map (·.size)=some 1:=by kernel_rfl
theorem RT{d:Option Tmp}{ty:Afa}{pos:String}{af:Array Edge}{gd:Option (Nat × Bool)}(σ:Aff->Ae2)(w:Ae3):(execOp σ ⟨d, .alloc 143,ty,pos,af,gd⟩).run Ae5 w = .ok (.value (PQ w.heap.size 0)) (w.alloc (.cells ([NI 0]).toArray 143)):=by kernel_rfl
theorem OQ:AZ Ae5 143 0 0:=fun b o w=>by simp[go_sem]
theorem TO:Tryz.prog.underlying 29=some (.int .i64):=by kernel_rfl
theorem RU:(Tryz.prog.info? 89).map (·.size)=some 1:=by kernel_rfl
theorem RV:(Tryz.prog.info? 29).map (·.size)=some 1:=by kernel_rfl
theorem RW(b2 b3:Nat)(w:Ae3):CallsD Ae5 78 #[PQ b2 0,PQ b3 0] (.returning) w fun e u' w' =>u' =(Ck (.returning)).2/\(e = .returned (.tuple #[])/\Ext w w'):=by
 have hE:=Ad4 w;refine HY (u:= .returning) (args:= [PQ b2 0,PQ b3 0]) Tryz.func78 rfl 18 rfl (Afj rfl) rfl rfl (R:=fun e w' =>e = .returned (.tuple #[])/\Ext w w') ?_;intro ρz hb;have b:(updO (updO ρz (some 5) (Ck (.returning)).1) (some 2) (Ck (.returning)).1) 0=(PQ b2 0:Ae2):=hb.get 0;have c:(updO (updO ρz (some 5) (Ck (.returning)).1) (some 2) (Ck (.returning)).1) 1=(PQ b3 0:Ae2):=hb.get 1;have a:(updO (updO ρz (some 5) (Ck (.returning)).1) (some 2) (Ck (.returning)).1) 2=(.nilIface:Ae2):=rfl
 generalize updO (updO ρz (some 5) (Ck (.returning)).1) (some 2) (Ck (.returning)).1=g at b c a ⊢
 clear hb;refine sk fun h f=>(wt (oM rfl (oS rfl (Adb (Yh _) a (oZ (tN (f _ _ (CZ (vr (.bool (false)) rfl) (D6 (MA (fn:=Tryz.f78) [] rfl [] (.tuple #[]) rfl trivial ?_))))))))));exact⟨rfl,hE⟩
theorem RX(w0:Ae3)(b2 b3 c:Nat)(v2 v3:Ae2)(w:Ae3)(h0:Ext w0 w)(l2:w0.heap.size<=b2)(l3:w0.heap.size<=b3)(hne:b2≠b3)(h2:w.heap[b2]? =some (.cells ([v2]).toArray 89 (0,0)))(h3:w.heap[b3]? =some (.cells ([v3]).toArray 29 (0,0))):CallsD Ae5 78 #[PQ b2 0,PQ b3 0] (.panicking [C6 c]) w fun e u' w' =>u' =(Ck (.panicking [C6 c])).2/\(e = .returned (.tuple #[])/\w'.heap[b2]? =some (.cells ([.pointer none]).toArray 89 (0,0))/\w'.heap[b3]? =some (.cells ([NI c]).toArray 29 (0,0))/\Ext w0 w'):=by
 have hl2_:=(bl h2);have hl3_:=(bl h3);refine HY (u:= .panicking [C6 c]) (args:= [PQ b2 0,PQ b3 0]) Tryz.func78 rfl 18 rfl (Afj rfl) rfl rfl (R:=fun e w' =>e = .returned (.tuple #[])/\w'.heap[b2]? =some (.cells ([.pointer none]).toArray 89 (0,0))/\w'.heap[b3]? =some (.cells ([NI c]).toArray 29 (0,0))/\Ext w0 w') ?_;intro ρz hb;have m:(updO (updO ρz (some 5) (Ck (.panicking [C6 c])).1) (some 2) (Ck (.panicking [C6 c])).1) 0=(PQ b2 0:Ae2):=hb.get 0;have n:(updO (updO ρz (some 5) (Ck (.panicking [C6 c])).1) (some 2) (Ck (.panicking [C6 c])).1) 1=(PQ b3 0:Ae2):=hb.get 1;have g:(updO (updO ρz (some 5) (Ck (.panicking [C6 c])).1) (some 2) (Ck (.panicking [C6 c])).1) 2=((.iface 143 (.agg ([NI c]).toArray)):Ae2):=rfl
 generalize updO (updO ρz (some 5) (Ck (.panicking [C6 c])).1) (some 2) (Ck (.panicking [C6 c])).1=ap at m n g ⊢
 clear hb;refine sk fun K1 ac=>(wt (oM rfl (oS rfl (Adc (Yi _ _ _) g (oZ (tN (ac _ _ (E9 (vr (.bool (true)) rfl) (sk fun K2 ad=>(wt (oM rfl (oS rfl (AcU (Ta).choose_spec g (oM rfl (oS rfl (Ad5 (vs:= [.agg ([NI c]:List Ae2).toArray, .bool (true)]) (vr (.tuple #[.agg ([NI c]:List Ae2).toArray, .bool (true)]) rfl) (show _=some (.agg ([NI c]:List Ae2).toArray:Ae2)from rfl) (oS rfl (Ad5 (vs:= [.agg ([NI c]:List Ae2).toArray, .bool (true)]) (vr (.tuple #[.agg ([NI c]:List Ae2).toArray, .bool (true)]) rfl) (show _=some (.bool (true):Ae2)from rfl) (oS rfl (Ad9 (cs:=([NI 0]).toArray) RT fun j w4 s t o au=> ?_))))))))))))))))))));have f:=Ad4 w;have av:=h0;have af:=h0.size;have aw:=Av (bl h2) s;have ax:=Av (bl h3) s;have h0:=h0.trans o;have h2:=eb o h2;have h3:=eb o h3;have f:=f.trans o;have b:=t;clear t;have ay:j<w4.heap.size:=by omega
 refine oS rfl (AaB (vr (PQ j 0) rfl) (vr (.agg ([NI c]:List Ae2).toArray) rfl) b (rfl) ((show(Tryz.prog.info? 143).map (·.size)=some 1 from P0)) ((by intro u hu;simp only[AfT,AgX,or_false]at hu;subst hu;rfl)) fun a x p az=> ?_);have h0:=Ab h0 p (Ae7 af (by omega));have h2:=kb p h2 (by omega);have h3:=kb p h3 (by omega);have f:=Ab f p (Ae7 (Ae8 _) (by omega));clear b;have b:=x;clear x;have a0:=bl b;refine oA rfl (oZ (tN (ad _ _ (sk fun a1 ag=>(sk fun a2 ah=>(wt (oM rfl (oS rfl (Abl (vr (.bool (true)) rfl) (oZ (tN (ah _ _ (CZ (vr (.bool (false)) rfl) (D6 (tN (ag _ _ ?_))))))))))))))));refine OP 2 3 (fun(a_ b_:Ae3)=>b_.heap[b2]? =some (.cells ([.pointer none]).toArray 89 (0,0))/\a_.grownBy b_ (some b2)/\b_.heap.size=a_.heap.size) [Is (PQ j 0),Is (NI c),(fun _ _=>True)] (by kernel_rfl) [16,17] (by kernel_rfl) (by kernel_rfl) (by kernel_rfl) (by kernel_rfl) rfl rfl rfl rfl (IW ⟨AeV,trivial⟩) ?ai ?hQ1005
 case ai=>
  refine⟨?_,?_,?_,?_,trivial⟩
  ·refine By (Af rfl fun σ w1 hC h=> ?_);have hq:w1=Ajc a\/(fun(a_ b_:Ae3)=>b_.heap[b2]? =some (.cells ([.pointer none]).toArray 89 (0,0))/\a_.grownBy b_ (some b2)/\b_.heap.size=a_.heap.size) (Ajc a) w1:=hC;have hC:BX a.heap.size (some b2) a w1:=by rcases hq with hq | hq;(rw[hq];exact Abm ((AfV _ _).drew) (Ae8 _));exact(Abm ((AfV _ _).drew) (Ae8 _)).trans (Abn hq.2.1 (Ae8 _) (fun k hk=> .inl hk))
   have e3:σ 3=PQ j 0:=(An (h 3 (by decide))).trans rfl;exact Ad6 OQ e3 ⟨rfl,rfl⟩
  ·refine By (Af rfl fun σ w1 hC h=> ?_);have hq:w1=Ajc a\/(fun(a_ b_:Ae3)=>b_.heap[b2]? =some (.cells ([.pointer none]).toArray 89 (0,0))/\a_.grownBy b_ (some b2)/\b_.heap.size=a_.heap.size) (Ajc a) w1:=hC;have hC:BX a.heap.size (some b2) a w1:=by rcases hq with hq | hq;(rw[hq];exact Abm ((AfV _ _).drew) (Ae8 _));exact(Abm ((AfV _ _).drew) (Ae8 _)).trans (Abn hq.2.1 (Ae8 _) (fun k hk=> .inl hk))
   have ak:=An (h 16 (by decide));exact Aax TO rfl ak (cellAt (BX.blk hC b (Ak (by omega))) (show _=some (NI c:Ae2)from rfl)) ⟨rfl,rfl⟩
  ·refine By (Af rfl fun σ w1 hC h=> ?_);have hq:w1=Ajc a:=hC;subst hq;have hC:BX a.heap.size (some b2) a (Ajc a):=Abm ((AfV _ _).drew) (Ae8 _);have e0:=(An (h 0 (by decide))).trans m;exact Aa0 (i:=0) (v:= .pointer none) e0 (vr (.pointer none) rfl) (eb ((AfV _ _).drew) h2) (Afj rfl) RU rfl rfl fun w2 h1 h2 h3=>⟨⟨h1,h2,h3⟩,trivial⟩
  ·exact trivial
 intro am a3 an he hf;obtain⟨-,k17,-⟩:=hf;obtain⟨m,n,g,T3,T4,T7,a7,-⟩:=he.hold [(0,_),(1,_),(2,_),(3,PQ j 0),(4, .bool (true)),(7, .bool (true)),(14, .bool (false))] ⟨m,n,g,rfl,rfl,rfl,rfl,trivial⟩ rfl;clear he;have l:Ext a (Ajc a):=(AfV _ _).drew;obtain⟨y,q,a8⟩:=an;have h0:=h0.trans l;have h2:=eb l h2;have h3:=eb l h3;have f:=f.trans l;have b:=eb l b;have h0:=Ab h0 q (Ae7 (Ae8 _) (by omega));have h3:=kb q h3 (by omega);clear f;have b:=kb q b (by omega);clear h2;have h2:=y;clear y;have ao:am 17=NI c:=k17;clear k17;refine oS rfl (Aa0 (i:=0) (v:=NI c) n ao h3 (Afj rfl) RV rfl rfl fun a9 z r ba=> ?_);have h0:=Ab h0 r (Ae7 (Ae8 _) (by omega));have b:=kb r b (by omega);have h2:=kb r h2 (by omega);clear h3;have h3:=z;clear z;have bb:=bl h3;refine oZ (MA (fn:=Tryz.f78) [] rfl [] (.tuple #[]) rfl trivial ?_);exact⟨rfl,h2,h3,h0⟩
theorem Reads.keepN{w w' :Ae3}{b z n:Nat}{v:Ae2}{xs:List Ae2}(h:Reads w z v n xs)(hb:∀u∈xs,∃x,u=B8 x)(hm:EA w b)(hg:w.grownBy w' (some b)):Reads w' z v n xs:=by
 obtain⟨h1,ao,cap,rfl,h2,h3,h4,h5⟩:=h;refine⟨h1,ao,cap,rfl,h2,h3,h4,fun a ha j u hu=> ?_⟩;have hc:=h5 a ha j u hu;have hlt:=World.block_lt_of_cell? w _ hc;have hsp:=Ah3 hc
 generalize a.add j=q at hc hlt hsp ⊢
 obtain⟨q1,q2,q3⟩:=q;simp only at hsp hlt;subst hsp;by_cases e:q1=b
 ·exfalso;obtain⟨x,rfl⟩:=hb u (List.mem_of_getElem? hu);rw[e]at hc;exact hm _ _ hc
 ·have:=hg.block q1 hlt (fun e' =>e (Option.some.inj e'));unfold AhB at hc ⊢;rw[this];exact hc
theorem RG.keepN{w w' :Ae3}{b:Nat}{v:Ae2}{l:List Bs}(h:RG 32 Ae4 w v l)(hm:EA w b)(hg:w.grownBy w' (some b)):RG 32 Ae4 w' v l:=
 ⟨h.1,h.2.keepN (fun u hu=>by
  obtain⟨x,-,hx⟩:=List.mem_flatMap.1 hu;obtain⟨c,-,rfl⟩:=AfO.1 hx;exact⟨c,rfl⟩) hm hg⟩
theorem VL{w:Ae3}{g:Nat}{v:Ae2}{T:Afa}{fr:Nat × Nat}(hb:w.heap[g]? =some (.cells ([v]).toArray T fr))(hv:∀x,v≠B8 x):EA w g:=fun j x hc=>by
 unfold AhB at hc;rw[hb]at hc
 match j,hc with
 | 0,hc=>simp at hc;exact hv x hc
 | j+1,hc=>simp at hc
end Go.Proofs.YtfpekahfdalfkaaGreatDoor
